/- Lemmas and walks for the claim below. -/
import Derived.Test.YtmlcaecknocpoaaDoorQuK1
import Derived.Test.YtmlcaecknocpoaaDoorProg
import Derived.Below
import Derived.Deep.Draws
import Derived.Deep.AppendLies
import Derived.Maps.AppendAt
import Derived.OwnWalk
import Derived.Laws.BytesArg
import Derived.Laws.MakeOwn
import Derived.Laws.OwnMore
import Derived.Deep.OwnRows
import Derived.Tactics
import Derived.Lib.ConvBytes
import Derived.Laws.Slices
import Derived.WalkKit
import Derived.KernelRfl
import Derived.RowKit3
import Derived.Deep.LoopGhost
import Derived.Deep.QuietTactic
import Derived.BigQuiet
import Derived.WideLaws
import Derived.Deep.DeepCutAuto
import Derived.Deep.CutBlock
import Derived.Deep.RegionHeld3
import Derived.Laws.Rows
import Derived.Lib.AppendStr
import Derived.ArgAppend
import Derived.Laws.IdiomCopy
import Derived.OrdersHeld
import Derived.Laws.BitsLemmas
import Derived.RowKit
import Derived.RangeFuncNested
import Derived.RangeFuncBound
import Derived.RangeFuncCalls
import Derived.RangeFuncLeaves
import Derived.Shelf.Abstract
import Derived.OwnWalkIn
import Derived.TacticsInMore
import Derived.LoopNIn
import Derived.LoopIn
import Derived.Ground.NamesProg
import Derived.Shelf.Strings.SlTrimAscii
namespace Go.Proofs.YtmlcaecknocpoaaDoor.Pr
open Go.RowKit Go.Proofs.YtmlcaecknocpoaaDoorW.PrintWords Go.Proofs.YtmlcaecknocpoaaDoorW.PrintLast Go.Proofs.YtmlcaecknocpoaaDoorW.PrintMore
attribute [local go_sem] max2_int min2_int max_two min_two max_three min_three max_four min_four   
set_option linter.unusedVariables false
set_option linter.unusedSimpArgs false
def errW : Option Int → Value
  | none => .nilIface
  | some c => .iface 0 (.int .i64 c)
theorem errW_none : errW none = .nilIface := rfl
theorem errW_some (c : Int) : errW (some c) = .iface 0 (.int .i64 c) := rfl
theorem info9 : (Tryd.prog.info? 9).map (fun i => (i.zero, i.size, i.bytes)) = some (some (.string ⟨#[]⟩), 1, 16) := by kernel_rfl
theorem info42 : (Tryd.prog.info? 42).map (fun i => (i.zero, i.size, i.bytes)) = some (some (.agg #[(.string ⟨#[]⟩), (.int .i64 0)]), 2, 24) := by kernel_rfl
structure S47 where
  f0 : Int
  f1 : ByteArray
  f2 : Int
def z47 : S47 := ⟨(0 : Int), (⟨#[]⟩ : ByteArray), (0 : Int)⟩
def k47 : Kd S47 := Kd.iso (Kd.pair (Kd.int .i64) (Kd.pair Kd.string (Kd.int .i64))) (fun x : S47 => (x.f0, x.f1, x.f2))
theorem k47_open {w : World} {x : S47} {cs : List Value} (h : k47.K w x cs) : cs = [.int .i64 x.f0, .string x.f1, .int .i64 x.f2] := by
  obtain ⟨_, _, rfl, rfl, ⟨_, _, rfl, rfl, rfl⟩⟩ := h
  exact rfl
theorem k47_mk (w : World) (x : S47)  : k47.K w x [.int .i64 x.f0, .string x.f1, .int .i64 x.f2] := ⟨[.int .i64 x.f0], [.string x.f1, .int .i64 x.f2], rfl, rfl, ⟨[.string x.f1], [.int .i64 x.f2], rfl, rfl, rfl⟩⟩
theorem k47_mkM (w : World) (base : Nat) (ok : Nat → Prop) (x : S47)  : k47.M w base ok x [.int .i64 x.f0, .string x.f1, .int .i64 x.f2] := ⟨[.int .i64 x.f0], [.string x.f1, .int .i64 x.f2], rfl, rfl, ⟨[.string x.f1], [.int .i64 x.f2], rfl, rfl, rfl⟩⟩
def rd_T47 (xs : List S47) (i : Int) : S47 := xs.getD i.toNat z47
theorem at_T47 {w : World} {A : Option Addr} {n : Nat} {xs : List S47} (h : Kd.C k47 w A n xs) (i : Int) (h0 : 0 ≤ i) (h1 : i < n) : ∃ ad , A = some ad ∧ w.cell? (ad.add (i.toNat * 3)) = some (.int .i64 (rd_T47 xs i).f0) ∧ w.cell? ⟨(ad.add (i.toNat * 3)).block, (ad.add (i.toNat * 3)).off + 1, none⟩ = some (.string (rd_T47 xs i).f1) ∧ w.cell? ⟨(ad.add (i.toNat * 3)).block, (ad.add (i.toNat * 3)).off + 2, none⟩ = some (.int .i64 (rd_T47 xs i).f2) := by
  obtain ⟨ad, c, e, _, hK, hc0⟩ := Kd.C_get h z47 i h0 h1
  have hc : ∀ j u, c[j]? = some u → w.cell? (ad.add (i.toNat * 3 + j)) = some u := hc0
  obtain rfl := k47_open hK
  exact ⟨ad, e, hc 0 _ rfl, by rw [← add_field _ _ 1 (by omega)]; exact hc 1 _ rfl, by rw [← add_field _ _ 2 (by omega)]; exact hc 2 _ rfl⟩
structure S42 where
  f0 : ByteArray
  f1 : Int
def z42 : S42 := ⟨(⟨#[]⟩ : ByteArray), (0 : Int)⟩
def k42 : Kd S42 := Kd.iso (Kd.pair Kd.string (Kd.int .i64)) (fun x : S42 => (x.f0, x.f1))
theorem k42_open {w : World} {x : S42} {cs : List Value} (h : k42.K w x cs) : cs = [.string x.f0, .int .i64 x.f1] := by
  obtain ⟨_, _, rfl, rfl, rfl⟩ := h
  exact rfl
theorem k42_mk (w : World) (x : S42)  : k42.K w x [.string x.f0, .int .i64 x.f1] := ⟨[.string x.f0], [.int .i64 x.f1], rfl, rfl, rfl⟩
def rd_T42 (xs : List S42) (i : Int) : S42 := xs.getD i.toNat z42
theorem at_T42 {w : World} {A : Option Addr} {n : Nat} {xs : List S42} (h : Kd.C k42 w A n xs) (i : Int) (h0 : 0 ≤ i) (h1 : i < n) : ∃ ad , A = some ad ∧ w.cell? (ad.add (i.toNat * 2)) = some (.string (rd_T42 xs i).f0) ∧ w.cell? ⟨(ad.add (i.toNat * 2)).block, (ad.add (i.toNat * 2)).off + 1, none⟩ = some (.int .i64 (rd_T42 xs i).f1) := by
  obtain ⟨ad, c, e, _, hK, hc0⟩ := Kd.C_get h z42 i h0 h1
  have hc : ∀ j u, c[j]? = some u → w.cell? (ad.add (i.toNat * 2 + j)) = some u := hc0
  obtain rfl := k42_open hK
  exact ⟨ad, e, hc 0 _ rfl, by rw [← add_field _ _ 1 (by omega)]; exact hc 1 _ rfl⟩
structure S26 where
  f0 : Int
  f1 : ByteArray
  f2 : Int
  f3 : (List S47)
  f4 : (List S42)
  f5 : (List S26)
def z26 : S26 := ⟨(0 : Int), (⟨#[]⟩ : ByteArray), (0 : Int), ([] : List S47), ([] : List S42), ([] : List S26)⟩
def F26 (d : Kd S26) : Kd S26 := Kd.iso (Kd.pair (Kd.int .i64) (Kd.pair Kd.string (Kd.pair (Kd.int .i64) (Kd.pair (Kd.slice 47 k47) (Kd.pair (Kd.slice 42 k42) (Kd.slice 26 d)))))) (fun x : S26 => (x.f0, x.f1, x.f2, x.f3, x.f4, x.f5))
theorem mono26 : Kd.Mono F26 := Kd.mono_iso _ (Kd.mono_pair (Kd.mono_const _) (Kd.mono_pair (Kd.mono_const _) (Kd.mono_pair (Kd.mono_const _) (Kd.mono_pair (Kd.mono_const _) (Kd.mono_pair (Kd.mono_const _) (Kd.mono_slice 26 Kd.mono_id))))))
theorem sub26 : Kd.Sub F26 [26, 42, 47] := Kd.sub_iso _ (Kd.sub_pair (Kd.sub_const _ (by decide)) (Kd.sub_pair (Kd.sub_const _ (by decide)) (Kd.sub_pair (Kd.sub_const _ (by decide)) (Kd.sub_pair (Kd.sub_const _ (by decide)) (Kd.sub_pair (Kd.sub_const _ (by decide)) (Kd.sub_slice 26 (by decide) Kd.sub_id))))))
theorem sz26 : ∀ n, (Kd.upto F26 6 [26, 42, 47] n).sz = 6 := Kd.upto_sz (fun _ => rfl)
def k26 : Kd S26 := Kd.fix F26 6 [26, 42, 47] sz26 (Kd.upto_E sub26)
theorem k26_open {w : World} {x : S26} {cs : List Value} (h : k26.K w x cs) : ∃ A3 c3 A4 c4 A5 c5, cs = [.int .i64 x.f0, .string x.f1, .int .i64 x.f2, .slice A3 x.f3.length c3, .slice A4 x.f4.length c4, .slice A5 x.f5.length c5] ∧ x.f3.length ≤ c3 ∧ k47.C w A3 x.f3.length x.f3 ∧ x.f4.length ≤ c4 ∧ k42.C w A4 x.f4.length x.f4 ∧ x.f5.length ≤ c5 ∧ k26.C w A5 x.f5.length x.f5 := by
  obtain ⟨n, h⟩ := h
  cases n with
  | zero => exact h.elim
  | succ n =>
    obtain ⟨_, _, rfl, rfl, ⟨_, _, rfl, rfl, ⟨_, _, rfl, rfl, ⟨_, _, rfl, ⟨A3, c3, rfl, l3, g3⟩, ⟨_, _, rfl, ⟨A4, c4, rfl, l4, g4⟩, ⟨A5, c5, rfl, l5, g5⟩⟩⟩⟩⟩⟩ := h
    exact ⟨A3, c3, A4, c4, A5, c5, rfl, l3, g3, l4, g4, l5, Kd.fix_C g5⟩
theorem k26_mk (w : World) (x : S26) {A3 : Option Addr} {c3 : Nat} (l3 : x.f3.length ≤ c3) (g3 : k47.C w A3 x.f3.length x.f3) {A4 : Option Addr} {c4 : Nat} (l4 : x.f4.length ≤ c4) (g4 : k42.C w A4 x.f4.length x.f4) {A5 : Option Addr} {c5 : Nat} (l5 : x.f5.length ≤ c5) (g5 : k26.C w A5 x.f5.length x.f5) : k26.K w x [.int .i64 x.f0, .string x.f1, .int .i64 x.f2, .slice A3 x.f3.length c3, .slice A4 x.f4.length c4, .slice A5 x.f5.length c5] := by
  obtain ⟨n5, q5⟩ := Kd.fix_C_back mono26 g5
  have r5 := Kd.upto_C_le mono26 sz26 (show n5 ≤ n5 by omega) q5
  exact ⟨n5 + 1, ⟨[.int .i64 x.f0], [.string x.f1, .int .i64 x.f2, .slice A3 x.f3.length c3, .slice A4 x.f4.length c4, .slice A5 x.f5.length c5], rfl, rfl, ⟨[.string x.f1], [.int .i64 x.f2, .slice A3 x.f3.length c3, .slice A4 x.f4.length c4, .slice A5 x.f5.length c5], rfl, rfl, ⟨[.int .i64 x.f2], [.slice A3 x.f3.length c3, .slice A4 x.f4.length c4, .slice A5 x.f5.length c5], rfl, rfl, ⟨[.slice A3 x.f3.length c3], [.slice A4 x.f4.length c4, .slice A5 x.f5.length c5], rfl, ⟨A3, c3, rfl, l3, g3⟩, ⟨[.slice A4 x.f4.length c4], [.slice A5 x.f5.length c5], rfl, ⟨A4, c4, rfl, l4, g4⟩, ⟨A5, c5, rfl, l5, r5⟩⟩⟩⟩⟩⟩⟩
def rd_T26 (xs : List S26) (i : Int) : S26 := xs.getD i.toNat z26
theorem at_T26 {w : World} {A : Option Addr} {n : Nat} {xs : List S26} (h : Kd.C k26 w A n xs) (i : Int) (h0 : 0 ≤ i) (h1 : i < n) : ∃ ad A3 c3 A4 c4 A5 c5, A = some ad ∧ w.cell? (ad.add (i.toNat * 6)) = some (.int .i64 (rd_T26 xs i).f0) ∧ w.cell? ⟨(ad.add (i.toNat * 6)).block, (ad.add (i.toNat * 6)).off + 1, none⟩ = some (.string (rd_T26 xs i).f1) ∧ w.cell? ⟨(ad.add (i.toNat * 6)).block, (ad.add (i.toNat * 6)).off + 2, none⟩ = some (.int .i64 (rd_T26 xs i).f2) ∧ w.cell? ⟨(ad.add (i.toNat * 6)).block, (ad.add (i.toNat * 6)).off + 3, none⟩ = some (.slice A3 (rd_T26 xs i).f3.length c3) ∧ w.cell? ⟨(ad.add (i.toNat * 6)).block, (ad.add (i.toNat * 6)).off + 4, none⟩ = some (.slice A4 (rd_T26 xs i).f4.length c4) ∧ w.cell? ⟨(ad.add (i.toNat * 6)).block, (ad.add (i.toNat * 6)).off + 5, none⟩ = some (.slice A5 (rd_T26 xs i).f5.length c5) ∧ (rd_T26 xs i).f3.length ≤ c3 ∧ k47.C w A3 (rd_T26 xs i).f3.length (rd_T26 xs i).f3 ∧ (rd_T26 xs i).f4.length ≤ c4 ∧ k42.C w A4 (rd_T26 xs i).f4.length (rd_T26 xs i).f4 ∧ (rd_T26 xs i).f5.length ≤ c5 ∧ k26.C w A5 (rd_T26 xs i).f5.length (rd_T26 xs i).f5 := by
  obtain ⟨ad, c, e, _, hK, hc0⟩ := Kd.C_get h z26 i h0 h1
  have hc : ∀ j u, c[j]? = some u → w.cell? (ad.add (i.toNat * 6 + j)) = some u := hc0
  obtain ⟨A3, c3, A4, c4, A5, c5, rfl, l3, g3, l4, g4, l5, g5⟩ := k26_open hK
  exact ⟨ad, A3, c3, A4, c4, A5, c5, e, hc 0 _ rfl, by rw [← add_field _ _ 1 (by omega)]; exact hc 1 _ rfl, by rw [← add_field _ _ 2 (by omega)]; exact hc 2 _ rfl, by rw [← add_field _ _ 3 (by omega)]; exact hc 3 _ rfl, by rw [← add_field _ _ 4 (by omega)]; exact hc 4 _ rfl, by rw [← add_field _ _ 5 (by omega)]; exact hc 5 _ rfl, l3, g3, l4, g4, l5, g5⟩
structure S54 where
  f0 : ByteArray
  f1 : Bool
  f2 : Int
  f3 : (List S42)
  f4 : S26
def z54 : S54 := ⟨(⟨#[]⟩ : ByteArray), false, (0 : Int), ([] : List S42), z26⟩
def k54 : Kd S54 := Kd.iso (Kd.pair Kd.string (Kd.pair Kd.bool (Kd.pair (Kd.int .i64) (Kd.pair (Kd.slice 42 k42) k26)))) (fun x : S54 => (x.f0, x.f1, x.f2, x.f3, x.f4))
theorem k54_open {w : World} {x : S54} {cs : List Value} (h : k54.K w x cs) : ∃ A3 c3 A7 c7 A8 c8 A9 c9, cs = [.string x.f0, .bool x.f1, .int .i64 x.f2, .slice A3 x.f3.length c3, .int .i64 x.f4.f0, .string x.f4.f1, .int .i64 x.f4.f2, .slice A7 x.f4.f3.length c7, .slice A8 x.f4.f4.length c8, .slice A9 x.f4.f5.length c9] ∧ x.f3.length ≤ c3 ∧ k42.C w A3 x.f3.length x.f3 ∧ x.f4.f3.length ≤ c7 ∧ k47.C w A7 x.f4.f3.length x.f4.f3 ∧ x.f4.f4.length ≤ c8 ∧ k42.C w A8 x.f4.f4.length x.f4.f4 ∧ x.f4.f5.length ≤ c9 ∧ k26.C w A9 x.f4.f5.length x.f4.f5 := by
  obtain ⟨_, _, rfl, rfl, ⟨_, _, rfl, rfl, ⟨_, _, rfl, rfl, ⟨_, _, rfl, ⟨A3, c3, rfl, l3, g3⟩, s4⟩⟩⟩⟩ := h
  obtain ⟨A7, c7, A8, c8, A9, c9, rfl, l7, g7, l8, g8, l9, g9⟩ := k26_open s4
  exact ⟨A3, c3, A7, c7, A8, c8, A9, c9, rfl, l3, g3, l7, g7, l8, g8, l9, g9⟩
theorem k54_mk (w : World) (x : S54) {A3 : Option Addr} {c3 : Nat} (l3 : x.f3.length ≤ c3) (g3 : k42.C w A3 x.f3.length x.f3) {A7 : Option Addr} {c7 : Nat} (l7 : x.f4.f3.length ≤ c7) (g7 : k47.C w A7 x.f4.f3.length x.f4.f3) {A8 : Option Addr} {c8 : Nat} (l8 : x.f4.f4.length ≤ c8) (g8 : k42.C w A8 x.f4.f4.length x.f4.f4) {A9 : Option Addr} {c9 : Nat} (l9 : x.f4.f5.length ≤ c9) (g9 : k26.C w A9 x.f4.f5.length x.f4.f5) : k54.K w x [.string x.f0, .bool x.f1, .int .i64 x.f2, .slice A3 x.f3.length c3, .int .i64 x.f4.f0, .string x.f4.f1, .int .i64 x.f4.f2, .slice A7 x.f4.f3.length c7, .slice A8 x.f4.f4.length c8, .slice A9 x.f4.f5.length c9] := ⟨[.string x.f0], [.bool x.f1, .int .i64 x.f2, .slice A3 x.f3.length c3, .int .i64 x.f4.f0, .string x.f4.f1, .int .i64 x.f4.f2, .slice A7 x.f4.f3.length c7, .slice A8 x.f4.f4.length c8, .slice A9 x.f4.f5.length c9], rfl, rfl, ⟨[.bool x.f1], [.int .i64 x.f2, .slice A3 x.f3.length c3, .int .i64 x.f4.f0, .string x.f4.f1, .int .i64 x.f4.f2, .slice A7 x.f4.f3.length c7, .slice A8 x.f4.f4.length c8, .slice A9 x.f4.f5.length c9], rfl, rfl, ⟨[.int .i64 x.f2], [.slice A3 x.f3.length c3, .int .i64 x.f4.f0, .string x.f4.f1, .int .i64 x.f4.f2, .slice A7 x.f4.f3.length c7, .slice A8 x.f4.f4.length c8, .slice A9 x.f4.f5.length c9], rfl, rfl, ⟨[.slice A3 x.f3.length c3], [.int .i64 x.f4.f0, .string x.f4.f1, .int .i64 x.f4.f2, .slice A7 x.f4.f3.length c7, .slice A8 x.f4.f4.length c8, .slice A9 x.f4.f5.length c9], rfl, ⟨A3, c3, rfl, l3, g3⟩, (k26_mk w x.f4 l7 g7 l8 g8 l9 g9)⟩⟩⟩⟩
def rd_T54 (xs : List S54) (i : Int) : S54 := xs.getD i.toNat z54
theorem at_T54 {w : World} {A : Option Addr} {n : Nat} {xs : List S54} (h : Kd.C k54 w A n xs) (i : Int) (h0 : 0 ≤ i) (h1 : i < n) : ∃ ad A3 c3 A7 c7 A8 c8 A9 c9, A = some ad ∧ w.cell? (ad.add (i.toNat * 10)) = some (.string (rd_T54 xs i).f0) ∧ w.cell? ⟨(ad.add (i.toNat * 10)).block, (ad.add (i.toNat * 10)).off + 1, none⟩ = some (.bool (rd_T54 xs i).f1) ∧ w.cell? ⟨(ad.add (i.toNat * 10)).block, (ad.add (i.toNat * 10)).off + 2, none⟩ = some (.int .i64 (rd_T54 xs i).f2) ∧ w.cell? ⟨(ad.add (i.toNat * 10)).block, (ad.add (i.toNat * 10)).off + 3, none⟩ = some (.slice A3 (rd_T54 xs i).f3.length c3) ∧ w.cell? ⟨(ad.add (i.toNat * 10)).block, (ad.add (i.toNat * 10)).off + 4, none⟩ = some (.int .i64 (rd_T54 xs i).f4.f0) ∧ w.cell? ⟨(ad.add (i.toNat * 10)).block, (ad.add (i.toNat * 10)).off + 5, none⟩ = some (.string (rd_T54 xs i).f4.f1) ∧ w.cell? ⟨(ad.add (i.toNat * 10)).block, (ad.add (i.toNat * 10)).off + 6, none⟩ = some (.int .i64 (rd_T54 xs i).f4.f2) ∧ w.cell? ⟨(ad.add (i.toNat * 10)).block, (ad.add (i.toNat * 10)).off + 7, none⟩ = some (.slice A7 (rd_T54 xs i).f4.f3.length c7) ∧ w.cell? ⟨(ad.add (i.toNat * 10)).block, (ad.add (i.toNat * 10)).off + 8, none⟩ = some (.slice A8 (rd_T54 xs i).f4.f4.length c8) ∧ w.cell? ⟨(ad.add (i.toNat * 10)).block, (ad.add (i.toNat * 10)).off + 9, none⟩ = some (.slice A9 (rd_T54 xs i).f4.f5.length c9) ∧ (rd_T54 xs i).f3.length ≤ c3 ∧ k42.C w A3 (rd_T54 xs i).f3.length (rd_T54 xs i).f3 ∧ (rd_T54 xs i).f4.f3.length ≤ c7 ∧ k47.C w A7 (rd_T54 xs i).f4.f3.length (rd_T54 xs i).f4.f3 ∧ (rd_T54 xs i).f4.f4.length ≤ c8 ∧ k42.C w A8 (rd_T54 xs i).f4.f4.length (rd_T54 xs i).f4.f4 ∧ (rd_T54 xs i).f4.f5.length ≤ c9 ∧ k26.C w A9 (rd_T54 xs i).f4.f5.length (rd_T54 xs i).f4.f5 := by
  obtain ⟨ad, c, e, _, hK, hc0⟩ := Kd.C_get h z54 i h0 h1
  have hc : ∀ j u, c[j]? = some u → w.cell? (ad.add (i.toNat * 10 + j)) = some u := hc0
  obtain ⟨A3, c3, A7, c7, A8, c8, A9, c9, rfl, l3, g3, l7, g7, l8, g8, l9, g9⟩ := k54_open hK
  exact ⟨ad, A3, c3, A7, c7, A8, c8, A9, c9, e, hc 0 _ rfl, by rw [← add_field _ _ 1 (by omega)]; exact hc 1 _ rfl, by rw [← add_field _ _ 2 (by omega)]; exact hc 2 _ rfl, by rw [← add_field _ _ 3 (by omega)]; exact hc 3 _ rfl, by rw [← add_field _ _ 4 (by omega)]; exact hc 4 _ rfl, by rw [← add_field _ _ 5 (by omega)]; exact hc 5 _ rfl, by rw [← add_field _ _ 6 (by omega)]; exact hc 6 _ rfl, by rw [← add_field _ _ 7 (by omega)]; exact hc 7 _ rfl, by rw [← add_field _ _ 8 (by omega)]; exact hc 8 _ rfl, by rw [← add_field _ _ 9 (by omega)]; exact hc 9 _ rfl, l3, g3, l7, g7, l8, g8, l9, g9⟩
end Go.Proofs.YtmlcaecknocpoaaDoor.Pr
namespace Go.Proofs.YtmlcaecknocpoaaDoor.Sp
open Go.Proofs.YtmlcaecknocpoaaDoor.Pr
deriving instance DecidableEq for S47
deriving instance DecidableEq for S42
mutual
def size : S26 → Nat
  | ⟨_, _, _, _, _, l⟩ => 1 + sizes l
def sizes : List S26 → Nat
  | [] => 0
  | x :: l => size x + sizes l
end
mutual
def depth : S26 → Nat
  | ⟨_, _, _, _, _, l⟩ => depths l + 1
def depths : List S26 → Nat
  | [] => 0
  | x :: l => max (depth x) (depths l)
end
def letter (c : UInt8) : Bool := 97 ≤ c && c ≤ 122
def wordC (c : UInt8) : Bool := letter c || (48 ≤ c && c ≤ 57) || c == 95
def word : List UInt8 → Bool
  | [] => false
  | c :: r => letter c && r.all wordC && r.length ≤ 63
def reserved : List (List UInt8) := [[104, 97, 114, 100], [115, 111, 102, 116], [101, 97, 99, 104], [97, 108, 108], [115, 111, 109, 101], [108, 101, 97, 115, 116], [109, 111, 115, 116], [116, 114, 117, 101], [102, 97, 108, 115, 101], [97, 116], [105, 110], [116, 101, 97, 99, 104, 101, 115], [97, 116, 116, 101, 110, 100, 115], [97, 119, 97, 121], [115, 104, 117, 116], [100, 97, 121], [104, 111, 117, 114], [104, 111, 117, 115, 101], [115, 101, 97, 116, 115], [115, 105, 122, 101], [108, 101, 115, 115, 111, 110], [115, 108, 111, 116], [114, 111, 111, 109], [112, 101, 114, 115, 111, 110], [103, 114, 111, 117, 112]]
def name (s : ByteArray) : Bool := word s.data.toList && !reserved.contains s.data.toList
def most : Int := 1099511627776
def number (n : Int) : Bool := decide (0 ≤ n) && decide (n ≤ most)
def term (t : S47) : Bool := if t.f0 = 1 then decide (t.f1 = ByteArray.empty) && number t.f2 else decide (2 ≤ t.f0) && decide (t.f0 ≤ 7) && name t.f1 && decide (t.f2 = 0)
def bind (b : S42) : Bool := name b.f0 && decide (1 ≤ b.f1) && decide (b.f1 ≤ 7)
def atom (k : Int) : Bool := decide (3 ≤ k) && decide (k ≤ 9)
def quant (k : Int) : Bool := decide (14 ≤ k) && decide (k ≤ 17)
def counts (k : Int) : Bool := decide (k = 16) || decide (k = 17)
def arity (k : Int) : Option Int := if k = 1 ∨ k = 2 ∨ (3 ≤ k ∧ k ≤ 9) then some 0 else if k = 10 ∨ (14 ≤ k ∧ k ≤ 17) then some 1 else if 11 ≤ k ∧ k ≤ 13 then some 2 else none
def signs : List (List UInt8 × List UInt8) := [([61], [33, 61]), ([33, 61], [61]), ([60], [62, 61]), ([62, 61], [60]), ([60, 61], [62]), ([62], [60, 61])]
def sign (s : ByteArray) : ByteArray := ⟨((signs.lookup s.data.toList).getD []).toArray⟩
def isSign (s : ByteArray) : Bool := (signs.lookup s.data.toList).isSome
def termsOk (k : Int) (nm : ByteArray) (ts : List S47) : Bool :=
  if atom k then decide (ts.length = 2) && ts.all term && (if k = 9 then isSign nm else decide (nm = ByteArray.empty) && ts.all fun t => decide (t.f0 = 2)) else decide (ts = []) && decide (nm = ByteArray.empty)
def bindsOk (k : Int) (n : Int) (bs : List S42) : Bool :=
  if quant k then decide (1 ≤ bs.length) && decide (bs.length ≤ 6) && bs.all bind && (if counts k then number n else decide (n = 0)) else decide (bs = []) && decide (n = 0)
def here (x : S26) : Bool := decide (arity x.f0 = some (x.f5.length : Int)) && termsOk x.f0 x.f1 x.f3 && bindsOk x.f0 x.f2 x.f4
mutual
def form : S26 → Bool
  | ⟨k, nm, n, ts, bs, l⟩ => here ⟨k, nm, n, ts, bs, l⟩ && forms l
def forms : List S26 → Bool
  | [] => true
  | x :: l => form x && forms l
end
def check (x : S26) : Int := if form x then (if size x > 256 ∨ depth x > 24 then 2 else 0) else 1
def names (ts : List S47) : List ByteArray := (ts.filter fun t => decide (t.f0 ≠ 1)).map (·.f1)
def among (l : List ByteArray) (s : ByteArray) : Bool := l.any fun x => decide (x = s)
def addAll (bound : List ByteArray) : List ByteArray → List ByteArray → List ByteArray
  | out, [] => out
  | out, s :: r => if among bound s || among out s then addAll bound out r else addAll bound (out ++ [s]) r
mutual
def free : S26 → List ByteArray
  | ⟨_, _, _, ts, bs, l⟩ => addAll (bs.map (·.f0)) [] (names ts ++ frees l)
def frees : List S26 → List ByteArray
  | [] => []
  | x :: l => free x ++ frees l
end
def always (k n : Int) : Bool := decide (k = 1) || decide (k = 16) && decide (n = 0) || decide (k = 17) && decide (n = most)
def dual (k : Int) : Int := if k = 11 then 12 else if k = 12 then 11 else if k = 14 then 15 else if k = 15 then 14 else if k = 16 then 17 else 16
def e0 : ByteArray := ⟨#[]⟩
def leaf (k : Int) : S26 := ⟨k, e0, 0, [], [], []⟩
mutual
def right : S26 → Bool → S26
  | ⟨k, nm, n, ts, bs, l⟩, turn =>
    if always k n then leaf (if turn then 2 else 1)
    else if k = 2 then leaf (if turn then 1 else 2)
    else if k = 10 then (rights l (!turn)).headD z26
    else if k = 13 then ⟨if turn then 11 else 12, e0, 0, [], [], [(rights l (!turn)).headD z26, (rights l turn).getD 1 z26]⟩
    else if k = 9 then (if turn then ⟨9, sign nm, n, ts, bs, l⟩ else ⟨k, nm, n, ts, bs, l⟩)
    else if atom k then (if turn then ⟨10, e0, 0, [], [], [⟨k, nm, n, ts, bs, l⟩]⟩ else ⟨k, nm, n, ts, bs, l⟩)
    else ⟨if turn then dual k else k, nm, if turn then (if k = 16 then n - 1 else if k = 17 then n + 1 else n) else n, ts, bs, rights l (turn && !counts k)⟩
def rights : List S26 → Bool → List S26
  | [], _ => []
  | x :: l, turn => right x turn :: rights l turn
end
end Go.Proofs.YtmlcaecknocpoaaDoor.Sp
namespace Go.Proofs.YtmlcaecknocpoaaDoor.Sp
open Go.Proofs.YtmlcaecknocpoaaDoor.Pr
mutual
def gath : List ByteArray → List ByteArray → S26 → List ByteArray
  | bl, out, ⟨_, _, _, ts, bs, l⟩ => gaths (bl ++ bs.map (·.f0)) (addAll (bl ++ bs.map (·.f0)) out (names ts)) l
def gaths : List ByteArray → List ByteArray → List S26 → List ByteArray
  | _, out, [] => out
  | bl, out, x :: l => gaths bl (gath bl out x) l
end
theorem addAll_append (B out a b : List ByteArray) : addAll B out (a ++ b) = addAll B (addAll B out a) b := by
  induction a generalizing out with
  | nil => rfl
  | cons s a ih =>
    simp only [List.cons_append, addAll]
    split
    · exact ih out
    · exact ih (out ++ [s])
theorem among_append (a b : List ByteArray) (s : ByteArray) : among (a ++ b) s = (among a s || among b s) := by simp [among, List.any_append]
theorem among_iff (l : List ByteArray) (s : ByteArray) : among l s = true ↔ s ∈ l := by simp [among]
theorem addAll_has (bl out acc : List ByteArray) (s : ByteArray) (h : s ∈ acc ∨ s ∈ out) : among bl s = true ∨ s ∈ addAll bl out acc := by
  induction acc generalizing out with
  | nil => exact .inr (h.resolve_left (fun h => by cases h))
  | cons a acc ih =>
    simp only [addAll]
    split
    · rename_i hc
      rcases h with h | h
      · cases h with
        | head =>
          simp only [Bool.or_eq_true] at hc
          rcases hc with hc | hc
          · exact .inl hc
          · exact ih out (.inr ((among_iff _ _).1 hc))
        | tail _ h => exact ih out (.inl h)
      · exact ih out (.inr h)
    · rcases h with h | h
      · cases h with
        | head => exact ih _ (.inr (by simp))
        | tail _ h => exact ih _ (.inl h)
      · exact ih _ (.inr (by simp [h]))
theorem addAll_two (bl B out acc L : List ByteArray) : addAll bl out (addAll B acc L) = addAll (bl ++ B) (addAll bl out acc) L := by
  induction L generalizing acc with
  | nil => rfl
  | cons s L ih =>
    simp only [addAll]
    by_cases c : (among B s || among acc s) = true
    · rw [if_pos c, ih acc, if_pos]
      simp only [Bool.or_eq_true, among_append] at c ⊢
      rcases c with c | c
      · exact .inl (.inr c)
      · rcases addAll_has bl out acc s (.inl ((among_iff _ _).1 c)) with h | h
        · exact .inl (.inl h)
        · exact .inr ((among_iff _ _).2 h)
    · have cB : among B s = false := by simp only [Bool.or_eq_true, not_or] at c; simpa using c.1
      rw [if_neg c, ih (acc ++ [s]), addAll_append]
      simp only [addAll, among_append, cB, Bool.or_false]
      split <;> rfl
mutual
theorem gath_eq (bl out : List ByteArray) : ∀ x : S26, gath bl out x = addAll bl out (free x)
  | ⟨_, _, _, ts, bs, l⟩ => by
    rw [gath, free, addAll_two, gaths_eq _ _ l, ← addAll_append]
    rfl
theorem gaths_eq (bl out : List ByteArray) : ∀ l : List S26, gaths bl out l = addAll bl out (frees l)
  | [] => rfl
  | x :: l => by rw [gaths, frees, addAll_append, gath_eq bl out x, gaths_eq _ _ l]
end
theorem free_gath (x : S26) : gath [] [] x = free x := by
  rw [gath_eq]
  obtain ⟨_, _, _, ts, bs, l⟩ := x
  rw [free, addAll_two]
  rfl
end Go.Proofs.YtmlcaecknocpoaaDoor.Sp
namespace Go.Proofs.YtmlcaecknocpoaaDoor.Sp
open Go.Proofs.YtmlcaecknocpoaaDoor.Pr
def bsOk (bs : List S42) : Prop := 1 ≤ bs.length ∧ bs.length ≤ 6 ∧ bs.all bind = true
inductive Fm : S26 → Prop
  | const {k : Int} : k = 1 ∨ k = 2 → Fm ⟨k, e0, 0, [], [], []⟩
  | atom {k : Int} {ts : List S47} : 3 ≤ k → k ≤ 8 → termsOk k e0 ts = true → Fm ⟨k, e0, 0, ts, [], []⟩
  | cmp {nm : ByteArray} {ts : List S47} : isSign nm = true → termsOk 9 nm ts = true → Fm ⟨9, nm, 0, ts, [], []⟩
  | not {y : S26} : Fm y → Fm ⟨10, e0, 0, [], [], [y]⟩
  | two {k : Int} {y z : S26} : k = 11 ∨ k = 12 → Fm y → Fm z → Fm ⟨k, e0, 0, [], [], [y, z]⟩
  | imp {y z : S26} : Fm y → Fm z → Fm ⟨13, e0, 0, [], [], [y, z]⟩
  | quant {k : Int} {bs : List S42} {y : S26} : k = 14 ∨ k = 15 → bsOk bs → Fm y → Fm ⟨k, e0, 0, [], bs, [y]⟩
  | count {k n : Int} {bs : List S42} {y : S26} : k = 16 ∨ k = 17 → 0 ≤ n → n ≤ most → bsOk bs → Fm y → Fm ⟨k, e0, n, [], bs, [y]⟩
theorem fm_of_aux (s : Nat) : ∀ x : S26, size x ≤ s → form x = true → Fm x := by
  induction s with
  | zero => rintro ⟨k, nm, n, ts, bs, l⟩ h; simp [size] at h
  | succ s ih =>
    rintro ⟨k, nm, n, ts, bs, l⟩ hs hf
    simp only [form, here, Bool.and_eq_true, decide_eq_true_eq] at hf
    obtain ⟨⟨⟨ha, ht⟩, hb⟩, hl⟩ := hf
    simp only [size] at hs
    have hch : ∀ y ∈ l, Fm y := fun y hy => by
      have h1 : size y ≤ sizes l ∧ form y = true := by
        clear ha ht hb ih hs
        induction l with
        | nil => cases hy
        | cons z l ihl =>
          simp only [forms, Bool.and_eq_true, sizes] at hl ⊢
          cases hy with
          | head => exact ⟨by omega, hl.1⟩
          | tail _ h => have := ihl hl.2 h; exact ⟨by omega, this.2⟩
      exact ih y (by omega) h1.2
    have hnq : quant k = false → bs = [] ∧ n = 0 := fun hq => by
      simp only [bindsOk, hq, Bool.false_eq_true, if_false, Bool.and_eq_true, decide_eq_true_eq] at hb
      exact hb
    have hna : atom k = false → ts = [] ∧ nm = e0 := fun hq => by
      simp only [termsOk, hq, Bool.false_eq_true, if_false, Bool.and_eq_true, decide_eq_true_eq] at ht
      exact ht
    have one : (l.length : Int) = 1 → ∃ y, l = [y] := fun h => List.length_eq_one_iff.1 (by omega)
    have two : (l.length : Int) = 2 → ∃ y z, l = [y, z] := fun h => by
      match l, h with
      | [y, z], _ => exact ⟨y, z, rfl⟩
      | [], h => simp at h
      | [_], h => simp at h
      | _ :: _ :: _ :: _, h => simp at h; omega
    unfold arity at ha
    by_cases h1 : k = 1 ∨ k = 2
    · obtain ⟨rfl, rfl⟩ := hnq (by simp [quant]; omega)
      obtain ⟨rfl, rfl⟩ := hna (by simp [Sp.atom]; omega)
      rw [if_pos (by omega)] at ha
      have : l = [] := List.eq_nil_of_length_eq_zero (by injection ha with h; omega)
      subst this
      exact .const h1
    · by_cases h2 : 3 ≤ k ∧ k ≤ 9
      · obtain ⟨rfl, rfl⟩ := hnq (by simp [quant]; omega)
        rw [if_pos (by omega)] at ha
        have : l = [] := List.eq_nil_of_length_eq_zero (by injection ha with h; omega)
        subst this
        by_cases h9 : k = 9
        · subst h9
          refine .cmp ?_ ht
          simp only [termsOk, show Sp.atom 9 = true from rfl, if_true, Bool.and_eq_true] at ht
          exact ht.2
        · have he : nm = e0 := by
            simp only [termsOk, show Sp.atom k = true by simp [Sp.atom]; omega, if_true, h9, if_false, Bool.and_eq_true, decide_eq_true_eq] at ht
            exact ht.2.1
          subst he
          exact .atom h2.1 (by omega) ht
      · rw [if_neg (by omega)] at ha
        obtain ⟨rfl, rfl⟩ := hna (by simp [Sp.atom]; omega)
        by_cases h10 : k = 10
        · subst h10
          obtain ⟨rfl, rfl⟩ := hnq (by simp [quant])
          obtain ⟨y, rfl⟩ := one (by simp at ha; omega)
          exact .not (hch y (by simp))
        · by_cases hq : 14 ≤ k ∧ k ≤ 17
          · have hqt : quant k = true := by simp [quant]; omega
            simp only [bindsOk, hqt, if_true, Bool.and_eq_true, decide_eq_true_eq] at hb
            rw [if_pos (by omega)] at ha
            obtain ⟨y, rfl⟩ := one (by injection ha with h; omega)
            by_cases hc : k = 16 ∨ k = 17
            · have : counts k = true := by simp [counts]; omega
              simp only [this, if_true, number, Bool.and_eq_true, decide_eq_true_eq] at hb
              exact .count hc hb.2.1 hb.2.2 ⟨hb.1.1.1, hb.1.1.2, hb.1.2⟩ (hch y (by simp))
            · have : counts k = false := by simp [counts]; omega
              simp only [this, Bool.false_eq_true, if_false, decide_eq_true_eq] at hb
              obtain ⟨h3, rfl⟩ := hb
              exact .quant (by omega) ⟨h3.1.1, h3.1.2, h3.2⟩ (hch y (by simp))
          · obtain ⟨rfl, rfl⟩ := hnq (by simp [quant]; omega)
            rw [if_neg (by omega)] at ha
            by_cases h3 : 11 ≤ k ∧ k ≤ 13
            · rw [if_pos h3] at ha
              obtain ⟨y, z, rfl⟩ := two (by injection ha with h; omega)
              by_cases h13 : k = 13
              · subst h13; exact .imp (hch y (by simp)) (hch z (by simp))
              · exact .two (by omega) (hch y (by simp)) (hch z (by simp))
            · rw [if_neg h3] at ha; cases ha
theorem fm_of {x : S26} (h : form x = true) : Fm x := fm_of_aux (size x) x (Nat.le_refl _) h
theorem termsOk_none {k : Int} (h : Sp.atom k = false) : termsOk k e0 [] = true := by simp [termsOk, h, e0]; rfl
theorem bindsOk_none {k : Int} (h : quant k = false) : bindsOk k 0 [] = true := by simp [bindsOk, h]
theorem form_of {x : S26} (h : Fm x) : form x = true := by
  induction h with
  | const hk => rcases hk with rfl | rfl <;> rfl
  | @atom k ts h1 h2 h3 =>
    have ha : arity k = some 0 := by unfold arity; rw [if_pos (by omega)]
    simp [form, here, forms, ha, h3, bindsOk_none (show quant k = false by simp [quant]; omega)]
  | cmp h1 h2 =>
    simp [form, here, forms, h2, bindsOk_none (show quant 9 = false from rfl)]
    rfl
  | not _ ih => simp [form, here, forms, ih, termsOk_none (show Sp.atom 10 = false from rfl), bindsOk_none (show quant 10 = false from rfl)]; rfl
  | two hk _ _ ih1 ih2 =>
    rcases hk with rfl | rfl
    · simp [form, here, forms, ih1, ih2, termsOk_none (show Sp.atom 11 = false from rfl), bindsOk_none (show quant 11 = false from rfl)]; rfl
    · simp [form, here, forms, ih1, ih2, termsOk_none (show Sp.atom 12 = false from rfl), bindsOk_none (show quant 12 = false from rfl)]; rfl
  | imp _ _ ih1 ih2 => simp [form, here, forms, ih1, ih2, termsOk_none (show Sp.atom 13 = false from rfl), bindsOk_none (show quant 13 = false from rfl)]; rfl
  | @quant k bs y hk hb _ ih =>
    obtain ⟨b1, b2, b3⟩ := hb
    rcases hk with rfl | rfl
    · simp [form, here, forms, ih, termsOk_none (show Sp.atom 14 = false from rfl), bindsOk, b1, b2, show bs.all bind = true from b3, show Sp.quant 14 = true from rfl, show counts 14 = false from rfl, show arity 14 = some 1 from rfl]
    · simp [form, here, forms, ih, termsOk_none (show Sp.atom 15 = false from rfl), bindsOk, b1, b2, show bs.all bind = true from b3, show Sp.quant 15 = true from rfl, show counts 15 = false from rfl, show arity 15 = some 1 from rfl]
  | @count k n bs y hk h0 hm hb _ ih =>
    obtain ⟨b1, b2, b3⟩ := hb
    rcases hk with rfl | rfl
    · simp [form, here, forms, ih, termsOk_none (show Sp.atom 16 = false from rfl), bindsOk, b1, b2, number, h0, hm, show Sp.quant 16 = true from rfl, show counts 16 = true from rfl, show arity 16 = some 1 from rfl]; simpa using b3
    · simp [form, here, forms, ih, termsOk_none (show Sp.atom 17 = false from rfl), bindsOk, b1, b2, number, h0, hm, show Sp.quant 17 = true from rfl, show counts 17 = true from rfl, show arity 17 = some 1 from rfl]; simpa using b3
def lone : List S26 → Bool
  | [y] => decide (3 ≤ y.f0) && decide (y.f0 < 9)
  | _ => false
mutual
def normal : S26 → Bool
  | ⟨k, _, n, _, _, l⟩ => normals l && (if k = 10 then lone l else decide (k ≠ 13) && (decide (k ≠ 16) || decide (0 < n)) && (decide (k ≠ 17) || decide (n < most)))
def normals : List S26 → Bool
  | [] => true
  | x :: l => normal x && normals l
end
theorem check_zero {x : S26} : check x = 0 ↔ form x = true ∧ size x ≤ 256 ∧ depth x ≤ 24 := by
  unfold check
  cases form x <;> simp
end Go.Proofs.YtmlcaecknocpoaaDoor.Sp
namespace Go.Proofs.YtmlcaecknocpoaaDoor.Sp
open Go.Proofs.YtmlcaecknocpoaaDoor.Pr
def seek : List S42 → ByteArray → Option Int
  | [], _ => none
  | b :: r, nm => if b.f0 = nm then some b.f1 else seek r nm
def has (env : List S42) (nm : ByteArray) : Bool := (seek env nm).isSome
theorem has_nil (nm : ByteArray) : has [] nm = false := rfl
def fresh : List S42 → List S42 → Bool
  | _, [] => true
  | pre, b :: r => !has pre b.f0 && fresh (pre ++ [b]) r
def envOk (env : List S42) : Bool := env.all bind && fresh [] env
theorem seek_append (a b : List S42) (nm : ByteArray) : seek (a ++ b) nm = (seek a nm).or (seek b nm) := by
  induction a with
  | nil => rfl
  | cons x a ih =>
    rw [List.cons_append, seek, seek]
    by_cases h : x.f0 = nm
    · rw [if_pos h, if_pos h]; rfl
    · rw [if_neg h, if_neg h]; exact ih
theorem has_append (a b : List S42) (nm : ByteArray) : has (a ++ b) nm = (has a nm || has b nm) := by
  unfold has
  rw [seek_append]
  cases seek a nm <;> simp
theorem has_any (a : List S42) (nm : ByteArray) : has a nm = a.any fun b => decide (b.f0 = nm) := by
  induction a with
  | nil => rfl
  | cons x a ih =>
    unfold has at ih ⊢
    rw [seek, List.any_cons]
    by_cases h : x.f0 = nm
    · rw [if_pos h, decide_eq_true h]; rfl
    · rw [if_neg h, decide_eq_false h, ih]; rfl
theorem has_among (a : List S42) (nm : ByteArray) : has a nm = among (a.map (·.f0)) nm := by
  rw [has_any, among, List.any_map]
  rfl
theorem fresh_append (pre a b : List S42) : fresh pre (a ++ b) = (fresh pre a && fresh (pre ++ a) b) := by
  induction a generalizing pre with
  | nil => simp [fresh]
  | cons x a ih =>
    rw [List.cons_append, fresh, fresh, ih, List.append_assoc, Bool.and_assoc]
    rfl
theorem fresh_split (pre l : List S42) : fresh pre l = ((l.all fun b => !has pre b.f0) && fresh [] l) := by
  induction l generalizing pre with
  | nil => rfl
  | cons x l ih =>
    rw [fresh, fresh, ih (pre ++ [x]), List.nil_append, ih [x], List.all_cons]
    have e : (l.all fun b => !has (pre ++ [x]) b.f0) = ((l.all fun b => !has pre b.f0) && l.all fun b => !has [x] b.f0) := by
      clear ih
      induction l with
      | nil => rfl
      | cons y l ih =>
        rw [List.all_cons, List.all_cons, List.all_cons, ih, has_append]
        cases has pre y.f0 <;> cases has [x] y.f0 <;> cases (l.all fun b => !has pre b.f0) <;> rfl
    rw [e]
    cases has pre x.f0 <;> cases (l.all fun b => !has pre b.f0) <;> cases (l.all fun b => !has [x] b.f0) <;> cases fresh [] l <;> rfl
theorem fresh_nodup (l : List S42) : fresh [] l = true ↔ (l.map (·.f0)).Nodup := by
  induction l with
  | nil => simp [fresh]
  | cons x l ih =>
    rw [fresh, List.nil_append, fresh_split, List.map_cons, List.nodup_cons, ← ih]
    simp only [Bool.and_eq_true, List.all_eq_true, Bool.not_eq_true']
    constructor
    · rintro ⟨_, h1, h2⟩
      refine ⟨fun hm => ?_, h2⟩
      obtain ⟨b, hb, e⟩ := List.mem_map.1 hm
      have := h1 b hb
      rw [has_any] at this
      simp only [List.any_cons, List.any_nil, Bool.or_false, decide_eq_false_iff_not] at this
      exact this e.symm
    · rintro ⟨h1, h2⟩
      refine ⟨rfl, fun b hb => ?_, h2⟩
      rw [has_any]
      simp only [List.any_cons, List.any_nil, Bool.or_false, decide_eq_false_iff_not]
      intro e
      exact h1 (List.mem_map.2 ⟨b, hb, e.symm⟩)
def resS (k s : Int) : Int × Int := if k = 3 then (if s = 2 then (6, 0) else (0, 80)) else if k = 4 then (if s = 2 then (8, 0) else (0, 80)) else if k = 5 then (if s = 3 then (7, 0) else (0, 80)) else if k = 6 then (if s = 3 then (8, 0) else (0, 80)) else if k = 7 then (if s = 1 then (8, 0) else (0, 80)) else (s, 0)
def sortT (env : List S42) (t : S47) : Int × Int := if t.f0 = 1 then (8, 0) else match seek env t.f1 with | none => (0, 81) | some s => resS t.f0 s
def asked (k : Int) : Int × Int := if k = 3 then (1, 2) else if k = 4 then (1, 3) else if k = 5 then (4, 1) else if k = 6 then (5, 1) else if k = 7 then (4, 2) else (3, 2)
def ofT (env : List S42) (t : S47) (s : Int) : Int := if (sortT env t).2 = 0 then (if (sortT env t).1 = s then 0 else 80) else (sortT env t).2
def eqs (nm : ByteArray) : Bool := decide (nm = ⟨#[61]⟩) || decide (nm = ⟨#[33, 61]⟩)
def ordered (s : Int) : Bool := decide (s = 8) || decide (s = 2) || decide (s = 6)
def cmpT (env : List S42) (nm : ByteArray) (t u : S47) : Int := if (sortT env t).2 = 0 then (if (sortT env u).2 = 0 then (if (sortT env t).1 = (sortT env u).1 ∧ (eqs nm || ordered (sortT env t).1) = true then 0 else 80) else (sortT env u).2) else (sortT env t).2
def atomT (env : List S42) (k : Int) (t u : S47) : Int := if ofT env t (asked k).1 = 0 then ofT env u (asked k).2 else ofT env t (asked k).1
mutual
def first : S26 → List S42 → Int
  | ⟨k, nm, _, ts, bs, l⟩, env => if k = 9 then cmpT env nm (rd_T47 ts 0) (rd_T47 ts 1) else if atom k then atomT env k (rd_T47 ts 0) (rd_T47 ts 1) else if fresh env bs then firsts l (env ++ bs) else 82
def firsts : List S26 → List S42 → Int
  | [], _ => 0
  | x :: l, env => if first x env = 0 then firsts l env else first x env
end
def typ (env : List S42) (x : S26) : Int := if envOk env then (if check x = 0 then first x env else check x) else 1
def typT (env : List S42) (t : S47) : Int × Int := if envOk env && term t then sortT env t else (0, 1)
def weight (hard : Bool) (n : Int) : Bool := if hard then decide (n = 0) else decide (1 ≤ n) && decide (n ≤ 1000)
def rule (r : S54) : Int := if name r.f0 && weight r.f1 r.f2 && decide (r.f3.length ≤ 6) && r.f3.all bind then (if check r.f4 = 0 then (if fresh [] r.f3 then first r.f4 r.f3 else 82) else check r.f4) else 1
def rulesFrom : List S54 → List S54 → Int × Int
  | _, [] => (0, 0)
  | pre, r :: l => if rule r = 0 then (if pre.any fun p => decide (p.f0 = r.f0) then ((pre.length : Int), 82) else rulesFrom (pre ++ [r]) l) else ((pre.length : Int), rule r)
def rules (l : List S54) : Int × Int := rulesFrom [] l
theorem first_const {k : Int} (h : k = 1 ∨ k = 2) (env : List S42) : first ⟨k, e0, 0, [], [], []⟩ env = 0 := by
  rcases h with rfl | rfl <;> simp [first, firsts, fresh, Sp.atom]
theorem first_atom {k : Int} (h1 : 3 ≤ k) (h2 : k ≤ 8) (ts : List S47) (env : List S42) : first ⟨k, e0, 0, ts, [], []⟩ env = atomT env k (rd_T47 ts 0) (rd_T47 ts 1) := by
  have ha : Sp.atom k = true := by simp [Sp.atom]; omega
  rw [first, if_neg (by omega), if_pos ha]
theorem first_cmp (nm : ByteArray) (ts : List S47) (env : List S42) : first ⟨9, nm, 0, ts, [], []⟩ env = cmpT env nm (rd_T47 ts 0) (rd_T47 ts 1) := by
  rw [first, if_pos rfl]
theorem first_one {k n : Int} (h : k = 10 ∨ (14 ≤ k ∧ k ≤ 17)) (bs : List S42) (y : S26) (env : List S42) : first ⟨k, e0, n, [], bs, [y]⟩ env = if fresh env bs then first y (env ++ bs) else 82 := by
  have ha : Sp.atom k = false := by simp [Sp.atom]; omega
  rw [first, if_neg (by omega), if_neg (by simp [ha])]
  simp only [firsts]
  by_cases hy : first y (env ++ bs) = 0 <;> simp [hy]
theorem first_not (y : S26) (env : List S42) : first ⟨10, e0, 0, [], [], [y]⟩ env = first y env := by
  rw [first_one (.inl rfl)]; simp [fresh]
theorem first_two {k : Int} (h : k = 11 ∨ k = 12 ∨ k = 13) (y z : S26) (env : List S42) : first ⟨k, e0, 0, [], [], [y, z]⟩ env = if first y env = 0 then first z env else first y env := by
  have ha : Sp.atom k = false := by simp [Sp.atom]; omega
  rw [first, if_neg (by omega), if_neg (by simp [ha])]
  simp only [firsts, fresh, if_true, List.append_nil]
  by_cases hy : first y env = 0
  · rw [if_pos hy, if_pos hy]
    by_cases hz : first z env = 0
    · rw [if_pos hz, hz]
    · rw [if_neg hz]
  · rw [if_neg hy, if_neg hy]
theorem typ_zero {env : List S42} {x : S26} : typ env x = 0 ↔ envOk env = true ∧ check x = 0 ∧ first x env = 0 := by
  unfold typ
  cases envOk env
  · simp
  · by_cases hc : check x = 0
    · simp [hc]
    · simp [hc]
theorem addAll_all (p : ByteArray → Bool) (bs : List ByteArray) : ∀ (l out : List ByteArray), (addAll bs out l).all p = (out.all p && l.all fun s => among bs s || p s)
  | [], out => by simp [addAll]
  | s :: l, out => by
    rw [addAll]
    by_cases hb : among bs s = true
    · rw [hb, Bool.true_or, if_pos rfl, addAll_all p bs l out, List.all_cons, hb, Bool.true_or, Bool.true_and]
    · have hb' : among bs s = false := by simpa using hb
      rw [hb', Bool.false_or]
      by_cases ho : among out s = true
      · rw [if_pos ho, addAll_all p bs l out, List.all_cons, hb', Bool.false_or]
        cases hp : out.all p
        · rfl
        · have : p s = true := by
            rw [among, List.any_eq_true] at ho
            obtain ⟨x, hx, e⟩ := ho
            rw [← of_decide_eq_true e]
            exact List.all_eq_true.1 hp x hx
          rw [this]; rfl
      · rw [if_neg ho, addAll_all p bs l (out ++ [s]), List.all_cons, hb', Bool.false_or, List.all_append]
        simp [Bool.and_assoc]
theorem free_all (p : ByteArray → Bool) (k : Int) (nm : ByteArray) (n : Int) (ts : List S47) (bs : List S42) (l : List S26) : (free ⟨k, nm, n, ts, bs, l⟩).all p = ((names ts).all (fun s => has bs s || p s) && (frees l).all fun s => has bs s || p s) := by
  rw [free, addAll_all, List.all_append]
  simp [has_among]
theorem two_of {ts : List S47} {k : Int} {nm : ByteArray} (ha : Sp.atom k = true) (h : termsOk k nm ts = true) : ∃ t u, ts = [t, u] ∧ term t = true ∧ term u = true := by
  simp only [termsOk, ha, if_true, Bool.and_eq_true, decide_eq_true_eq] at h
  match ts, h with
  | [t, u], h => exact ⟨t, u, rfl, by simpa using h.1.2⟩
set_option linter.unusedVariables false in
theorem sortT_less {env env' : List S42} (hs : ∀ nm, seek env' nm = seek env nm ∨ seek env' nm = none) (t : S47) (h : (sortT env t).2 = 0) :
    sortT env' t = (if decide (t.f0 = 1) || has env' t.f1 then sortT env t else (0, 81)) := by
  unfold sortT has at *
  by_cases h1 : t.f0 = 1
  · simp [h1]
  · rw [if_neg h1] at h ⊢
    rw [decide_eq_false h1, Bool.false_or, if_neg h1]
    rcases hs t.f1 with e | e
    · rw [e]
      cases hk : seek env t.f1 with
      | none => rfl
      | some s => rfl
    · rw [e]; rfl
theorem names_two (p : ByteArray → Bool) (t u : S47) : (names [t, u]).all p = ((decide (t.f0 = 1) || p t.f1) && (decide (u.f0 = 1) || p u.f1)) := by
  unfold names
  by_cases h1 : t.f0 = 1 <;> by_cases h2 : u.f0 = 1 <;> simp [h1, h2]
theorem first_less {x : S26} (h : Fm x) : ∀ (env env' : List S42), (∀ nm, seek env' nm = seek env nm ∨ seek env' nm = none) → first x env = 0 → first x env' = if (free x).all (has env') then 0 else 81 := by
  induction h with
  | const hk =>
    intro env env' _ _
    rw [first_const hk, free_all]; rfl
  | @atom k ts h1 h2 h3 =>
    intro env env' hs hf
    have ha : Sp.atom k = true := by simp [Sp.atom]; omega
    obtain ⟨t, u, rfl, _, _⟩ := two_of ha h3
    rw [free_all, first_atom h1 h2]
    rw [first_atom h1 h2] at hf
    simp only [rd_T47, List.getD] at hf ⊢
    show atomT env' k t u = _
    replace hf : atomT env k t u = 0 := hf
    have e : ((names [t, u]).all (fun s => has [] s || has env' s) && (frees []).all fun s => has [] s || has env' s) = ((decide (t.f0 = 1) || has env' t.f1) && (decide (u.f0 = 1) || has env' u.f1)) := by
      rw [names_two]; simp [frees, has, seek]
    rw [e]
    have o1 : ofT env t (asked k).1 = 0 := Decidable.byContradiction fun hn => by unfold atomT at hf; rw [if_neg hn] at hf; exact hn hf
    have o2 : ofT env u (asked k).2 = 0 := by unfold atomT at hf; rw [if_pos o1] at hf; exact hf
    have s1 : (sortT env t).2 = 0 := Decidable.byContradiction fun hn => by unfold ofT at o1; rw [if_neg hn] at o1; exact hn o1
    have s2 : (sortT env u).2 = 0 := Decidable.byContradiction fun hn => by unfold ofT at o2; rw [if_neg hn] at o2; exact hn o2
    have l1 := sortT_less hs t s1
    have l2 := sortT_less hs u s2
    unfold atomT
    cases c1 : (decide (t.f0 = 1) || has env' t.f1)
    · rw [c1] at l1
      have : ofT env' t (asked k).1 = 81 := by unfold ofT; rw [l1]; rfl
      rw [this]; rfl
    · rw [c1] at l1
      have : ofT env' t (asked k).1 = 0 := by unfold ofT at o1 ⊢; rw [l1]; exact o1
      rw [if_pos this]
      cases c2 : (decide (u.f0 = 1) || has env' u.f1)
      · rw [c2] at l2
        unfold ofT; rw [l2]; rfl
      · rw [c2] at l2
        unfold ofT at o2 ⊢; rw [l2]; exact o2
  | @cmp nm ts h1 h2 =>
    intro env env' hs hf
    obtain ⟨t, u, rfl, _, _⟩ := two_of (by rfl) h2
    rw [free_all, first_cmp]
    rw [first_cmp] at hf
    show cmpT env' nm t u = _
    replace hf : cmpT env nm t u = 0 := hf
    have e : ((names [t, u]).all (fun s => has [] s || has env' s) && (frees []).all fun s => has [] s || has env' s) = ((decide (t.f0 = 1) || has env' t.f1) && (decide (u.f0 = 1) || has env' u.f1)) := by
      rw [names_two]; simp [frees, has, seek]
    rw [e]
    have s1 : (sortT env t).2 = 0 := Decidable.byContradiction fun hn => by unfold cmpT at hf; rw [if_neg hn] at hf; exact hn hf
    have s2 : (sortT env u).2 = 0 := Decidable.byContradiction fun hn => by unfold cmpT at hf; rw [if_pos s1, if_neg hn] at hf; exact hn hf
    have l1 := sortT_less hs t s1
    have l2 := sortT_less hs u s2
    unfold cmpT at hf ⊢
    cases c1 : (decide (t.f0 = 1) || has env' t.f1)
    · rw [c1] at l1
      rw [l1]; rfl
    · rw [c1] at l1
      cases c2 : (decide (u.f0 = 1) || has env' u.f1)
      · rw [c2] at l2
        rw [l1, l2, if_pos rfl, if_pos s1]; rfl
      · rw [c2] at l2
        rw [l1, l2, if_pos rfl, if_pos rfl]; exact hf
  | @not y _ ih =>
    intro env env' hs hf
    rw [first_not] at hf ⊢
    rw [free_all, ih env env' hs hf]
    simp [names, frees, has_nil]
  | @two k y z hk _ _ i1 i2 =>
    intro env env' hs hf
    rw [first_two (by omega)] at hf ⊢
    have h1 : first y env = 0 := Decidable.byContradiction fun hn => by rw [if_neg hn] at hf; exact hn hf
    rw [if_pos h1] at hf
    rw [free_all, i1 env env' hs h1, i2 env env' hs hf]
    have e : ((names []).all (fun s => has [] s || has env' s) && (frees [y, z]).all fun s => has [] s || has env' s) = ((free y).all (has env') && (free z).all (has env')) := by
      simp [names, frees, has_nil]
    rw [e]
    cases (free y).all (has env') <;> cases (free z).all (has env') <;> rfl
  | @imp y z _ _ i1 i2 =>
    intro env env' hs hf
    rw [first_two (by omega)] at hf ⊢
    have h1 : first y env = 0 := Decidable.byContradiction fun hn => by rw [if_neg hn] at hf; exact hn hf
    rw [if_pos h1] at hf
    rw [free_all, i1 env env' hs h1, i2 env env' hs hf]
    have e : ((names []).all (fun s => has [] s || has env' s) && (frees [y, z]).all fun s => has [] s || has env' s) = ((free y).all (has env') && (free z).all (has env')) := by
      simp [names, frees, has_nil]
    rw [e]
    cases (free y).all (has env') <;> cases (free z).all (has env') <;> rfl
  | @quant k bs y hk hb _ ih => exact fun env env' hs hf => bound_less (by omega) ih env env' hs hf
  | @count k n bs y hk h0 hm hb _ ih => exact fun env env' hs hf => bound_less (by omega) ih env env' hs hf
where
  bound_less {k n : Int} {bs : List S42} {y : S26} (hk : k = 10 ∨ (14 ≤ k ∧ k ≤ 17)) (ih : ∀ (env env' : List S42), (∀ nm, seek env' nm = seek env nm ∨ seek env' nm = none) → first y env = 0 → first y env' = if (free y).all (has env') then 0 else 81)
      (env env' : List S42) (hs : ∀ nm, seek env' nm = seek env nm ∨ seek env' nm = none) (hf : first ⟨k, e0, n, [], bs, [y]⟩ env = 0) : first ⟨k, e0, n, [], bs, [y]⟩ env' = if (free ⟨k, e0, n, [], bs, [y]⟩).all (has env') then 0 else 81 := by
    rw [first_one hk] at hf ⊢
    cases hfr : fresh env bs
    · rw [hfr] at hf; cases hf
    · rw [hfr, if_pos rfl] at hf
      rw [fresh_split, Bool.and_eq_true, List.all_eq_true] at hfr
      have hle : ∀ nm, has env nm = false → has env' nm = false := fun nm hn => by
        unfold has at hn ⊢
        rcases hs nm with e | e <;> rw [e]
        · exact hn
        · rfl
      have hfr' : fresh env' bs = true := by
        rw [fresh_split, Bool.and_eq_true, List.all_eq_true]
        exact ⟨fun b hb => by have := hfr.1 b hb; simp only [Bool.not_eq_true'] at this ⊢; exact hle _ this, hfr.2⟩
      rw [hfr', if_pos rfl, free_all, ih (env ++ bs) (env' ++ bs) (fun nm => ?_) hf]
      · have e : ((names []).all (fun s => has bs s || has env' s) && (frees [y]).all fun s => has bs s || has env' s) = (free y).all (has (env' ++ bs)) := by
          have e2 : (has (env' ++ bs)) = fun s => has bs s || has env' s := by funext s; rw [has_append, Bool.or_comm]
          rw [e2]
          simp [names, frees]
        rw [e]
      · rw [seek_append, seek_append]
        rcases hs nm with e | e
        · rw [e]; exact .inl rfl
        · rw [e]
          cases hk : seek env nm with
          | none => exact .inl rfl
          | some s =>
            right
            have hh : has env nm = true := by unfold has; rw [hk]; rfl
            cases hbs : seek bs nm with
            | none => rfl
            | some s' =>
              exfalso
              have : has bs nm = true := by unfold has; rw [hbs]; rfl
              rw [has_any, List.any_eq_true] at this
              obtain ⟨b, hb, e⟩ := this
              have h2 := hfr.1 b hb
              rw [of_decide_eq_true e, hh] at h2
              cases h2
mutual
def named : S26 → ByteArray → Bool
  | ⟨_, _, _, ts, bs, l⟩, nm => has bs nm || (ts.any fun t => decide (t.f1 = nm)) || nameds l nm
def nameds : List S26 → ByteArray → Bool
  | [], _ => false
  | x :: l, nm => named x nm || nameds l nm
end
end Go.Proofs.YtmlcaecknocpoaaDoor.Sp
namespace Go.Proofs.YtmlcaecknocpoaaDoor.It
open Go Go.RowKit Go.Shelf Go.Proofs.YtmlcaecknocpoaaDoorW.PrintWords Go.Proofs.YtmlcaecknocpoaaDoorW.PrintLast Go.Proofs.YtmlcaecknocpoaaDoor.Pr Go.Proofs.YtmlcaecknocpoaaDoor.Sp
attribute [local go_sem] Oper.semAt_some
theorem room_of_none {F : Fence} (hd : F.depth = none) (k : Nat) : F.room k := fun d h => by rw [hd] at h; cases h
theorem round_anyDepth {F : Fence} (hd : F.depth = none) {m m' : Nat} {P : Program} {l : Nat} {f : FuncId} {tmps : Array Value} {assign body : Code} {w : World} {R : Ending → World → Prop}
    (h : RoundIn F m P l f tmps assign body w R) : RoundIn F m' P l f tmps assign body w R := ⟨h.1, fun c cs _ => h.2 c cs (room_of_none hd _)⟩
theorem yield_anyDepth {F : Fence} (hd : F.depth = none) {m : Nat} (m' : Nat) {P : Program} {l : Nat} {args : Array Value} {W : World} {R : Ending → World → Prop} (h : YieldAt F m P l args W R) : YieldAt F m' P l args W R := by
  obtain ⟨fn, tmps, assign, body, hy, hR⟩ := h
  exact ⟨fn, tmps, assign, body, hy, round_anyDepth hd hR⟩
structure At (w : World) (x : S26) (A3 : Option Addr) (c3 : Nat) (A4 : Option Addr) (c4 : Nat) (A5 : Option Addr) (c5 : Nat) : Prop where
  l3 : x.f3.length ≤ c3
  g3 : Kd.C k47 w A3 x.f3.length x.f3
  l4 : x.f4.length ≤ c4
  g4 : Kd.C k42 w A4 x.f4.length x.f4
  l5 : x.f5.length ≤ c5
  g5 : Kd.C k26 w A5 x.f5.length x.f5
theorem At.below {w w1 : World} {x : S26} {A3 : Option Addr} {c3 : Nat} {A4 : Option Addr} {c4 : Nat} {A5 : Option Addr} {c5 : Nat} (h : At w x A3 c3 A4 c4 A5 c5) (hb : Below w.heap.size w w1) : At w1 x A3 c3 A4 c4 A5 c5 :=
  ⟨h.l3, Kd.C_below h.g3 hb, h.l4, Kd.C_below h.g4 hb, h.l5, Kd.C_below h.g5 hb⟩
mutual
def nodes : S26 → List S26
  | ⟨k, nm, n, ts, bs, l⟩ => ⟨k, nm, n, ts, bs, l⟩ :: nodesL l
def nodesL : List S26 → List S26
  | [] => []
  | x :: l => nodes x ++ nodesL l
end
theorem nodesL_append (a b : List S26) : nodesL (a ++ b) = nodesL a ++ nodesL b := by
  induction a with
  | nil => rfl
  | cons x a ih => simp [nodesL, ih]
mutual
theorem nodes_length : ∀ x : S26, (nodes x).length = size x
  | ⟨_, _, _, _, _, l⟩ => by simp [nodes, size, nodesL_length l]; omega
theorem nodesL_length : ∀ l : List S26, (nodesL l).length = sizes l
  | [] => rfl
  | x :: l => by simp [nodesL, sizes, nodes_length x, nodesL_length l]
end
theorem nodes_eq (x : S26) : nodes x = x :: nodesL x.f5 := by cases x; rfl
theorem size_eq (x : S26) : size x = 1 + sizes x.f5 := by cases x; rfl
def I64 (k : Int) : Prop := (Lit.int .i64 k).wf = true
structure Own1 (x : S26) : Prop where
  k : I64 x.f0
  nm : x.f1.size ≤ 9223372036854775807
  ts : ∀ t ∈ x.f3, t.f1.size ≤ 9223372036854775807
  bs : ∀ b ∈ x.f4, b.f0.size ≤ 9223372036854775807
  n : I64 x.f2
  tk : ∀ t ∈ x.f3, I64 t.f0 ∧ I64 t.f2
  bk : ∀ b ∈ x.f4, I64 b.f1
def Deep (x : S26) : Prop := ∀ y ∈ nodes x, Own1 y
theorem nodes_mem {l : List S26} {x y : S26} (h : x ∈ l) (hy : y ∈ nodes x) : y ∈ nodesL l := by
  induction l with
  | nil => cases h
  | cons z l ih =>
    simp only [nodesL, List.mem_append]
    cases h with
    | head => exact .inl hy
    | tail _ h => exact .inr (ih h)
theorem Deep.child {x : S26} (h : Deep x) (j : Nat) (hj : j < x.f5.length) : Deep (rd_T26 x.f5 j) := fun y hy => h y (by
  rw [nodes_eq]
  refine .tail _ (nodes_mem (x := rd_T26 x.f5 j) ?_ hy)
  simp [rd_T26, List.getD, hj])
theorem Deep.self {x : S26} (h : Deep x) : Own1 x := h x (by rw [nodes_eq]; exact .head _)
structure FA (w : World) where
  x : S26
  A3 : Option Addr
  c3 : Nat
  A4 : Option Addr
  c4 : Nat
  A5 : Option Addr
  c5 : Nat
  at_ : At w x A3 c3 A4 c4 A5 c5
  ok : Deep x
def cellsOf (x : S26) (A3 : Option Addr) (c3 : Nat) (A4 : Option Addr) (c4 : Nat) (A5 : Option Addr) (c5 : Nat) : Array Value :=
  #[.int .i64 x.f0, .string x.f1, .int .i64 x.f2, .slice A3 x.f3.length c3, .slice A4 x.f4.length c4, .slice A5 x.f5.length c5]
def FA.val {w : World} (p : FA w) : Value :=
  .agg #[.int .i64 p.x.f0, .string p.x.f1, .int .i64 p.x.f2, .slice p.A3 p.x.f3.length p.c3, .slice p.A4 p.x.f4.length p.c4, .slice p.A5 p.x.f5.length p.c5]
theorem sizes_take (l : List S26) (j : Nat) (h : j < l.length) : sizes (l.take (j + 1)) = sizes (l.take j) + size (rd_T26 l j) ∧ sizes (l.take (j + 1)) ≤ sizes l := by
  induction l generalizing j with
  | nil => simp at h
  | cons x l ih =>
    cases j with
    | zero => simp [sizes, rd_T26]
    | succ j =>
      have := ih j (by simpa using h)
      have e : rd_T26 (x :: l) ((j + 1 : Nat) : Int) = rd_T26 l j := by simp [rd_T26]
      rw [e]
      simp only [List.take_succ_cons, sizes]
      omega
theorem nodesL_take (l : List S26) (j : Nat) (h : j < l.length) : nodesL (l.take (j + 1)) = nodesL (l.take j) ++ nodes (rd_T26 l j) := by
  have e : l.take (j + 1) = l.take j ++ [rd_T26 l j] := by
    rw [List.take_succ_eq_append_getElem h]
    simp [rd_T26, List.getD, h]
  rw [e, nodesL_append]
  simp [nodesL]
structure Kp (n₀ B₀ : Nat) (A B : World) : Prop where
  below : Below n₀ A B
  size : A.heap.size ≤ B.heap.size
  cells : ∀ k cs t fr, B₀ ≤ k → A.heap[k]? = some (.cells cs t fr) → B.heap[k]? = some (.cells cs t fr)
theorem Kp.refl (n₀ B₀ : Nat) (A : World) : Kp n₀ B₀ A A := ⟨Below.refl _ _, Nat.le_refl _, fun _ _ _ _ _ h => h⟩
theorem Kp.trans {n₀ B₀ : Nat} {A B C : World} (h : Kp n₀ B₀ A B) (k : Kp n₀ B₀ B C) : Kp n₀ B₀ A C :=
  ⟨h.below.trans k.below, Nat.le_trans h.size k.size, fun i cs t fr hi hc => k.cells i cs t fr hi (h.cells i cs t fr hi hc)⟩
theorem Kp.put {n₀ B₀ : Nat} {w : World} (hn : n₀ ≤ w.heap.size) (W : World) (l : Nat) (o o' : Obj) (hl : w.heap.size ≤ l) (h : W.heap[l]? = some o) (hc : o.isCells = false) (hw : o.isWalk = false) : Kp n₀ B₀ W (W.putObj l o') :=
  ⟨belowK_b hn W l o o' hl h hc hw, by simp, fun k cs t fr _ hk => by
    rw [World.putObj_heap_other (fun e => by subst e; rw [h] at hk; cases hk; simp [Obj.isCells] at hc)]
    exact hk⟩
theorem Kp.of_below {n₀ B₀ : Nat} {A B : World} (hn : n₀ ≤ A.heap.size) (h : Below A.heap.size A B) : Kp n₀ B₀ A B :=
  ⟨h.mono hn, h.size, fun k cs t fr _ hk => by
    have hlt := (Array.getElem?_eq_some_iff.1 hk).1
    rw [h.block k hlt]
    exact hk⟩
theorem Kp.alloc {n₀ B₀ : Nat} {A : World} (hn : n₀ ≤ A.heap.size) (o : Obj) : Kp n₀ B₀ A (A.alloc o) := Kp.of_below hn ((Below.refl _ _).alloc (Nat.le_refl _) _)
theorem Kp.setCell {n₀ B₀ : Nat} {A : World} (p : Addr) (hp : n₀ ≤ p.block) (hB : p.block < B₀) (v : Value) : Kp n₀ B₀ A (A.setCell p v) :=
  ⟨(Below.refl _ _).setCell hp _, by simp, fun k cs t fr hk hc => by
    rw [Below.heap_setCell A p v k (by omega)]
    exact hc⟩
theorem heap_new (W : World) (o : Obj) : (W.alloc o).heap[W.heap.size]? = some o := World.alloc_heap_new W o
theorem At.child {w : World} {x : S26} {A3 : Option Addr} {c3 : Nat} {A4 : Option Addr} {c4 : Nat} {A5 : Option Addr} {c5 : Nat} (h : At w x A3 c3 A4 c4 A5 c5) {W : World} (hb : Below w.heap.size w W) (j : Nat) (hj : j < x.f5.length) :
    ∃ ad B3 d3 B4 d4 B5 d5, A5 = some ad ∧ At w (rd_T26 x.f5 j) B3 d3 B4 d4 B5 d5 ∧ W.cell? (ad.add (j * 6)) = some (.int .i64 (rd_T26 x.f5 j).f0) ∧ W.cell? ⟨(ad.add (j * 6)).block, (ad.add (j * 6)).off + 1, none⟩ = some (.string (rd_T26 x.f5 j).f1) ∧
      W.cell? ⟨(ad.add (j * 6)).block, (ad.add (j * 6)).off + 2, none⟩ = some (.int .i64 (rd_T26 x.f5 j).f2) ∧ W.cell? ⟨(ad.add (j * 6)).block, (ad.add (j * 6)).off + 3, none⟩ = some (.slice B3 (rd_T26 x.f5 j).f3.length d3) ∧
      W.cell? ⟨(ad.add (j * 6)).block, (ad.add (j * 6)).off + 4, none⟩ = some (.slice B4 (rd_T26 x.f5 j).f4.length d4) ∧ W.cell? ⟨(ad.add (j * 6)).block, (ad.add (j * 6)).off + 5, none⟩ = some (.slice B5 (rd_T26 x.f5 j).f5.length d5) := by
  obtain ⟨ad, B3, d3, B4, d4, B5, d5, e, h0, h1, h2, h3, h4, h5, l3, g3, l4, g4, l5, g5⟩ := at_T26 h.g5 (j : Int) (by omega) (by omega)
  have up : ∀ {a : Addr} {v : Value}, w.cell? a = some v → W.cell? a = some v := fun hc => (hb.cell (World.block_lt_of_cell? w _ hc)).trans hc
  exact ⟨ad, B3, d3, B4, d4, B5, d5, e, ⟨l3, g3, l4, g4, l5, g5⟩, up h0, up h1, up h2, up h3, up h4, up h5⟩
set_option maxRecDepth 100000 in
set_option maxHeartbeats 4000000 in
theorem walkIn (F : Fence) (hd : F.depth = none) (h79 : F.fn 79) (hro : F.round = none) (l B₀ N : Nat) (w0 : World) (hB0 : w0.heap.size ≤ B₀) (J Jx : List (FA w0) → World → Prop) (hJ : ∀ pre W o, J pre W → J pre (World.alloc W o))
    (hY : ∀ m pre p W, J pre W → pre.length < N → YieldAt F m Tryd.prog l #[p.val] W fun e W' =>
      (e = .returned (.bool true) ∧ J (pre ++ [p]) W' ∧ Kp w0.heap.size B₀ W W') ∨ (e = .returned (.bool false) ∧ Jx (pre ++ [p]) W')) :
    ∀ (s : Nat) (p : FA w0), size p.x ≤ s → ∀ (n : Nat) (pre : List (FA w0)) (W : World), Below w0.heap.size w0 W → B₀ ≤ W.heap.size → J pre W → pre.length + size p.x ≤ N →
      CallsIn F n Tryd.prog 79 #[p.val, .func (.yield l) #[] #[]] W fun e W' =>
        (e = .returned (.bool true) ∧ (∃ q, q.map (·.x) = nodes p.x ∧ J (pre ++ q) W') ∧ Kp w0.heap.size B₀ W W') ∨
        (e = .returned (.bool false) ∧ ∃ q, q.map (·.x) <+: nodes p.x ∧ Jx (pre ++ q) W') := by
  intro s
  induction s with
  | zero => intro p hp; rw [size_eq] at hp; omega
  | succ s ih =>
    rintro ⟨x, A3, c3, A4, c4, A5, c5, hat, hok⟩ hs n pre W hW hBW hJ0 hN
    have hdd : ∀ k : Nat, (F.depth.isSome = true → 1 ≤ k) := fun k h => by rw [hd] at h; cases h
    have hlen5 : x.f5.length ≤ 9223372036854775807 := hat.g5.2.1
    have hj1 : J pre (W.alloc (.cells #[.int .i64 x.f0, .string x.f1, .int .i64 x.f2, .slice A3 x.f3.length c3, .slice A4 x.f4.length c4, .slice A5 x.f5.length c5] 26)) :=
      hJ pre W _ hJ0
    have hK1 : Kp w0.heap.size B₀ W (W.alloc (.cells #[.int .i64 x.f0, .string x.f1, .int .i64 x.f2, .slice A3 x.f3.length c3, .slice A4 x.f4.length c4, .slice A5 x.f5.length c5] 26)) := Kp.alloc (by omega) _
    have hb1 := heap_new W (.cells #[.int .i64 x.f0, .string x.f1, .int .i64 x.f2, .slice A3 x.f3.length c3, .slice A4 x.f4.length c4, .slice A5 x.f5.length c5] 26)
    have hy := (hY (n - 1) pre ⟨x, A3, c3, A4, c4, A5, c5, hat, hok⟩ _ hj1 (by simp only [size_eq] at hN; omega)).mono (R' := fun e W2 =>
      (e = .returned (.bool true) ∧ Aside0 (J (pre ++ [⟨x, A3, c3, A4, c4, A5, c5, hat, hok⟩]) W2 ∧ Kp w0.heap.size B₀ W W2) ∧ W2.cell? ⟨W.heap.size, 5, none⟩ = some (.slice A5 x.f5.length c5)) ∨ (e = .returned (.bool false) ∧ Aside0 (Jx (pre ++ [⟨x, A3, c3, A4, c4, A5, c5, hat, hok⟩]) W2)))
      (fun e W2 h => h.elim (fun ⟨he, hj, hk⟩ => .inl ⟨he, ⟨hj, hK1.trans hk⟩, (blk_cell (hk.cells _ _ _ _ hBW hb1) 5).trans rfl⟩) (fun ⟨he, hj⟩ => .inr ⟨he, ⟨hj⟩⟩))
    obtain ⟨fn, tmps, assign, body, hy, hR⟩ := hy
    dsimp only [FA.val] at hy
    have HW := Aside0.mk hW
    have HN := Aside0.mk hN
    clear hj1 hK1 hb1 hJ0 hW hN
    dsimp only [FA.val]
    refine callsIn_of_wp Tryd.func79 rfl h79 ?_ hro
    simp only [Tryd.ntmps79, List.size_toArray, List.length_cons, List.length_nil, Nat.reduceAdd, Nat.reduceSub, Array.replicate_succ, Array.replicate_zero, List.push_toArray, List.append_toArray, List.nil_append, List.cons_append]
    gi_wp2_with ((try refine ⟨hdd _, ?_⟩); refine hR.mono ?_; clear hR; rintro e W2 (⟨rfl, hJK2, c52⟩ | ⟨rfl, hx2⟩))
    · gi_loopw [14] (fun v wr => ∃ (j : Nat) (q : List (FA w0)), j ≤ x.f5.length ∧ v = .int .i64 j ∧ Aside0 (q.map (·.x) = nodesL (x.f5.take j) ∧ J (pre ++ [⟨x, A3, c3, A4, c4, A5, c5, hat, hok⟩] ++ q) wr ∧ Kp w0.heap.size B₀ W wr))
        (fun v _ => x.f5.length - (intOf v).toNat)
      case atStart => exact ⟨0, [], Nat.zero_le _, rfl, ⟨rfl, by simpa using hJK2.out.1, hJK2.out.2⟩⟩
      case round =>
        obtain ⟨j, q, hj, rfl, HJ⟩ := hrel
        by_cases hlt : j < x.f5.length
        · have hbw := HW.out.trans HJ.out.2.2.below
          obtain ⟨ad, B3, d3, B4, d4, B5, d5, rfl, hat', k0, k1, k2, k3, k4, k5⟩ := hat.child hbw j hlt
          have hst := sizes_take x.f5 j hlt
          have hsz := size_eq x
          have hlq : q.length = sizes (x.f5.take j) := by rw [← nodesL_length, ← HJ.out.1, List.length_map]
          have hwr : B₀ ≤ wr.heap.size := Nat.le_trans hBW HJ.out.2.2.size
          have hih := ih ⟨rd_T26 x.f5 j, B3, d3, B4, d4, B5, d5, hat', hok.child j hlt⟩ (by simp only; omega) (n - 1) (pre ++ [⟨x, A3, c3, A4, c4, some ad, c5, hat, hok⟩] ++ q)
            (wr.alloc (.cells #[.int .i64 (rd_T26 x.f5 j).f0, .string (rd_T26 x.f5 j).f1, .int .i64 (rd_T26 x.f5 j).f2, .slice B3 (rd_T26 x.f5 j).f3.length d3, .slice B4 (rd_T26 x.f5 j).f4.length d4, .slice B5 (rd_T26 x.f5 j).f5.length d5] 26))
            (hbw.trans ((Below.refl _ _).alloc (by omega) _)) (by simp; omega) (hJ _ wr _ HJ.out.2.1)
            (by have := HN.out; simp only [List.length_append, List.length_cons, List.length_nil]; omega)
          have HKA := Aside0.mk (HJ.out.2.2.trans (Kp.alloc (n₀ := w0.heap.size) (B₀ := B₀) (by omega) (.cells #[.int .i64 (rd_T26 x.f5 j).f0, .string (rd_T26 x.f5 j).f1, .int .i64 (rd_T26 x.f5 j).f2, .slice B3 (rd_T26 x.f5 j).f3.length d3, .slice B4 (rd_T26 x.f5 j).f4.length d4, .slice B5 (rd_T26 x.f5 j).f5.length d5] 26)))
          dsimp only [FA.val] at hih
          replace hih := Aside0.mk hih
          have HST := Aside0.mk (And.intro hst (And.intro hsz hlq))
          clear hst hsz hlq hbw hat'
          gi_wp2_with ((try refine ⟨hdd _, ?_⟩); gi_at_call 79; refine hih.out.mono ?_; clear hih; rintro e W3 (⟨rfl, hq3, hk3⟩ | ⟨rfl, hx3⟩))
          · go_roundw
            case rel =>
              obtain ⟨q', hq', hJ3⟩ := hq3
              exact ⟨j + 1, q ++ q', by omega, by go_num, ⟨by rw [List.map_append, HJ.out.1, hq', nodesL_take x.f5 j hlt], by simpa [List.append_assoc] using hJ3, HKA.out.trans hk3⟩⟩
            case measure => simp [intOf]; omega
          · go_ret
            obtain ⟨q', ⟨r, hr⟩, hJ3⟩ := hx3
            refine .inr ⟨rfl, ⟨x, A3, c3, A4, c4, some ad, c5, hat, hok⟩ :: (q ++ q'), ?_, by simpa [List.append_assoc] using hJ3⟩
            refine ⟨r ++ nodesL (x.f5.drop (j + 1)), ?_⟩
            rw [nodes_eq, List.map_cons, List.map_append, HJ.out.1]
            have e := nodesL_append (x.f5.take (j + 1)) (x.f5.drop (j + 1))
            rw [List.take_append_drop, nodesL_take x.f5 j hlt, ← hr] at e
            rw [e]
            simp
        · have he : j = x.f5.length := by omega
          subst he
          clear hj
          gi_wp2
          go_ret
          refine .inl ⟨rfl, ⟨⟨x, A3, c3, A4, c4, A5, c5, hat, hok⟩ :: q, ?_, by simpa [List.append_assoc] using HJ.out.2.1⟩, HJ.out.2.2⟩
          rw [nodes_eq, List.map_cons, HJ.out.1, List.take_length]
    · gi_wp2
      go_ret
      refine .inr ⟨rfl, [⟨x, A3, c3, A4, c4, A5, c5, hat, hok⟩], ?_, hx2.out⟩
      rw [nodes_eq]
      exact ⟨nodesL x.f5, rfl⟩
set_option maxHeartbeats 2000000 in
theorem all1_stops (F : Fence) (hd : F.depth = none) (n : Nat) (h78 : F.fn 78) (h79 : F.fn 79) (hro : F.round = none) (w0 : World) (p : FA w0) (Bf : Nat) (w : World) (hw : Below w0.heap.size w0 w) (hBf : Bf < w.heap.size)
    (hc : w.heap[Bf]? = some (.cells #[.int .i64 p.x.f0, .string p.x.f1, .int .i64 p.x.f2, .slice p.A3 p.x.f3.length p.c3, .slice p.A4 p.x.f4.length p.c4, .slice p.A5 p.x.f5.length p.c5] 26 (0, 0))) :
    SeqStopsK F n Tryd.prog 78 #[.pointer (some ⟨Bf, 0, none⟩)] (fun q : FA w0 => #[q.val]) (Kp w0.heap.size w.heap.size) (fun ys => ys.map (·.x) = nodes p.x) (fun pre => pre.map (·.x) <+: nodes p.x) (size p.x) w := by
  intro l J Jx W hW hJ hJx hY h0
  obtain ⟨x, A3, c3, A4, c4, A5, c5, hat, hok⟩ := p
  have hdd : ∀ k : Nat, (F.depth.isSome = true → 1 ≤ k) := fun k h => by rw [hd] at h; cases h
  have hwk := walkIn F hd h79 hro l w.heap.size (size x) w0 hw.size J Jx (fun pre W' o hj => hJ pre W' _ none hj (World.grownBy_alloc W' o none) (fun r e => by cases e))
    (fun m pre q W' hj hl => yield_anyDepth hd m (hY pre q W' hj hl)) (size x) ⟨x, A3, c3, A4, c4, A5, c5, hat, hok⟩ (Nat.le_refl _) (n - 1) [] W (hw.trans (hW.mono hw.size)) hW.size h0 (by simp)
  have hb : W.heap[Bf]? = some _ := (hW.block Bf hBf).trans hc
  have b0 := blk_cell hb 0
  have b1 := blk_cell hb 1
  have b2 := blk_cell hb 2
  have b3 := blk_cell hb 3
  have b4 := blk_cell hb 4
  have b5 := blk_cell hb 5
  simp only [List.getElem?_toArray, List.getElem?_cons_zero, List.getElem?_cons_succ] at b0 b1 b2 b3 b4 b5
  clear hb hc
  dsimp only [FA.val] at hwk
  replace hwk := Aside0.mk hwk
  refine callsIn_of_wp Tryd.func78 rfl h78 ?_ hro
  simp only [Tryd.ntmps78, List.size_toArray, List.length_cons, List.length_nil, Nat.reduceAdd, Nat.reduceSub, Array.replicate_succ, Array.replicate_zero, List.push_toArray, List.append_toArray, List.nil_append, List.cons_append]
  gi_wp2_with ((try refine ⟨hdd _, ?_⟩); gi_at_call 79; refine hwk.out.mono ?_; clear hwk; rintro e W1 (⟨rfl, ⟨q, hq, hJ1⟩, _⟩ | ⟨rfl, q, hq, hx⟩))
  · go_end0
    exact ⟨⟨_, rfl⟩, .inl ⟨q, hq, by simpa using hJ1⟩⟩
  · go_end0
    exact ⟨⟨_, rfl⟩, .inr ⟨q, hq, by simpa using hx⟩⟩
theorem all_in (F : Fence) (n : Nat) (h52 : F.fn 52) (hro : F.round = none) (cs : Array Value) (x : S26) (A3 : Option Addr) (c3 : Nat) (A4 : Option Addr) (c4 : Nat) (A5 : Option Addr) (c5 : Nat) (w : World)
    (hcs : cs = #[.int .i64 x.f0, .string x.f1, .int .i64 x.f2, .slice A3 x.f3.length c3, .slice A4 x.f4.length c4, .slice A5 x.f5.length c5]) :
    CallsIn F n Tryd.prog 52 #[.agg cs] w fun e w' => e = .returned (.func (.func 78) #[] #[.pointer (some ⟨w.heap.size, 0, none⟩)]) ∧ w' = w.alloc (.cells cs 26) := by
  subst hcs
  refine callsIn_of_wp Tryd.func52 rfl h52 ?_ hro
  simp only [Tryd.ntmps52, List.size_toArray, List.length_cons, List.length_nil, Nat.reduceAdd, Nat.reduceSub, Array.replicate_succ, Array.replicate_zero, List.push_toArray, List.append_toArray, List.nil_append, List.cons_append]
  gi_wp2
  go_ret
  exact ⟨rfl, rfl⟩
end Go.Proofs.YtmlcaecknocpoaaDoor.It
namespace Go.Proofs.YtmlcaecknocpoaaDoor.It
open Go Go.RowKit Go.Proofs.YtmlcaecknocpoaaDoorW.PrintWords Go.Proofs.YtmlcaecknocpoaaDoor.Pr Go.Proofs.YtmlcaecknocpoaaDoor.Sp
def dualOf (k : Int) : Int := if k = 1 then 2 else if k = 2 then 1 else if k = 11 then 12 else if k = 12 then 11 else if k = 14 then 15 else if k = 15 then 14 else if k = 16 then 17 else if k = 17 then 16 else 0
structure Tabs (w : World) : Prop where
  arity : ∃ b, w.cell? ⟨0, 0, none⟩ = some (.map (some b)) ∧ ∀ W, Below w.heap.size w W → ∀ k, I64 k → (Instr.lookup 85 (.map (some b)) (.int .i64 k) true).run Tryd.prog W = .ok (.tuple #[.int .i64 ((Sp.arity k).getD 0), .bool (Sp.arity k).isSome]) W
  signs : ∃ b, w.cell? ⟨1, 0, none⟩ = some (.map (some b)) ∧ ∀ W, Below w.heap.size w W → ∀ s : ByteArray, s.size ≤ maxLen → (Instr.lookup 87 (.map (some b)) (.string s) false).run Tryd.prog W = .ok (.string (Sp.sign s)) W
  reserved : ∃ b, w.cell? ⟨5, 0, none⟩ = some (.map (some b)) ∧ ∀ W, Below w.heap.size w W → ∀ s : ByteArray, s.size ≤ maxLen → (Instr.lookup 79 (.map (some b)) (.string s) false).run Tryd.prog W = .ok (.bool (Sp.reserved.contains s.data.toList)) W
def Duals (w : World) : Prop := ∃ b, w.cell? ⟨2, 0, none⟩ = some (.map (some b)) ∧ ∀ W, Below w.heap.size w W → ∀ k, I64 k → (Instr.lookup 85 (.map (some b)) (.int .i64 k) false).run Tryd.prog W = .ok (.int .i64 (dualOf k)) W
theorem up_cell {w w1 : World} (hb : Below w.heap.size w w1) {a : Addr} {v : Value} (h : w.cell? a = some v) : w1.cell? a = some v := (hb.cell (World.block_lt_of_cell? w _ h)).trans h
theorem Tabs.below {w w1 : World} (h : Tabs w) (hb : Below w.heap.size w w1) : Tabs w1 := by
  obtain ⟨⟨b0, c0, l0⟩, ⟨b1, c1, l1⟩, ⟨b2, c2, l2⟩⟩ := h
  exact ⟨⟨b0, up_cell hb c0, fun W hW => l0 W (hb.trans (hW.mono hb.size))⟩, ⟨b1, up_cell hb c1, fun W hW => l1 W (hb.trans (hW.mono hb.size))⟩, ⟨b2, up_cell hb c2, fun W hW => l2 W (hb.trans (hW.mono hb.size))⟩⟩
theorem Duals.below {w w1 : World} (h : Duals w) (hb : Below w.heap.size w w1) : Duals w1 := by
  obtain ⟨b0, c0, l0⟩ := h
  exact ⟨b0, up_cell hb c0, fun W hW => l0 W (hb.trans (hW.mono hb.size))⟩
end Go.Proofs.YtmlcaecknocpoaaDoor.It
namespace Go.Proofs
open Go.Shelf
def Tryd.lays160_ren : Go.Shelf.Ren := ⟨fun | 160 => 111 | 232 => 119 | 231 => 118 | 227 => 120 | 234 => 122 | 233 => 121 | 236 => 124 | 235 => 123 | 228 => 125 | 271 => 128 | 151 => 127 | 197 => 126 | 120 => 131 | 152 => 130 | 260 => 129 | 137 => 132 | 119 => 133 | 224 => 134 | 225 => 135 | 217 => 136 | 266 => 137 | n => n, fun | 9 => 9 | 4 => 4 | 3 => 3 | 5 => 5 | 117 => 118 | 116 => 117 | 0 => 0 | 124 => 121 | 21 => 21 | 105 => 123 | 46 => 128 | 119 => 127 | 139 => 131 | 138 => 130 | n => n, fun | 3 => 6 | 4 => 7 | n => n⟩
theorem Tryd.lays160 : Go.Proofs.Lays.n160 Tryd.prog Tryd.lays160_ren := {
  mixed := by kernel_rfl
  f119 := Tryd.func133.trans (congrArg some (by kernel_rfl))
  f120 := Tryd.func131.trans (congrArg some (by kernel_rfl))
  f137 := Tryd.func132.trans (congrArg some (by kernel_rfl))
  f151 := Tryd.func127.trans (congrArg some (by kernel_rfl))
  f152 := Tryd.func130.trans (congrArg some (by kernel_rfl))
  f160 := Tryd.func111.trans (congrArg some (by kernel_rfl))
  f197 := Tryd.func126.trans (congrArg some (by kernel_rfl))
  f217 := Tryd.func136.trans (congrArg some (by kernel_rfl))
  f224 := Tryd.func134.trans (congrArg some (by kernel_rfl))
  f225 := Tryd.func135.trans (congrArg some (by kernel_rfl))
  f227 := Tryd.func120.trans (congrArg some (by kernel_rfl))
  f228 := Tryd.func125.trans (congrArg some (by kernel_rfl))
  f231 := Tryd.func118.trans (congrArg some (by kernel_rfl))
  f232 := Tryd.func119.trans (congrArg some (by kernel_rfl))
  f233 := Tryd.func121.trans (congrArg some (by kernel_rfl))
  f234 := Tryd.func122.trans (congrArg some (by kernel_rfl))
  f235 := Tryd.func123.trans (congrArg some (by kernel_rfl))
  f236 := Tryd.func124.trans (congrArg some (by kernel_rfl))
  f260 := Tryd.func129.trans (congrArg some (by kernel_rfl))
  f266 := Tryd.func137.trans (congrArg some (by kernel_rfl))
  f271 := Tryd.func128.trans (congrArg some (by kernel_rfl))
  t0 := Tryd.underlying0
  a0 := Tryd.isAgg0
  z0 := Tryd.sizeOf0
  v0 := Tryd.zeroValue0
  t3 := Tryd.underlying3
  a3 := Tryd.isAgg3
  z3 := Tryd.sizeOf3
  v3 := Tryd.zeroValue3
  t4 := Tryd.underlying4
  a4 := Tryd.isAgg4
  z4 := Tryd.sizeOf4
  v4 := Tryd.zeroValue4
  t5 := Tryd.underlying5
  a5 := Tryd.isAgg5
  z5 := Tryd.sizeOf5
  v5 := Tryd.zeroValue5
  t9 := Tryd.underlying9
  a9 := Tryd.isAgg9
  z9 := Tryd.sizeOf9
  v9 := Tryd.zeroValue9
  t21 := Tryd.underlying21
  a21 := Tryd.isAgg21
  z21 := Tryd.sizeOf21
  v21 := Tryd.zeroValue21
  t46 := Tryd.underlying128
  a46 := Tryd.isAgg128
  z46 := Tryd.sizeOf128
  v46 := Tryd.zeroValue128
  t105 := Tryd.underlying123
  a105 := Tryd.isAgg123
  z105 := Tryd.sizeOf123
  v105 := Tryd.zeroValue123
  t116 := Tryd.underlying117
  a116 := Tryd.isAgg117
  z116 := Tryd.sizeOf117
  t117 := Tryd.underlying118
  a117 := Tryd.isAgg118
  z117 := Tryd.sizeOf118
  v117 := Tryd.zeroValue118
  t119 := Tryd.underlying127
  a119 := Tryd.isAgg127
  z119 := Tryd.sizeOf127
  t124 := Tryd.underlying121
  a124 := Tryd.isAgg121
  z124 := Tryd.sizeOf121
  v124 := Tryd.zeroValue121
  t138 := Tryd.underlying130
  a138 := Tryd.isAgg130
  z138 := Tryd.sizeOf130
  v138 := Tryd.zeroValue130
  t139 := Tryd.underlying131
  a139 := Tryd.isAgg131
  z139 := Tryd.sizeOf131
  v139 := Tryd.zeroValue131
  g3 := by kernel_rfl
  g4 := by kernel_rfl }
end Go.Proofs
namespace Go.Proofs.YtmlcaecknocpoaaDoor.It
open Go Go.RowKit Go.Shelf Go.Proofs.YtmlcaecknocpoaaDoorW.PrintWords Go.Proofs.YtmlcaecknocpoaaDoor.Pr Go.Proofs.YtmlcaecknocpoaaDoor.Sp
def cutset : List UInt8 := [97, 98, 99, 100, 101, 102, 103, 104, 105, 106, 107, 108, 109, 110, 111, 112, 113, 114, 115, 116, 117, 118, 119, 120, 121, 122, 48, 49, 50, 51, 52, 53, 54, 55, 56, 57, 95]
theorem all_u8 {p : UInt8 → Prop} (h : ∀ n : Fin 256, p (UInt8.ofFin n)) (c : UInt8) : p c := h c.toFin
theorem cutset_word (c : UInt8) : cutset.contains c = wordC c :=
  all_u8 (p := fun c => cutset.contains c = wordC c) (by decide +kernel) c
theorem dropWhile_nil (p : UInt8 → Bool) : ∀ l : List UInt8, (l.dropWhile p = [] ↔ l.all p = true)
  | [] => by simp
  | c :: l => by
    by_cases h : p c = true
    · simp [List.dropWhile, h, dropWhile_nil p l]
    · simp [List.dropWhile, h]
theorem trim_nil (l : List UInt8) : (Lib.trimS l cutset = [] ↔ l.all wordC = true) := by
  have e : (cutset.contains ·) = wordC := funext cutset_word
  unfold Lib.trimS Lib.trimLeftS Lib.trimRightS
  rw [e, dropWhile_nil]
  have h2 := dropWhile_nil wordC l.reverse
  constructor
  · intro h
    by_cases hn : l.reverse.dropWhile wordC = []
    · have := h2.1 hn
      simpa using this
    · exfalso
      have h3 : (l.reverse.dropWhile wordC).all wordC = true := by simpa using h
      cases hd : l.reverse.dropWhile wordC with
      | nil => exact hn hd
      | cons c r =>
        have := List.head_dropWhile_not wordC hn
        simp only [hd, List.head_cons] at this
        rw [hd] at h3
        simp only [List.all_cons, Bool.and_eq_true] at h3
        rw [h3.1] at this
        exact absurd this (by decide)
  · intro h
    have : l.reverse.dropWhile wordC = [] := h2.2 (by simpa using h)
    rw [this]
    rfl
theorem name_long (s : ByteArray) (h : 64 < s.size) : name s = false := by
  unfold name
  cases e : s.data.toList with
  | nil => rfl
  | cons c r =>
    have : s.data.toList.length = s.size := Array.length_toList
    rw [e] at this
    simp only [List.length_cons] at this
    have h1 : decide (r.length ≤ 63) = false := by simp; omega
    simp [word, h1]
theorem letter_first (c : UInt8) : (wordC c && decide (97 ≤ (c.toNat : Int))) = letter c :=
  all_u8 (p := fun c => (wordC c && decide (97 ≤ (c.toNat : Int))) = letter c) (by decide +kernel) c
theorem name_tells (s : ByteArray) (c : UInt8) (r : List UInt8) (e : s.data.toList = c :: r) (h : s.size ≤ 64) (hr : reserved.contains s.data.toList = false) : name s = (decide (Lib.trimS s.data.toList cutset = []) && decide (97 ≤ (c.toNat : Int))) := by
  have hl : s.data.toList.length = s.size := Array.length_toList
  unfold name
  rw [hr, e]
  rw [e] at hl
  simp only [List.length_cons] at hl
  have h1 : decide (r.length ≤ 63) = true := by simp; omega
  have h2 : decide (Lib.trimS (c :: r) cutset = []) = (wordC c && r.all wordC) := by
    rw [Bool.eq_iff_iff, decide_eq_true_iff, trim_nil]
    simp
  rw [h2]
  simp only [word, h1, ← letter_first]
  cases wordC c <;> cases r.all wordC <;> cases decide (97 ≤ (c.toNat : Int)) <;> rfl
theorem trim_calls (s : ByteArray) (w : World) (hs : s.size ≤ 9223372036854775807) :
    Calls Tryd.prog 111 #[.string s, .string ⟨#[97, 98, 99, 100, 101, 102, 103, 104, 105, 106, 107, 108, 109, 110, 111, 112, 113, 114, 115, 116, 117, 118, 119, 120, 121, 122, 48, 49, 50, 51, 52, 53, 54, 55, 56, 57, 95]⟩] w fun e w' =>
      ∃ r : ByteArray, e = .returned (.string r) ∧ (r.toList = [] ↔ Lib.trimS s.data.toList cutset = []) ∧ Below w.heap.size w w' := by
  have h := Any.strings_Trim_laid Tryd.lays160 (by kernel_rfl) s ⟨#[97, 98, 99, 100, 101, 102, 103, 104, 105, 106, 107, 108, 109, 110, 111, 112, 113, 114, 115, 116, 117, 118, 119, 120, 121, 122, 48, 49, 50, 51, 52, 53, 54, 55, 56, 57, 95]⟩ w hs (by decide) (ascii_of_all (by decide))
  change Calls Tryd.prog 111 _ _ (fun e w' => e = .returned (.string ⟨(Lib.trimS s.data.toList cutset).toArray⟩) ∧ Below w.heap.size w w') at h
  exact h.mono fun e w' ⟨he, hb⟩ => ⟨_, he, by rw [ByteArray.toList_eq], hb⟩
set_option maxRecDepth 100000 in
set_option maxHeartbeats 1000000 in
theorem named_calls (s : ByteArray) (w : World) (hs : s.size ≤ 9223372036854775807) (ht : Tabs w) :
    Calls Tryd.prog 87 #[.string s] w fun e w' => e = .returned (.bool (name s)) ∧ Below w.heap.size w w' := by
  obtain ⟨b, hc, hl⟩ := ht.reserved
  have hlook := hl w (Below.refl _ _) s (by unfold maxLen; exact hs)
  clear hl ht
  have hsz : s.data.toList.length = s.size := Array.length_toList
  have htl : s.toList = s.data.toList := ByteArray.toList_eq s
  by_cases h0 : s.size = 0
  · have hd : s.data.toList = [] := List.length_eq_zero_iff.1 (by omega)
    have hn : name s = false := by unfold name; rw [hd]; rfl
    have hN := Aside0.mk hn
    have h1 : s.toList = [] := by rw [htl, hd]
    have h1b : s.toList.isEmpty = true := by rw [h1]; rfl
    clear hsz htl hd hn h0 hlook
    go_enter Tryd.func87, Tryd.ntmps87
    go_wp2_with fail
    go_ret
    exact ⟨by rw [hN.out]; rfl, Below.refl _ _⟩
  · have hne : ¬ s.toList = [] := by
      rw [htl]
      intro e
      rw [e] at hsz
      simp at hsz
      omega
    have hne1 : s.toList.isEmpty = false := by cases h : s.toList with | nil => exact absurd h hne | cons _ _ => rfl
    have hne2 : (!s.toList.isEmpty) = true := by rw [hne1]; rfl
    by_cases h1 : 64 < s.size
    · have hN := Aside0.mk (name_long s h1)
      have h2 : (64 : Int) < (s.size : Int) := by omega
      clear hsz htl h0 hlook h1
      go_enter Tryd.func87, Tryd.ntmps87
      go_wp2_with fail
      go_ret
      exact ⟨by rw [hN.out]; rfl, Below.refl _ _⟩
    · have h2 : (s.size : Int) ≤ 64 := by omega
      cases hr : reserved.contains s.data.toList with
      | true =>
        have hN := Aside0.mk (show name s = false by unfold name; rw [hr]; simp)
        rw [hr] at hlook
        clear hsz htl h0 h1 hr
        go_enter Tryd.func87, Tryd.ntmps87
        go_wp2_with fail
        go_ret
        exact ⟨by rw [hN.out]; rfl, Below.refl _ _⟩
      | false =>
        rw [hr] at hlook
        cases e : s.data.toList with
        | nil => exact absurd (by rw [htl, e]) hne
        | cons c r =>
          have hN := Aside0.mk (name_tells s c r e (by omega) hr)
          have hlt : 0 < s.size := by omega
          have hc0 : s[0] = c := by
            have h := Lib.data_getElem? s 0 hlt
            rw [e] at h
            simpa using h.symm
          have hT := Aside0.mk (trim_calls s w hs)
          have HC := Aside0.mk hc0
          clear hsz htl h0 h1 hr e hc0
          go_enter Tryd.func87, Tryd.ntmps87
          go_wp2_with (go_at_call 111; refine hT.out.mono ?_; clear hT; rintro e w' ⟨t, rfl, ht, hb⟩)
          all_goals
            rename_i hw
            go_ret
            refine ⟨?_, hb⟩
            rw [hN.out, ← HC.out]
            have hi : t.toList.isEmpty = decide (Lib.trimS s.data.toList cutset = []) := by
              rw [Bool.eq_iff_iff, List.isEmpty_iff, decide_eq_true_iff]
              exact ht
            refine congrArg (fun b => Ending.returned (Value.bool b)) ?_
            first | rw [hi] | (rw [decide_eq_false hw]; rfl)
end Go.Proofs.YtmlcaecknocpoaaDoor.It
namespace Go.Proofs.YtmlcaecknocpoaaDoor.It
open Go Go.RowKit Go.Shelf Go.Proofs.YtmlcaecknocpoaaDoorW.PrintWords Go.Proofs.YtmlcaecknocpoaaDoor.Pr Go.Proofs.YtmlcaecknocpoaaDoor.Sp
theorem bcell {W w1 : World} (hb : Below W.heap.size W w1) : (∀ b o, b < W.heap.size → w1.cell? ⟨b, o, none⟩ = W.cell? ⟨b, o, none⟩) ∧ (∀ b o, b < W.heap.size → w1.frozen? ⟨b, o, none⟩ = W.frozen? ⟨b, o, none⟩) :=
  ⟨fun b o h => hb.cell (p := ⟨b, o, none⟩) h, fun b o h => hb.frozen (p := ⟨b, o, none⟩) h⟩
theorem ret_bool {a b : Bool} (h : a = b) : Ending.returned (.bool a) = Ending.returned (.bool b) := by rw [h]
theorem atom_calls (k : Int) (w : World) : Calls Tryd.prog 80 #[.int .i64 k] w fun e w' => e = .returned (.bool (atom k)) ∧ w = w' := by
  go_enter Tryd.func80, Tryd.ntmps80
  go_wp2_with fail
  all_goals
    go_ret
    exact ⟨ret_bool (by simp [atom]; try omega), rfl⟩
theorem quant_calls (k : Int) (w : World) : Calls Tryd.prog 81 #[.int .i64 k] w fun e w' => e = .returned (.bool (quant k)) ∧ w = w' := by
  go_enter Tryd.func81, Tryd.ntmps81
  go_wp2_with fail
  all_goals
    go_ret
    exact ⟨ret_bool (by simp [quant]; try omega), rfl⟩
theorem counts_calls (k : Int) (w : World) : Calls Tryd.prog 82 #[.int .i64 k] w fun e w' => e = .returned (.bool (counts k)) ∧ w = w' := by
  go_enter Tryd.func82, Tryd.ntmps82
  go_wp2_with fail
  all_goals
    go_ret
    exact ⟨ret_bool (by rw [Bool.eq_iff_iff]; simp [counts, *]), rfl⟩
theorem number_calls (k : Int) (w : World) : Calls Tryd.prog 88 #[.int .i64 k] w fun e w' => e = .returned (.bool (number k)) ∧ w = w' := by
  go_enter Tryd.func88, Tryd.ntmps88
  go_wp2_with fail
  all_goals
    go_ret
    exact ⟨ret_bool (by unfold number most; rw [Bool.eq_iff_iff]; simp only [Bool.and_eq_true, decide_eq_true_iff, Bool.false_eq_true, false_iff] <;> omega), rfl⟩
theorem empty_iff (s : ByteArray) : s = ByteArray.empty ↔ s.toList = [] := by
  rw [ByteArray.toList_eq]
  constructor
  · rintro rfl; rfl
  · intro h
    have : s.data = #[] := by
      have := congrArg List.toArray h
      simpa using this
    cases s
    simp_all
    rfl
set_option maxRecDepth 100000 in
set_option maxHeartbeats 1000000 in
theorem termed_calls (t : S47) (w : World) (hs : t.f1.size ≤ 9223372036854775807) (ht : Tabs w) :
    Calls Tryd.prog 84 #[.agg #[.int .i64 t.f0, .string t.f1, .int .i64 t.f2]] w fun e w' => e = .returned (.bool (term t)) ∧ Below w.heap.size w w' := by
  have hu47 := Tryd.underlying47
  have hB := (Below.refl w.heap.size w).alloc (Nat.le_refl _) (.cells #[.int .i64 t.f0, .string t.f1, .int .i64 t.f2] 47)
  have hN := Aside0.mk (named_calls t.f1 _ hs (ht.below hB))
  replace hB := Aside0.mk hB
  clear ht
  go_enter Tryd.func84, Tryd.ntmps84
  go_wp2_with (first | (go_at_call 88; refine (number_calls _ _).mono ?_; rintro e w' ⟨rfl, rfl⟩) | (go_at_call 87; refine hN.out.mono ?_; clear hN; rintro e w' ⟨rfl, hb⟩; obtain ⟨hcc, hff⟩ := bcell hb))
  all_goals
    go_ret
    refine ⟨ret_bool ?_, ?_⟩
    · clear hB hu47
      rw [Bool.eq_iff_iff]
      simp only [term, empty_iff]
      simp_all <;> omega
    · first | exact hB.out | exact hB.out.trans (hb.mono (by simp))
end Go.Proofs.YtmlcaecknocpoaaDoor.It
namespace Go.Proofs.YtmlcaecknocpoaaDoor.It
open Go Go.RowKit Go.Shelf Go.Proofs.YtmlcaecknocpoaaDoorW.PrintWords Go.Proofs.YtmlcaecknocpoaaDoor.Pr Go.Proofs.YtmlcaecknocpoaaDoor.Sp
def idx {α : Type} (p : α → Bool) (l : List α) : Int := match l.findIdx? p with | some i => (i : Int) | none => -1
theorem idx_hit {α : Type} (p : α → Bool) (l : List α) (d : α) (j : Nat) (hj : j < l.length) (hp : p (l.getD j d) = true) (hb : ∀ i, i < j → p (l.getD i d) = false) : idx p l = j := by
  have : l.findIdx? p = some j := by
    rw [List.findIdx?_eq_some_iff_getElem]
    refine ⟨hj, by simpa [List.getD, hj] using hp, fun i hi => ?_⟩
    have := hb i hi
    simpa [List.getD, show i < l.length by omega] using this
  simp [idx, this]
theorem idx_miss {α : Type} (p : α → Bool) (l : List α) (d : α) (hb : ∀ i, i < l.length → p (l.getD i d) = false) : idx p l = -1 := by
  have : l.findIdx? p = none := by
    rw [List.findIdx?_eq_none_iff]
    intro x hx
    obtain ⟨i, hi, rfl⟩ := List.mem_iff_getElem.1 hx
    have := hb i hi
    simpa [List.getD, hi] using this
  simp [idx, this]
theorem idx_any {α : Type} (p : α → Bool) (l : List α) : decide (0 ≤ idx p l) = l.any p := by
  unfold idx
  cases h : l.findIdx? p with
  | none =>
    rw [List.findIdx?_eq_none_iff] at h
    have : l.any p = false := by rw [List.any_eq_false]; intro x hx; simp [h x hx]
    rw [this]; rfl
  | some i =>
    rw [List.findIdx?_eq_some_iff_getElem] at h
    obtain ⟨hi, hp, _⟩ := h
    have : l.any p = true := List.any_eq_true.2 ⟨_, List.getElem_mem hi, hp⟩
    rw [this]
    simp
def tVal (t : S47) : Value := .agg #[.int .i64 t.f0, .string t.f1, .int .i64 t.f2]
def bVal (b : S42) : Value := .agg #[.string b.f0, .int .i64 b.f1]
def Pred {α : Type} (g : Nat) (lb : Array Value) (enc : α → Value) (p : α → Bool) (ok : α → Prop) (w : World) : Prop :=
  ∀ x, ok x → ∀ W, Below w.heap.size w W → Calls Tryd.prog g (#[enc x] ++ lb) W fun e w' => e = .returned (.bool (p x)) ∧ Below W.heap.size W w'
theorem termAt {w W : World} {A : Option Addr} {ts : List S47} (h : Kd.C k47 w A ts.length ts) (hb : Below w.heap.size w W) (j : Nat) (hj : j < ts.length) :
    ∃ ad, A = some ad ∧ W.cell? (ad.add (j * 3)) = some (.int .i64 (rd_T47 ts j).f0) ∧ W.cell? ⟨(ad.add (j * 3)).block, (ad.add (j * 3)).off + 1, none⟩ = some (.string (rd_T47 ts j).f1) ∧ W.cell? ⟨(ad.add (j * 3)).block, (ad.add (j * 3)).off + 2, none⟩ = some (.int .i64 (rd_T47 ts j).f2) := by
  obtain ⟨ad, e, h0, h1, h2⟩ := at_T47 h (j : Int) (by omega) (by omega)
  exact ⟨ad, e, up_cell hb h0, up_cell hb h1, up_cell hb h2⟩
theorem bindAt {w W : World} {A : Option Addr} {bs : List S42} (h : Kd.C k42 w A bs.length bs) (hb : Below w.heap.size w W) (j : Nat) (hj : j < bs.length) :
    ∃ ad, A = some ad ∧ W.cell? (ad.add (j * 2)) = some (.string (rd_T42 bs j).f0) ∧ W.cell? ⟨(ad.add (j * 2)).block, (ad.add (j * 2)).off + 1, none⟩ = some (.int .i64 (rd_T42 bs j).f1) := by
  obtain ⟨ad, e, h0, h1⟩ := at_T42 h (j : Int) (by omega) (by omega)
  exact ⟨ad, e, up_cell hb h0, up_cell hb h1⟩
theorem rd47 (ts : List S47) (j : Nat) : ts.getD j z47 = rd_T47 ts j := by simp [rd_T47]
theorem rd42 (bs : List S42) (j : Nat) : bs.getD j z42 = rd_T42 bs j := by simp [rd_T42]
theorem rd47_mem (ts : List S47) (j : Nat) (h : j < ts.length) : rd_T47 ts j ∈ ts := by simp [rd_T47, List.getD, h]
theorem rd42_mem (bs : List S42) (j : Nat) (h : j < bs.length) : rd_T42 bs j ∈ bs := by simp [rd_T42, List.getD, h]
set_option maxRecDepth 100000 in
set_option maxHeartbeats 2000000 in
theorem indexT_calls (g : Nat) (lb : Array Value) (eg : ∀ args w, (callFunc g args).run Tryd.prog w = .ok (.enter g args) w) (p : S47 → Bool) (ok : S47 → Prop) (A : Option Addr) (c : Nat) (ts : List S47) (w : World)
    (hr : Kd.C k47 w A ts.length ts) (hok : ∀ t ∈ ts, ok t) (hp : Pred g lb tVal p ok w) :
    Calls Tryd.prog 110 #[.slice A ts.length c, .func (.func g) #[] lb] w fun e w' => e = .returned (.int .i64 (idx p ts)) ∧ Below w.heap.size w w' := by
  have hlen : ts.length ≤ 9223372036854775807 := hr.2.1
  have hu47 := Tryd.underlying47
  have HR := Aside0.mk hr
  have HP := Aside0.mk (And.intro hp hok)
  clear hr hp hok
  go_enter Tryd.func110, Tryd.ntmps110
  go_wp2_with fail
  go_loopg [5, 8] ts.length (fun gg _ s8 wr => ∃ j : Nat, j ≤ ts.length ∧ ts.length - j ≤ gg ∧ s8 = .int .i64 j ∧ Aside0 (Below w.heap.size w wr ∧ ∀ i, i < j → p (ts.getD i z47) = false))
  case atStart => exact ⟨0, Nat.zero_le _, by omega, rfl, ⟨Below.refl _ _, fun j hj => absurd hj (Nat.not_lt_zero _)⟩⟩
  case round =>
    obtain ⟨j, hj, hg, rfl, HJ⟩ := hrel
    by_cases hlt : j < ts.length
    · have hltz : (j : Int) < (ts.length : Int) := by omega
      obtain ⟨ad, rfl, y0, y1, y2⟩ := termAt HR.out HJ.out.1 j hlt
      have hcall := Aside0.mk (HP.out.1 _ (HP.out.2 _ (rd47_mem ts j hlt)) wr HJ.out.1)
      cases hq : p (rd_T47 ts j) with
      | true =>
        rw [hq] at hcall
        have HQ := Aside0.mk hq
        clear hq
        go_wp2_with (go_at_fn g; refine hcall.out.mono ?_; clear hcall; rintro e w' ⟨rfl, hb⟩)
        go_ret
        exact ⟨by rw [idx_hit p ts z47 j hlt (by rw [rd47]; exact HQ.out) HJ.out.2]; rfl, HJ.out.1.trans (hb.mono HJ.out.1.size)⟩
      | false =>
        rw [hq] at hcall
        have HQ := Aside0.mk hq
        clear hq
        go_wp2_with (go_at_fn g; refine hcall.out.mono ?_; clear hcall; rintro e w' ⟨rfl, hb⟩)
        go_roundg (ts.length - (j + 1))
        case measure => omega
        case rel =>
          refine ⟨j + 1, by omega, by omega, by go_num, ⟨HJ.out.1.trans (hb.mono HJ.out.1.size), fun i hi => ?_⟩⟩
          by_cases e : i = j
          · subst e; rw [rd47]; exact HQ.out
          · exact HJ.out.2 i (by omega)
    · have hltz : ¬ (j : Int) < (ts.length : Int) := by omega
      have he : j = ts.length := by omega
      have HE := Aside0.mk he
      clear he
      go_wp2_with fail
      go_ret
      exact ⟨by rw [idx_miss p ts z47 (by rw [← HE.out]; exact HJ.out.2)]; rfl, HJ.out.1⟩
set_option maxRecDepth 100000 in
set_option maxHeartbeats 2000000 in
theorem indexB_calls (g : Nat) (lb : Array Value) (eg : ∀ args w, (callFunc g args).run Tryd.prog w = .ok (.enter g args) w) (p : S42 → Bool) (ok : S42 → Prop) (A : Option Addr) (c : Nat) (ts : List S42) (w : World)
    (hr : Kd.C k42 w A ts.length ts) (hok : ∀ t ∈ ts, ok t) (hp : Pred g lb bVal p ok w) :
    Calls Tryd.prog 109 #[.slice A ts.length c, .func (.func g) #[] lb] w fun e w' => e = .returned (.int .i64 (idx p ts)) ∧ Below w.heap.size w w' := by
  have hlen : ts.length ≤ 9223372036854775807 := hr.2.1
  have hu42 := Tryd.underlying42
  have HR := Aside0.mk hr
  have HP := Aside0.mk (And.intro hp hok)
  clear hr hp hok
  go_enter Tryd.func109, Tryd.ntmps109
  go_wp2_with fail
  go_loopg [5, 8] ts.length (fun gg _ s8 wr => ∃ j : Nat, j ≤ ts.length ∧ ts.length - j ≤ gg ∧ s8 = .int .i64 j ∧ Aside0 (Below w.heap.size w wr ∧ ∀ i, i < j → p (ts.getD i z42) = false))
  case atStart => exact ⟨0, Nat.zero_le _, by omega, rfl, ⟨Below.refl _ _, fun j hj => absurd hj (Nat.not_lt_zero _)⟩⟩
  case round =>
    obtain ⟨j, hj, hg, rfl, HJ⟩ := hrel
    by_cases hlt : j < ts.length
    · have hltz : (j : Int) < (ts.length : Int) := by omega
      obtain ⟨ad, rfl, y0, y1⟩ := bindAt HR.out HJ.out.1 j hlt
      have hcall := Aside0.mk (HP.out.1 _ (HP.out.2 _ (rd42_mem ts j hlt)) wr HJ.out.1)
      cases hq : p (rd_T42 ts j) with
      | true =>
        rw [hq] at hcall
        have HQ := Aside0.mk hq
        clear hq
        go_wp2_with (go_at_fn g; refine hcall.out.mono ?_; clear hcall; rintro e w' ⟨rfl, hb⟩)
        go_ret
        exact ⟨by rw [idx_hit p ts z42 j hlt (by rw [rd42]; exact HQ.out) HJ.out.2]; rfl, HJ.out.1.trans (hb.mono HJ.out.1.size)⟩
      | false =>
        rw [hq] at hcall
        have HQ := Aside0.mk hq
        clear hq
        go_wp2_with (go_at_fn g; refine hcall.out.mono ?_; clear hcall; rintro e w' ⟨rfl, hb⟩)
        go_roundg (ts.length - (j + 1))
        case measure => omega
        case rel =>
          refine ⟨j + 1, by omega, by omega, by go_num, ⟨HJ.out.1.trans (hb.mono HJ.out.1.size), fun i hi => ?_⟩⟩
          by_cases e : i = j
          · subst e; rw [rd42]; exact HQ.out
          · exact HJ.out.2 i (by omega)
    · have hltz : ¬ (j : Int) < (ts.length : Int) := by omega
      have he : j = ts.length := by omega
      have HE := Aside0.mk he
      clear he
      go_wp2_with fail
      go_ret
      exact ⟨by rw [idx_miss p ts z42 (by rw [← HE.out]; exact HJ.out.2)]; rfl, HJ.out.1⟩
set_option maxRecDepth 100000 in
set_option maxHeartbeats 2000000 in
theorem indexE_calls (g : Nat) (lb : Array Value) (eg : ∀ args w, (callFunc g args).run Tryd.prog w = .ok (.enter g args) w) (p : S42 → Bool) (ok : S42 → Prop) (A : Option Addr) (c : Nat) (ts : List S42) (w : World)
    (hr : Kd.C k42 w A ts.length ts) (hok : ∀ t ∈ ts, ok t) (hp : Pred g lb bVal p ok w) :
    Calls Tryd.prog 115 #[.slice A ts.length c, .func (.func g) #[] lb] w fun e w' => e = .returned (.int .i64 (idx p ts)) ∧ Below w.heap.size w w' := by
  have hlen : ts.length ≤ 9223372036854775807 := hr.2.1
  have hu42 := Tryd.underlying42
  have HR := Aside0.mk hr
  have HP := Aside0.mk (And.intro hp hok)
  clear hr hp hok
  go_enter Tryd.func115, Tryd.ntmps115
  go_wp2_with fail
  go_loopg [5, 8] ts.length (fun gg _ s8 wr => ∃ j : Nat, j ≤ ts.length ∧ ts.length - j ≤ gg ∧ s8 = .int .i64 j ∧ Aside0 (Below w.heap.size w wr ∧ ∀ i, i < j → p (ts.getD i z42) = false))
  case atStart => exact ⟨0, Nat.zero_le _, by omega, rfl, ⟨Below.refl _ _, fun j hj => absurd hj (Nat.not_lt_zero _)⟩⟩
  case round =>
    obtain ⟨j, hj, hg, rfl, HJ⟩ := hrel
    by_cases hlt : j < ts.length
    · have hltz : (j : Int) < (ts.length : Int) := by omega
      obtain ⟨ad, rfl, y0, y1⟩ := bindAt HR.out HJ.out.1 j hlt
      have hcall := Aside0.mk (HP.out.1 _ (HP.out.2 _ (rd42_mem ts j hlt)) wr HJ.out.1)
      cases hq : p (rd_T42 ts j) with
      | true =>
        rw [hq] at hcall
        have HQ := Aside0.mk hq
        clear hq
        go_wp2_with (go_at_fn g; refine hcall.out.mono ?_; clear hcall; rintro e w' ⟨rfl, hb⟩)
        go_ret
        exact ⟨by rw [idx_hit p ts z42 j hlt (by rw [rd42]; exact HQ.out) HJ.out.2]; rfl, HJ.out.1.trans (hb.mono HJ.out.1.size)⟩
      | false =>
        rw [hq] at hcall
        have HQ := Aside0.mk hq
        clear hq
        go_wp2_with (go_at_fn g; refine hcall.out.mono ?_; clear hcall; rintro e w' ⟨rfl, hb⟩)
        go_roundg (ts.length - (j + 1))
        case measure => omega
        case rel =>
          refine ⟨j + 1, by omega, by omega, by go_num, ⟨HJ.out.1.trans (hb.mono HJ.out.1.size), fun i hi => ?_⟩⟩
          by_cases e : i = j
          · subst e; rw [rd42]; exact HQ.out
          · exact HJ.out.2 i (by omega)
    · have hltz : ¬ (j : Int) < (ts.length : Int) := by omega
      have he : j = ts.length := by omega
      have HE := Aside0.mk he
      clear he
      go_wp2_with fail
      go_ret
      exact ⟨by rw [idx_miss p ts z42 (by rw [← HE.out]; exact HJ.out.2)]; rfl, HJ.out.1⟩
set_option maxHeartbeats 1000000 in
theorem containsT_calls (g : Nat) (lb : Array Value) (eg : ∀ args w, (callFunc g args).run Tryd.prog w = .ok (.enter g args) w) (p : S47 → Bool) (ok : S47 → Prop) (A : Option Addr) (c : Nat) (ts : List S47) (w : World)
    (hr : Kd.C k47 w A ts.length ts) (hok : ∀ t ∈ ts, ok t) (hp : Pred g lb tVal p ok w) :
    Calls Tryd.prog 85 #[.slice A ts.length c, .func (.func g) #[] lb] w fun e w' => e = .returned (.bool (ts.any p)) ∧ Below w.heap.size w w' := by
  have hI := Aside0.mk (indexT_calls g lb eg p ok A c ts w hr hok hp)
  have HA := Aside0.mk (idx_any p ts)
  clear hr hok hp eg
  generalize idx p ts = ix at hI HA
  generalize ts.any p = an at HA
  go_enter Tryd.func85, Tryd.ntmps85
  go_wp2_with (go_at_call 110; refine hI.out.mono ?_; clear hI; rintro e w' ⟨rfl, hb⟩)
  go_ret
  exact ⟨ret_bool HA.out, hb⟩
set_option maxHeartbeats 1000000 in
theorem containsB_calls (g : Nat) (lb : Array Value) (eg : ∀ args w, (callFunc g args).run Tryd.prog w = .ok (.enter g args) w) (p : S42 → Bool) (ok : S42 → Prop) (A : Option Addr) (c : Nat) (ts : List S42) (w : World)
    (hr : Kd.C k42 w A ts.length ts) (hok : ∀ t ∈ ts, ok t) (hp : Pred g lb bVal p ok w) :
    Calls Tryd.prog 73 #[.slice A ts.length c, .func (.func g) #[] lb] w fun e w' => e = .returned (.bool (ts.any p)) ∧ Below w.heap.size w w' := by
  have hI := Aside0.mk (indexB_calls g lb eg p ok A c ts w hr hok hp)
  have HA := Aside0.mk (idx_any p ts)
  clear hr hok hp eg
  generalize idx p ts = ix at hI HA
  generalize ts.any p = an at HA
  go_enter Tryd.func73, Tryd.ntmps73
  go_wp2_with (go_at_call 109; refine hI.out.mono ?_; clear hI; rintro e w' ⟨rfl, hb⟩)
  go_ret
  exact ⟨ret_bool HA.out, hb⟩
end Go.Proofs.YtmlcaecknocpoaaDoor.It
namespace Go.Proofs.YtmlcaecknocpoaaDoor.Pr
open Go.RowKit Go.Proofs.YtmlcaecknocpoaaDoorW.PrintWords Go.Proofs.YtmlcaecknocpoaaDoorW.PrintLast Go.Proofs.YtmlcaecknocpoaaDoorW.PrintMore
attribute [local go_sem] max2_int min2_int max_two min_two max_three min_three max_four min_four   
set_option linter.unusedVariables false
set_option linter.unusedSimpArgs false
theorem eqA47 (d : Nat) (w : World) (x0 y0 : Int) (x1 y1 : ByteArray) (x2 y2 : Int) :
    (Op.equalIn (d + 2) 47 (.agg #[.int .i64 x0, .string x1, .int .i64 x2]) (.agg #[.int .i64 y0, .string y1, .int .i64 y2])).run Tryd.prog w = .ok (x0 == y0 && (x1.toList == y1.toList && (x2 == y2))) w := by
  refine eqA_of Tryd.underlying47 (by kernel_rfl) ?_
  refine eqf_cons (by rfl) (by go_simp; rfl) (by go_simp; rfl) (by go_simp) ?_
  refine eqf_cons (by rfl) (by go_simp; rfl) (by go_simp; rfl) (by go_simp) ?_
  exact eqf_last (by rfl) (by go_simp; rfl) (by go_simp; rfl) (by go_simp)
end Go.Proofs.YtmlcaecknocpoaaDoor.Pr
namespace Go.Proofs.YtmlcaecknocpoaaDoor.Pr
open Go.RowKit Go.Proofs.YtmlcaecknocpoaaDoorW.PrintWords Go.Proofs.YtmlcaecknocpoaaDoorW.PrintLast Go.Proofs.YtmlcaecknocpoaaDoorW.PrintMore
attribute [local go_sem] max2_int min2_int max_two min_two max_three min_three max_four min_four   
set_option linter.unusedVariables false
set_option linter.unusedSimpArgs false
attribute [local go_sem high] eqA47
end Go.Proofs.YtmlcaecknocpoaaDoor.Pr
namespace Go.Proofs.YtmlcaecknocpoaaDoor.Pr
open Go.RowKit Go.Proofs.YtmlcaecknocpoaaDoorW.PrintWords Go.Proofs.YtmlcaecknocpoaaDoorW.PrintLast Go.Proofs.YtmlcaecknocpoaaDoorW.PrintMore
attribute [local go_sem] max2_int min2_int max_two min_two max_three min_three max_four min_four   
set_option linter.unusedVariables false
set_option linter.unusedSimpArgs false
theorem eqA42 (d : Nat) (w : World) (x0 y0 : ByteArray) (x1 y1 : Int) :
    (Op.equalIn (d + 2) 42 (.agg #[.string x0, .int .i64 x1]) (.agg #[.string y0, .int .i64 y1])).run Tryd.prog w = .ok (x0.toList == y0.toList && (x1 == y1)) w := by
  refine eqA_of Tryd.underlying42 (by kernel_rfl) ?_
  refine eqf_cons (by rfl) (by go_simp; rfl) (by go_simp; rfl) (by go_simp) ?_
  exact eqf_last (by rfl) (by go_simp; rfl) (by go_simp; rfl) (by go_simp)
end Go.Proofs.YtmlcaecknocpoaaDoor.Pr
namespace Go.Proofs.YtmlcaecknocpoaaDoor.Pr
open Go.RowKit Go.Proofs.YtmlcaecknocpoaaDoorW.PrintWords Go.Proofs.YtmlcaecknocpoaaDoorW.PrintLast Go.Proofs.YtmlcaecknocpoaaDoorW.PrintMore
attribute [local go_sem] max2_int min2_int max_two min_two max_three min_three max_four min_four   
set_option linter.unusedVariables false
set_option linter.unusedSimpArgs false
attribute [local go_sem high] eqA42
end Go.Proofs.YtmlcaecknocpoaaDoor.Pr
namespace Go.Proofs.YtmlcaecknocpoaaDoor.It
open Go Go.RowKit Go.Shelf Go.Proofs.YtmlcaecknocpoaaDoorW.PrintWords Go.Proofs.YtmlcaecknocpoaaDoorW.PrintLast Go.Proofs.YtmlcaecknocpoaaDoor.Pr Go.Proofs.YtmlcaecknocpoaaDoor.Sp
theorem wrap_up (n : Nat) (h : n < 9223372036854775807) : wrap64 ((n : Int) + 1) = ((n + 1 : Nat) : Int) := by unfold wrap64; omega
theorem formAt {w W : World} {A : Option Addr} {l : List S26} (h : Kd.C k26 w A l.length l) (hb : Below w.heap.size w W) (j : Nat) (hj : j < l.length) :
    ∃ ad B3 d3 B4 d4 B5 d5, A = some ad ∧ At w (rd_T26 l j) B3 d3 B4 d4 B5 d5 ∧ W.cell? (ad.add (j * 6)) = some (.int .i64 (rd_T26 l j).f0) ∧ W.cell? ⟨(ad.add (j * 6)).block, (ad.add (j * 6)).off + 1, none⟩ = some (.string (rd_T26 l j).f1) ∧
      W.cell? ⟨(ad.add (j * 6)).block, (ad.add (j * 6)).off + 2, none⟩ = some (.int .i64 (rd_T26 l j).f2) ∧ W.cell? ⟨(ad.add (j * 6)).block, (ad.add (j * 6)).off + 3, none⟩ = some (.slice B3 (rd_T26 l j).f3.length d3) ∧
      W.cell? ⟨(ad.add (j * 6)).block, (ad.add (j * 6)).off + 4, none⟩ = some (.slice B4 (rd_T26 l j).f4.length d4) ∧ W.cell? ⟨(ad.add (j * 6)).block, (ad.add (j * 6)).off + 5, none⟩ = some (.slice B5 (rd_T26 l j).f5.length d5) := by
  obtain ⟨ad, B3, d3, B4, d4, B5, d5, e, h0, h1, h2, h3, h4, h5, l3, g3, l4, g4, l5, g5⟩ := at_T26 h (j : Int) (by omega) (by omega)
  exact ⟨ad, B3, d3, B4, d4, B5, d5, e, ⟨l3, g3, l4, g4, l5, g5⟩, up_cell hb h0, up_cell hb h1, up_cell hb h2, up_cell hb h3, up_cell hb h4, up_cell hb h5⟩
theorem toList_inj (a b : ByteArray) : a.toList = b.toList ↔ a = b := by
  rw [ByteArray.toList_eq, ByteArray.toList_eq]
  cases a; cases b
  simp [Array.toList_inj]
theorem drop_cons {α : Type} (l : List α) (d : α) (j : Nat) (h : j < l.length) : l.drop j = l.getD j d :: l.drop (j + 1) := by
  rw [List.drop_eq_getElem_cons h]
  simp [List.getD, h]
theorem heap_new2a (w : World) (o o' : Obj) : ((w.alloc o).alloc o').heap[w.heap.size]? = some o := (Below.heap_alloc _ _ _ (by simp)).trans (heap_new w o)
theorem heap_new2b (w : World) (o o' : Obj) : ((w.alloc o).alloc o').heap[w.heap.size + 1]? = some o' := by
  have h := heap_new (w.alloc o) o'
  rwa [World.size_alloc] at h
theorem blk_below {w w1 : World} (h : Below w.heap.size w w1) {k : Nat} {o : Obj} (hk : w.heap[k]? = some o) : w1.heap[k]? = some o := (h.block k (Array.getElem?_eq_some_iff.1 hk).1).trans hk
end Go.Proofs.YtmlcaecknocpoaaDoor.It
namespace Go.Proofs.YtmlcaecknocpoaaDoor.It
open Go Go.RowKit Go.Shelf Go.Proofs.YtmlcaecknocpoaaDoorW.PrintWords Go.Proofs.YtmlcaecknocpoaaDoorW.PrintLast Go.Proofs.YtmlcaecknocpoaaDoor.Pr Go.Proofs.YtmlcaecknocpoaaDoor.Sp
attribute [local go_sem] Oper.semAt_some
theorem cell_blk {w : World} {g : Nat} {t : TypeId} {v : Value} (h : w.heap[g]? = some (.cells #[v] t (0, 0))) : w.cell? ⟨g, 0, none⟩ = some v ∧ w.frozen? ⟨g, 0, none⟩ = false := ⟨(blk_cell h 0).trans rfl, blk_frozen h 0⟩
set_option maxRecDepth 100000 in
set_option maxHeartbeats 4000000 in
theorem size_in (F : Fence) (hd : F.depth = none) (n : Nat) (h24 : F.fn 24) (h52 : F.fn 52) (h78 : F.fn 78) (h79 : F.fn 79) (hro : F.round = none) (hn : 3 ≤ n) (x : S26) (A3 : Option Addr) (c3 : Nat) (A4 : Option Addr) (c4 : Nat) (A5 : Option Addr) (c5 : Nat) (w : World)
    (hat : At w x A3 c3 A4 c4 A5 c5) (hs : size x ≤ 4611686018427387904) (hok : Deep x) :
    CallsIn F n Tryd.prog 24 #[.agg #[.int .i64 x.f0, .string x.f1, .int .i64 x.f2, .slice A3 x.f3.length c3, .slice A4 x.f4.length c4, .slice A5 x.f5.length c5]] w fun e w' => e = .returned (.int .i64 (size x)) ∧ Below w.heap.size w w' := by
  have h1 : 1 ≤ n := by omega
  refine callsIn_of_wp_marks Tryd.func24 rfl h24 ?_ hro
  simp only [Tryd.ntmps24, List.size_toArray, List.length_cons, List.length_nil, Nat.reduceAdd, Nat.reduceSub, Array.replicate_succ, Array.replicate_zero, List.push_toArray, List.append_toArray, List.nil_append, List.cons_append]
  gi_wp2_with (gi_at_call 52; refine (all_in F (n - 1) h52 hro _ x A3 c3 A4 c4 A5 c5 _ rfl).mono ?_; rintro e w' ⟨rfl, rfl⟩)
  obtain ⟨W0, hW0⟩ : ∃ W0, (((w.alloc (.cells #[.int .i64 x.f0, .string x.f1, .int .i64 x.f2, .slice A3 x.f3.length c3, .slice A4 x.f4.length c4, .slice A5 x.f5.length c5] 26)).alloc (.cells #[.int .i64 0] 3)).alloc
    (.cells #[.int .i64 x.f0, .string x.f1, .int .i64 x.f2, .slice A3 x.f3.length c3, .slice A4 x.f4.length c4, .slice A5 x.f5.length c5] 26)) = W0 := ⟨_, rfl⟩
  have hB : Below w.heap.size w W0 := by rw [← hW0]; exact (((Below.refl _ w).alloc (Nat.le_refl _) _).alloc (by simp) _).alloc (by simp; omega) _
  have hsz : W0.heap.size = w.heap.size + 3 := by rw [← hW0]; simp
  have hn : Boxed W0 (w.heap.size + 1) 3 (.int .i64 ((0 : Nat) : Int)) := by
    rw [← hW0]
    refine Boxed.alloc ?_ _
    have h := heap_new (w.alloc (.cells #[.int .i64 x.f0, .string x.f1, .int .i64 x.f2, .slice A3 x.f3.length c3, .slice A4 x.f4.length c4, .slice A5 x.f5.length c5] 26)) (.cells #[.int .i64 0] 3)
    rw [World.size_alloc] at h
    exact h
  have hf : W0.heap[w.heap.size + 2]? = some (.cells #[.int .i64 x.f0, .string x.f1, .int .i64 x.f2, .slice A3 x.f3.length c3, .slice A4 x.f4.length c4, .slice A5 x.f5.length c5] 26 (0, 0)) := by
    rw [← hW0]
    have h := heap_new ((w.alloc (.cells #[.int .i64 x.f0, .string x.f1, .int .i64 x.f2, .slice A3 x.f3.length c3, .slice A4 x.f4.length c4, .slice A5 x.f5.length c5] 26)).alloc (.cells #[.int .i64 0] 3)) (.cells #[.int .i64 x.f0, .string x.f1, .int .i64 x.f2, .slice A3 x.f3.length c3, .slice A4 x.f4.length c4, .slice A5 x.f5.length c5] 26)
    rw [World.size_alloc, World.size_alloc] at h
    exact h
  rw [hW0]
  clear hW0
  refine wpIn_rangeFunc_ownF hro h1 (gf := 78) (lb := #[.pointer (some ⟨w.heap.size + 1 + 1, 0, none⟩)]) rfl h78 (enters_of Tryd.func78 (by kernel_rfl) rfl)
    (all1_stops F hd (n - 1) h78 h79 hro w ⟨x, A3, c3, A4, c4, A5, c5, hat, hok⟩ (w.heap.size + 1 + 1) W0 hB (by omega) hf) (fun h k => h.trans k) (fun W l o o' hl h hc hw => Kp.put (w := W0) hB.size W l o o' hl h hc hw) (Below.refl _ _) (fun _ => rfl)
    (fun pre W => Boxed W (w.heap.size + 1) 3 (.int .i64 (pre.length : Int)) ∧ Below w.heap.size w W) (fun _ _ _ => False)
    (OwnFrom.and (Own.from (boxed_own _ _ _) _) (ownFrom_below (Nat.le_refl _) (by omega))) (fun _ _ _ _ _ hs _ _ => hs) ⟨hn, hB⟩
    (fun p => { tmps := #[.agg #[.int .i64 x.f0, .string x.f1, .int .i64 x.f2, .slice A3 x.f3.length c3, .slice A4 x.f4.length c4, .slice A5 x.f5.length c5], .pointer (some ⟨w.heap.size, 0, none⟩), .int .i64 0, .pointer (some ⟨w.heap.size + 1, 0, none⟩),
      .agg #[.int .i64 x.f0, .string x.f1, .int .i64 x.f2, .slice A3 x.f3.length c3, .slice A4 x.f4.length c4, .slice A5 x.f5.length c5], .func (.func 78) #[] #[.pointer (some ⟨w.heap.size + 1 + 1, 0, none⟩)], p.val, undef, undef, undef], defers := [] }) ?assign ?body ?done ?stop
  case assign =>
    intro l p W K hK
    gi_wp2
    simpa using hK
  case body =>
    rintro l pre p W ⟨hb, hbel⟩ hlen
    dsimp only at hlen
    have hc := (cell_blk hb).1
    have hfz := (cell_blk hb).2
    have hl : (pre.length : Int) < 4611686018427387904 := by omega
    gi_wp2
    refine ⟨KeepsOthers.setCell _ _ _, Kp.setCell _ (Nat.le_add_right _ _) (by show w.heap.size + 1 < W0.heap.size; omega) _, ?_, hbel.setCell (Nat.le_add_right _ _) _⟩
    have h := hb.set (.int .i64 ((pre.length : Int) + 1))
    simpa using h
  case done =>
    rintro D ys W hD hys ⟨hb, hbel⟩ hK
    have hc := (cell_blk hb).1
    have hfz := (cell_blk hb).2
    gi_wp2
    refine ⟨by simp, .inl ⟨_, _, rfl, run_takeDeferred hK, ?_⟩⟩
    refine ⟨_, results_tmp rfl _ _ _, ?_, hbel.trans (belowK_b (w := w) (Nat.le_refl _) W D _ _ (by omega) hK rfl rfl)⟩
    have e : ys.length = size x := by rw [← nodes_length, ← hys, List.length_map]
    rw [e]
    rfl
  case stop =>
    rintro D c pre W _ _ h _
    exact h.elim
end Go.Proofs.YtmlcaecknocpoaaDoor.It
namespace Go.Proofs.YtmlcaecknocpoaaDoor.It
set_option linter.unusedVariables false
open Go Go.RowKit Go.Shelf Go.Proofs.YtmlcaecknocpoaaDoorW.PrintWords Go.Proofs.YtmlcaecknocpoaaDoor.Pr Go.Proofs.YtmlcaecknocpoaaDoor.Sp
theorem enters83 : ∀ args w, (callFunc 83 args).run Tryd.prog w = .ok (.enter 83 args) w := enters_of Tryd.func83 (by kernel_rfl) rfl
theorem enters86 : ∀ args w, (callFunc 86 args).run Tryd.prog w = .ok (.enter 86 args) w := enters_of Tryd.func86 (by kernel_rfl) rfl
def oddT (k : Int) (t : S47) : Bool := !(term t) || (decide (k ≠ 9) && decide (t.f0 ≠ 2))
def oddB (b : S42) : Bool := !(Sp.bind b)
set_option maxRecDepth 100000 in
set_option maxHeartbeats 1000000 in
theorem odd_t (k : Int) (B : Nat) (t : S47) (w : World) (hs : t.f1.size ≤ 9223372036854775807) (ht : Tabs w) (hB : w.cell? ⟨B, 0, none⟩ = some (.int .i64 k)) :
    Calls Tryd.prog 83 #[tVal t, .pointer (some ⟨B, 0, none⟩)] w fun e w' => e = .returned (.bool (oddT k t)) ∧ Below w.heap.size w w' := by
  have hu47 := Tryd.underlying47
  have hA := (Below.refl w.heap.size w).alloc (Nat.le_refl _) (.cells #[.int .i64 t.f0, .string t.f1, .int .i64 t.f2] 47)
  have hN := Aside0.mk (termed_calls t _ hs (ht.below hA))
  have hlt := World.block_lt_of_cell? w _ hB
  have hB1 := up_cell hA hB
  have hlt1 : B < (w.alloc (.cells #[.int .i64 t.f0, .string t.f1, .int .i64 t.f2] 47)).heap.size := by simp only [World.size_alloc]; exact Nat.lt_succ_of_lt hlt
  replace hA := Aside0.mk hA
  clear ht
  unfold tVal
  go_enter Tryd.func83, Tryd.ntmps83
  go_wp2_with (go_at_call 84; refine hN.out.mono ?_; clear hN; rintro e w' ⟨rfl, hb⟩; obtain ⟨hcc, hff⟩ := bcell hb; have hB2 := (hcc B 0 hlt1).trans hB1)
  all_goals
    go_ret
    refine ⟨ret_bool ?_, hA.out.trans (hb.mono (by simp))⟩
    rw [Bool.eq_iff_iff]
    simp only [oddT]
    simp_all
set_option maxRecDepth 100000 in
set_option maxHeartbeats 1000000 in
theorem odd_b (b : S42) (w : World) (hs : b.f0.size ≤ 9223372036854775807) (ht : Tabs w) :
    Calls Tryd.prog 86 #[bVal b] w fun e w' => e = .returned (.bool (oddB b)) ∧ Below w.heap.size w w' := by
  have hu42 := Tryd.underlying42
  have hA := (Below.refl w.heap.size w).alloc (Nat.le_refl _) (.cells #[.string b.f0, .int .i64 b.f1] 42)
  have hN := Aside0.mk (named_calls b.f0 _ hs (ht.below hA))
  replace hA := Aside0.mk hA
  clear ht
  unfold bVal
  go_enter Tryd.func86, Tryd.ntmps86
  go_wp2_with (go_at_call 87; refine hN.out.mono ?_; clear hN; rintro e w' ⟨rfl, hb⟩; obtain ⟨hcc, hff⟩ := bcell hb)
  all_goals
    go_ret
    refine ⟨ret_bool ?_, hA.out.trans (hb.mono (by simp))⟩
    rw [Bool.eq_iff_iff]
    simp only [oddB, Sp.bind]
    simp_all <;> omega
set_option maxRecDepth 100000 in
set_option maxHeartbeats 4000000 in
theorem formed_n (k n m : Int) (nm sg : ByteArray) (n3 n4 n5 : Nat) (A3 : Option Addr) (c3 : Nat) (A4 : Option Addr) (c4 : Nat) (A5 : Option Addr) (c5 : Nat) (b0 b1 : Nat) (w : World) (known b5 b3 b4 bN bS e2 s0 rT rB nb : Bool)
    (g0 : ∀ o, (w.alloc o).cell? ⟨0, 0, none⟩ = some (.map (some b0))) (l0 : ∀ o, (Instr.lookup 85 (.map (some b0)) (.int .i64 k) true).run Tryd.prog (w.alloc o) = .ok (.tuple #[.int .i64 m, .bool known]) (w.alloc o))
    (g1 : ∀ o, (w.alloc o).cell? ⟨1, 0, none⟩ = some (.map (some b1))) (l1 : ∀ o, (Instr.lookup 87 (.map (some b1)) (.string nm) false).run Tryd.prog (w.alloc o) = .ok (.string sg) (w.alloc o))
    (h5 : ((n5 : Int) != m) = b5) (h3 : ((n3 : Int) != 0) = b3) (h4 : ((n4 : Int) != 0) = b4) (hN : (n != 0) = bN) (hS : (!nm.toList.isEmpty) = bS) (h2 : ((n3 : Int) == 2) = e2) (hs : sg.toList.isEmpty = s0) (hnb : number n = nb)
    (ka : atom k = false) (kq : quant k = false) (kc : counts k = false) (k9 : (k != 9) = true) (k9' : (k == 9) = false)
    (hcT : Aside0 (Calls Tryd.prog 85 #[.slice A3 n3 c3, .func (.func 83) #[] #[.pointer (some ⟨w.heap.size, 0, none⟩)]] (w.alloc (.cells #[.int .i64 k, .string nm, .int .i64 n, .slice A3 n3 c3, .slice A4 n4 c4, .slice A5 n5 c5] 26)) fun e w' => e = .returned (.bool rT) ∧ Below (w.alloc (.cells #[.int .i64 k, .string nm, .int .i64 n, .slice A3 n3 c3, .slice A4 n4 c4, .slice A5 n5 c5] 26)).heap.size (w.alloc (.cells #[.int .i64 k, .string nm, .int .i64 n, .slice A3 n3 c3, .slice A4 n4 c4, .slice A5 n5 c5] 26)) w'))
    (hcB : Aside0 (Calls Tryd.prog 73 #[.slice A4 n4 c4, .func (.func 86) #[] #[]] (w.alloc (.cells #[.int .i64 k, .string nm, .int .i64 n, .slice A3 n3 c3, .slice A4 n4 c4, .slice A5 n5 c5] 26)) fun e w' => e = .returned (.bool rB) ∧ Below (w.alloc (.cells #[.int .i64 k, .string nm, .int .i64 n, .slice A3 n3 c3, .slice A4 n4 c4, .slice A5 n5 c5] 26)).heap.size (w.alloc (.cells #[.int .i64 k, .string nm, .int .i64 n, .slice A3 n3 c3, .slice A4 n4 c4, .slice A5 n5 c5] 26)) w')) :
    Calls Tryd.prog 53 #[.agg #[.int .i64 k, .string nm, .int .i64 n, .slice A3 n3 c3, .slice A4 n4 c4, .slice A5 n5 c5]] w fun e w' => e = .returned (.bool (known && !b5 && !b3 && !b4 && !bN && !bS)) ∧ Below w.heap.size w w' := by
  have hu26 := Tryd.underlying26
  have hA := Aside0.mk ((Below.refl w.heap.size w).alloc (Nat.le_refl _) (.cells #[.int .i64 k, .string nm, .int .i64 n, .slice A3 n3 c3, .slice A4 n4 c4, .slice A5 n5 c5] 26))
  go_enter Tryd.func53, Tryd.ntmps53
  go_wp2_with (first | (go_at_call 80; refine (atom_calls _ _).mono ?_; rintro e w' ⟨rfl, rfl⟩) | (go_at_call 81; refine (quant_calls _ _).mono ?_; rintro e w' ⟨rfl, rfl⟩) | (go_at_call 82; refine (counts_calls _ _).mono ?_; rintro e w' ⟨rfl, rfl⟩))
  all_goals
    go_ret
    refine ⟨ret_bool ?_, by first | exact hA.out | exact hA.out.trans (hb.mono (by simp))⟩
    clear hA hu26 g0 l0 g1 l1
    subst h5 h3 h4 hN hS h2 hs hnb
    simp_all <;> intros <;> omega
set_option maxRecDepth 100000 in
set_option maxHeartbeats 4000000 in
theorem formed_9 (k n m : Int) (nm sg : ByteArray) (n3 n4 n5 : Nat) (A3 : Option Addr) (c3 : Nat) (A4 : Option Addr) (c4 : Nat) (A5 : Option Addr) (c5 : Nat) (b0 b1 : Nat) (w : World) (known b5 b3 b4 bN bS e2 s0 rT rB nb : Bool)
    (g0 : ∀ o, (w.alloc o).cell? ⟨0, 0, none⟩ = some (.map (some b0))) (l0 : ∀ o, (Instr.lookup 85 (.map (some b0)) (.int .i64 k) true).run Tryd.prog (w.alloc o) = .ok (.tuple #[.int .i64 m, .bool known]) (w.alloc o))
    (g1 : ∀ o, (w.alloc o).cell? ⟨1, 0, none⟩ = some (.map (some b1))) (l1 : ∀ o, (Instr.lookup 87 (.map (some b1)) (.string nm) false).run Tryd.prog (w.alloc o) = .ok (.string sg) (w.alloc o))
    (h5 : ((n5 : Int) != m) = b5) (h3 : ((n3 : Int) != 0) = b3) (h4 : ((n4 : Int) != 0) = b4) (hN : (n != 0) = bN) (hS : (!nm.toList.isEmpty) = bS) (h2 : ((n3 : Int) == 2) = e2) (hs : sg.toList.isEmpty = s0) (hnb : number n = nb)
    (ka : atom k = true) (kq : quant k = false) (kc : counts k = false) (k9 : (k != 9) = false) (k9' : (k == 9) = true)
    (hcT : Aside0 (Calls Tryd.prog 85 #[.slice A3 n3 c3, .func (.func 83) #[] #[.pointer (some ⟨w.heap.size, 0, none⟩)]] (w.alloc (.cells #[.int .i64 k, .string nm, .int .i64 n, .slice A3 n3 c3, .slice A4 n4 c4, .slice A5 n5 c5] 26)) fun e w' => e = .returned (.bool rT) ∧ Below (w.alloc (.cells #[.int .i64 k, .string nm, .int .i64 n, .slice A3 n3 c3, .slice A4 n4 c4, .slice A5 n5 c5] 26)).heap.size (w.alloc (.cells #[.int .i64 k, .string nm, .int .i64 n, .slice A3 n3 c3, .slice A4 n4 c4, .slice A5 n5 c5] 26)) w'))
    (hcB : Aside0 (Calls Tryd.prog 73 #[.slice A4 n4 c4, .func (.func 86) #[] #[]] (w.alloc (.cells #[.int .i64 k, .string nm, .int .i64 n, .slice A3 n3 c3, .slice A4 n4 c4, .slice A5 n5 c5] 26)) fun e w' => e = .returned (.bool rB) ∧ Below (w.alloc (.cells #[.int .i64 k, .string nm, .int .i64 n, .slice A3 n3 c3, .slice A4 n4 c4, .slice A5 n5 c5] 26)).heap.size (w.alloc (.cells #[.int .i64 k, .string nm, .int .i64 n, .slice A3 n3 c3, .slice A4 n4 c4, .slice A5 n5 c5] 26)) w')) :
    Calls Tryd.prog 53 #[.agg #[.int .i64 k, .string nm, .int .i64 n, .slice A3 n3 c3, .slice A4 n4 c4, .slice A5 n5 c5]] w fun e w' => e = .returned (.bool (known && !b5 && !b4 && !bN && !s0 && (e2 && !rT))) ∧ Below w.heap.size w w' := by
  have hu26 := Tryd.underlying26
  have hA := Aside0.mk ((Below.refl w.heap.size w).alloc (Nat.le_refl _) (.cells #[.int .i64 k, .string nm, .int .i64 n, .slice A3 n3 c3, .slice A4 n4 c4, .slice A5 n5 c5] 26))
  go_enter Tryd.func53, Tryd.ntmps53
  go_wp2_with (first | (go_at_call 80; refine (atom_calls _ _).mono ?_; rintro e w' ⟨rfl, rfl⟩) | (go_at_call 81; refine (quant_calls _ _).mono ?_; rintro e w' ⟨rfl, rfl⟩) | (go_at_call 82; refine (counts_calls _ _).mono ?_; rintro e w' ⟨rfl, rfl⟩) | (go_at_call 85; refine hcT.out.mono ?_; clear hcT; rintro e w' ⟨rfl, hb⟩; obtain ⟨hcc, hff⟩ := bcell hb))
  all_goals
    go_ret
    refine ⟨ret_bool ?_, by first | exact hA.out | exact hA.out.trans (hb.mono (by simp))⟩
    clear hA hu26 g0 l0 g1 l1
    subst h5 h3 h4 hN hS h2 hs hnb
    simp_all <;> intros <;> omega
set_option maxRecDepth 100000 in
set_option maxHeartbeats 4000000 in
theorem formed_a (k n m : Int) (nm sg : ByteArray) (n3 n4 n5 : Nat) (A3 : Option Addr) (c3 : Nat) (A4 : Option Addr) (c4 : Nat) (A5 : Option Addr) (c5 : Nat) (b0 b1 : Nat) (w : World) (known b5 b3 b4 bN bS e2 s0 rT rB nb : Bool)
    (g0 : ∀ o, (w.alloc o).cell? ⟨0, 0, none⟩ = some (.map (some b0))) (l0 : ∀ o, (Instr.lookup 85 (.map (some b0)) (.int .i64 k) true).run Tryd.prog (w.alloc o) = .ok (.tuple #[.int .i64 m, .bool known]) (w.alloc o))
    (g1 : ∀ o, (w.alloc o).cell? ⟨1, 0, none⟩ = some (.map (some b1))) (l1 : ∀ o, (Instr.lookup 87 (.map (some b1)) (.string nm) false).run Tryd.prog (w.alloc o) = .ok (.string sg) (w.alloc o))
    (h5 : ((n5 : Int) != m) = b5) (h3 : ((n3 : Int) != 0) = b3) (h4 : ((n4 : Int) != 0) = b4) (hN : (n != 0) = bN) (hS : (!nm.toList.isEmpty) = bS) (h2 : ((n3 : Int) == 2) = e2) (hs : sg.toList.isEmpty = s0) (hnb : number n = nb)
    (ka : atom k = true) (kq : quant k = false) (kc : counts k = false) (k9 : (k != 9) = true) (k9' : (k == 9) = false)
    (hcT : Aside0 (Calls Tryd.prog 85 #[.slice A3 n3 c3, .func (.func 83) #[] #[.pointer (some ⟨w.heap.size, 0, none⟩)]] (w.alloc (.cells #[.int .i64 k, .string nm, .int .i64 n, .slice A3 n3 c3, .slice A4 n4 c4, .slice A5 n5 c5] 26)) fun e w' => e = .returned (.bool rT) ∧ Below (w.alloc (.cells #[.int .i64 k, .string nm, .int .i64 n, .slice A3 n3 c3, .slice A4 n4 c4, .slice A5 n5 c5] 26)).heap.size (w.alloc (.cells #[.int .i64 k, .string nm, .int .i64 n, .slice A3 n3 c3, .slice A4 n4 c4, .slice A5 n5 c5] 26)) w'))
    (hcB : Aside0 (Calls Tryd.prog 73 #[.slice A4 n4 c4, .func (.func 86) #[] #[]] (w.alloc (.cells #[.int .i64 k, .string nm, .int .i64 n, .slice A3 n3 c3, .slice A4 n4 c4, .slice A5 n5 c5] 26)) fun e w' => e = .returned (.bool rB) ∧ Below (w.alloc (.cells #[.int .i64 k, .string nm, .int .i64 n, .slice A3 n3 c3, .slice A4 n4 c4, .slice A5 n5 c5] 26)).heap.size (w.alloc (.cells #[.int .i64 k, .string nm, .int .i64 n, .slice A3 n3 c3, .slice A4 n4 c4, .slice A5 n5 c5] 26)) w')) :
    Calls Tryd.prog 53 #[.agg #[.int .i64 k, .string nm, .int .i64 n, .slice A3 n3 c3, .slice A4 n4 c4, .slice A5 n5 c5]] w fun e w' => e = .returned (.bool (known && !b5 && !b4 && !bN && !bS && (e2 && !rT))) ∧ Below w.heap.size w w' := by
  have hu26 := Tryd.underlying26
  have hA := Aside0.mk ((Below.refl w.heap.size w).alloc (Nat.le_refl _) (.cells #[.int .i64 k, .string nm, .int .i64 n, .slice A3 n3 c3, .slice A4 n4 c4, .slice A5 n5 c5] 26))
  go_enter Tryd.func53, Tryd.ntmps53
  go_wp2_with (first | (go_at_call 80; refine (atom_calls _ _).mono ?_; rintro e w' ⟨rfl, rfl⟩) | (go_at_call 81; refine (quant_calls _ _).mono ?_; rintro e w' ⟨rfl, rfl⟩) | (go_at_call 82; refine (counts_calls _ _).mono ?_; rintro e w' ⟨rfl, rfl⟩) | (go_at_call 85; refine hcT.out.mono ?_; clear hcT; rintro e w' ⟨rfl, hb⟩; obtain ⟨hcc, hff⟩ := bcell hb))
  all_goals
    go_ret
    refine ⟨ret_bool ?_, by first | exact hA.out | exact hA.out.trans (hb.mono (by simp))⟩
    clear hA hu26 g0 l0 g1 l1
    subst h5 h3 h4 hN hS h2 hs hnb
    simp_all <;> intros <;> omega
set_option maxRecDepth 100000 in
set_option maxHeartbeats 4000000 in
theorem formed_q (k n m : Int) (nm sg : ByteArray) (n3 n4 n5 : Nat) (A3 : Option Addr) (c3 : Nat) (A4 : Option Addr) (c4 : Nat) (A5 : Option Addr) (c5 : Nat) (b0 b1 : Nat) (w : World) (known b5 b3 b4 bN bS e2 s0 rT rB nb : Bool)
    (g0 : ∀ o, (w.alloc o).cell? ⟨0, 0, none⟩ = some (.map (some b0))) (l0 : ∀ o, (Instr.lookup 85 (.map (some b0)) (.int .i64 k) true).run Tryd.prog (w.alloc o) = .ok (.tuple #[.int .i64 m, .bool known]) (w.alloc o))
    (g1 : ∀ o, (w.alloc o).cell? ⟨1, 0, none⟩ = some (.map (some b1))) (l1 : ∀ o, (Instr.lookup 87 (.map (some b1)) (.string nm) false).run Tryd.prog (w.alloc o) = .ok (.string sg) (w.alloc o))
    (h5 : ((n5 : Int) != m) = b5) (h3 : ((n3 : Int) != 0) = b3) (h4 : ((n4 : Int) != 0) = b4) (hN : (n != 0) = bN) (hS : (!nm.toList.isEmpty) = bS) (h2 : ((n3 : Int) == 2) = e2) (hs : sg.toList.isEmpty = s0) (hnb : number n = nb)
    (ka : atom k = false) (kq : quant k = true) (kc : counts k = false) (k9 : (k != 9) = true) (k9' : (k == 9) = false)
    (hcT : Aside0 (Calls Tryd.prog 85 #[.slice A3 n3 c3, .func (.func 83) #[] #[.pointer (some ⟨w.heap.size, 0, none⟩)]] (w.alloc (.cells #[.int .i64 k, .string nm, .int .i64 n, .slice A3 n3 c3, .slice A4 n4 c4, .slice A5 n5 c5] 26)) fun e w' => e = .returned (.bool rT) ∧ Below (w.alloc (.cells #[.int .i64 k, .string nm, .int .i64 n, .slice A3 n3 c3, .slice A4 n4 c4, .slice A5 n5 c5] 26)).heap.size (w.alloc (.cells #[.int .i64 k, .string nm, .int .i64 n, .slice A3 n3 c3, .slice A4 n4 c4, .slice A5 n5 c5] 26)) w'))
    (hcB : Aside0 (Calls Tryd.prog 73 #[.slice A4 n4 c4, .func (.func 86) #[] #[]] (w.alloc (.cells #[.int .i64 k, .string nm, .int .i64 n, .slice A3 n3 c3, .slice A4 n4 c4, .slice A5 n5 c5] 26)) fun e w' => e = .returned (.bool rB) ∧ Below (w.alloc (.cells #[.int .i64 k, .string nm, .int .i64 n, .slice A3 n3 c3, .slice A4 n4 c4, .slice A5 n5 c5] 26)).heap.size (w.alloc (.cells #[.int .i64 k, .string nm, .int .i64 n, .slice A3 n3 c3, .slice A4 n4 c4, .slice A5 n5 c5] 26)) w')) :
    Calls Tryd.prog 53 #[.agg #[.int .i64 k, .string nm, .int .i64 n, .slice A3 n3 c3, .slice A4 n4 c4, .slice A5 n5 c5]] w fun e w' => e = .returned (.bool (known && !b5 && !b3 && !bN && !bS && (decide (0 < n4) && decide (n4 ≤ 6) && !rB && nb))) ∧ Below w.heap.size w w' := by
  have hu26 := Tryd.underlying26
  have hA := Aside0.mk ((Below.refl w.heap.size w).alloc (Nat.le_refl _) (.cells #[.int .i64 k, .string nm, .int .i64 n, .slice A3 n3 c3, .slice A4 n4 c4, .slice A5 n5 c5] 26))
  go_enter Tryd.func53, Tryd.ntmps53
  go_wp2_with (first | (go_at_call 80; refine (atom_calls _ _).mono ?_; rintro e w' ⟨rfl, rfl⟩) | (go_at_call 81; refine (quant_calls _ _).mono ?_; rintro e w' ⟨rfl, rfl⟩) | (go_at_call 82; refine (counts_calls _ _).mono ?_; rintro e w' ⟨rfl, rfl⟩) | (go_at_call 88; refine (number_calls _ _).mono ?_; rintro e w' ⟨rfl, rfl⟩) | (go_at_call 73; refine hcB.out.mono ?_; clear hcB; rintro e w' ⟨rfl, hb⟩; obtain ⟨hcc, hff⟩ := bcell hb))
  all_goals
    go_ret
    refine ⟨ret_bool ?_, by first | exact hA.out | exact hA.out.trans (hb.mono (by simp))⟩
    clear hA hu26 g0 l0 g1 l1
    subst h5 h3 h4 hN hS h2 hs hnb
    simp_all <;> intros <;> omega
set_option maxRecDepth 100000 in
set_option maxHeartbeats 4000000 in
theorem formed_c (k n m : Int) (nm sg : ByteArray) (n3 n4 n5 : Nat) (A3 : Option Addr) (c3 : Nat) (A4 : Option Addr) (c4 : Nat) (A5 : Option Addr) (c5 : Nat) (b0 b1 : Nat) (w : World) (known b5 b3 b4 bN bS e2 s0 rT rB nb : Bool)
    (g0 : ∀ o, (w.alloc o).cell? ⟨0, 0, none⟩ = some (.map (some b0))) (l0 : ∀ o, (Instr.lookup 85 (.map (some b0)) (.int .i64 k) true).run Tryd.prog (w.alloc o) = .ok (.tuple #[.int .i64 m, .bool known]) (w.alloc o))
    (g1 : ∀ o, (w.alloc o).cell? ⟨1, 0, none⟩ = some (.map (some b1))) (l1 : ∀ o, (Instr.lookup 87 (.map (some b1)) (.string nm) false).run Tryd.prog (w.alloc o) = .ok (.string sg) (w.alloc o))
    (h5 : ((n5 : Int) != m) = b5) (h3 : ((n3 : Int) != 0) = b3) (h4 : ((n4 : Int) != 0) = b4) (hN : (n != 0) = bN) (hS : (!nm.toList.isEmpty) = bS) (h2 : ((n3 : Int) == 2) = e2) (hs : sg.toList.isEmpty = s0) (hnb : number n = nb)
    (ka : atom k = false) (kq : quant k = true) (kc : counts k = true) (k9 : (k != 9) = true) (k9' : (k == 9) = false)
    (hcT : Aside0 (Calls Tryd.prog 85 #[.slice A3 n3 c3, .func (.func 83) #[] #[.pointer (some ⟨w.heap.size, 0, none⟩)]] (w.alloc (.cells #[.int .i64 k, .string nm, .int .i64 n, .slice A3 n3 c3, .slice A4 n4 c4, .slice A5 n5 c5] 26)) fun e w' => e = .returned (.bool rT) ∧ Below (w.alloc (.cells #[.int .i64 k, .string nm, .int .i64 n, .slice A3 n3 c3, .slice A4 n4 c4, .slice A5 n5 c5] 26)).heap.size (w.alloc (.cells #[.int .i64 k, .string nm, .int .i64 n, .slice A3 n3 c3, .slice A4 n4 c4, .slice A5 n5 c5] 26)) w'))
    (hcB : Aside0 (Calls Tryd.prog 73 #[.slice A4 n4 c4, .func (.func 86) #[] #[]] (w.alloc (.cells #[.int .i64 k, .string nm, .int .i64 n, .slice A3 n3 c3, .slice A4 n4 c4, .slice A5 n5 c5] 26)) fun e w' => e = .returned (.bool rB) ∧ Below (w.alloc (.cells #[.int .i64 k, .string nm, .int .i64 n, .slice A3 n3 c3, .slice A4 n4 c4, .slice A5 n5 c5] 26)).heap.size (w.alloc (.cells #[.int .i64 k, .string nm, .int .i64 n, .slice A3 n3 c3, .slice A4 n4 c4, .slice A5 n5 c5] 26)) w')) :
    Calls Tryd.prog 53 #[.agg #[.int .i64 k, .string nm, .int .i64 n, .slice A3 n3 c3, .slice A4 n4 c4, .slice A5 n5 c5]] w fun e w' => e = .returned (.bool (known && !b5 && !b3 && !bS && (decide (0 < n4) && decide (n4 ≤ 6) && !rB && nb))) ∧ Below w.heap.size w w' := by
  have hu26 := Tryd.underlying26
  have hA := Aside0.mk ((Below.refl w.heap.size w).alloc (Nat.le_refl _) (.cells #[.int .i64 k, .string nm, .int .i64 n, .slice A3 n3 c3, .slice A4 n4 c4, .slice A5 n5 c5] 26))
  go_enter Tryd.func53, Tryd.ntmps53
  go_wp2_with (first | (go_at_call 80; refine (atom_calls _ _).mono ?_; rintro e w' ⟨rfl, rfl⟩) | (go_at_call 81; refine (quant_calls _ _).mono ?_; rintro e w' ⟨rfl, rfl⟩) | (go_at_call 82; refine (counts_calls _ _).mono ?_; rintro e w' ⟨rfl, rfl⟩) | (go_at_call 88; refine (number_calls _ _).mono ?_; rintro e w' ⟨rfl, rfl⟩) | (go_at_call 73; refine hcB.out.mono ?_; clear hcB; rintro e w' ⟨rfl, hb⟩; obtain ⟨hcc, hff⟩ := bcell hb))
  all_goals
    go_ret
    refine ⟨ret_bool ?_, by first | exact hA.out | exact hA.out.trans (hb.mono (by simp))⟩
    clear hA hu26 g0 l0 g1 l1
    subst h5 h3 h4 hN hS h2 hs hnb
    simp_all <;> intros <;> omega
end Go.Proofs.YtmlcaecknocpoaaDoor.It
namespace Go.Proofs.YtmlcaecknocpoaaDoor.It
open Go Go.RowKit Go.Shelf Go.Proofs.YtmlcaecknocpoaaDoorW.PrintWords Go.Proofs.YtmlcaecknocpoaaDoor.Pr Go.Proofs.YtmlcaecknocpoaaDoor.Sp
theorem sign_some (s : ByteArray) : (sign s).toList.isEmpty = !(isSign s) := by
  unfold sign isSign
  rw [ByteArray.toList_eq]
  generalize s.data.toList = l
  cases h : signs.lookup l with
  | none => rfl
  | some r =>
    have hm : ∃ q, (q, r) ∈ signs := by
      unfold signs at h ⊢
      simp only [List.lookup] at h
      repeat' split at h
      all_goals first | (injection h with h; subst h; simp) | cases h
    obtain ⟨q, hm⟩ := hm
    simp only [signs, List.mem_cons, List.not_mem_nil, or_false, Prod.mk.injEq] at hm
    simp
    rcases hm with ⟨_, rfl⟩ | ⟨_, rfl⟩ | ⟨_, rfl⟩ | ⟨_, rfl⟩ | ⟨_, rfl⟩ | ⟨_, rfl⟩ <;> decide
theorem any_oddT (k : Int) (ts : List S47) : (ts.any (oddT k)) = !(ts.all term && (decide (k = 9) || ts.all fun t => decide (t.f0 = 2))) := by
  induction ts with
  | nil => simp
  | cons t ts ih =>
    rw [List.any_cons, ih, List.all_cons, List.all_cons]
    unfold oddT
    cases term t <;> cases ts.all term <;> by_cases h9 : k = 9 <;> by_cases h2 : t.f0 = 2 <;> simp [h9, h2]
theorem any_oddB (bs : List S42) : (bs.any oddB) = !(bs.all Sp.bind) := by
  induction bs with
  | nil => rfl
  | cons b bs ih =>
    rw [List.any_cons, ih, List.all_cons]
    unfold oddB
    cases Sp.bind b <;> cases bs.all Sp.bind <;> rfl
theorem kinds (k : Int) : (atom k = false ∧ quant k = false ∧ counts k = false ∧ k ≠ 9) ∨ k = 9 ∨ (atom k = true ∧ quant k = false ∧ counts k = false ∧ k ≠ 9) ∨ (atom k = false ∧ quant k = true ∧ k ≠ 9) := by
  unfold atom quant counts
  by_cases h9 : k = 9
  · exact .inr (.inl h9)
  · by_cases h1 : 3 ≤ k ∧ k ≤ 9
    · right; right; left
      simp
      omega
    · by_cases h2 : 14 ≤ k ∧ k ≤ 17
      · right; right; right
        simp
        omega
      · left
        simp
        omega
set_option maxHeartbeats 1000000 in
theorem formed_calls (x : S26) (A3 : Option Addr) (c3 : Nat) (A4 : Option Addr) (c4 : Nat) (A5 : Option Addr) (c5 : Nat) (w : World) (hat : At w x A3 c3 A4 c4 A5 c5) (ho : Own1 x) (ht : Tabs w) :
    Calls Tryd.prog 53 #[.agg #[.int .i64 x.f0, .string x.f1, .int .i64 x.f2, .slice A3 x.f3.length c3, .slice A4 x.f4.length c4, .slice A5 x.f5.length c5]] w fun e w' => e = .returned (.bool (here x)) ∧ Below w.heap.size w w' := by
  have hA := (Below.refl w.heap.size w).alloc (Nat.le_refl _) (.cells #[.int .i64 x.f0, .string x.f1, .int .i64 x.f2, .slice A3 x.f3.length c3, .slice A4 x.f4.length c4, .slice A5 x.f5.length c5] 26)
  have hb := heap_new w (.cells #[.int .i64 x.f0, .string x.f1, .int .i64 x.f2, .slice A3 x.f3.length c3, .slice A4 x.f4.length c4, .slice A5 x.f5.length c5] 26)
  have hcT := Aside0.mk (containsT_calls 83 #[.pointer (some ⟨w.heap.size, 0, none⟩)] enters83 (oddT x.f0) (fun t => t.f1.size ≤ 9223372036854775807) A3 c3 x.f3 _ (Kd.C_below hat.g3 hA) ho.ts
    (fun t hs W hW => odd_t x.f0 w.heap.size t W hs (ht.below (hA.trans (hW.mono hA.size))) (up_cell hW ((blk_cell hb 0).trans rfl))))
  have hcB := Aside0.mk (containsB_calls 86 #[] enters86 oddB (fun b => b.f0.size ≤ 9223372036854775807) A4 c4 x.f4 _ (Kd.C_below hat.g4 hA) ho.bs
    (fun b hs W hW => odd_b b W hs (ht.below (hA.trans (hW.mono hA.size)))))
  obtain ⟨b0, g0, l0⟩ := ht.arity
  obtain ⟨b1, g1, l1⟩ := ht.signs
  have up : ∀ o : Obj, Below w.heap.size w (w.alloc o) := fun o => (Below.refl w.heap.size w).alloc (Nat.le_refl _) o
  have G0 := fun o => up_cell (up o) g0
  have G1 := fun o => up_cell (up o) g1
  have L0 := fun o => l0 (w.alloc o) (up o) x.f0 ho.k
  have L1 := fun o => l1 (w.alloc o) (up o) x.f1 (by unfold maxLen; exact ho.nm)
  have hss := sign_some x.f1
  have hT := any_oddT x.f0 x.f3
  have hBb := any_oddB x.f4
  have hn0 : x.f2 = 0 → number x.f2 = true := by intro e; rw [e]; rfl
  rcases kinds x.f0 with ⟨ka, kq, kc, k9⟩ | k9 | ⟨ka, kq, kc, k9⟩ | ⟨ka, kq, k9⟩
  · refine (formed_n x.f0 x.f2 _ x.f1 _ x.f3.length x.f4.length x.f5.length A3 c3 A4 c4 A5 c5 b0 b1 w _ _ _ _ _ _ _ _ _ _ _ G0 L0 G1 L1 rfl rfl rfl rfl rfl rfl rfl rfl ka kq kc (bne_iff_ne.2 k9) (beq_eq_false_iff_ne.2 k9) hcT hcB).mono fun e w' ⟨he, hw⟩ => ⟨he.trans (ret_bool ?_), hw⟩
    rw [Bool.eq_iff_iff]
    simp only [here, termsOk, bindsOk, ka, kq, empty_iff]
    cases har : arity x.f0 <;> simp
    all_goals (clear hcT hcB hw he; first | (constructor <;> intro h <;> simp_all <;> omega) | (constructor <;> intro h <;> simp_all))
  · have ka : atom x.f0 = true := by rw [k9]; rfl
    have kq : quant x.f0 = false := by rw [k9]; rfl
    have kc : counts x.f0 = false := by rw [k9]; rfl
    refine (formed_9 x.f0 x.f2 _ x.f1 _ x.f3.length x.f4.length x.f5.length A3 c3 A4 c4 A5 c5 b0 b1 w _ _ _ _ _ _ _ _ _ _ _ G0 L0 G1 L1 rfl rfl rfl rfl rfl rfl rfl rfl ka kq kc (bne_eq_false_iff_eq.2 k9) (beq_iff_eq.2 k9) hcT hcB).mono fun e w' ⟨he, hw⟩ => ⟨he.trans (ret_bool ?_), hw⟩
    rw [Bool.eq_iff_iff]
    simp only [here, termsOk, bindsOk, ka, kq, hss, hT, if_pos k9, decide_eq_true k9, Bool.true_or, Bool.and_true, if_true]
    cases har : arity x.f0 <;> simp
    all_goals (clear hcT hcB hw he; first | (constructor <;> intro h <;> simp_all <;> omega) | (constructor <;> intro h <;> simp_all))
  · refine (formed_a x.f0 x.f2 _ x.f1 _ x.f3.length x.f4.length x.f5.length A3 c3 A4 c4 A5 c5 b0 b1 w _ _ _ _ _ _ _ _ _ _ _ G0 L0 G1 L1 rfl rfl rfl rfl rfl rfl rfl rfl ka kq kc (bne_iff_ne.2 k9) (beq_eq_false_iff_ne.2 k9) hcT hcB).mono fun e w' ⟨he, hw⟩ => ⟨he.trans (ret_bool ?_), hw⟩
    rw [Bool.eq_iff_iff]
    simp only [here, termsOk, bindsOk, ka, kq, empty_iff, hT, k9]
    cases har : arity x.f0 <;> simp
    all_goals (clear hcT hcB hw he; first | (constructor <;> intro h <;> simp_all <;> omega) | (constructor <;> intro h <;> simp_all))
  · cases kc : counts x.f0
    · refine (formed_q x.f0 x.f2 _ x.f1 _ x.f3.length x.f4.length x.f5.length A3 c3 A4 c4 A5 c5 b0 b1 w _ _ _ _ _ _ _ _ _ _ _ G0 L0 G1 L1 rfl rfl rfl rfl rfl rfl rfl rfl ka kq kc (bne_iff_ne.2 k9) (beq_eq_false_iff_ne.2 k9) hcT hcB).mono fun e w' ⟨he, hw⟩ => ⟨he.trans (ret_bool ?_), hw⟩
      rw [Bool.eq_iff_iff]
      simp only [here, termsOk, bindsOk, ka, kq, empty_iff, hBb, kc]
      cases har : arity x.f0 <;> simp
      all_goals (clear hcT hcB hw he; first | (constructor <;> intro h <;> simp_all <;> omega) | (constructor <;> intro h <;> simp_all))
    · refine (formed_c x.f0 x.f2 _ x.f1 _ x.f3.length x.f4.length x.f5.length A3 c3 A4 c4 A5 c5 b0 b1 w _ _ _ _ _ _ _ _ _ _ _ G0 L0 G1 L1 rfl rfl rfl rfl rfl rfl rfl rfl ka kq kc (bne_iff_ne.2 k9) (beq_eq_false_iff_ne.2 k9) hcT hcB).mono fun e w' ⟨he, hw⟩ => ⟨he.trans (ret_bool ?_), hw⟩
      rw [Bool.eq_iff_iff]
      simp only [here, termsOk, bindsOk, ka, kq, empty_iff, hBb, kc]
      cases har : arity x.f0 <;> simp
      all_goals (clear hcT hcB hw he; first | (constructor <;> intro h <;> simp_all <;> omega) | (constructor <;> intro h <;> simp_all))
end Go.Proofs.YtmlcaecknocpoaaDoor.It
