/- Lemmas and walks for the claim below. -/
import Derived.Test.YtmlcaecknocpoaaDoorQaK1
import Derived.Test.YtmlcaecknocpoaaDoorProg
import Derived.Below
import Derived.Deep.Draws
import Derived.Deep.AppendLies
import Derived.Maps.AppendAt
import Derived.OwnWalk
import Derived.Laws.BytesArg
import Derived.Laws.MakeOwn
import Derived.Laws.OwnMore
import Derived.Deep.OwnRows
import Derived.Tactics
import Derived.Lib.ConvBytes
import Derived.Laws.Slices
import Derived.WalkKit
import Derived.KernelRfl
import Derived.RowKit3
import Derived.Deep.LoopGhost
import Derived.Deep.QuietTactic
import Derived.BigQuiet
import Derived.WideLaws
import Derived.Deep.DeepCutAuto
import Derived.Deep.CutBlock
import Derived.Deep.RegionHeld3
import Derived.Laws.Rows
import Derived.Lib.AppendStr
import Derived.ArgAppend
import Derived.Laws.IdiomCopy
import Derived.OrdersHeld
import Derived.Laws.BitsLemmas
import Derived.RowKit
import Derived.RangeFuncNested
import Derived.RangeFuncBound
import Derived.RangeFuncCalls
import Derived.RangeFuncLeaves
import Derived.Shelf.Abstract
import Derived.OwnWalkIn
import Derived.TacticsInMore
import Derived.LoopNIn
import Derived.LoopIn
import Derived.Ground.NamesProg
import Derived.Shelf.Strings.SlTrimAscii
namespace Go.Proofs.YtmlcaecknocpoaaDoor.Pr
open Go.RowKit Go.Proofs.YtmlcaecknocpoaaDoorW.PrintWords Go.Proofs.YtmlcaecknocpoaaDoorW.PrintLast Go.Proofs.YtmlcaecknocpoaaDoorW.PrintMore
attribute [local go_sem] max2_int min2_int max_two min_two max_three min_three max_four min_four   
set_option linter.unusedVariables false
set_option linter.unusedSimpArgs false
def errW : Option Int → Value
  | none => .nilIface
  | some c => .iface 0 (.int .i64 c)
theorem errW_none : errW none = .nilIface := rfl
theorem errW_some (c : Int) : errW (some c) = .iface 0 (.int .i64 c) := rfl
theorem info9 : (Tryd.prog.info? 9).map (fun i => (i.zero, i.size, i.bytes)) = some (some (.string ⟨#[]⟩), 1, 16) := by kernel_rfl
theorem info42 : (Tryd.prog.info? 42).map (fun i => (i.zero, i.size, i.bytes)) = some (some (.agg #[(.string ⟨#[]⟩), (.int .i64 0)]), 2, 24) := by kernel_rfl
theorem info47 : (Tryd.prog.info? 47).map (fun i => (i.zero, i.size, i.bytes)) = some (some (.agg #[(.int .i64 0), (.string ⟨#[]⟩), (.int .i64 0)]), 3, 32) := by kernel_rfl
structure S47 where
  f0 : Int
  f1 : ByteArray
  f2 : Int
def z47 : S47 := ⟨(0 : Int), (⟨#[]⟩ : ByteArray), (0 : Int)⟩
def k47 : Kd S47 := Kd.iso (Kd.pair (Kd.int .i64) (Kd.pair Kd.string (Kd.int .i64))) (fun x : S47 => (x.f0, x.f1, x.f2))
theorem k47_open {w : World} {x : S47} {cs : List Value} (h : k47.K w x cs) : cs = [.int .i64 x.f0, .string x.f1, .int .i64 x.f2] := by
  obtain ⟨_, _, rfl, rfl, ⟨_, _, rfl, rfl, rfl⟩⟩ := h
  exact rfl
theorem k47_mk (w : World) (x : S47)  : k47.K w x [.int .i64 x.f0, .string x.f1, .int .i64 x.f2] := ⟨[.int .i64 x.f0], [.string x.f1, .int .i64 x.f2], rfl, rfl, ⟨[.string x.f1], [.int .i64 x.f2], rfl, rfl, rfl⟩⟩
def rd_T47 (xs : List S47) (i : Int) : S47 := xs.getD i.toNat z47
theorem at_T47 {w : World} {A : Option Addr} {n : Nat} {xs : List S47} (h : Kd.C k47 w A n xs) (i : Int) (h0 : 0 ≤ i) (h1 : i < n) : ∃ ad , A = some ad ∧ w.cell? (ad.add (i.toNat * 3)) = some (.int .i64 (rd_T47 xs i).f0) ∧ w.cell? ⟨(ad.add (i.toNat * 3)).block, (ad.add (i.toNat * 3)).off + 1, none⟩ = some (.string (rd_T47 xs i).f1) ∧ w.cell? ⟨(ad.add (i.toNat * 3)).block, (ad.add (i.toNat * 3)).off + 2, none⟩ = some (.int .i64 (rd_T47 xs i).f2) := by
  obtain ⟨ad, c, e, _, hK, hc0⟩ := Kd.C_get h z47 i h0 h1
  have hc : ∀ j u, c[j]? = some u → w.cell? (ad.add (i.toNat * 3 + j)) = some u := hc0
  obtain rfl := k47_open hK
  exact ⟨ad, e, hc 0 _ rfl, by rw [← add_field _ _ 1 (by omega)]; exact hc 1 _ rfl, by rw [← add_field _ _ 2 (by omega)]; exact hc 2 _ rfl⟩
structure S42 where
  f0 : ByteArray
  f1 : Int
def z42 : S42 := ⟨(⟨#[]⟩ : ByteArray), (0 : Int)⟩
def k42 : Kd S42 := Kd.iso (Kd.pair Kd.string (Kd.int .i64)) (fun x : S42 => (x.f0, x.f1))
theorem k42_open {w : World} {x : S42} {cs : List Value} (h : k42.K w x cs) : cs = [.string x.f0, .int .i64 x.f1] := by
  obtain ⟨_, _, rfl, rfl, rfl⟩ := h
  exact rfl
theorem k42_mk (w : World) (x : S42)  : k42.K w x [.string x.f0, .int .i64 x.f1] := ⟨[.string x.f0], [.int .i64 x.f1], rfl, rfl, rfl⟩
def rd_T42 (xs : List S42) (i : Int) : S42 := xs.getD i.toNat z42
theorem at_T42 {w : World} {A : Option Addr} {n : Nat} {xs : List S42} (h : Kd.C k42 w A n xs) (i : Int) (h0 : 0 ≤ i) (h1 : i < n) : ∃ ad , A = some ad ∧ w.cell? (ad.add (i.toNat * 2)) = some (.string (rd_T42 xs i).f0) ∧ w.cell? ⟨(ad.add (i.toNat * 2)).block, (ad.add (i.toNat * 2)).off + 1, none⟩ = some (.int .i64 (rd_T42 xs i).f1) := by
  obtain ⟨ad, c, e, _, hK, hc0⟩ := Kd.C_get h z42 i h0 h1
  have hc : ∀ j u, c[j]? = some u → w.cell? (ad.add (i.toNat * 2 + j)) = some u := hc0
  obtain rfl := k42_open hK
  exact ⟨ad, e, hc 0 _ rfl, by rw [← add_field _ _ 1 (by omega)]; exact hc 1 _ rfl⟩
structure S26 where
  f0 : Int
  f1 : ByteArray
  f2 : Int
  f3 : (List S47)
  f4 : (List S42)
  f5 : (List S26)
def z26 : S26 := ⟨(0 : Int), (⟨#[]⟩ : ByteArray), (0 : Int), ([] : List S47), ([] : List S42), ([] : List S26)⟩
def F26 (d : Kd S26) : Kd S26 := Kd.iso (Kd.pair (Kd.int .i64) (Kd.pair Kd.string (Kd.pair (Kd.int .i64) (Kd.pair (Kd.slice 47 k47) (Kd.pair (Kd.slice 42 k42) (Kd.slice 26 d)))))) (fun x : S26 => (x.f0, x.f1, x.f2, x.f3, x.f4, x.f5))
theorem mono26 : Kd.Mono F26 := Kd.mono_iso _ (Kd.mono_pair (Kd.mono_const _) (Kd.mono_pair (Kd.mono_const _) (Kd.mono_pair (Kd.mono_const _) (Kd.mono_pair (Kd.mono_const _) (Kd.mono_pair (Kd.mono_const _) (Kd.mono_slice 26 Kd.mono_id))))))
theorem sub26 : Kd.Sub F26 [26, 42, 47] := Kd.sub_iso _ (Kd.sub_pair (Kd.sub_const _ (by decide)) (Kd.sub_pair (Kd.sub_const _ (by decide)) (Kd.sub_pair (Kd.sub_const _ (by decide)) (Kd.sub_pair (Kd.sub_const _ (by decide)) (Kd.sub_pair (Kd.sub_const _ (by decide)) (Kd.sub_slice 26 (by decide) Kd.sub_id))))))
theorem sz26 : ∀ n, (Kd.upto F26 6 [26, 42, 47] n).sz = 6 := Kd.upto_sz (fun _ => rfl)
def k26 : Kd S26 := Kd.fix F26 6 [26, 42, 47] sz26 (Kd.upto_E sub26)
theorem k26_open {w : World} {x : S26} {cs : List Value} (h : k26.K w x cs) : ∃ A3 c3 A4 c4 A5 c5, cs = [.int .i64 x.f0, .string x.f1, .int .i64 x.f2, .slice A3 x.f3.length c3, .slice A4 x.f4.length c4, .slice A5 x.f5.length c5] ∧ x.f3.length ≤ c3 ∧ k47.C w A3 x.f3.length x.f3 ∧ x.f4.length ≤ c4 ∧ k42.C w A4 x.f4.length x.f4 ∧ x.f5.length ≤ c5 ∧ k26.C w A5 x.f5.length x.f5 := by
  obtain ⟨n, h⟩ := h
  cases n with
  | zero => exact h.elim
  | succ n =>
    obtain ⟨_, _, rfl, rfl, ⟨_, _, rfl, rfl, ⟨_, _, rfl, rfl, ⟨_, _, rfl, ⟨A3, c3, rfl, l3, g3⟩, ⟨_, _, rfl, ⟨A4, c4, rfl, l4, g4⟩, ⟨A5, c5, rfl, l5, g5⟩⟩⟩⟩⟩⟩ := h
    exact ⟨A3, c3, A4, c4, A5, c5, rfl, l3, g3, l4, g4, l5, Kd.fix_C g5⟩
theorem k26_mk (w : World) (x : S26) {A3 : Option Addr} {c3 : Nat} (l3 : x.f3.length ≤ c3) (g3 : k47.C w A3 x.f3.length x.f3) {A4 : Option Addr} {c4 : Nat} (l4 : x.f4.length ≤ c4) (g4 : k42.C w A4 x.f4.length x.f4) {A5 : Option Addr} {c5 : Nat} (l5 : x.f5.length ≤ c5) (g5 : k26.C w A5 x.f5.length x.f5) : k26.K w x [.int .i64 x.f0, .string x.f1, .int .i64 x.f2, .slice A3 x.f3.length c3, .slice A4 x.f4.length c4, .slice A5 x.f5.length c5] := by
  obtain ⟨n5, q5⟩ := Kd.fix_C_back mono26 g5
  have r5 := Kd.upto_C_le mono26 sz26 (show n5 ≤ n5 by omega) q5
  exact ⟨n5 + 1, ⟨[.int .i64 x.f0], [.string x.f1, .int .i64 x.f2, .slice A3 x.f3.length c3, .slice A4 x.f4.length c4, .slice A5 x.f5.length c5], rfl, rfl, ⟨[.string x.f1], [.int .i64 x.f2, .slice A3 x.f3.length c3, .slice A4 x.f4.length c4, .slice A5 x.f5.length c5], rfl, rfl, ⟨[.int .i64 x.f2], [.slice A3 x.f3.length c3, .slice A4 x.f4.length c4, .slice A5 x.f5.length c5], rfl, rfl, ⟨[.slice A3 x.f3.length c3], [.slice A4 x.f4.length c4, .slice A5 x.f5.length c5], rfl, ⟨A3, c3, rfl, l3, g3⟩, ⟨[.slice A4 x.f4.length c4], [.slice A5 x.f5.length c5], rfl, ⟨A4, c4, rfl, l4, g4⟩, ⟨A5, c5, rfl, l5, r5⟩⟩⟩⟩⟩⟩⟩
def rd_T26 (xs : List S26) (i : Int) : S26 := xs.getD i.toNat z26
theorem at_T26 {w : World} {A : Option Addr} {n : Nat} {xs : List S26} (h : Kd.C k26 w A n xs) (i : Int) (h0 : 0 ≤ i) (h1 : i < n) : ∃ ad A3 c3 A4 c4 A5 c5, A = some ad ∧ w.cell? (ad.add (i.toNat * 6)) = some (.int .i64 (rd_T26 xs i).f0) ∧ w.cell? ⟨(ad.add (i.toNat * 6)).block, (ad.add (i.toNat * 6)).off + 1, none⟩ = some (.string (rd_T26 xs i).f1) ∧ w.cell? ⟨(ad.add (i.toNat * 6)).block, (ad.add (i.toNat * 6)).off + 2, none⟩ = some (.int .i64 (rd_T26 xs i).f2) ∧ w.cell? ⟨(ad.add (i.toNat * 6)).block, (ad.add (i.toNat * 6)).off + 3, none⟩ = some (.slice A3 (rd_T26 xs i).f3.length c3) ∧ w.cell? ⟨(ad.add (i.toNat * 6)).block, (ad.add (i.toNat * 6)).off + 4, none⟩ = some (.slice A4 (rd_T26 xs i).f4.length c4) ∧ w.cell? ⟨(ad.add (i.toNat * 6)).block, (ad.add (i.toNat * 6)).off + 5, none⟩ = some (.slice A5 (rd_T26 xs i).f5.length c5) ∧ (rd_T26 xs i).f3.length ≤ c3 ∧ k47.C w A3 (rd_T26 xs i).f3.length (rd_T26 xs i).f3 ∧ (rd_T26 xs i).f4.length ≤ c4 ∧ k42.C w A4 (rd_T26 xs i).f4.length (rd_T26 xs i).f4 ∧ (rd_T26 xs i).f5.length ≤ c5 ∧ k26.C w A5 (rd_T26 xs i).f5.length (rd_T26 xs i).f5 := by
  obtain ⟨ad, c, e, _, hK, hc0⟩ := Kd.C_get h z26 i h0 h1
  have hc : ∀ j u, c[j]? = some u → w.cell? (ad.add (i.toNat * 6 + j)) = some u := hc0
  obtain ⟨A3, c3, A4, c4, A5, c5, rfl, l3, g3, l4, g4, l5, g5⟩ := k26_open hK
  exact ⟨ad, A3, c3, A4, c4, A5, c5, e, hc 0 _ rfl, by rw [← add_field _ _ 1 (by omega)]; exact hc 1 _ rfl, by rw [← add_field _ _ 2 (by omega)]; exact hc 2 _ rfl, by rw [← add_field _ _ 3 (by omega)]; exact hc 3 _ rfl, by rw [← add_field _ _ 4 (by omega)]; exact hc 4 _ rfl, by rw [← add_field _ _ 5 (by omega)]; exact hc 5 _ rfl, l3, g3, l4, g4, l5, g5⟩
end Go.Proofs.YtmlcaecknocpoaaDoor.Pr
namespace Go.Proofs.YtmlcaecknocpoaaDoor.Sp
open Go.Proofs.YtmlcaecknocpoaaDoor.Pr
deriving instance DecidableEq for S47
deriving instance DecidableEq for S42
mutual
def size : S26 → Nat
  | ⟨_, _, _, _, _, l⟩ => 1 + sizes l
def sizes : List S26 → Nat
  | [] => 0
  | x :: l => size x + sizes l
end
mutual
def depth : S26 → Nat
  | ⟨_, _, _, _, _, l⟩ => depths l + 1
def depths : List S26 → Nat
  | [] => 0
  | x :: l => max (depth x) (depths l)
end
def letter (c : UInt8) : Bool := 97 ≤ c && c ≤ 122
def wordC (c : UInt8) : Bool := letter c || (48 ≤ c && c ≤ 57) || c == 95
def word : List UInt8 → Bool
  | [] => false
  | c :: r => letter c && r.all wordC && r.length ≤ 63
def reserved : List (List UInt8) := [[104, 97, 114, 100], [115, 111, 102, 116], [101, 97, 99, 104], [97, 108, 108], [115, 111, 109, 101], [108, 101, 97, 115, 116], [109, 111, 115, 116], [116, 114, 117, 101], [102, 97, 108, 115, 101], [97, 116], [105, 110], [116, 101, 97, 99, 104, 101, 115], [97, 116, 116, 101, 110, 100, 115], [97, 119, 97, 121], [115, 104, 117, 116], [100, 97, 121], [104, 111, 117, 114], [104, 111, 117, 115, 101], [115, 101, 97, 116, 115], [115, 105, 122, 101], [108, 101, 115, 115, 111, 110], [115, 108, 111, 116], [114, 111, 111, 109], [112, 101, 114, 115, 111, 110], [103, 114, 111, 117, 112]]
def name (s : ByteArray) : Bool := word s.data.toList && !reserved.contains s.data.toList
def most : Int := 1099511627776
def number (n : Int) : Bool := decide (0 ≤ n) && decide (n ≤ most)
def term (t : S47) : Bool := if t.f0 = 1 then decide (t.f1 = ByteArray.empty) && number t.f2 else decide (2 ≤ t.f0) && decide (t.f0 ≤ 7) && name t.f1 && decide (t.f2 = 0)
def bind (b : S42) : Bool := name b.f0 && decide (1 ≤ b.f1) && decide (b.f1 ≤ 7)
def atom (k : Int) : Bool := decide (3 ≤ k) && decide (k ≤ 9)
def quant (k : Int) : Bool := decide (14 ≤ k) && decide (k ≤ 17)
def counts (k : Int) : Bool := decide (k = 16) || decide (k = 17)
def arity (k : Int) : Option Int := if k = 1 ∨ k = 2 ∨ (3 ≤ k ∧ k ≤ 9) then some 0 else if k = 10 ∨ (14 ≤ k ∧ k ≤ 17) then some 1 else if 11 ≤ k ∧ k ≤ 13 then some 2 else none
def signs : List (List UInt8 × List UInt8) := [([61], [33, 61]), ([33, 61], [61]), ([60], [62, 61]), ([62, 61], [60]), ([60, 61], [62]), ([62], [60, 61])]
def sign (s : ByteArray) : ByteArray := ⟨((signs.lookup s.data.toList).getD []).toArray⟩
def isSign (s : ByteArray) : Bool := (signs.lookup s.data.toList).isSome
def termsOk (k : Int) (nm : ByteArray) (ts : List S47) : Bool :=
  if atom k then decide (ts.length = 2) && ts.all term && (if k = 9 then isSign nm else decide (nm = ByteArray.empty) && ts.all fun t => decide (t.f0 = 2)) else decide (ts = []) && decide (nm = ByteArray.empty)
def bindsOk (k : Int) (n : Int) (bs : List S42) : Bool :=
  if quant k then decide (1 ≤ bs.length) && decide (bs.length ≤ 6) && bs.all bind && (if counts k then number n else decide (n = 0)) else decide (bs = []) && decide (n = 0)
def here (x : S26) : Bool := decide (arity x.f0 = some (x.f5.length : Int)) && termsOk x.f0 x.f1 x.f3 && bindsOk x.f0 x.f2 x.f4
mutual
def form : S26 → Bool
  | ⟨k, nm, n, ts, bs, l⟩ => here ⟨k, nm, n, ts, bs, l⟩ && forms l
def forms : List S26 → Bool
  | [] => true
  | x :: l => form x && forms l
end
def check (x : S26) : Int := if form x then (if size x > 256 ∨ depth x > 24 then 2 else 0) else 1
def names (ts : List S47) : List ByteArray := (ts.filter fun t => decide (t.f0 ≠ 1)).map (·.f1)
def among (l : List ByteArray) (s : ByteArray) : Bool := l.any fun x => decide (x = s)
def addAll (bound : List ByteArray) : List ByteArray → List ByteArray → List ByteArray
  | out, [] => out
  | out, s :: r => if among bound s || among out s then addAll bound out r else addAll bound (out ++ [s]) r
mutual
def free : S26 → List ByteArray
  | ⟨_, _, _, ts, bs, l⟩ => addAll (bs.map (·.f0)) [] (names ts ++ frees l)
def frees : List S26 → List ByteArray
  | [] => []
  | x :: l => free x ++ frees l
end
mutual
def same : S26 → S26 → Bool
  | ⟨k, nm, n, ts, bs, l⟩, ⟨k', nm', n', ts', bs', l'⟩ => decide (k = k') && decide (nm = nm') && decide (n = n') && decide (ts = ts') && decide (bs = bs') && sames l l'
def sames : List S26 → List S26 → Bool
  | [], [] => true
  | x :: l, y :: r => same x y && sames l r
  | _, _ => false
end
def always (k n : Int) : Bool := decide (k = 1) || decide (k = 16) && decide (n = 0) || decide (k = 17) && decide (n = most)
def dual (k : Int) : Int := if k = 11 then 12 else if k = 12 then 11 else if k = 14 then 15 else if k = 15 then 14 else if k = 16 then 17 else 16
def e0 : ByteArray := ⟨#[]⟩
def leaf (k : Int) : S26 := ⟨k, e0, 0, [], [], []⟩
mutual
def right : S26 → Bool → S26
  | ⟨k, nm, n, ts, bs, l⟩, turn =>
    if always k n then leaf (if turn then 2 else 1)
    else if k = 2 then leaf (if turn then 1 else 2)
    else if k = 10 then (rights l (!turn)).headD z26
    else if k = 13 then ⟨if turn then 11 else 12, e0, 0, [], [], [(rights l (!turn)).headD z26, (rights l turn).getD 1 z26]⟩
    else if k = 9 then (if turn then ⟨9, sign nm, n, ts, bs, l⟩ else ⟨k, nm, n, ts, bs, l⟩)
    else if atom k then (if turn then ⟨10, e0, 0, [], [], [⟨k, nm, n, ts, bs, l⟩]⟩ else ⟨k, nm, n, ts, bs, l⟩)
    else ⟨if turn then dual k else k, nm, if turn then (if k = 16 then n - 1 else if k = 17 then n + 1 else n) else n, ts, bs, rights l (turn && !counts k)⟩
def rights : List S26 → Bool → List S26
  | [], _ => []
  | x :: l, turn => right x turn :: rights l turn
end
def nnf (x : S26) : S26 := if check x = 0 then right x false else leaf 0
end Go.Proofs.YtmlcaecknocpoaaDoor.Sp
namespace Go.Proofs.YtmlcaecknocpoaaDoor.Sp
open Go.Proofs.YtmlcaecknocpoaaDoor.Pr
mutual
def gath : List ByteArray → List ByteArray → S26 → List ByteArray
  | bl, out, ⟨_, _, _, ts, bs, l⟩ => gaths (bl ++ bs.map (·.f0)) (addAll (bl ++ bs.map (·.f0)) out (names ts)) l
def gaths : List ByteArray → List ByteArray → List S26 → List ByteArray
  | _, out, [] => out
  | bl, out, x :: l => gaths bl (gath bl out x) l
end
theorem addAll_append (B out a b : List ByteArray) : addAll B out (a ++ b) = addAll B (addAll B out a) b := by
  induction a generalizing out with
  | nil => rfl
  | cons s a ih =>
    simp only [List.cons_append, addAll]
    split
    · exact ih out
    · exact ih (out ++ [s])
theorem among_append (a b : List ByteArray) (s : ByteArray) : among (a ++ b) s = (among a s || among b s) := by simp [among, List.any_append]
theorem among_iff (l : List ByteArray) (s : ByteArray) : among l s = true ↔ s ∈ l := by simp [among]
theorem addAll_has (bl out acc : List ByteArray) (s : ByteArray) (h : s ∈ acc ∨ s ∈ out) : among bl s = true ∨ s ∈ addAll bl out acc := by
  induction acc generalizing out with
  | nil => exact .inr (h.resolve_left (fun h => by cases h))
  | cons a acc ih =>
    simp only [addAll]
    split
    · rename_i hc
      rcases h with h | h
      · cases h with
        | head =>
          simp only [Bool.or_eq_true] at hc
          rcases hc with hc | hc
          · exact .inl hc
          · exact ih out (.inr ((among_iff _ _).1 hc))
        | tail _ h => exact ih out (.inl h)
      · exact ih out (.inr h)
    · rcases h with h | h
      · cases h with
        | head => exact ih _ (.inr (by simp))
        | tail _ h => exact ih _ (.inl h)
      · exact ih _ (.inr (by simp [h]))
theorem addAll_two (bl B out acc L : List ByteArray) : addAll bl out (addAll B acc L) = addAll (bl ++ B) (addAll bl out acc) L := by
  induction L generalizing acc with
  | nil => rfl
  | cons s L ih =>
    simp only [addAll]
    by_cases c : (among B s || among acc s) = true
    · rw [if_pos c, ih acc, if_pos]
      simp only [Bool.or_eq_true, among_append] at c ⊢
      rcases c with c | c
      · exact .inl (.inr c)
      · rcases addAll_has bl out acc s (.inl ((among_iff _ _).1 c)) with h | h
        · exact .inl (.inl h)
        · exact .inr ((among_iff _ _).2 h)
    · have cB : among B s = false := by simp only [Bool.or_eq_true, not_or] at c; simpa using c.1
      rw [if_neg c, ih (acc ++ [s]), addAll_append]
      simp only [addAll, among_append, cB, Bool.or_false]
      split <;> rfl
mutual
theorem gath_eq (bl out : List ByteArray) : ∀ x : S26, gath bl out x = addAll bl out (free x)
  | ⟨_, _, _, ts, bs, l⟩ => by
    rw [gath, free, addAll_two, gaths_eq _ _ l, ← addAll_append]
    rfl
theorem gaths_eq (bl out : List ByteArray) : ∀ l : List S26, gaths bl out l = addAll bl out (frees l)
  | [] => rfl
  | x :: l => by rw [gaths, frees, addAll_append, gath_eq bl out x, gaths_eq _ _ l]
end
theorem free_gath (x : S26) : gath [] [] x = free x := by
  rw [gath_eq]
  obtain ⟨_, _, _, ts, bs, l⟩ := x
  rw [free, addAll_two]
  rfl
end Go.Proofs.YtmlcaecknocpoaaDoor.Sp
namespace Go.Proofs.YtmlcaecknocpoaaDoor.Sp
open Go.Proofs.YtmlcaecknocpoaaDoor.Pr
def bsOk (bs : List S42) : Prop := 1 ≤ bs.length ∧ bs.length ≤ 6 ∧ bs.all bind = true
inductive Fm : S26 → Prop
  | const {k : Int} : k = 1 ∨ k = 2 → Fm ⟨k, e0, 0, [], [], []⟩
  | atom {k : Int} {ts : List S47} : 3 ≤ k → k ≤ 8 → termsOk k e0 ts = true → Fm ⟨k, e0, 0, ts, [], []⟩
  | cmp {nm : ByteArray} {ts : List S47} : isSign nm = true → termsOk 9 nm ts = true → Fm ⟨9, nm, 0, ts, [], []⟩
  | not {y : S26} : Fm y → Fm ⟨10, e0, 0, [], [], [y]⟩
  | two {k : Int} {y z : S26} : k = 11 ∨ k = 12 → Fm y → Fm z → Fm ⟨k, e0, 0, [], [], [y, z]⟩
  | imp {y z : S26} : Fm y → Fm z → Fm ⟨13, e0, 0, [], [], [y, z]⟩
  | quant {k : Int} {bs : List S42} {y : S26} : k = 14 ∨ k = 15 → bsOk bs → Fm y → Fm ⟨k, e0, 0, [], bs, [y]⟩
  | count {k n : Int} {bs : List S42} {y : S26} : k = 16 ∨ k = 17 → 0 ≤ n → n ≤ most → bsOk bs → Fm y → Fm ⟨k, e0, n, [], bs, [y]⟩
theorem fm_of_aux (s : Nat) : ∀ x : S26, size x ≤ s → form x = true → Fm x := by
  induction s with
  | zero => rintro ⟨k, nm, n, ts, bs, l⟩ h; simp [size] at h
  | succ s ih =>
    rintro ⟨k, nm, n, ts, bs, l⟩ hs hf
    simp only [form, here, Bool.and_eq_true, decide_eq_true_eq] at hf
    obtain ⟨⟨⟨ha, ht⟩, hb⟩, hl⟩ := hf
    simp only [size] at hs
    have hch : ∀ y ∈ l, Fm y := fun y hy => by
      have h1 : size y ≤ sizes l ∧ form y = true := by
        clear ha ht hb ih hs
        induction l with
        | nil => cases hy
        | cons z l ihl =>
          simp only [forms, Bool.and_eq_true, sizes] at hl ⊢
          cases hy with
          | head => exact ⟨by omega, hl.1⟩
          | tail _ h => have := ihl hl.2 h; exact ⟨by omega, this.2⟩
      exact ih y (by omega) h1.2
    have hnq : quant k = false → bs = [] ∧ n = 0 := fun hq => by
      simp only [bindsOk, hq, Bool.false_eq_true, if_false, Bool.and_eq_true, decide_eq_true_eq] at hb
      exact hb
    have hna : atom k = false → ts = [] ∧ nm = e0 := fun hq => by
      simp only [termsOk, hq, Bool.false_eq_true, if_false, Bool.and_eq_true, decide_eq_true_eq] at ht
      exact ht
    have one : (l.length : Int) = 1 → ∃ y, l = [y] := fun h => List.length_eq_one_iff.1 (by omega)
    have two : (l.length : Int) = 2 → ∃ y z, l = [y, z] := fun h => by
      match l, h with
      | [y, z], _ => exact ⟨y, z, rfl⟩
      | [], h => simp at h
      | [_], h => simp at h
      | _ :: _ :: _ :: _, h => simp at h; omega
    unfold arity at ha
    by_cases h1 : k = 1 ∨ k = 2
    · obtain ⟨rfl, rfl⟩ := hnq (by simp [quant]; omega)
      obtain ⟨rfl, rfl⟩ := hna (by simp [Sp.atom]; omega)
      rw [if_pos (by omega)] at ha
      have : l = [] := List.eq_nil_of_length_eq_zero (by injection ha with h; omega)
      subst this
      exact .const h1
    · by_cases h2 : 3 ≤ k ∧ k ≤ 9
      · obtain ⟨rfl, rfl⟩ := hnq (by simp [quant]; omega)
        rw [if_pos (by omega)] at ha
        have : l = [] := List.eq_nil_of_length_eq_zero (by injection ha with h; omega)
        subst this
        by_cases h9 : k = 9
        · subst h9
          refine .cmp ?_ ht
          simp only [termsOk, show Sp.atom 9 = true from rfl, if_true, Bool.and_eq_true] at ht
          exact ht.2
        · have he : nm = e0 := by
            simp only [termsOk, show Sp.atom k = true by simp [Sp.atom]; omega, if_true, h9, if_false, Bool.and_eq_true, decide_eq_true_eq] at ht
            exact ht.2.1
          subst he
          exact .atom h2.1 (by omega) ht
      · rw [if_neg (by omega)] at ha
        obtain ⟨rfl, rfl⟩ := hna (by simp [Sp.atom]; omega)
        by_cases h10 : k = 10
        · subst h10
          obtain ⟨rfl, rfl⟩ := hnq (by simp [quant])
          obtain ⟨y, rfl⟩ := one (by simp at ha; omega)
          exact .not (hch y (by simp))
        · by_cases hq : 14 ≤ k ∧ k ≤ 17
          · have hqt : quant k = true := by simp [quant]; omega
            simp only [bindsOk, hqt, if_true, Bool.and_eq_true, decide_eq_true_eq] at hb
            rw [if_pos (by omega)] at ha
            obtain ⟨y, rfl⟩ := one (by injection ha with h; omega)
            by_cases hc : k = 16 ∨ k = 17
            · have : counts k = true := by simp [counts]; omega
              simp only [this, if_true, number, Bool.and_eq_true, decide_eq_true_eq] at hb
              exact .count hc hb.2.1 hb.2.2 ⟨hb.1.1.1, hb.1.1.2, hb.1.2⟩ (hch y (by simp))
            · have : counts k = false := by simp [counts]; omega
              simp only [this, Bool.false_eq_true, if_false, decide_eq_true_eq] at hb
              obtain ⟨h3, rfl⟩ := hb
              exact .quant (by omega) ⟨h3.1.1, h3.1.2, h3.2⟩ (hch y (by simp))
          · obtain ⟨rfl, rfl⟩ := hnq (by simp [quant]; omega)
            rw [if_neg (by omega)] at ha
            by_cases h3 : 11 ≤ k ∧ k ≤ 13
            · rw [if_pos h3] at ha
              obtain ⟨y, z, rfl⟩ := two (by injection ha with h; omega)
              by_cases h13 : k = 13
              · subst h13; exact .imp (hch y (by simp)) (hch z (by simp))
              · exact .two (by omega) (hch y (by simp)) (hch z (by simp))
            · rw [if_neg h3] at ha; cases ha
theorem fm_of {x : S26} (h : form x = true) : Fm x := fm_of_aux (size x) x (Nat.le_refl _) h
theorem termsOk_none {k : Int} (h : Sp.atom k = false) : termsOk k e0 [] = true := by simp [termsOk, h, e0]; rfl
theorem bindsOk_none {k : Int} (h : quant k = false) : bindsOk k 0 [] = true := by simp [bindsOk, h]
theorem right_n (y : S26) (t : Bool) : right ⟨10, e0, 0, [], [], [y]⟩ t = right y (!t) := by
  rw [right.eq_def]; simp [always, rights]
theorem right_two (k : Int) (y z : S26) (t : Bool) (h : k = 11 ∨ k = 12) : right ⟨k, e0, 0, [], [], [y, z]⟩ t = ⟨if t then dual k else k, e0, 0, [], [], [right y t, right z t]⟩ := by
  rw [right.eq_def]
  rcases h with rfl | rfl <;> simp [always, Sp.atom, counts, rights]
theorem right_i (y z : S26) (t : Bool) : right ⟨13, e0, 0, [], [], [y, z]⟩ t = ⟨if t then 11 else 12, e0, 0, [], [], [right y (!t), right z t]⟩ := by
  rw [right.eq_def]; simp [always, rights]
theorem right_q (k : Int) (bs : List S42) (y : S26) (t : Bool) (h : k = 14 ∨ k = 15) : right ⟨k, e0, 0, [], bs, [y]⟩ t = ⟨if t then dual k else k, e0, 0, [], bs, [right y t]⟩ := by
  rw [right.eq_def]
  rcases h with rfl | rfl <;> simp [always, Sp.atom, counts, rights]
theorem right_ct (k n : Int) (bs : List S42) (y : S26) (t : Bool) (h : k = 16 ∨ k = 17) (ha : always k n = false) : right ⟨k, e0, n, [], bs, [y]⟩ t = ⟨if t then dual k else k, e0, if t then (if k = 16 then n - 1 else n + 1) else n, [], bs, [right y false]⟩ := by
  rw [right.eq_def]
  rcases h with rfl | rfl <;> simp [ha, Sp.atom, counts, rights]
theorem right_al (k n : Int) (bs : List S42) (y : S26) (t : Bool) (ha : always k n = true) : right ⟨k, e0, n, [], bs, [y]⟩ t = leaf (if t then 2 else 1) := by
  rw [right.eq_def]; simp [ha]
def lone : List S26 → Bool
  | [y] => decide (3 ≤ y.f0) && decide (y.f0 < 9)
  | _ => false
mutual
def normal : S26 → Bool
  | ⟨k, _, n, _, _, l⟩ => normals l && (if k = 10 then lone l else decide (k ≠ 13) && (decide (k ≠ 16) || decide (0 < n)) && (decide (k ≠ 17) || decide (n < most)))
def normals : List S26 → Bool
  | [] => true
  | x :: l => normal x && normals l
end
theorem addAll_nodup (B out L : List ByteArray) (h : out.Nodup) : (addAll B out L).Nodup := by
  induction L generalizing out with
  | nil => exact h
  | cons a L ih =>
    simp only [addAll]
    split
    · exact ih _ h
    · rename_i hc
      simp only [Bool.or_eq_true, among_iff, not_or] at hc
      exact ih _ (List.nodup_append.2 ⟨h, by simp, by simp; rintro x hx rfl; exact hc.2 hx⟩)
theorem free_nodup (x : S26) : (free x).Nodup := by
  obtain ⟨k, nm, n, ts, bs, l⟩ := x
  rw [free]
  exact addAll_nodup _ _ _ (by simp)
theorem addAll_new (B out L : List ByteArray) (hL : L.Nodup) (hd : ∀ s ∈ L, s ∉ out) : addAll B out L = out ++ L.filter fun s => !among B s := by
  induction L generalizing out with
  | nil => simp [addAll]
  | cons a L ih =>
    have hL' := List.nodup_cons.1 hL
    have ha : among out a = false := by
      cases h : among out a
      · rfl
      · exact absurd ((among_iff _ _).1 h) (hd a (by simp))
    simp only [addAll, ha, Bool.or_false]
    cases hB : among B a with
    | true =>
      rw [if_pos rfl, ih out hL'.2 (fun s hs => hd s (by simp [hs]))]
      simp [hB]
    | false =>
      rw [if_neg (by simp), ih (out ++ [a]) hL'.2 (fun s hs => ?_)]
      · simp [hB]
      · simp only [List.mem_append, List.mem_singleton, not_or]
        exact ⟨hd s (by simp [hs]), fun e => hL'.1 (e ▸ hs)⟩
theorem addAll_self (L : List ByteArray) (hL : L.Nodup) : addAll [] [] L = L := by
  rw [addAll_new _ _ _ hL (by simp)]
  simp [among]
theorem addAll_prefix (B out L : List ByteArray) : ∃ r, addAll B out L = out ++ r ∧ r.length ≤ L.length := by
  induction L generalizing out with
  | nil => exact ⟨[], by simp [addAll]⟩
  | cons a L ih =>
    simp only [addAll]
    split
    · obtain ⟨r, h, hl⟩ := ih out; exact ⟨r, h, by simp; omega⟩
    · obtain ⟨r, h, hl⟩ := ih (out ++ [a]); exact ⟨a :: r, by rw [h]; simp, by simp; omega⟩
theorem free_two (k : Int) (a b : S26) : ∃ r, free ⟨k, e0, 0, [], [], [a, b]⟩ = free a ++ r ∧ r.length ≤ (free b).length := by
  rw [free]
  simp only [names, List.filter_nil, List.map_nil, List.nil_append, frees, List.append_nil]
  rw [addAll_append, addAll_self _ (free_nodup a)]
  exact addAll_prefix _ _ _
theorem free_bound (k n : Int) (b : S42) (a : S26) : free ⟨k, e0, n, [], [b], [a]⟩ = (free a).filter fun s => decide (s ≠ b.f0) := by
  rw [free]
  simp only [names, List.filter_nil, List.map_nil, List.nil_append, frees, List.append_nil, List.map_cons]
  rw [addAll_new _ _ _ (free_nodup a) (by simp)]
  simp only [List.nil_append]
  refine List.filter_congr fun s _ => ?_
  simp [among, eq_comm]
mutual
theorem same_refl : ∀ x : S26, same x x = true
  | ⟨k, nm, n, ts, bs, l⟩ => by simp [same, sames_refl l]
theorem sames_refl : ∀ l : List S26, sames l l = true
  | [] => rfl
  | x :: l => by simp [sames, same_refl x, sames_refl l]
end
mutual
theorem same_eq : ∀ x y : S26, same x y = true → x = y
  | ⟨k, nm, n, ts, bs, l⟩, ⟨k', nm', n', ts', bs', l'⟩, h => by
    simp only [same, Bool.and_eq_true, decide_eq_true_eq] at h
    obtain ⟨⟨⟨⟨⟨rfl, rfl⟩, rfl⟩, rfl⟩, rfl⟩, h⟩ := h
    rw [sames_eq l l' h]
theorem sames_eq : ∀ l r : List S26, sames l r = true → l = r
  | [], [], _ => rfl
  | [], _ :: _, h => by simp [sames] at h
  | _ :: _, [], h => by simp [sames] at h
  | x :: l, y :: r, h => by
    simp only [sames, Bool.and_eq_true] at h
    rw [same_eq x y h.1, sames_eq l r h.2]
end
theorem same_iff (x y : S26) : same x y = true ↔ x = y := ⟨same_eq x y, fun h => h ▸ same_refl x⟩
theorem same_symm (x y : S26) : same x y = same y x := by
  rw [Bool.eq_iff_iff, same_iff, same_iff, eq_comm]
theorem same_ne {x y : S26} (h : x ≠ y) : same x y = false := by
  cases e : same x y
  · rfl
  · exact absurd (same_eq x y e) h
theorem check_zero {x : S26} : check x = 0 ↔ form x = true ∧ size x ≤ 256 ∧ depth x ≤ 24 := by
  unfold check
  cases form x <;> simp
def neg (x : S26) : S26 := ⟨10, e0, 0, [], [], [x]⟩
theorem form_neg (x : S26) : form (neg x) = form x := by
  simp [neg, form, here, forms, termsOk_none (show Sp.atom 10 = false from rfl), bindsOk_none (show quant 10 = false from rfl), show arity 10 = some 1 from rfl]
theorem size_neg (x : S26) : size (neg x) = 1 + size x := by simp [neg, size, sizes]
theorem depth_neg (x : S26) : depth (neg x) = depth x + 1 := by simp [neg, depth, depths]
theorem right_neg (x : S26) (t : Bool) : right (neg x) t = right x (!t) := right_n x t
theorem nnf_zero {x : S26} (h : check x = 0) : nnf x = right x false := by simp [nnf, h]
theorem nnf_other {x : S26} (h : check x ≠ 0) : nnf x = leaf 0 := by simp [nnf, h]
end Go.Proofs.YtmlcaecknocpoaaDoor.Sp
namespace Go.Proofs.YtmlcaecknocpoaaDoor.It
open Go Go.RowKit Go.Shelf Go.Proofs.YtmlcaecknocpoaaDoorW.PrintWords Go.Proofs.YtmlcaecknocpoaaDoorW.PrintLast Go.Proofs.YtmlcaecknocpoaaDoor.Pr Go.Proofs.YtmlcaecknocpoaaDoor.Sp
attribute [local go_sem] Oper.semAt_some
theorem room_of_none {F : Fence} (hd : F.depth = none) (k : Nat) : F.room k := fun d h => by rw [hd] at h; cases h
theorem round_anyDepth {F : Fence} (hd : F.depth = none) {m m' : Nat} {P : Program} {l : Nat} {f : FuncId} {tmps : Array Value} {assign body : Code} {w : World} {R : Ending → World → Prop}
    (h : RoundIn F m P l f tmps assign body w R) : RoundIn F m' P l f tmps assign body w R := ⟨h.1, fun c cs _ => h.2 c cs (room_of_none hd _)⟩
theorem yield_anyDepth {F : Fence} (hd : F.depth = none) {m : Nat} (m' : Nat) {P : Program} {l : Nat} {args : Array Value} {W : World} {R : Ending → World → Prop} (h : YieldAt F m P l args W R) : YieldAt F m' P l args W R := by
  obtain ⟨fn, tmps, assign, body, hy, hR⟩ := h
  exact ⟨fn, tmps, assign, body, hy, round_anyDepth hd hR⟩
structure At (w : World) (x : S26) (A3 : Option Addr) (c3 : Nat) (A4 : Option Addr) (c4 : Nat) (A5 : Option Addr) (c5 : Nat) : Prop where
  l3 : x.f3.length ≤ c3
  g3 : Kd.C k47 w A3 x.f3.length x.f3
  l4 : x.f4.length ≤ c4
  g4 : Kd.C k42 w A4 x.f4.length x.f4
  l5 : x.f5.length ≤ c5
  g5 : Kd.C k26 w A5 x.f5.length x.f5
theorem At.below {w w1 : World} {x : S26} {A3 : Option Addr} {c3 : Nat} {A4 : Option Addr} {c4 : Nat} {A5 : Option Addr} {c5 : Nat} (h : At w x A3 c3 A4 c4 A5 c5) (hb : Below w.heap.size w w1) : At w1 x A3 c3 A4 c4 A5 c5 :=
  ⟨h.l3, Kd.C_below h.g3 hb, h.l4, Kd.C_below h.g4 hb, h.l5, Kd.C_below h.g5 hb⟩
mutual
def nodes : S26 → List S26
  | ⟨k, nm, n, ts, bs, l⟩ => ⟨k, nm, n, ts, bs, l⟩ :: nodesL l
def nodesL : List S26 → List S26
  | [] => []
  | x :: l => nodes x ++ nodesL l
end
theorem nodesL_append (a b : List S26) : nodesL (a ++ b) = nodesL a ++ nodesL b := by
  induction a with
  | nil => rfl
  | cons x a ih => simp [nodesL, ih]
mutual
theorem nodes_length : ∀ x : S26, (nodes x).length = size x
  | ⟨_, _, _, _, _, l⟩ => by simp [nodes, size, nodesL_length l]; omega
theorem nodesL_length : ∀ l : List S26, (nodesL l).length = sizes l
  | [] => rfl
  | x :: l => by simp [nodesL, sizes, nodes_length x, nodesL_length l]
end
theorem nodes_eq (x : S26) : nodes x = x :: nodesL x.f5 := by cases x; rfl
theorem size_eq (x : S26) : size x = 1 + sizes x.f5 := by cases x; rfl
def I64 (k : Int) : Prop := (Lit.int .i64 k).wf = true
structure Own1 (x : S26) : Prop where
  k : I64 x.f0
  nm : x.f1.size ≤ 9223372036854775807
  ts : ∀ t ∈ x.f3, t.f1.size ≤ 9223372036854775807
  bs : ∀ b ∈ x.f4, b.f0.size ≤ 9223372036854775807
  n : I64 x.f2
  tk : ∀ t ∈ x.f3, I64 t.f0 ∧ I64 t.f2
  bk : ∀ b ∈ x.f4, I64 b.f1
def Deep (x : S26) : Prop := ∀ y ∈ nodes x, Own1 y
theorem nodes_mem {l : List S26} {x y : S26} (h : x ∈ l) (hy : y ∈ nodes x) : y ∈ nodesL l := by
  induction l with
  | nil => cases h
  | cons z l ih =>
    simp only [nodesL, List.mem_append]
    cases h with
    | head => exact .inl hy
    | tail _ h => exact .inr (ih h)
theorem Deep.child {x : S26} (h : Deep x) (j : Nat) (hj : j < x.f5.length) : Deep (rd_T26 x.f5 j) := fun y hy => h y (by
  rw [nodes_eq]
  refine .tail _ (nodes_mem (x := rd_T26 x.f5 j) ?_ hy)
  simp [rd_T26, List.getD, hj])
theorem Deep.self {x : S26} (h : Deep x) : Own1 x := h x (by rw [nodes_eq]; exact .head _)
structure FA (w : World) where
  x : S26
  A3 : Option Addr
  c3 : Nat
  A4 : Option Addr
  c4 : Nat
  A5 : Option Addr
  c5 : Nat
  at_ : At w x A3 c3 A4 c4 A5 c5
  ok : Deep x
def cellsOf (x : S26) (A3 : Option Addr) (c3 : Nat) (A4 : Option Addr) (c4 : Nat) (A5 : Option Addr) (c5 : Nat) : Array Value :=
  #[.int .i64 x.f0, .string x.f1, .int .i64 x.f2, .slice A3 x.f3.length c3, .slice A4 x.f4.length c4, .slice A5 x.f5.length c5]
def FA.val {w : World} (p : FA w) : Value :=
  .agg #[.int .i64 p.x.f0, .string p.x.f1, .int .i64 p.x.f2, .slice p.A3 p.x.f3.length p.c3, .slice p.A4 p.x.f4.length p.c4, .slice p.A5 p.x.f5.length p.c5]
theorem sizes_take (l : List S26) (j : Nat) (h : j < l.length) : sizes (l.take (j + 1)) = sizes (l.take j) + size (rd_T26 l j) ∧ sizes (l.take (j + 1)) ≤ sizes l := by
  induction l generalizing j with
  | nil => simp at h
  | cons x l ih =>
    cases j with
    | zero => simp [sizes, rd_T26]
    | succ j =>
      have := ih j (by simpa using h)
      have e : rd_T26 (x :: l) ((j + 1 : Nat) : Int) = rd_T26 l j := by simp [rd_T26]
      rw [e]
      simp only [List.take_succ_cons, sizes]
      omega
theorem nodesL_take (l : List S26) (j : Nat) (h : j < l.length) : nodesL (l.take (j + 1)) = nodesL (l.take j) ++ nodes (rd_T26 l j) := by
  have e : l.take (j + 1) = l.take j ++ [rd_T26 l j] := by
    rw [List.take_succ_eq_append_getElem h]
    simp [rd_T26, List.getD, h]
  rw [e, nodesL_append]
  simp [nodesL]
structure Kp (n₀ B₀ : Nat) (A B : World) : Prop where
  below : Below n₀ A B
  size : A.heap.size ≤ B.heap.size
  cells : ∀ k cs t fr, B₀ ≤ k → A.heap[k]? = some (.cells cs t fr) → B.heap[k]? = some (.cells cs t fr)
theorem Kp.refl (n₀ B₀ : Nat) (A : World) : Kp n₀ B₀ A A := ⟨Below.refl _ _, Nat.le_refl _, fun _ _ _ _ _ h => h⟩
theorem Kp.trans {n₀ B₀ : Nat} {A B C : World} (h : Kp n₀ B₀ A B) (k : Kp n₀ B₀ B C) : Kp n₀ B₀ A C :=
  ⟨h.below.trans k.below, Nat.le_trans h.size k.size, fun i cs t fr hi hc => k.cells i cs t fr hi (h.cells i cs t fr hi hc)⟩
theorem Kp.put {n₀ B₀ : Nat} {w : World} (hn : n₀ ≤ w.heap.size) (W : World) (l : Nat) (o o' : Obj) (hl : w.heap.size ≤ l) (h : W.heap[l]? = some o) (hc : o.isCells = false) (hw : o.isWalk = false) : Kp n₀ B₀ W (W.putObj l o') :=
  ⟨belowK_b hn W l o o' hl h hc hw, by simp, fun k cs t fr _ hk => by
    rw [World.putObj_heap_other (fun e => by subst e; rw [h] at hk; cases hk; simp [Obj.isCells] at hc)]
    exact hk⟩
theorem Kp.of_below {n₀ B₀ : Nat} {A B : World} (hn : n₀ ≤ A.heap.size) (h : Below A.heap.size A B) : Kp n₀ B₀ A B :=
  ⟨h.mono hn, h.size, fun k cs t fr _ hk => by
    have hlt := (Array.getElem?_eq_some_iff.1 hk).1
    rw [h.block k hlt]
    exact hk⟩
theorem Kp.alloc {n₀ B₀ : Nat} {A : World} (hn : n₀ ≤ A.heap.size) (o : Obj) : Kp n₀ B₀ A (A.alloc o) := Kp.of_below hn ((Below.refl _ _).alloc (Nat.le_refl _) _)
theorem Kp.setCell {n₀ B₀ : Nat} {A : World} (p : Addr) (hp : n₀ ≤ p.block) (hB : p.block < B₀) (v : Value) : Kp n₀ B₀ A (A.setCell p v) :=
  ⟨(Below.refl _ _).setCell hp _, by simp, fun k cs t fr hk hc => by
    rw [Below.heap_setCell A p v k (by omega)]
    exact hc⟩
theorem heap_new (W : World) (o : Obj) : (W.alloc o).heap[W.heap.size]? = some o := World.alloc_heap_new W o
theorem At.child {w : World} {x : S26} {A3 : Option Addr} {c3 : Nat} {A4 : Option Addr} {c4 : Nat} {A5 : Option Addr} {c5 : Nat} (h : At w x A3 c3 A4 c4 A5 c5) {W : World} (hb : Below w.heap.size w W) (j : Nat) (hj : j < x.f5.length) :
    ∃ ad B3 d3 B4 d4 B5 d5, A5 = some ad ∧ At w (rd_T26 x.f5 j) B3 d3 B4 d4 B5 d5 ∧ W.cell? (ad.add (j * 6)) = some (.int .i64 (rd_T26 x.f5 j).f0) ∧ W.cell? ⟨(ad.add (j * 6)).block, (ad.add (j * 6)).off + 1, none⟩ = some (.string (rd_T26 x.f5 j).f1) ∧
      W.cell? ⟨(ad.add (j * 6)).block, (ad.add (j * 6)).off + 2, none⟩ = some (.int .i64 (rd_T26 x.f5 j).f2) ∧ W.cell? ⟨(ad.add (j * 6)).block, (ad.add (j * 6)).off + 3, none⟩ = some (.slice B3 (rd_T26 x.f5 j).f3.length d3) ∧
      W.cell? ⟨(ad.add (j * 6)).block, (ad.add (j * 6)).off + 4, none⟩ = some (.slice B4 (rd_T26 x.f5 j).f4.length d4) ∧ W.cell? ⟨(ad.add (j * 6)).block, (ad.add (j * 6)).off + 5, none⟩ = some (.slice B5 (rd_T26 x.f5 j).f5.length d5) := by
  obtain ⟨ad, B3, d3, B4, d4, B5, d5, e, h0, h1, h2, h3, h4, h5, l3, g3, l4, g4, l5, g5⟩ := at_T26 h.g5 (j : Int) (by omega) (by omega)
  have up : ∀ {a : Addr} {v : Value}, w.cell? a = some v → W.cell? a = some v := fun hc => (hb.cell (World.block_lt_of_cell? w _ hc)).trans hc
  exact ⟨ad, B3, d3, B4, d4, B5, d5, e, ⟨l3, g3, l4, g4, l5, g5⟩, up h0, up h1, up h2, up h3, up h4, up h5⟩
set_option maxRecDepth 100000 in
set_option maxHeartbeats 4000000 in
theorem walkIn (F : Fence) (hd : F.depth = none) (h79 : F.fn 79) (hro : F.round = none) (l B₀ N : Nat) (w0 : World) (hB0 : w0.heap.size ≤ B₀) (J Jx : List (FA w0) → World → Prop) (hJ : ∀ pre W o, J pre W → J pre (World.alloc W o))
    (hY : ∀ m pre p W, J pre W → pre.length < N → YieldAt F m Tryd.prog l #[p.val] W fun e W' =>
      (e = .returned (.bool true) ∧ J (pre ++ [p]) W' ∧ Kp w0.heap.size B₀ W W') ∨ (e = .returned (.bool false) ∧ Jx (pre ++ [p]) W')) :
    ∀ (s : Nat) (p : FA w0), size p.x ≤ s → ∀ (n : Nat) (pre : List (FA w0)) (W : World), Below w0.heap.size w0 W → B₀ ≤ W.heap.size → J pre W → pre.length + size p.x ≤ N →
      CallsIn F n Tryd.prog 79 #[p.val, .func (.yield l) #[] #[]] W fun e W' =>
        (e = .returned (.bool true) ∧ (∃ q, q.map (·.x) = nodes p.x ∧ J (pre ++ q) W') ∧ Kp w0.heap.size B₀ W W') ∨
        (e = .returned (.bool false) ∧ ∃ q, q.map (·.x) <+: nodes p.x ∧ Jx (pre ++ q) W') := by
  intro s
  induction s with
  | zero => intro p hp; rw [size_eq] at hp; omega
  | succ s ih =>
    rintro ⟨x, A3, c3, A4, c4, A5, c5, hat, hok⟩ hs n pre W hW hBW hJ0 hN
    have hdd : ∀ k : Nat, (F.depth.isSome = true → 1 ≤ k) := fun k h => by rw [hd] at h; cases h
    have hlen5 : x.f5.length ≤ 9223372036854775807 := hat.g5.2.1
    have hj1 : J pre (W.alloc (.cells #[.int .i64 x.f0, .string x.f1, .int .i64 x.f2, .slice A3 x.f3.length c3, .slice A4 x.f4.length c4, .slice A5 x.f5.length c5] 26)) :=
      hJ pre W _ hJ0
    have hK1 : Kp w0.heap.size B₀ W (W.alloc (.cells #[.int .i64 x.f0, .string x.f1, .int .i64 x.f2, .slice A3 x.f3.length c3, .slice A4 x.f4.length c4, .slice A5 x.f5.length c5] 26)) := Kp.alloc (by omega) _
    have hb1 := heap_new W (.cells #[.int .i64 x.f0, .string x.f1, .int .i64 x.f2, .slice A3 x.f3.length c3, .slice A4 x.f4.length c4, .slice A5 x.f5.length c5] 26)
    have hy := (hY (n - 1) pre ⟨x, A3, c3, A4, c4, A5, c5, hat, hok⟩ _ hj1 (by simp only [size_eq] at hN; omega)).mono (R' := fun e W2 =>
      (e = .returned (.bool true) ∧ Aside0 (J (pre ++ [⟨x, A3, c3, A4, c4, A5, c5, hat, hok⟩]) W2 ∧ Kp w0.heap.size B₀ W W2) ∧ W2.cell? ⟨W.heap.size, 5, none⟩ = some (.slice A5 x.f5.length c5)) ∨ (e = .returned (.bool false) ∧ Aside0 (Jx (pre ++ [⟨x, A3, c3, A4, c4, A5, c5, hat, hok⟩]) W2)))
      (fun e W2 h => h.elim (fun ⟨he, hj, hk⟩ => .inl ⟨he, ⟨hj, hK1.trans hk⟩, (blk_cell (hk.cells _ _ _ _ hBW hb1) 5).trans rfl⟩) (fun ⟨he, hj⟩ => .inr ⟨he, ⟨hj⟩⟩))
    obtain ⟨fn, tmps, assign, body, hy, hR⟩ := hy
    dsimp only [FA.val] at hy
    have HW := Aside0.mk hW
    have HN := Aside0.mk hN
    clear hj1 hK1 hb1 hJ0 hW hN
    dsimp only [FA.val]
    refine callsIn_of_wp Tryd.func79 rfl h79 ?_ hro
    simp only [Tryd.ntmps79, List.size_toArray, List.length_cons, List.length_nil, Nat.reduceAdd, Nat.reduceSub, Array.replicate_succ, Array.replicate_zero, List.push_toArray, List.append_toArray, List.nil_append, List.cons_append]
    gi_wp2_with ((try refine ⟨hdd _, ?_⟩); refine hR.mono ?_; clear hR; rintro e W2 (⟨rfl, hJK2, c52⟩ | ⟨rfl, hx2⟩))
    · gi_loopw [14] (fun v wr => ∃ (j : Nat) (q : List (FA w0)), j ≤ x.f5.length ∧ v = .int .i64 j ∧ Aside0 (q.map (·.x) = nodesL (x.f5.take j) ∧ J (pre ++ [⟨x, A3, c3, A4, c4, A5, c5, hat, hok⟩] ++ q) wr ∧ Kp w0.heap.size B₀ W wr))
        (fun v _ => x.f5.length - (intOf v).toNat)
      case atStart => exact ⟨0, [], Nat.zero_le _, rfl, ⟨rfl, by simpa using hJK2.out.1, hJK2.out.2⟩⟩
      case round =>
        obtain ⟨j, q, hj, rfl, HJ⟩ := hrel
        by_cases hlt : j < x.f5.length
        · have hbw := HW.out.trans HJ.out.2.2.below
          obtain ⟨ad, B3, d3, B4, d4, B5, d5, rfl, hat', k0, k1, k2, k3, k4, k5⟩ := hat.child hbw j hlt
          have hst := sizes_take x.f5 j hlt
          have hsz := size_eq x
          have hlq : q.length = sizes (x.f5.take j) := by rw [← nodesL_length, ← HJ.out.1, List.length_map]
          have hwr : B₀ ≤ wr.heap.size := Nat.le_trans hBW HJ.out.2.2.size
          have hih := ih ⟨rd_T26 x.f5 j, B3, d3, B4, d4, B5, d5, hat', hok.child j hlt⟩ (by simp only; omega) (n - 1) (pre ++ [⟨x, A3, c3, A4, c4, some ad, c5, hat, hok⟩] ++ q)
            (wr.alloc (.cells #[.int .i64 (rd_T26 x.f5 j).f0, .string (rd_T26 x.f5 j).f1, .int .i64 (rd_T26 x.f5 j).f2, .slice B3 (rd_T26 x.f5 j).f3.length d3, .slice B4 (rd_T26 x.f5 j).f4.length d4, .slice B5 (rd_T26 x.f5 j).f5.length d5] 26))
            (hbw.trans ((Below.refl _ _).alloc (by omega) _)) (by simp; omega) (hJ _ wr _ HJ.out.2.1)
            (by have := HN.out; simp only [List.length_append, List.length_cons, List.length_nil]; omega)
          have HKA := Aside0.mk (HJ.out.2.2.trans (Kp.alloc (n₀ := w0.heap.size) (B₀ := B₀) (by omega) (.cells #[.int .i64 (rd_T26 x.f5 j).f0, .string (rd_T26 x.f5 j).f1, .int .i64 (rd_T26 x.f5 j).f2, .slice B3 (rd_T26 x.f5 j).f3.length d3, .slice B4 (rd_T26 x.f5 j).f4.length d4, .slice B5 (rd_T26 x.f5 j).f5.length d5] 26)))
          dsimp only [FA.val] at hih
          replace hih := Aside0.mk hih
          have HST := Aside0.mk (And.intro hst (And.intro hsz hlq))
          clear hst hsz hlq hbw hat'
          gi_wp2_with ((try refine ⟨hdd _, ?_⟩); gi_at_call 79; refine hih.out.mono ?_; clear hih; rintro e W3 (⟨rfl, hq3, hk3⟩ | ⟨rfl, hx3⟩))
          · go_roundw
            case rel =>
              obtain ⟨q', hq', hJ3⟩ := hq3
              exact ⟨j + 1, q ++ q', by omega, by go_num, ⟨by rw [List.map_append, HJ.out.1, hq', nodesL_take x.f5 j hlt], by simpa [List.append_assoc] using hJ3, HKA.out.trans hk3⟩⟩
            case measure => simp [intOf]; omega
          · go_ret
            obtain ⟨q', ⟨r, hr⟩, hJ3⟩ := hx3
            refine .inr ⟨rfl, ⟨x, A3, c3, A4, c4, some ad, c5, hat, hok⟩ :: (q ++ q'), ?_, by simpa [List.append_assoc] using hJ3⟩
            refine ⟨r ++ nodesL (x.f5.drop (j + 1)), ?_⟩
            rw [nodes_eq, List.map_cons, List.map_append, HJ.out.1]
            have e := nodesL_append (x.f5.take (j + 1)) (x.f5.drop (j + 1))
            rw [List.take_append_drop, nodesL_take x.f5 j hlt, ← hr] at e
            rw [e]
            simp
        · have he : j = x.f5.length := by omega
          subst he
          clear hj
          gi_wp2
          go_ret
          refine .inl ⟨rfl, ⟨⟨x, A3, c3, A4, c4, A5, c5, hat, hok⟩ :: q, ?_, by simpa [List.append_assoc] using HJ.out.2.1⟩, HJ.out.2.2⟩
          rw [nodes_eq, List.map_cons, HJ.out.1, List.take_length]
    · gi_wp2
      go_ret
      refine .inr ⟨rfl, [⟨x, A3, c3, A4, c4, A5, c5, hat, hok⟩], ?_, hx2.out⟩
      rw [nodes_eq]
      exact ⟨nodesL x.f5, rfl⟩
set_option maxHeartbeats 2000000 in
theorem all1_stops (F : Fence) (hd : F.depth = none) (n : Nat) (h78 : F.fn 78) (h79 : F.fn 79) (hro : F.round = none) (w0 : World) (p : FA w0) (Bf : Nat) (w : World) (hw : Below w0.heap.size w0 w) (hBf : Bf < w.heap.size)
    (hc : w.heap[Bf]? = some (.cells #[.int .i64 p.x.f0, .string p.x.f1, .int .i64 p.x.f2, .slice p.A3 p.x.f3.length p.c3, .slice p.A4 p.x.f4.length p.c4, .slice p.A5 p.x.f5.length p.c5] 26 (0, 0))) :
    SeqStopsK F n Tryd.prog 78 #[.pointer (some ⟨Bf, 0, none⟩)] (fun q : FA w0 => #[q.val]) (Kp w0.heap.size w.heap.size) (fun ys => ys.map (·.x) = nodes p.x) (fun pre => pre.map (·.x) <+: nodes p.x) (size p.x) w := by
  intro l J Jx W hW hJ hJx hY h0
  obtain ⟨x, A3, c3, A4, c4, A5, c5, hat, hok⟩ := p
  have hdd : ∀ k : Nat, (F.depth.isSome = true → 1 ≤ k) := fun k h => by rw [hd] at h; cases h
  have hwk := walkIn F hd h79 hro l w.heap.size (size x) w0 hw.size J Jx (fun pre W' o hj => hJ pre W' _ none hj (World.grownBy_alloc W' o none) (fun r e => by cases e))
    (fun m pre q W' hj hl => yield_anyDepth hd m (hY pre q W' hj hl)) (size x) ⟨x, A3, c3, A4, c4, A5, c5, hat, hok⟩ (Nat.le_refl _) (n - 1) [] W (hw.trans (hW.mono hw.size)) hW.size h0 (by simp)
  have hb : W.heap[Bf]? = some _ := (hW.block Bf hBf).trans hc
  have b0 := blk_cell hb 0
  have b1 := blk_cell hb 1
  have b2 := blk_cell hb 2
  have b3 := blk_cell hb 3
  have b4 := blk_cell hb 4
  have b5 := blk_cell hb 5
  simp only [List.getElem?_toArray, List.getElem?_cons_zero, List.getElem?_cons_succ] at b0 b1 b2 b3 b4 b5
  clear hb hc
  dsimp only [FA.val] at hwk
  replace hwk := Aside0.mk hwk
  refine callsIn_of_wp Tryd.func78 rfl h78 ?_ hro
  simp only [Tryd.ntmps78, List.size_toArray, List.length_cons, List.length_nil, Nat.reduceAdd, Nat.reduceSub, Array.replicate_succ, Array.replicate_zero, List.push_toArray, List.append_toArray, List.nil_append, List.cons_append]
  gi_wp2_with ((try refine ⟨hdd _, ?_⟩); gi_at_call 79; refine hwk.out.mono ?_; clear hwk; rintro e W1 (⟨rfl, ⟨q, hq, hJ1⟩, _⟩ | ⟨rfl, q, hq, hx⟩))
  · go_end0
    exact ⟨⟨_, rfl⟩, .inl ⟨q, hq, by simpa using hJ1⟩⟩
  · go_end0
    exact ⟨⟨_, rfl⟩, .inr ⟨q, hq, by simpa using hx⟩⟩
theorem all_in (F : Fence) (n : Nat) (h52 : F.fn 52) (hro : F.round = none) (cs : Array Value) (x : S26) (A3 : Option Addr) (c3 : Nat) (A4 : Option Addr) (c4 : Nat) (A5 : Option Addr) (c5 : Nat) (w : World)
    (hcs : cs = #[.int .i64 x.f0, .string x.f1, .int .i64 x.f2, .slice A3 x.f3.length c3, .slice A4 x.f4.length c4, .slice A5 x.f5.length c5]) :
    CallsIn F n Tryd.prog 52 #[.agg cs] w fun e w' => e = .returned (.func (.func 78) #[] #[.pointer (some ⟨w.heap.size, 0, none⟩)]) ∧ w' = w.alloc (.cells cs 26) := by
  subst hcs
  refine callsIn_of_wp Tryd.func52 rfl h52 ?_ hro
  simp only [Tryd.ntmps52, List.size_toArray, List.length_cons, List.length_nil, Nat.reduceAdd, Nat.reduceSub, Array.replicate_succ, Array.replicate_zero, List.push_toArray, List.append_toArray, List.nil_append, List.cons_append]
  gi_wp2
  go_ret
  exact ⟨rfl, rfl⟩
end Go.Proofs.YtmlcaecknocpoaaDoor.It
namespace Go.Proofs.YtmlcaecknocpoaaDoor.It
open Go Go.RowKit Go.Proofs.YtmlcaecknocpoaaDoorW.PrintWords Go.Proofs.YtmlcaecknocpoaaDoor.Pr Go.Proofs.YtmlcaecknocpoaaDoor.Sp
def dualOf (k : Int) : Int := if k = 1 then 2 else if k = 2 then 1 else if k = 11 then 12 else if k = 12 then 11 else if k = 14 then 15 else if k = 15 then 14 else if k = 16 then 17 else if k = 17 then 16 else 0
structure Tabs (w : World) : Prop where
  arity : ∃ b, w.cell? ⟨0, 0, none⟩ = some (.map (some b)) ∧ ∀ W, Below w.heap.size w W → ∀ k, I64 k → (Instr.lookup 85 (.map (some b)) (.int .i64 k) true).run Tryd.prog W = .ok (.tuple #[.int .i64 ((Sp.arity k).getD 0), .bool (Sp.arity k).isSome]) W
  signs : ∃ b, w.cell? ⟨1, 0, none⟩ = some (.map (some b)) ∧ ∀ W, Below w.heap.size w W → ∀ s : ByteArray, s.size ≤ maxLen → (Instr.lookup 87 (.map (some b)) (.string s) false).run Tryd.prog W = .ok (.string (Sp.sign s)) W
  reserved : ∃ b, w.cell? ⟨5, 0, none⟩ = some (.map (some b)) ∧ ∀ W, Below w.heap.size w W → ∀ s : ByteArray, s.size ≤ maxLen → (Instr.lookup 79 (.map (some b)) (.string s) false).run Tryd.prog W = .ok (.bool (Sp.reserved.contains s.data.toList)) W
def Duals (w : World) : Prop := ∃ b, w.cell? ⟨2, 0, none⟩ = some (.map (some b)) ∧ ∀ W, Below w.heap.size w W → ∀ k, I64 k → (Instr.lookup 85 (.map (some b)) (.int .i64 k) false).run Tryd.prog W = .ok (.int .i64 (dualOf k)) W
theorem up_cell {w w1 : World} (hb : Below w.heap.size w w1) {a : Addr} {v : Value} (h : w.cell? a = some v) : w1.cell? a = some v := (hb.cell (World.block_lt_of_cell? w _ h)).trans h
theorem Tabs.below {w w1 : World} (h : Tabs w) (hb : Below w.heap.size w w1) : Tabs w1 := by
  obtain ⟨⟨b0, c0, l0⟩, ⟨b1, c1, l1⟩, ⟨b2, c2, l2⟩⟩ := h
  exact ⟨⟨b0, up_cell hb c0, fun W hW => l0 W (hb.trans (hW.mono hb.size))⟩, ⟨b1, up_cell hb c1, fun W hW => l1 W (hb.trans (hW.mono hb.size))⟩, ⟨b2, up_cell hb c2, fun W hW => l2 W (hb.trans (hW.mono hb.size))⟩⟩
theorem Duals.below {w w1 : World} (h : Duals w) (hb : Below w.heap.size w w1) : Duals w1 := by
  obtain ⟨b0, c0, l0⟩ := h
  exact ⟨b0, up_cell hb c0, fun W hW => l0 W (hb.trans (hW.mono hb.size))⟩
end Go.Proofs.YtmlcaecknocpoaaDoor.It
namespace Go.Proofs
open Go.Shelf
def Tryd.lays160_ren : Go.Shelf.Ren := ⟨fun | 160 => 111 | 232 => 119 | 231 => 118 | 227 => 120 | 234 => 122 | 233 => 121 | 236 => 124 | 235 => 123 | 228 => 125 | 271 => 128 | 151 => 127 | 197 => 126 | 120 => 131 | 152 => 130 | 260 => 129 | 137 => 132 | 119 => 133 | 224 => 134 | 225 => 135 | 217 => 136 | 266 => 137 | n => n, fun | 9 => 9 | 4 => 4 | 3 => 3 | 5 => 5 | 117 => 118 | 116 => 117 | 0 => 0 | 124 => 121 | 21 => 21 | 105 => 123 | 46 => 128 | 119 => 127 | 139 => 131 | 138 => 130 | n => n, fun | 3 => 6 | 4 => 7 | n => n⟩
theorem Tryd.lays160 : Go.Proofs.Lays.n160 Tryd.prog Tryd.lays160_ren := {
  mixed := by kernel_rfl
  f119 := Tryd.func133.trans (congrArg some (by kernel_rfl))
  f120 := Tryd.func131.trans (congrArg some (by kernel_rfl))
  f137 := Tryd.func132.trans (congrArg some (by kernel_rfl))
  f151 := Tryd.func127.trans (congrArg some (by kernel_rfl))
  f152 := Tryd.func130.trans (congrArg some (by kernel_rfl))
  f160 := Tryd.func111.trans (congrArg some (by kernel_rfl))
  f197 := Tryd.func126.trans (congrArg some (by kernel_rfl))
  f217 := Tryd.func136.trans (congrArg some (by kernel_rfl))
  f224 := Tryd.func134.trans (congrArg some (by kernel_rfl))
  f225 := Tryd.func135.trans (congrArg some (by kernel_rfl))
  f227 := Tryd.func120.trans (congrArg some (by kernel_rfl))
  f228 := Tryd.func125.trans (congrArg some (by kernel_rfl))
  f231 := Tryd.func118.trans (congrArg some (by kernel_rfl))
  f232 := Tryd.func119.trans (congrArg some (by kernel_rfl))
  f233 := Tryd.func121.trans (congrArg some (by kernel_rfl))
  f234 := Tryd.func122.trans (congrArg some (by kernel_rfl))
  f235 := Tryd.func123.trans (congrArg some (by kernel_rfl))
  f236 := Tryd.func124.trans (congrArg some (by kernel_rfl))
  f260 := Tryd.func129.trans (congrArg some (by kernel_rfl))
  f266 := Tryd.func137.trans (congrArg some (by kernel_rfl))
  f271 := Tryd.func128.trans (congrArg some (by kernel_rfl))
  t0 := Tryd.underlying0
  a0 := Tryd.isAgg0
  z0 := Tryd.sizeOf0
  v0 := Tryd.zeroValue0
  t3 := Tryd.underlying3
  a3 := Tryd.isAgg3
  z3 := Tryd.sizeOf3
  v3 := Tryd.zeroValue3
  t4 := Tryd.underlying4
  a4 := Tryd.isAgg4
  z4 := Tryd.sizeOf4
  v4 := Tryd.zeroValue4
  t5 := Tryd.underlying5
  a5 := Tryd.isAgg5
  z5 := Tryd.sizeOf5
  v5 := Tryd.zeroValue5
  t9 := Tryd.underlying9
  a9 := Tryd.isAgg9
  z9 := Tryd.sizeOf9
  v9 := Tryd.zeroValue9
  t21 := Tryd.underlying21
  a21 := Tryd.isAgg21
  z21 := Tryd.sizeOf21
  v21 := Tryd.zeroValue21
  t46 := Tryd.underlying128
  a46 := Tryd.isAgg128
  z46 := Tryd.sizeOf128
  v46 := Tryd.zeroValue128
  t105 := Tryd.underlying123
  a105 := Tryd.isAgg123
  z105 := Tryd.sizeOf123
  v105 := Tryd.zeroValue123
  t116 := Tryd.underlying117
  a116 := Tryd.isAgg117
  z116 := Tryd.sizeOf117
  t117 := Tryd.underlying118
  a117 := Tryd.isAgg118
  z117 := Tryd.sizeOf118
  v117 := Tryd.zeroValue118
  t119 := Tryd.underlying127
  a119 := Tryd.isAgg127
  z119 := Tryd.sizeOf127
  t124 := Tryd.underlying121
  a124 := Tryd.isAgg121
  z124 := Tryd.sizeOf121
  v124 := Tryd.zeroValue121
  t138 := Tryd.underlying130
  a138 := Tryd.isAgg130
  z138 := Tryd.sizeOf130
  v138 := Tryd.zeroValue130
  t139 := Tryd.underlying131
  a139 := Tryd.isAgg131
  z139 := Tryd.sizeOf131
  v139 := Tryd.zeroValue131
  g3 := by kernel_rfl
  g4 := by kernel_rfl }
end Go.Proofs
namespace Go.Proofs.YtmlcaecknocpoaaDoor.It
open Go Go.RowKit Go.Shelf Go.Proofs.YtmlcaecknocpoaaDoorW.PrintWords Go.Proofs.YtmlcaecknocpoaaDoor.Pr Go.Proofs.YtmlcaecknocpoaaDoor.Sp
def cutset : List UInt8 := [97, 98, 99, 100, 101, 102, 103, 104, 105, 106, 107, 108, 109, 110, 111, 112, 113, 114, 115, 116, 117, 118, 119, 120, 121, 122, 48, 49, 50, 51, 52, 53, 54, 55, 56, 57, 95]
theorem all_u8 {p : UInt8 → Prop} (h : ∀ n : Fin 256, p (UInt8.ofFin n)) (c : UInt8) : p c := h c.toFin
theorem cutset_word (c : UInt8) : cutset.contains c = wordC c :=
  all_u8 (p := fun c => cutset.contains c = wordC c) (by decide +kernel) c
theorem dropWhile_nil (p : UInt8 → Bool) : ∀ l : List UInt8, (l.dropWhile p = [] ↔ l.all p = true)
  | [] => by simp
  | c :: l => by
    by_cases h : p c = true
    · simp [List.dropWhile, h, dropWhile_nil p l]
    · simp [List.dropWhile, h]
theorem trim_nil (l : List UInt8) : (Lib.trimS l cutset = [] ↔ l.all wordC = true) := by
  have e : (cutset.contains ·) = wordC := funext cutset_word
  unfold Lib.trimS Lib.trimLeftS Lib.trimRightS
  rw [e, dropWhile_nil]
  have h2 := dropWhile_nil wordC l.reverse
  constructor
  · intro h
    by_cases hn : l.reverse.dropWhile wordC = []
    · have := h2.1 hn
      simpa using this
    · exfalso
      have h3 : (l.reverse.dropWhile wordC).all wordC = true := by simpa using h
      cases hd : l.reverse.dropWhile wordC with
      | nil => exact hn hd
      | cons c r =>
        have := List.head_dropWhile_not wordC hn
        simp only [hd, List.head_cons] at this
        rw [hd] at h3
        simp only [List.all_cons, Bool.and_eq_true] at h3
        rw [h3.1] at this
        exact absurd this (by decide)
  · intro h
    have : l.reverse.dropWhile wordC = [] := h2.2 (by simpa using h)
    rw [this]
    rfl
theorem name_long (s : ByteArray) (h : 64 < s.size) : name s = false := by
  unfold name
  cases e : s.data.toList with
  | nil => rfl
  | cons c r =>
    have : s.data.toList.length = s.size := Array.length_toList
    rw [e] at this
    simp only [List.length_cons] at this
    have h1 : decide (r.length ≤ 63) = false := by simp; omega
    simp [word, h1]
theorem letter_first (c : UInt8) : (wordC c && decide (97 ≤ (c.toNat : Int))) = letter c :=
  all_u8 (p := fun c => (wordC c && decide (97 ≤ (c.toNat : Int))) = letter c) (by decide +kernel) c
theorem name_tells (s : ByteArray) (c : UInt8) (r : List UInt8) (e : s.data.toList = c :: r) (h : s.size ≤ 64) (hr : reserved.contains s.data.toList = false) : name s = (decide (Lib.trimS s.data.toList cutset = []) && decide (97 ≤ (c.toNat : Int))) := by
  have hl : s.data.toList.length = s.size := Array.length_toList
  unfold name
  rw [hr, e]
  rw [e] at hl
  simp only [List.length_cons] at hl
  have h1 : decide (r.length ≤ 63) = true := by simp; omega
  have h2 : decide (Lib.trimS (c :: r) cutset = []) = (wordC c && r.all wordC) := by
    rw [Bool.eq_iff_iff, decide_eq_true_iff, trim_nil]
    simp
  rw [h2]
  simp only [word, h1, ← letter_first]
  cases wordC c <;> cases r.all wordC <;> cases decide (97 ≤ (c.toNat : Int)) <;> rfl
theorem trim_calls (s : ByteArray) (w : World) (hs : s.size ≤ 9223372036854775807) :
    Calls Tryd.prog 111 #[.string s, .string ⟨#[97, 98, 99, 100, 101, 102, 103, 104, 105, 106, 107, 108, 109, 110, 111, 112, 113, 114, 115, 116, 117, 118, 119, 120, 121, 122, 48, 49, 50, 51, 52, 53, 54, 55, 56, 57, 95]⟩] w fun e w' =>
      ∃ r : ByteArray, e = .returned (.string r) ∧ (r.toList = [] ↔ Lib.trimS s.data.toList cutset = []) ∧ Below w.heap.size w w' := by
  have h := Any.strings_Trim_laid Tryd.lays160 (by kernel_rfl) s ⟨#[97, 98, 99, 100, 101, 102, 103, 104, 105, 106, 107, 108, 109, 110, 111, 112, 113, 114, 115, 116, 117, 118, 119, 120, 121, 122, 48, 49, 50, 51, 52, 53, 54, 55, 56, 57, 95]⟩ w hs (by decide) (ascii_of_all (by decide))
  change Calls Tryd.prog 111 _ _ (fun e w' => e = .returned (.string ⟨(Lib.trimS s.data.toList cutset).toArray⟩) ∧ Below w.heap.size w w') at h
  exact h.mono fun e w' ⟨he, hb⟩ => ⟨_, he, by rw [ByteArray.toList_eq], hb⟩
set_option maxRecDepth 100000 in
set_option maxHeartbeats 1000000 in
theorem named_calls (s : ByteArray) (w : World) (hs : s.size ≤ 9223372036854775807) (ht : Tabs w) :
    Calls Tryd.prog 87 #[.string s] w fun e w' => e = .returned (.bool (name s)) ∧ Below w.heap.size w w' := by
  obtain ⟨b, hc, hl⟩ := ht.reserved
  have hlook := hl w (Below.refl _ _) s (by unfold maxLen; exact hs)
  clear hl ht
  have hsz : s.data.toList.length = s.size := Array.length_toList
  have htl : s.toList = s.data.toList := ByteArray.toList_eq s
  by_cases h0 : s.size = 0
  · have hd : s.data.toList = [] := List.length_eq_zero_iff.1 (by omega)
    have hn : name s = false := by unfold name; rw [hd]; rfl
    have hN := Aside0.mk hn
    have h1 : s.toList = [] := by rw [htl, hd]
    have h1b : s.toList.isEmpty = true := by rw [h1]; rfl
    clear hsz htl hd hn h0 hlook
    go_enter Tryd.func87, Tryd.ntmps87
    go_wp2_with fail
    go_ret
    exact ⟨by rw [hN.out]; rfl, Below.refl _ _⟩
  · have hne : ¬ s.toList = [] := by
      rw [htl]
      intro e
      rw [e] at hsz
      simp at hsz
      omega
    have hne1 : s.toList.isEmpty = false := by cases h : s.toList with | nil => exact absurd h hne | cons _ _ => rfl
    have hne2 : (!s.toList.isEmpty) = true := by rw [hne1]; rfl
    by_cases h1 : 64 < s.size
    · have hN := Aside0.mk (name_long s h1)
      have h2 : (64 : Int) < (s.size : Int) := by omega
      clear hsz htl h0 hlook h1
      go_enter Tryd.func87, Tryd.ntmps87
      go_wp2_with fail
      go_ret
      exact ⟨by rw [hN.out]; rfl, Below.refl _ _⟩
    · have h2 : (s.size : Int) ≤ 64 := by omega
      cases hr : reserved.contains s.data.toList with
      | true =>
        have hN := Aside0.mk (show name s = false by unfold name; rw [hr]; simp)
        rw [hr] at hlook
        clear hsz htl h0 h1 hr
        go_enter Tryd.func87, Tryd.ntmps87
        go_wp2_with fail
        go_ret
        exact ⟨by rw [hN.out]; rfl, Below.refl _ _⟩
      | false =>
        rw [hr] at hlook
        cases e : s.data.toList with
        | nil => exact absurd (by rw [htl, e]) hne
        | cons c r =>
          have hN := Aside0.mk (name_tells s c r e (by omega) hr)
          have hlt : 0 < s.size := by omega
          have hc0 : s[0] = c := by
            have h := Lib.data_getElem? s 0 hlt
            rw [e] at h
            simpa using h.symm
          have hT := Aside0.mk (trim_calls s w hs)
          have HC := Aside0.mk hc0
          clear hsz htl h0 h1 hr e hc0
          go_enter Tryd.func87, Tryd.ntmps87
          go_wp2_with (go_at_call 111; refine hT.out.mono ?_; clear hT; rintro e w' ⟨t, rfl, ht, hb⟩)
          all_goals
            rename_i hw
            go_ret
            refine ⟨?_, hb⟩
            rw [hN.out, ← HC.out]
            have hi : t.toList.isEmpty = decide (Lib.trimS s.data.toList cutset = []) := by
              rw [Bool.eq_iff_iff, List.isEmpty_iff, decide_eq_true_iff]
              exact ht
            refine congrArg (fun b => Ending.returned (Value.bool b)) ?_
            first | rw [hi] | (rw [decide_eq_false hw]; rfl)
end Go.Proofs.YtmlcaecknocpoaaDoor.It
namespace Go.Proofs.YtmlcaecknocpoaaDoor.It
open Go Go.RowKit Go.Shelf Go.Proofs.YtmlcaecknocpoaaDoorW.PrintWords Go.Proofs.YtmlcaecknocpoaaDoor.Pr Go.Proofs.YtmlcaecknocpoaaDoor.Sp
theorem bcell {W w1 : World} (hb : Below W.heap.size W w1) : (∀ b o, b < W.heap.size → w1.cell? ⟨b, o, none⟩ = W.cell? ⟨b, o, none⟩) ∧ (∀ b o, b < W.heap.size → w1.frozen? ⟨b, o, none⟩ = W.frozen? ⟨b, o, none⟩) :=
  ⟨fun b o h => hb.cell (p := ⟨b, o, none⟩) h, fun b o h => hb.frozen (p := ⟨b, o, none⟩) h⟩
theorem ret_bool {a b : Bool} (h : a = b) : Ending.returned (.bool a) = Ending.returned (.bool b) := by rw [h]
theorem atom_calls (k : Int) (w : World) : Calls Tryd.prog 80 #[.int .i64 k] w fun e w' => e = .returned (.bool (atom k)) ∧ w = w' := by
  go_enter Tryd.func80, Tryd.ntmps80
  go_wp2_with fail
  all_goals
    go_ret
    exact ⟨ret_bool (by simp [atom]; try omega), rfl⟩
theorem quant_calls (k : Int) (w : World) : Calls Tryd.prog 81 #[.int .i64 k] w fun e w' => e = .returned (.bool (quant k)) ∧ w = w' := by
  go_enter Tryd.func81, Tryd.ntmps81
  go_wp2_with fail
  all_goals
    go_ret
    exact ⟨ret_bool (by simp [quant]; try omega), rfl⟩
theorem counts_calls (k : Int) (w : World) : Calls Tryd.prog 82 #[.int .i64 k] w fun e w' => e = .returned (.bool (counts k)) ∧ w = w' := by
  go_enter Tryd.func82, Tryd.ntmps82
  go_wp2_with fail
  all_goals
    go_ret
    exact ⟨ret_bool (by rw [Bool.eq_iff_iff]; simp [counts, *]), rfl⟩
theorem number_calls (k : Int) (w : World) : Calls Tryd.prog 88 #[.int .i64 k] w fun e w' => e = .returned (.bool (number k)) ∧ w = w' := by
  go_enter Tryd.func88, Tryd.ntmps88
  go_wp2_with fail
  all_goals
    go_ret
    exact ⟨ret_bool (by unfold number most; rw [Bool.eq_iff_iff]; simp only [Bool.and_eq_true, decide_eq_true_iff, Bool.false_eq_true, false_iff] <;> omega), rfl⟩
theorem empty_iff (s : ByteArray) : s = ByteArray.empty ↔ s.toList = [] := by
  rw [ByteArray.toList_eq]
  constructor
  · rintro rfl; rfl
  · intro h
    have : s.data = #[] := by
      have := congrArg List.toArray h
      simpa using this
    cases s
    simp_all
    rfl
set_option maxRecDepth 100000 in
set_option maxHeartbeats 1000000 in
theorem termed_calls (t : S47) (w : World) (hs : t.f1.size ≤ 9223372036854775807) (ht : Tabs w) :
    Calls Tryd.prog 84 #[.agg #[.int .i64 t.f0, .string t.f1, .int .i64 t.f2]] w fun e w' => e = .returned (.bool (term t)) ∧ Below w.heap.size w w' := by
  have hu47 := Tryd.underlying47
  have hB := (Below.refl w.heap.size w).alloc (Nat.le_refl _) (.cells #[.int .i64 t.f0, .string t.f1, .int .i64 t.f2] 47)
  have hN := Aside0.mk (named_calls t.f1 _ hs (ht.below hB))
  replace hB := Aside0.mk hB
  clear ht
  go_enter Tryd.func84, Tryd.ntmps84
  go_wp2_with (first | (go_at_call 88; refine (number_calls _ _).mono ?_; rintro e w' ⟨rfl, rfl⟩) | (go_at_call 87; refine hN.out.mono ?_; clear hN; rintro e w' ⟨rfl, hb⟩; obtain ⟨hcc, hff⟩ := bcell hb))
  all_goals
    go_ret
    refine ⟨ret_bool ?_, ?_⟩
    · clear hB hu47
      rw [Bool.eq_iff_iff]
      simp only [term, empty_iff]
      simp_all <;> omega
    · first | exact hB.out | exact hB.out.trans (hb.mono (by simp))
end Go.Proofs.YtmlcaecknocpoaaDoor.It
namespace Go.Proofs.YtmlcaecknocpoaaDoor.It
open Go Go.RowKit Go.Shelf Go.Proofs.YtmlcaecknocpoaaDoorW.PrintWords Go.Proofs.YtmlcaecknocpoaaDoor.Pr Go.Proofs.YtmlcaecknocpoaaDoor.Sp
def idx {α : Type} (p : α → Bool) (l : List α) : Int := match l.findIdx? p with | some i => (i : Int) | none => -1
theorem idx_hit {α : Type} (p : α → Bool) (l : List α) (d : α) (j : Nat) (hj : j < l.length) (hp : p (l.getD j d) = true) (hb : ∀ i, i < j → p (l.getD i d) = false) : idx p l = j := by
  have : l.findIdx? p = some j := by
    rw [List.findIdx?_eq_some_iff_getElem]
    refine ⟨hj, by simpa [List.getD, hj] using hp, fun i hi => ?_⟩
    have := hb i hi
    simpa [List.getD, show i < l.length by omega] using this
  simp [idx, this]
theorem idx_miss {α : Type} (p : α → Bool) (l : List α) (d : α) (hb : ∀ i, i < l.length → p (l.getD i d) = false) : idx p l = -1 := by
  have : l.findIdx? p = none := by
    rw [List.findIdx?_eq_none_iff]
    intro x hx
    obtain ⟨i, hi, rfl⟩ := List.mem_iff_getElem.1 hx
    have := hb i hi
    simpa [List.getD, hi] using this
  simp [idx, this]
theorem idx_any {α : Type} (p : α → Bool) (l : List α) : decide (0 ≤ idx p l) = l.any p := by
  unfold idx
  cases h : l.findIdx? p with
  | none =>
    rw [List.findIdx?_eq_none_iff] at h
    have : l.any p = false := by rw [List.any_eq_false]; intro x hx; simp [h x hx]
    rw [this]; rfl
  | some i =>
    rw [List.findIdx?_eq_some_iff_getElem] at h
    obtain ⟨hi, hp, _⟩ := h
    have : l.any p = true := List.any_eq_true.2 ⟨_, List.getElem_mem hi, hp⟩
    rw [this]
    simp
def tVal (t : S47) : Value := .agg #[.int .i64 t.f0, .string t.f1, .int .i64 t.f2]
def bVal (b : S42) : Value := .agg #[.string b.f0, .int .i64 b.f1]
def Pred {α : Type} (g : Nat) (lb : Array Value) (enc : α → Value) (p : α → Bool) (ok : α → Prop) (w : World) : Prop :=
  ∀ x, ok x → ∀ W, Below w.heap.size w W → Calls Tryd.prog g (#[enc x] ++ lb) W fun e w' => e = .returned (.bool (p x)) ∧ Below W.heap.size W w'
theorem termAt {w W : World} {A : Option Addr} {ts : List S47} (h : Kd.C k47 w A ts.length ts) (hb : Below w.heap.size w W) (j : Nat) (hj : j < ts.length) :
    ∃ ad, A = some ad ∧ W.cell? (ad.add (j * 3)) = some (.int .i64 (rd_T47 ts j).f0) ∧ W.cell? ⟨(ad.add (j * 3)).block, (ad.add (j * 3)).off + 1, none⟩ = some (.string (rd_T47 ts j).f1) ∧ W.cell? ⟨(ad.add (j * 3)).block, (ad.add (j * 3)).off + 2, none⟩ = some (.int .i64 (rd_T47 ts j).f2) := by
  obtain ⟨ad, e, h0, h1, h2⟩ := at_T47 h (j : Int) (by omega) (by omega)
  exact ⟨ad, e, up_cell hb h0, up_cell hb h1, up_cell hb h2⟩
theorem bindAt {w W : World} {A : Option Addr} {bs : List S42} (h : Kd.C k42 w A bs.length bs) (hb : Below w.heap.size w W) (j : Nat) (hj : j < bs.length) :
    ∃ ad, A = some ad ∧ W.cell? (ad.add (j * 2)) = some (.string (rd_T42 bs j).f0) ∧ W.cell? ⟨(ad.add (j * 2)).block, (ad.add (j * 2)).off + 1, none⟩ = some (.int .i64 (rd_T42 bs j).f1) := by
  obtain ⟨ad, e, h0, h1⟩ := at_T42 h (j : Int) (by omega) (by omega)
  exact ⟨ad, e, up_cell hb h0, up_cell hb h1⟩
theorem rd47 (ts : List S47) (j : Nat) : ts.getD j z47 = rd_T47 ts j := by simp [rd_T47]
theorem rd42 (bs : List S42) (j : Nat) : bs.getD j z42 = rd_T42 bs j := by simp [rd_T42]
theorem rd47_mem (ts : List S47) (j : Nat) (h : j < ts.length) : rd_T47 ts j ∈ ts := by simp [rd_T47, List.getD, h]
theorem rd42_mem (bs : List S42) (j : Nat) (h : j < bs.length) : rd_T42 bs j ∈ bs := by simp [rd_T42, List.getD, h]
set_option maxRecDepth 100000 in
set_option maxHeartbeats 2000000 in
theorem indexT_calls (g : Nat) (lb : Array Value) (eg : ∀ args w, (callFunc g args).run Tryd.prog w = .ok (.enter g args) w) (p : S47 → Bool) (ok : S47 → Prop) (A : Option Addr) (c : Nat) (ts : List S47) (w : World)
    (hr : Kd.C k47 w A ts.length ts) (hok : ∀ t ∈ ts, ok t) (hp : Pred g lb tVal p ok w) :
    Calls Tryd.prog 110 #[.slice A ts.length c, .func (.func g) #[] lb] w fun e w' => e = .returned (.int .i64 (idx p ts)) ∧ Below w.heap.size w w' := by
  have hlen : ts.length ≤ 9223372036854775807 := hr.2.1
  have hu47 := Tryd.underlying47
  have HR := Aside0.mk hr
  have HP := Aside0.mk (And.intro hp hok)
  clear hr hp hok
  go_enter Tryd.func110, Tryd.ntmps110
  go_wp2_with fail
  go_loopg [5, 8] ts.length (fun gg _ s8 wr => ∃ j : Nat, j ≤ ts.length ∧ ts.length - j ≤ gg ∧ s8 = .int .i64 j ∧ Aside0 (Below w.heap.size w wr ∧ ∀ i, i < j → p (ts.getD i z47) = false))
  case atStart => exact ⟨0, Nat.zero_le _, by omega, rfl, ⟨Below.refl _ _, fun j hj => absurd hj (Nat.not_lt_zero _)⟩⟩
  case round =>
    obtain ⟨j, hj, hg, rfl, HJ⟩ := hrel
    by_cases hlt : j < ts.length
    · have hltz : (j : Int) < (ts.length : Int) := by omega
      obtain ⟨ad, rfl, y0, y1, y2⟩ := termAt HR.out HJ.out.1 j hlt
      have hcall := Aside0.mk (HP.out.1 _ (HP.out.2 _ (rd47_mem ts j hlt)) wr HJ.out.1)
      cases hq : p (rd_T47 ts j) with
      | true =>
        rw [hq] at hcall
        have HQ := Aside0.mk hq
        clear hq
        go_wp2_with (go_at_fn g; refine hcall.out.mono ?_; clear hcall; rintro e w' ⟨rfl, hb⟩)
        go_ret
        exact ⟨by rw [idx_hit p ts z47 j hlt (by rw [rd47]; exact HQ.out) HJ.out.2]; rfl, HJ.out.1.trans (hb.mono HJ.out.1.size)⟩
      | false =>
        rw [hq] at hcall
        have HQ := Aside0.mk hq
        clear hq
        go_wp2_with (go_at_fn g; refine hcall.out.mono ?_; clear hcall; rintro e w' ⟨rfl, hb⟩)
        go_roundg (ts.length - (j + 1))
        case measure => omega
        case rel =>
          refine ⟨j + 1, by omega, by omega, by go_num, ⟨HJ.out.1.trans (hb.mono HJ.out.1.size), fun i hi => ?_⟩⟩
          by_cases e : i = j
          · subst e; rw [rd47]; exact HQ.out
          · exact HJ.out.2 i (by omega)
    · have hltz : ¬ (j : Int) < (ts.length : Int) := by omega
      have he : j = ts.length := by omega
      have HE := Aside0.mk he
      clear he
      go_wp2_with fail
      go_ret
      exact ⟨by rw [idx_miss p ts z47 (by rw [← HE.out]; exact HJ.out.2)]; rfl, HJ.out.1⟩
set_option maxRecDepth 100000 in
set_option maxHeartbeats 2000000 in
theorem indexB_calls (g : Nat) (lb : Array Value) (eg : ∀ args w, (callFunc g args).run Tryd.prog w = .ok (.enter g args) w) (p : S42 → Bool) (ok : S42 → Prop) (A : Option Addr) (c : Nat) (ts : List S42) (w : World)
    (hr : Kd.C k42 w A ts.length ts) (hok : ∀ t ∈ ts, ok t) (hp : Pred g lb bVal p ok w) :
    Calls Tryd.prog 109 #[.slice A ts.length c, .func (.func g) #[] lb] w fun e w' => e = .returned (.int .i64 (idx p ts)) ∧ Below w.heap.size w w' := by
  have hlen : ts.length ≤ 9223372036854775807 := hr.2.1
  have hu42 := Tryd.underlying42
  have HR := Aside0.mk hr
  have HP := Aside0.mk (And.intro hp hok)
  clear hr hp hok
  go_enter Tryd.func109, Tryd.ntmps109
  go_wp2_with fail
  go_loopg [5, 8] ts.length (fun gg _ s8 wr => ∃ j : Nat, j ≤ ts.length ∧ ts.length - j ≤ gg ∧ s8 = .int .i64 j ∧ Aside0 (Below w.heap.size w wr ∧ ∀ i, i < j → p (ts.getD i z42) = false))
  case atStart => exact ⟨0, Nat.zero_le _, by omega, rfl, ⟨Below.refl _ _, fun j hj => absurd hj (Nat.not_lt_zero _)⟩⟩
  case round =>
    obtain ⟨j, hj, hg, rfl, HJ⟩ := hrel
    by_cases hlt : j < ts.length
    · have hltz : (j : Int) < (ts.length : Int) := by omega
      obtain ⟨ad, rfl, y0, y1⟩ := bindAt HR.out HJ.out.1 j hlt
      have hcall := Aside0.mk (HP.out.1 _ (HP.out.2 _ (rd42_mem ts j hlt)) wr HJ.out.1)
      cases hq : p (rd_T42 ts j) with
      | true =>
        rw [hq] at hcall
        have HQ := Aside0.mk hq
        clear hq
        go_wp2_with (go_at_fn g; refine hcall.out.mono ?_; clear hcall; rintro e w' ⟨rfl, hb⟩)
        go_ret
        exact ⟨by rw [idx_hit p ts z42 j hlt (by rw [rd42]; exact HQ.out) HJ.out.2]; rfl, HJ.out.1.trans (hb.mono HJ.out.1.size)⟩
      | false =>
        rw [hq] at hcall
        have HQ := Aside0.mk hq
        clear hq
        go_wp2_with (go_at_fn g; refine hcall.out.mono ?_; clear hcall; rintro e w' ⟨rfl, hb⟩)
        go_roundg (ts.length - (j + 1))
        case measure => omega
        case rel =>
          refine ⟨j + 1, by omega, by omega, by go_num, ⟨HJ.out.1.trans (hb.mono HJ.out.1.size), fun i hi => ?_⟩⟩
          by_cases e : i = j
          · subst e; rw [rd42]; exact HQ.out
          · exact HJ.out.2 i (by omega)
    · have hltz : ¬ (j : Int) < (ts.length : Int) := by omega
      have he : j = ts.length := by omega
      have HE := Aside0.mk he
      clear he
      go_wp2_with fail
      go_ret
      exact ⟨by rw [idx_miss p ts z42 (by rw [← HE.out]; exact HJ.out.2)]; rfl, HJ.out.1⟩
set_option maxHeartbeats 1000000 in
theorem containsT_calls (g : Nat) (lb : Array Value) (eg : ∀ args w, (callFunc g args).run Tryd.prog w = .ok (.enter g args) w) (p : S47 → Bool) (ok : S47 → Prop) (A : Option Addr) (c : Nat) (ts : List S47) (w : World)
    (hr : Kd.C k47 w A ts.length ts) (hok : ∀ t ∈ ts, ok t) (hp : Pred g lb tVal p ok w) :
    Calls Tryd.prog 85 #[.slice A ts.length c, .func (.func g) #[] lb] w fun e w' => e = .returned (.bool (ts.any p)) ∧ Below w.heap.size w w' := by
  have hI := Aside0.mk (indexT_calls g lb eg p ok A c ts w hr hok hp)
  have HA := Aside0.mk (idx_any p ts)
  clear hr hok hp eg
  generalize idx p ts = ix at hI HA
  generalize ts.any p = an at HA
  go_enter Tryd.func85, Tryd.ntmps85
  go_wp2_with (go_at_call 110; refine hI.out.mono ?_; clear hI; rintro e w' ⟨rfl, hb⟩)
  go_ret
  exact ⟨ret_bool HA.out, hb⟩
set_option maxHeartbeats 1000000 in
theorem containsB_calls (g : Nat) (lb : Array Value) (eg : ∀ args w, (callFunc g args).run Tryd.prog w = .ok (.enter g args) w) (p : S42 → Bool) (ok : S42 → Prop) (A : Option Addr) (c : Nat) (ts : List S42) (w : World)
    (hr : Kd.C k42 w A ts.length ts) (hok : ∀ t ∈ ts, ok t) (hp : Pred g lb bVal p ok w) :
    Calls Tryd.prog 73 #[.slice A ts.length c, .func (.func g) #[] lb] w fun e w' => e = .returned (.bool (ts.any p)) ∧ Below w.heap.size w w' := by
  have hI := Aside0.mk (indexB_calls g lb eg p ok A c ts w hr hok hp)
  have HA := Aside0.mk (idx_any p ts)
  clear hr hok hp eg
  generalize idx p ts = ix at hI HA
  generalize ts.any p = an at HA
  go_enter Tryd.func73, Tryd.ntmps73
  go_wp2_with (go_at_call 109; refine hI.out.mono ?_; clear hI; rintro e w' ⟨rfl, hb⟩)
  go_ret
  exact ⟨ret_bool HA.out, hb⟩
end Go.Proofs.YtmlcaecknocpoaaDoor.It
namespace Go.Proofs.YtmlcaecknocpoaaDoor.Pr
open Go.RowKit Go.Proofs.YtmlcaecknocpoaaDoorW.PrintWords Go.Proofs.YtmlcaecknocpoaaDoorW.PrintLast Go.Proofs.YtmlcaecknocpoaaDoorW.PrintMore
attribute [local go_sem] max2_int min2_int max_two min_two max_three min_three max_four min_four   
set_option linter.unusedVariables false
set_option linter.unusedSimpArgs false
theorem eqA47 (d : Nat) (w : World) (x0 y0 : Int) (x1 y1 : ByteArray) (x2 y2 : Int) :
    (Op.equalIn (d + 2) 47 (.agg #[.int .i64 x0, .string x1, .int .i64 x2]) (.agg #[.int .i64 y0, .string y1, .int .i64 y2])).run Tryd.prog w = .ok (x0 == y0 && (x1.toList == y1.toList && (x2 == y2))) w := by
  refine eqA_of Tryd.underlying47 (by kernel_rfl) ?_
  refine eqf_cons (by rfl) (by go_simp; rfl) (by go_simp; rfl) (by go_simp) ?_
  refine eqf_cons (by rfl) (by go_simp; rfl) (by go_simp; rfl) (by go_simp) ?_
  exact eqf_last (by rfl) (by go_simp; rfl) (by go_simp; rfl) (by go_simp)
end Go.Proofs.YtmlcaecknocpoaaDoor.Pr
namespace Go.Proofs.YtmlcaecknocpoaaDoor.Pr
open Go.RowKit Go.Proofs.YtmlcaecknocpoaaDoorW.PrintWords Go.Proofs.YtmlcaecknocpoaaDoorW.PrintLast Go.Proofs.YtmlcaecknocpoaaDoorW.PrintMore
attribute [local go_sem] max2_int min2_int max_two min_two max_three min_three max_four min_four   
set_option linter.unusedVariables false
set_option linter.unusedSimpArgs false
attribute [local go_sem high] eqA47
def api_Term.l0 : Nat → List (S47) → List (S47) → Int → Int → Option (Bool)
  | 0, _, _, _, _ => none
  | k + 1, x0, x1, x12, x13 => if x13 < x12 then (if 0 ≤ x13 then (if x13 < (x0.length : Int) then (if x13 < (x1.length : Int) then (if (!(((rd_T47 x0 x13).f0) == ((rd_T47 x1 x13).f0)) || (!((((rd_T47 x0 x13).f1).toList) == (((rd_T47 x1 x13).f1).toList)) || (!(((rd_T47 x0 x13).f2) == ((rd_T47 x1 x13).f2))))) = true then (some false) else (api_Term.l0 k x0 x1 x12 (wrap64 (x13 + 1)))) else (none)) else (none)) else (none)) else (some true)
def api_Term.f (k : Nat) (l0 : List (S47)) (l1 : List (S47)) : Option (Bool) := if (l0.length : Int) = (l1.length : Int) then (api_Term.l0 k l0 l1 (l0.length : Int) 0) else (some false)
set_option maxHeartbeats 8000000 in
set_option maxRecDepth 100000 in
theorem api_Term.calls (k : Nat) (A0 : Option Addr) (c0 : Nat) (l0 : List (S47)) (A1 : Option Addr) (c1 : Nat) (l1 : List (S47)) (r : Bool) (w : World) (hr0 : Kd.C k47 w A0 l0.length l0) (hc0 : l0.length ≤ c0) (hr1 : Kd.C k47 w A1 l1.length l1) (hc1 : l1.length ≤ c1) (h : api_Term.f k l0 l1 = some r) :
    Calls Tryd.prog 57 #[.slice A0 l0.length c0, .slice A1 l1.length c1] w fun e w' => e = .returned (.bool r) ∧ Drawn0 w w' := by
  have hu47 := Tryd.underlying47
  have HR0 := Aside0.mk hr0
  have HC0 := Aside0.mk hc0
  clear hr0 hc0
  have HR1 := Aside0.mk hr1
  have HC1 := Aside0.mk hc1
  clear hr1 hc1
  have H : (if (l0.length : Int) = (l1.length : Int) then (api_Term.l0 k l0 l1 (l0.length : Int) 0) else (some false)) = some r := h
  clear h
  by_cases c3 : (l0.length : Int) = (l1.length : Int)
  · rw [if_pos c3] at H
    have c3b0 : ((l0.length : Int) == (l1.length : Int)) = true := beq_iff_eq.mpr c3
    have c3b1 : ((l0.length : Int) != (l1.length : Int)) = false := bne_eq_false_iff_eq.mpr c3
    have c3b2 : (l0.length == l1.length) = true := by first | simpa using c3 | (simp at c3 ⊢; omega)
    clear c3
    have H' := Aside0.mk H
    clear H
    go_enter Tryd.func57, Tryd.ntmps57
    go_wp2
    repeat (go_quiet (fail); try go_wp2)
    go_loopg [13] k (fun kq v13 w' => ∃ (x13_1 : Int), v13 = .int .i64 x13_1 ∧ Aside0 (api_Term.l0 kq l0 l1 (l0.length : Int) x13_1 = some r) ∧ Aside0 (kq ≤ k) ∧ Drawn0 w w')
    case atStart => exact ⟨(0), (by first | rfl | (simp; done) | (simp [*]; done)), H', ⟨Nat.le_refl _⟩, by repeat (first | exact Drawn0.refl _ | apply Drawn0.step)⟩
    case round =>
      clear H'
      try clear c1
      try clear p2
      try clear c3
      try clear c3b0
      try clear c3b1
      try clear c3b2
      obtain ⟨x13_1, rfl, HA, HK1, ⟨m1, rfl⟩⟩ := hrel
      cases gk with
      | zero => exact absurd HA.out (by simp [api_Term.l0])
      | succ k1 =>
        have H := HA.out
        clear HA
        simp only [api_Term.l0] at H
        by_cases c4 : x13_1 < (l0.length : Int)
        · rw [if_pos c4] at H
          have c4b0 : decide (x13_1 < (l0.length : Int)) = true := decide_eq_true c4
          clear c4
          by_cases c5 : 0 ≤ x13_1
          · rw [if_pos c5] at H
            have c5b0 : decide (0 ≤ x13_1) = true := decide_eq_true c5
            clear c5
            by_cases c6 : x13_1 < (l0.length : Int)
            · rw [if_pos c6] at H
              have c6b0 : decide (x13_1 < (l0.length : Int)) = true := decide_eq_true c6
              clear c6
              by_cases c7 : x13_1 < (l1.length : Int)
              · rw [if_pos c7] at H
                have c7b0 : decide (x13_1 < (l1.length : Int)) = true := decide_eq_true c7
                clear c7
                by_cases c8 : (!(((rd_T47 l0 x13_1).f0) == ((rd_T47 l1 x13_1).f0)) || (!((((rd_T47 l0 x13_1).f1).toList) == (((rd_T47 l1 x13_1).f1).toList)) || (!(((rd_T47 l0 x13_1).f2) == ((rd_T47 l1 x13_1).f2))))) = true
                · rw [if_pos c8] at H
                  have c8b0 : (!(((rd_T47 l0 x13_1).f0) == ((rd_T47 l1 x13_1).f0)) || (!((((rd_T47 l0 x13_1).f1).toList) == (((rd_T47 l1 x13_1).f1).toList)) || (!(((rd_T47 l0 x13_1).f2) == ((rd_T47 l1 x13_1).f2))))) = true := c8
                  clear c8
                  obtain rfl := Option.some.inj H
                  have p192 : 0 ≤ (x13_1 : Int) := of_decide_eq_true (by first | (with_reducible assumption) | assumption)
                  have q192 : x13_1 < (l0.length : Int) := of_decide_eq_true (by first | (with_reducible assumption) | assumption)
                  obtain ⟨ad192, e192, hx192_0, hx192_1, hx192_2⟩ := at_T47 HR0.out x13_1 p192 q192
                  cases e192
                  replace p192 := eq_true p192
                  replace q192 := eq_true q192
                  have p193 : 0 ≤ (x13_1 : Int) := of_decide_eq_true (by first | (with_reducible assumption) | assumption)
                  have q193 : x13_1 < (l1.length : Int) := of_decide_eq_true (by first | (with_reducible assumption) | assumption)
                  obtain ⟨ad193, e193, hx193_0, hx193_1, hx193_2⟩ := at_T47 HR1.out x13_1 p193 q193
                  cases e193
                  replace p193 := eq_true p193
                  replace q193 := eq_true q193
                  go_wp2
                  repeat (go_quiet (fail); try go_wp2)
                  go_ret
                  exact ⟨by first | rfl | (simp; done) | (simp [*]; done), by repeat (first | exact Drawn0.refl _ | apply Drawn0.step)⟩
                · rw [if_neg c8] at H
                  have c8b0 : (!(((rd_T47 l0 x13_1).f0) == ((rd_T47 l1 x13_1).f0)) || (!((((rd_T47 l0 x13_1).f1).toList) == (((rd_T47 l1 x13_1).f1).toList)) || (!(((rd_T47 l0 x13_1).f2) == ((rd_T47 l1 x13_1).f2))))) = false := by simpa using c8
                  clear c8
                  have H' := Aside0.mk H
                  clear H
                  have p192 : 0 ≤ (x13_1 : Int) := of_decide_eq_true (by first | (with_reducible assumption) | assumption)
                  have q192 : x13_1 < (l0.length : Int) := of_decide_eq_true (by first | (with_reducible assumption) | assumption)
                  obtain ⟨ad192, e192, hx192_0, hx192_1, hx192_2⟩ := at_T47 HR0.out x13_1 p192 q192
                  cases e192
                  replace p192 := eq_true p192
                  replace q192 := eq_true q192
                  have p193 : 0 ≤ (x13_1 : Int) := of_decide_eq_true (by first | (with_reducible assumption) | assumption)
                  have q193 : x13_1 < (l1.length : Int) := of_decide_eq_true (by first | (with_reducible assumption) | assumption)
                  obtain ⟨ad193, e193, hx193_0, hx193_1, hx193_2⟩ := at_T47 HR1.out x13_1 p193 q193
                  cases e193
                  replace p193 := eq_true p193
                  replace q193 := eq_true q193
                  go_wp2
                  repeat (go_quiet (fail); try go_wp2)
                  go_roundg k1
                  case measure => have := HK1.out; omega
                  case rel => exact ⟨(wrap64 (x13_1 + 1)), (by first | rfl | (simp; done) | (simp [*]; done)), H', ⟨by have := HK1.out; omega⟩, by repeat (first | exact Drawn0.refl _ | apply Drawn0.step)⟩
              · rw [if_neg c7] at H
                exact absurd H (by simp)
            · rw [if_neg c6] at H
              exact absurd H (by simp)
          · rw [if_neg c5] at H
            exact absurd H (by simp)
        · rw [if_neg c4] at H
          have c4b0 : decide (x13_1 < (l0.length : Int)) = false := decide_eq_false c4
          clear c4
          obtain rfl := Option.some.inj H
          go_wp2
          repeat (go_quiet (fail); try go_wp2)
          go_ret
          exact ⟨by first | rfl | (simp; done) | (simp [*]; done), by repeat (first | exact Drawn0.refl _ | apply Drawn0.step)⟩
  · rw [if_neg c3] at H
    have c3b0 : ((l0.length : Int) == (l1.length : Int)) = false := beq_eq_false_iff_ne.mpr c3
    have c3b1 : ((l0.length : Int) != (l1.length : Int)) = true := bne_iff_ne.mpr c3
    have c3b2 : (l0.length == l1.length) = false := by first | simpa using c3 | (simp at c3 ⊢; omega)
    obtain rfl := Option.some.inj H
    go_enter Tryd.func57, Tryd.ntmps57
    go_wp2
    repeat (go_quiet (fail); try go_wp2)
    go_ret
    exact ⟨by first | rfl | (simp; done) | (simp [*]; done), by repeat (first | exact Drawn0.refl _ | apply Drawn0.step)⟩
end Go.Proofs.YtmlcaecknocpoaaDoor.Pr
namespace Go.Proofs.YtmlcaecknocpoaaDoor.Pr
open Go.RowKit Go.Proofs.YtmlcaecknocpoaaDoorW.PrintWords Go.Proofs.YtmlcaecknocpoaaDoorW.PrintLast Go.Proofs.YtmlcaecknocpoaaDoorW.PrintMore
attribute [local go_sem] max2_int min2_int max_two min_two max_three min_three max_four min_four   
set_option linter.unusedVariables false
set_option linter.unusedSimpArgs false
theorem eqA42 (d : Nat) (w : World) (x0 y0 : ByteArray) (x1 y1 : Int) :
    (Op.equalIn (d + 2) 42 (.agg #[.string x0, .int .i64 x1]) (.agg #[.string y0, .int .i64 y1])).run Tryd.prog w = .ok (x0.toList == y0.toList && (x1 == y1)) w := by
  refine eqA_of Tryd.underlying42 (by kernel_rfl) ?_
  refine eqf_cons (by rfl) (by go_simp; rfl) (by go_simp; rfl) (by go_simp) ?_
  exact eqf_last (by rfl) (by go_simp; rfl) (by go_simp; rfl) (by go_simp)
end Go.Proofs.YtmlcaecknocpoaaDoor.Pr
namespace Go.Proofs.YtmlcaecknocpoaaDoor.Pr
open Go.RowKit Go.Proofs.YtmlcaecknocpoaaDoorW.PrintWords Go.Proofs.YtmlcaecknocpoaaDoorW.PrintLast Go.Proofs.YtmlcaecknocpoaaDoorW.PrintMore
attribute [local go_sem] max2_int min2_int max_two min_two max_three min_three max_four min_four   
set_option linter.unusedVariables false
set_option linter.unusedSimpArgs false
attribute [local go_sem high] eqA42
def api_Bind.l0 : Nat → List (S42) → List (S42) → Int → Int → Option (Bool)
  | 0, _, _, _, _ => none
  | k + 1, x0, x1, x12, x13 => if x13 < x12 then (if 0 ≤ x13 then (if x13 < (x0.length : Int) then (if x13 < (x1.length : Int) then (if (!((((rd_T42 x0 x13).f0).toList) == (((rd_T42 x1 x13).f0).toList)) || (!(((rd_T42 x0 x13).f1) == ((rd_T42 x1 x13).f1)))) = true then (some false) else (api_Bind.l0 k x0 x1 x12 (wrap64 (x13 + 1)))) else (none)) else (none)) else (none)) else (some true)
def api_Bind.f (k : Nat) (l0 : List (S42)) (l1 : List (S42)) : Option (Bool) := if (l0.length : Int) = (l1.length : Int) then (api_Bind.l0 k l0 l1 (l0.length : Int) 0) else (some false)
set_option maxHeartbeats 8000000 in
set_option maxRecDepth 100000 in
theorem api_Bind.calls (k : Nat) (A0 : Option Addr) (c0 : Nat) (l0 : List (S42)) (A1 : Option Addr) (c1 : Nat) (l1 : List (S42)) (r : Bool) (w : World) (hr0 : Kd.C k42 w A0 l0.length l0) (hc0 : l0.length ≤ c0) (hr1 : Kd.C k42 w A1 l1.length l1) (hc1 : l1.length ≤ c1) (h : api_Bind.f k l0 l1 = some r) :
    Calls Tryd.prog 58 #[.slice A0 l0.length c0, .slice A1 l1.length c1] w fun e w' => e = .returned (.bool r) ∧ Drawn0 w w' := by
  have hu42 := Tryd.underlying42
  have HR0 := Aside0.mk hr0
  have HC0 := Aside0.mk hc0
  clear hr0 hc0
  have HR1 := Aside0.mk hr1
  have HC1 := Aside0.mk hc1
  clear hr1 hc1
  have H : (if (l0.length : Int) = (l1.length : Int) then (api_Bind.l0 k l0 l1 (l0.length : Int) 0) else (some false)) = some r := h
  clear h
  by_cases c3 : (l0.length : Int) = (l1.length : Int)
  · rw [if_pos c3] at H
    have c3b0 : ((l0.length : Int) == (l1.length : Int)) = true := beq_iff_eq.mpr c3
    have c3b1 : ((l0.length : Int) != (l1.length : Int)) = false := bne_eq_false_iff_eq.mpr c3
    have c3b2 : (l0.length == l1.length) = true := by first | simpa using c3 | (simp at c3 ⊢; omega)
    clear c3
    have H' := Aside0.mk H
    clear H
    go_enter Tryd.func58, Tryd.ntmps58
    go_wp2
    repeat (go_quiet (fail); try go_wp2)
    go_loopg [13] k (fun kq v13 w' => ∃ (x13_1 : Int), v13 = .int .i64 x13_1 ∧ Aside0 (api_Bind.l0 kq l0 l1 (l0.length : Int) x13_1 = some r) ∧ Aside0 (kq ≤ k) ∧ Drawn0 w w')
    case atStart => exact ⟨(0), (by first | rfl | (simp; done) | (simp [*]; done)), H', ⟨Nat.le_refl _⟩, by repeat (first | exact Drawn0.refl _ | apply Drawn0.step)⟩
    case round =>
      clear H'
      try clear c1
      try clear p2
      try clear c3
      try clear c3b0
      try clear c3b1
      try clear c3b2
      obtain ⟨x13_1, rfl, HA, HK1, ⟨m1, rfl⟩⟩ := hrel
      cases gk with
      | zero => exact absurd HA.out (by simp [api_Bind.l0])
      | succ k1 =>
        have H := HA.out
        clear HA
        simp only [api_Bind.l0] at H
        by_cases c4 : x13_1 < (l0.length : Int)
        · rw [if_pos c4] at H
          have c4b0 : decide (x13_1 < (l0.length : Int)) = true := decide_eq_true c4
          clear c4
          by_cases c5 : 0 ≤ x13_1
          · rw [if_pos c5] at H
            have c5b0 : decide (0 ≤ x13_1) = true := decide_eq_true c5
            clear c5
            by_cases c6 : x13_1 < (l0.length : Int)
            · rw [if_pos c6] at H
              have c6b0 : decide (x13_1 < (l0.length : Int)) = true := decide_eq_true c6
              clear c6
              by_cases c7 : x13_1 < (l1.length : Int)
              · rw [if_pos c7] at H
                have c7b0 : decide (x13_1 < (l1.length : Int)) = true := decide_eq_true c7
                clear c7
                by_cases c8 : (!((((rd_T42 l0 x13_1).f0).toList) == (((rd_T42 l1 x13_1).f0).toList)) || (!(((rd_T42 l0 x13_1).f1) == ((rd_T42 l1 x13_1).f1)))) = true
                · rw [if_pos c8] at H
                  have c8b0 : (!((((rd_T42 l0 x13_1).f0).toList) == (((rd_T42 l1 x13_1).f0).toList)) || (!(((rd_T42 l0 x13_1).f1) == ((rd_T42 l1 x13_1).f1)))) = true := c8
                  clear c8
                  obtain rfl := Option.some.inj H
                  have p194 : 0 ≤ (x13_1 : Int) := of_decide_eq_true (by first | (with_reducible assumption) | assumption)
                  have q194 : x13_1 < (l0.length : Int) := of_decide_eq_true (by first | (with_reducible assumption) | assumption)
                  obtain ⟨ad194, e194, hx194_0, hx194_1⟩ := at_T42 HR0.out x13_1 p194 q194
                  cases e194
                  replace p194 := eq_true p194
                  replace q194 := eq_true q194
                  have p195 : 0 ≤ (x13_1 : Int) := of_decide_eq_true (by first | (with_reducible assumption) | assumption)
                  have q195 : x13_1 < (l1.length : Int) := of_decide_eq_true (by first | (with_reducible assumption) | assumption)
                  obtain ⟨ad195, e195, hx195_0, hx195_1⟩ := at_T42 HR1.out x13_1 p195 q195
                  cases e195
                  replace p195 := eq_true p195
                  replace q195 := eq_true q195
                  go_wp2
                  repeat (go_quiet (fail); try go_wp2)
                  go_ret
                  exact ⟨by first | rfl | (simp; done) | (simp [*]; done), by repeat (first | exact Drawn0.refl _ | apply Drawn0.step)⟩
                · rw [if_neg c8] at H
                  have c8b0 : (!((((rd_T42 l0 x13_1).f0).toList) == (((rd_T42 l1 x13_1).f0).toList)) || (!(((rd_T42 l0 x13_1).f1) == ((rd_T42 l1 x13_1).f1)))) = false := by simpa using c8
                  clear c8
                  have H' := Aside0.mk H
                  clear H
                  have p194 : 0 ≤ (x13_1 : Int) := of_decide_eq_true (by first | (with_reducible assumption) | assumption)
                  have q194 : x13_1 < (l0.length : Int) := of_decide_eq_true (by first | (with_reducible assumption) | assumption)
                  obtain ⟨ad194, e194, hx194_0, hx194_1⟩ := at_T42 HR0.out x13_1 p194 q194
                  cases e194
                  replace p194 := eq_true p194
                  replace q194 := eq_true q194
                  have p195 : 0 ≤ (x13_1 : Int) := of_decide_eq_true (by first | (with_reducible assumption) | assumption)
                  have q195 : x13_1 < (l1.length : Int) := of_decide_eq_true (by first | (with_reducible assumption) | assumption)
                  obtain ⟨ad195, e195, hx195_0, hx195_1⟩ := at_T42 HR1.out x13_1 p195 q195
                  cases e195
                  replace p195 := eq_true p195
                  replace q195 := eq_true q195
                  go_wp2
                  repeat (go_quiet (fail); try go_wp2)
                  go_roundg k1
                  case measure => have := HK1.out; omega
                  case rel => exact ⟨(wrap64 (x13_1 + 1)), (by first | rfl | (simp; done) | (simp [*]; done)), H', ⟨by have := HK1.out; omega⟩, by repeat (first | exact Drawn0.refl _ | apply Drawn0.step)⟩
              · rw [if_neg c7] at H
                exact absurd H (by simp)
            · rw [if_neg c6] at H
              exact absurd H (by simp)
          · rw [if_neg c5] at H
            exact absurd H (by simp)
        · rw [if_neg c4] at H
          have c4b0 : decide (x13_1 < (l0.length : Int)) = false := decide_eq_false c4
          clear c4
          obtain rfl := Option.some.inj H
          go_wp2
          repeat (go_quiet (fail); try go_wp2)
          go_ret
          exact ⟨by first | rfl | (simp; done) | (simp [*]; done), by repeat (first | exact Drawn0.refl _ | apply Drawn0.step)⟩
  · rw [if_neg c3] at H
    have c3b0 : ((l0.length : Int) == (l1.length : Int)) = false := beq_eq_false_iff_ne.mpr c3
    have c3b1 : ((l0.length : Int) != (l1.length : Int)) = true := bne_iff_ne.mpr c3
    have c3b2 : (l0.length == l1.length) = false := by first | simpa using c3 | (simp at c3 ⊢; omega)
    obtain rfl := Option.some.inj H
    go_enter Tryd.func58, Tryd.ntmps58
    go_wp2
    repeat (go_quiet (fail); try go_wp2)
    go_ret
    exact ⟨by first | rfl | (simp; done) | (simp [*]; done), by repeat (first | exact Drawn0.refl _ | apply Drawn0.step)⟩
end Go.Proofs.YtmlcaecknocpoaaDoor.Pr
namespace Go.Proofs.YtmlcaecknocpoaaDoor.It
open Go Go.RowKit Go.Shelf Go.Proofs.YtmlcaecknocpoaaDoorW.PrintWords Go.Proofs.YtmlcaecknocpoaaDoorW.PrintLast Go.Proofs.YtmlcaecknocpoaaDoor.Pr Go.Proofs.YtmlcaecknocpoaaDoor.Sp
theorem wrap_up (n : Nat) (h : n < 9223372036854775807) : wrap64 ((n : Int) + 1) = ((n + 1 : Nat) : Int) := by unfold wrap64; omega
theorem formAt {w W : World} {A : Option Addr} {l : List S26} (h : Kd.C k26 w A l.length l) (hb : Below w.heap.size w W) (j : Nat) (hj : j < l.length) :
    ∃ ad B3 d3 B4 d4 B5 d5, A = some ad ∧ At w (rd_T26 l j) B3 d3 B4 d4 B5 d5 ∧ W.cell? (ad.add (j * 6)) = some (.int .i64 (rd_T26 l j).f0) ∧ W.cell? ⟨(ad.add (j * 6)).block, (ad.add (j * 6)).off + 1, none⟩ = some (.string (rd_T26 l j).f1) ∧
      W.cell? ⟨(ad.add (j * 6)).block, (ad.add (j * 6)).off + 2, none⟩ = some (.int .i64 (rd_T26 l j).f2) ∧ W.cell? ⟨(ad.add (j * 6)).block, (ad.add (j * 6)).off + 3, none⟩ = some (.slice B3 (rd_T26 l j).f3.length d3) ∧
      W.cell? ⟨(ad.add (j * 6)).block, (ad.add (j * 6)).off + 4, none⟩ = some (.slice B4 (rd_T26 l j).f4.length d4) ∧ W.cell? ⟨(ad.add (j * 6)).block, (ad.add (j * 6)).off + 5, none⟩ = some (.slice B5 (rd_T26 l j).f5.length d5) := by
  obtain ⟨ad, B3, d3, B4, d4, B5, d5, e, h0, h1, h2, h3, h4, h5, l3, g3, l4, g4, l5, g5⟩ := at_T26 h (j : Int) (by omega) (by omega)
  exact ⟨ad, B3, d3, B4, d4, B5, d5, e, ⟨l3, g3, l4, g4, l5, g5⟩, up_cell hb h0, up_cell hb h1, up_cell hb h2, up_cell hb h3, up_cell hb h4, up_cell hb h5⟩
theorem rd26_mem (l : List S26) (j : Nat) (h : j < l.length) : rd_T26 l j ∈ l := by simp [rd_T26, List.getD, h]
theorem toList_inj (a b : ByteArray) : a.toList = b.toList ↔ a = b := by
  rw [ByteArray.toList_eq, ByteArray.toList_eq]
  cases a; cases b
  simp [Array.toList_inj]
theorem drop_cons {α : Type} (l : List α) (d : α) (j : Nat) (h : j < l.length) : l.drop j = l.getD j d :: l.drop (j + 1) := by
  rw [List.drop_eq_getElem_cons h]
  simp [List.getD, h]
theorem terms_ev (xs ys : List S47) (hx : xs.length ≤ 9223372036854775807) : Ev (fun k => api_Term.f k xs ys) (decide (xs = ys)) := by
  by_cases hl : xs.length = ys.length
  · have loop : ∀ d j : Nat, j + d = xs.length → Ev (fun k => api_Term.l0 k xs ys (xs.length : Int) (j : Int)) (decide (xs.drop j = ys.drop j)) := by
      intro d
      induction d with
      | zero =>
        intro j hj
        refine Ev.step (f := fun _ => some true) (fun k => ?_) ?_
        · simp only [api_Term.l0]
          rw [if_neg (by omega)]
        · rw [List.drop_of_length_le (by omega), List.drop_of_length_le (by omega)]
          exact Ev.now _
      | succ d ih =>
        intro j hj
        rw [drop_cons xs z47 j (by omega), drop_cons ys z47 j (by omega), rd47, rd47]
        by_cases e : rd_T47 xs j = rd_T47 ys j
        · refine Ev.step (f := fun k => api_Term.l0 k xs ys (xs.length : Int) ((j + 1 : Nat) : Int)) (fun k => ?_) ?_
          · simp only [api_Term.l0]
            rw [if_pos (by omega), if_pos (by omega), if_pos (by omega), if_pos (by omega), if_neg (by rw [e]; simp), wrap_up j (by omega)]
          · rw [e]
            simpa using ih (j + 1) (by omega)
        · refine Ev.step (f := fun _ => some false) (fun k => ?_) ?_
          · simp only [api_Term.l0]
            rw [if_pos (by omega), if_pos (by omega), if_pos (by omega), if_pos (by omega), if_pos]
            generalize rd_T47 xs j = a at *
            generalize rd_T47 ys j = b at *
            obtain ⟨a0, a1, a2⟩ := a
            obtain ⟨b0, b1, b2⟩ := b
            simp only [S47.mk.injEq, not_and] at e
            simp [toList_inj]
            by_cases h0 : a0 = b0
            · by_cases h1 : a1 = b1
              · exact .inr (.inr (e h0 h1))
              · exact .inr (.inl h1)
            · exact .inl h0
          · rw [show (decide (rd_T47 xs j :: xs.drop (j + 1) = rd_T47 ys j :: ys.drop (j + 1))) = false by simp [e]]
            exact Ev.now _
    have := loop xs.length 0 (by omega)
    refine Ev.congr (f := fun k => api_Term.l0 k xs ys (xs.length : Int) 0) (fun k => ?_) (by simpa using this)
    simp only [api_Term.f]
    rw [if_pos (by omega)]
  · refine Ev.congr (f := fun _ => some false) (fun k => ?_) ?_
    · simp only [api_Term.f]
      rw [if_neg (by omega)]
    · rw [show decide (xs = ys) = false by simp; intro e; exact hl (by rw [e])]
      exact Ev.now _
theorem binds_ev (xs ys : List S42) (hx : xs.length ≤ 9223372036854775807) : Ev (fun k => api_Bind.f k xs ys) (decide (xs = ys)) := by
  by_cases hl : xs.length = ys.length
  · have loop : ∀ d j : Nat, j + d = xs.length → Ev (fun k => api_Bind.l0 k xs ys (xs.length : Int) (j : Int)) (decide (xs.drop j = ys.drop j)) := by
      intro d
      induction d with
      | zero =>
        intro j hj
        refine Ev.step (f := fun _ => some true) (fun k => ?_) ?_
        · simp only [api_Bind.l0]
          rw [if_neg (by omega)]
        · rw [List.drop_of_length_le (by omega), List.drop_of_length_le (by omega)]
          exact Ev.now _
      | succ d ih =>
        intro j hj
        rw [drop_cons xs z42 j (by omega), drop_cons ys z42 j (by omega), rd42, rd42]
        by_cases e : rd_T42 xs j = rd_T42 ys j
        · refine Ev.step (f := fun k => api_Bind.l0 k xs ys (xs.length : Int) ((j + 1 : Nat) : Int)) (fun k => ?_) ?_
          · simp only [api_Bind.l0]
            rw [if_pos (by omega), if_pos (by omega), if_pos (by omega), if_pos (by omega), if_neg (by rw [e]; simp), wrap_up j (by omega)]
          · rw [e]
            simpa using ih (j + 1) (by omega)
        · refine Ev.step (f := fun _ => some false) (fun k => ?_) ?_
          · simp only [api_Bind.l0]
            rw [if_pos (by omega), if_pos (by omega), if_pos (by omega), if_pos (by omega), if_pos]
            generalize rd_T42 xs j = a at *
            generalize rd_T42 ys j = b at *
            obtain ⟨a0, a1⟩ := a
            obtain ⟨b0, b1⟩ := b
            simp only [S42.mk.injEq, not_and] at e
            simp [toList_inj]
            by_cases h0 : a0 = b0
            · exact .inr (e h0)
            · exact .inl h0
          · rw [show (decide (rd_T42 xs j :: xs.drop (j + 1) = rd_T42 ys j :: ys.drop (j + 1))) = false by simp [e]]
            exact Ev.now _
    have := loop xs.length 0 (by omega)
    refine Ev.congr (f := fun k => api_Bind.l0 k xs ys (xs.length : Int) 0) (fun k => ?_) (by simpa using this)
    simp only [api_Bind.f]
    rw [if_pos (by omega)]
  · refine Ev.congr (f := fun _ => some false) (fun k => ?_) ?_
    · simp only [api_Bind.f]
      rw [if_neg (by omega)]
    · rw [show decide (xs = ys) = false by simp; intro e; exact hl (by rw [e])]
      exact Ev.now _
theorem equalT_calls (xs ys : List S47) (A : Option Addr) (c : Nat) (B : Option Addr) (d : Nat) (w : World) (ha : Kd.C k47 w A xs.length xs) (hb : Kd.C k47 w B ys.length ys) (hc : xs.length ≤ c) (hd : ys.length ≤ d) :
    Calls Tryd.prog 57 #[.slice A xs.length c, .slice B ys.length d] w fun e w' => e = .returned (.bool (decide (xs = ys))) ∧ Below w.heap.size w w' := by
  obtain ⟨k, hk⟩ := (terms_ev xs ys ha.2.1).rounds
  exact (api_Term.calls k _ _ _ _ _ _ _ _ ha hc hb hd hk).mono fun e w' h => ⟨h.1, h.2.below⟩
theorem equalB_calls (xs ys : List S42) (A : Option Addr) (c : Nat) (B : Option Addr) (d : Nat) (w : World) (ha : Kd.C k42 w A xs.length xs) (hb : Kd.C k42 w B ys.length ys) (hc : xs.length ≤ c) (hd : ys.length ≤ d) :
    Calls Tryd.prog 58 #[.slice A xs.length c, .slice B ys.length d] w fun e w' => e = .returned (.bool (decide (xs = ys))) ∧ Below w.heap.size w w' := by
  obtain ⟨k, hk⟩ := (binds_ev xs ys ha.2.1).rounds
  exact (api_Bind.calls k _ _ _ _ _ _ _ _ ha hc hb hd hk).mono fun e w' h => ⟨h.1, h.2.below⟩
theorem sames_hit (xs ys : List S26) (j : Nat) (hl : xs.length = ys.length) (hj : j < xs.length) (h : same (rd_T26 xs j) (rd_T26 ys j) = false) : sames xs ys = false := by
  induction xs generalizing ys j with
  | nil => simp at hj
  | cons x xs ih =>
    cases ys with
    | nil => simp at hl
    | cons y ys =>
      cases j with
      | zero =>
        have : same x y = false := by simpa [rd_T26] using h
        simp [sames, this]
      | succ j =>
        have : sames xs ys = false := ih ys j (by simpa using hl) (by simpa using hj) (by simpa [rd_T26] using h)
        simp [sames, this]
theorem sames_all (xs ys : List S26) (hl : xs.length = ys.length) (h : ∀ j : Nat, j < xs.length → same (rd_T26 xs j) (rd_T26 ys j) = true) : sames xs ys = true := by
  induction xs generalizing ys with
  | nil =>
    cases ys with
    | nil => rfl
    | cons y ys => simp at hl
  | cons x xs ih =>
    cases ys with
    | nil => simp at hl
    | cons y ys =>
      have h0 : same x y = true := by simpa [rd_T26] using h 0 (by simp)
      have h1 : sames xs ys = true := ih ys (by simpa using hl) (fun j hj => by simpa [rd_T26] using h (j + 1) (by simpa using hj))
      simp [sames, h0, h1]
theorem sames_len (xs ys : List S26) (h : xs.length ≠ ys.length) : sames xs ys = false := by
  induction xs generalizing ys with
  | nil =>
    cases ys with
    | nil => simp at h
    | cons y ys => rfl
  | cons x xs ih =>
    cases ys with
    | nil => rfl
    | cons y ys =>
      have : sames xs ys = false := ih ys (by simpa using h)
      simp [sames, this]
def SameOk (s : Nat) : Prop := ∀ (x y : S26) (A3 : Option Addr) (c3 : Nat) (A4 : Option Addr) (c4 : Nat) (A5 : Option Addr) (c5 : Nat) (B3 : Option Addr) (d3 : Nat) (B4 : Option Addr) (d4 : Nat) (B5 : Option Addr) (d5 : Nat) (w : World), size x ≤ s → At w x A3 c3 A4 c4 A5 c5 → At w y B3 d3 B4 d4 B5 d5 →
  Calls Tryd.prog 30 #[.agg #[.int .i64 x.f0, .string x.f1, .int .i64 x.f2, .slice A3 x.f3.length c3, .slice A4 x.f4.length c4, .slice A5 x.f5.length c5], .agg #[.int .i64 y.f0, .string y.f1, .int .i64 y.f2, .slice B3 y.f3.length d3, .slice B4 y.f4.length d4, .slice B5 y.f5.length d5]] w fun e w' => e = .returned (.bool (same x y)) ∧ Below w.heap.size w w'
theorem enters30 : ∀ args w, (callFunc 30 args).run Tryd.prog w = .ok (.enter 30 args) w := enters_of Tryd.func30 (by kernel_rfl) rfl
set_option maxRecDepth 100000 in
set_option maxHeartbeats 4000000 in
theorem equalF_calls (s : Nat) (hS : SameOk s) (xs ys : List S26) (A : Option Addr) (c : Nat) (B : Option Addr) (d : Nat) (w : World) (hs : sizes xs ≤ s) (ha : Kd.C k26 w A xs.length xs) (hb : Kd.C k26 w B ys.length ys) :
    Calls Tryd.prog 59 #[.slice A xs.length c, .slice B ys.length d, .func (.func 30) #[] #[]] w fun e w' => e = .returned (.bool (sames xs ys)) ∧ Below w.heap.size w w' := by
  have hlen : xs.length ≤ 9223372036854775807 := ha.2.1
  have hlen' : ys.length ≤ 9223372036854775807 := hb.2.1
  have hu26 := Tryd.underlying26
  have HR := Aside0.mk (And.intro ha hb)
  have HS := Aside0.mk (And.intro hS hs)
  have eg := enters30
  clear ha hb hS hs
  by_cases hl : xs.length = ys.length
  · have HL := Aside0.mk hl
    rw [hl]
    clear hl hlen
    go_enter Tryd.func59, Tryd.ntmps59
    go_wp2_with fail
    go_loopg [6, 7, 8, 9, 17] ys.length (fun gg _ _ _ _ s17 wr => ∃ j : Nat, j ≤ ys.length ∧ ys.length - j ≤ gg ∧ s17 = .int .i64 j ∧ Aside0 (Below w.heap.size w wr ∧ ∀ i : Nat, i < j → same (rd_T26 xs i) (rd_T26 ys i) = true))
    case atStart => exact ⟨0, Nat.zero_le _, by omega, rfl, ⟨Below.refl _ _, fun j hj => absurd hj (Nat.not_lt_zero _)⟩⟩
    case round =>
      obtain ⟨j, hj, hg, rfl, HJ⟩ := hrel
      by_cases hlt : j < ys.length
      · have hltz : (j : Int) < (ys.length : Int) := by omega
        obtain ⟨ad, A3, c3, A4, c4, A5, c5, rfl, hatx, x0, x1, x2, x3, x4, x5⟩ := formAt HR.out.1 HJ.out.1 j (by rw [HL.out]; exact hlt)
        obtain ⟨bd, B3, d3, B4, d4, B5, d5, rfl, haty, y0, y1, y2, y3, y4, y5⟩ := formAt HR.out.2 (HJ.out.1) j (by omega)
        have hcall := Aside0.mk (fun W (hW : Below w.heap.size w W) => HS.out.1 (rd_T26 xs j) (rd_T26 ys j) A3 c3 A4 c4 A5 c5 B3 d3 B4 d4 B5 d5 W (Nat.le_trans (Nat.le_trans (by have := sizes_take xs j (by rw [HL.out]; exact hlt); omega) (sizes_take xs j (by rw [HL.out]; exact hlt)).2) HS.out.2) (hatx.below hW) (haty.below hW))
        clear hatx haty
        have up : ∀ o : Obj, Below wr.heap.size wr (wr.alloc o) := fun o => (Below.refl wr.heap.size wr).alloc (Nat.le_refl _) o
        replace y0 := fun o => up_cell (up o) y0
        replace y1 := fun o => up_cell (up o) y1
        replace y2 := fun o => up_cell (up o) y2
        replace y3 := fun o => up_cell (up o) y3
        replace y4 := fun o => up_cell (up o) y4
        replace y5 := fun o => up_cell (up o) y5
        clear up
        have HB := Aside0.mk (fun (o o' : Obj) => (HJ.out.1.alloc HJ.out.1.size o).alloc ((HJ.out.1.alloc HJ.out.1.size o).size) o')
        obtain ⟨q, hq⟩ : ∃ q, same (rd_T26 xs j) (rd_T26 ys j) = q := ⟨_, rfl⟩
        rw [hq] at hcall
        have HQ := Aside0.mk hq
        clear hq
        cases q with
        | true =>
          go_wp2_with (go_at_fn 30; refine (hcall.out _ (HB.out _ _)).mono ?_; clear hcall; rintro e w' ⟨rfl, hb⟩)
          go_roundg (ys.length - (j + 1))
          case measure => omega
          case rel =>
            refine ⟨j + 1, by omega, by omega, by go_num, ⟨(HB.out _ _).trans (hb.mono (HB.out _ _).size), fun i hi => ?_⟩⟩
            by_cases e : i = j
            · subst e; exact HQ.out
            · exact HJ.out.2 i (by omega)
        | false =>
          go_wp2_with (go_at_fn 30; refine (hcall.out _ (HB.out _ _)).mono ?_; clear hcall; rintro e w' ⟨rfl, hb⟩)
          go_ret
          exact ⟨by rw [sames_hit xs ys j HL.out (by rw [HL.out]; exact hlt) HQ.out]; rfl, (HB.out _ _).trans (hb.mono (HB.out _ _).size)⟩
      · have hltz : ¬ (j : Int) < (ys.length : Int) := by omega
        have he : j = ys.length := by omega
        have HE := Aside0.mk he
        clear he
        go_wp2_with fail
        go_ret
        exact ⟨by rw [sames_all xs ys HL.out (by rw [HL.out, ← HE.out]; exact HJ.out.2)]; rfl, HJ.out.1⟩
  · have hl' : ¬ (xs.length : Int) = (ys.length : Int) := by omega
    go_enter Tryd.func59, Tryd.ntmps59
    go_wp2_with fail
    go_ret
    exact ⟨by rw [sames_len xs ys (by omega)]; rfl, Below.refl _ _⟩
theorem heap_new2a (w : World) (o o' : Obj) : ((w.alloc o).alloc o').heap[w.heap.size]? = some o := (Below.heap_alloc _ _ _ (by simp)).trans (heap_new w o)
theorem heap_new2b (w : World) (o o' : Obj) : ((w.alloc o).alloc o').heap[w.heap.size + 1]? = some o' := by
  have h := heap_new (w.alloc o) o'
  rwa [World.size_alloc] at h
theorem blk_below {w w1 : World} (h : Below w.heap.size w w1) {k : Nat} {o : Obj} (hk : w.heap[k]? = some o) : w1.heap[k]? = some o := (h.block k (Array.getElem?_eq_some_iff.1 hk).1).trans hk
set_option maxRecDepth 100000 in
set_option maxHeartbeats 4000000 in
theorem same_step (s : Nat) (hS : SameOk s) : SameOk (s + 1) := by
  intro x y A3 c3 A4 c4 A5 c5 B3 d3 B4 d4 B5 d5 w hs hx hy
  have hsz := size_eq x
  have hT := Aside0.mk (fun W (hW : Below w.heap.size w W) => equalT_calls x.f3 y.f3 A3 c3 B3 d3 W (Kd.C_below hx.g3 hW) (Kd.C_below hy.g3 hW) hx.l3 hy.l3)
  have hB := Aside0.mk (fun W (hW : Below w.heap.size w W) => equalB_calls x.f4 y.f4 A4 c4 B4 d4 W (Kd.C_below hx.g4 hW) (Kd.C_below hy.g4 hW) hx.l4 hy.l4)
  have hF := Aside0.mk (fun W (hW : Below w.heap.size w W) => equalF_calls s hS x.f5 y.f5 A5 c5 B5 d5 W (by omega) (Kd.C_below hx.g5 hW) (Kd.C_below hy.g5 hW))
  have he : same x y = (decide (x.f0 = y.f0) && decide (x.f1 = y.f1) && decide (x.f2 = y.f2) && decide (x.f3 = y.f3) && decide (x.f4 = y.f4) && sames x.f5 y.f5) := by cases x; cases y; simp [same]
  rw [he]
  clear he hs hsz hx hy hS
  obtain ⟨b3, h3⟩ : ∃ b, decide (x.f3 = y.f3) = b := ⟨_, rfl⟩
  obtain ⟨b4, h4⟩ : ∃ b, decide (x.f4 = y.f4) = b := ⟨_, rfl⟩
  obtain ⟨b5, h5⟩ : ∃ b, sames x.f5 y.f5 = b := ⟨_, rfl⟩
  rw [h3, h4, h5]
  rw [h3] at hT
  rw [h4] at hB
  rw [h5] at hF
  clear h3 h4 h5
  obtain ⟨k, nm, n, ts, bs, l⟩ := x
  obtain ⟨k', nm', n', ts', bs', l'⟩ := y
  dsimp only at *
  have H2 := Aside0.mk (fun (o o' : Obj) => ((Below.refl w.heap.size w).alloc (Nat.le_refl _) o).alloc (((Below.refl w.heap.size w).alloc (Nat.le_refl _) o).size) o')
  by_cases h0 : k = k'
  · subst h0
    by_cases h1 : nm = nm'
    · subst h1
      by_cases h2 : n = n'
      · subst h2
        cases b3 <;> cases b4
        all_goals go_enter Tryd.func30, Tryd.ntmps30
        · go_wp2_with (first
            | (go_at_call 57; refine (hT.out _ (H2.out _ _)).mono ?_; rintro e w1 ⟨rfl, g1⟩; have d0 := blk_below g1 (heap_new2a w _ _); have d1 := blk_below g1 (heap_new2b w _ _); have b4 := blk_cell d0 4; have b5 := blk_cell d0 5; have c4 := blk_cell d1 4; have c5 := blk_cell d1 5; simp only [List.getElem?_toArray, List.getElem?_cons_zero, List.getElem?_cons_succ] at b4 b5 c4 c5; replace g1 := Aside0.mk ((H2.out _ _).trans (g1.mono (H2.out _ _).size)); replace d0 := Aside0.mk d0; replace d1 := Aside0.mk d1)
            | (go_at_call 58; refine (hB.out _ g1.out).mono ?_; rintro e w2 ⟨rfl, g2⟩; replace d0 := blk_below g2 d0.out; replace d1 := blk_below g2 d1.out; clear b4 c4 b5 c5; have b5 := blk_cell d0 5; have c5 := blk_cell d1 5; simp only [List.getElem?_toArray, List.getElem?_cons_zero, List.getElem?_cons_succ] at b5 c5; replace g2 := Aside0.mk (g1.out.trans (g2.mono g1.out.size)); clear d0 d1)
            | (go_at_call 59; refine (hF.out _ g2.out).mono ?_; rintro e w3 ⟨rfl, g3⟩))
          go_ret
          exact ⟨by simp, g1.out⟩
        · go_wp2_with (first
            | (go_at_call 57; refine (hT.out _ (H2.out _ _)).mono ?_; rintro e w1 ⟨rfl, g1⟩; have d0 := blk_below g1 (heap_new2a w _ _); have d1 := blk_below g1 (heap_new2b w _ _); have b4 := blk_cell d0 4; have b5 := blk_cell d0 5; have c4 := blk_cell d1 4; have c5 := blk_cell d1 5; simp only [List.getElem?_toArray, List.getElem?_cons_zero, List.getElem?_cons_succ] at b4 b5 c4 c5; replace g1 := Aside0.mk ((H2.out _ _).trans (g1.mono (H2.out _ _).size)); replace d0 := Aside0.mk d0; replace d1 := Aside0.mk d1)
            | (go_at_call 58; refine (hB.out _ g1.out).mono ?_; rintro e w2 ⟨rfl, g2⟩; replace d0 := blk_below g2 d0.out; replace d1 := blk_below g2 d1.out; clear b4 c4 b5 c5; have b5 := blk_cell d0 5; have c5 := blk_cell d1 5; simp only [List.getElem?_toArray, List.getElem?_cons_zero, List.getElem?_cons_succ] at b5 c5; replace g2 := Aside0.mk (g1.out.trans (g2.mono g1.out.size)); clear d0 d1)
            | (go_at_call 59; refine (hF.out _ g2.out).mono ?_; rintro e w3 ⟨rfl, g3⟩))
          go_ret
          exact ⟨by simp, g1.out⟩
        · go_wp2_with (first
            | (go_at_call 57; refine (hT.out _ (H2.out _ _)).mono ?_; rintro e w1 ⟨rfl, g1⟩; have d0 := blk_below g1 (heap_new2a w _ _); have d1 := blk_below g1 (heap_new2b w _ _); have b4 := blk_cell d0 4; have b5 := blk_cell d0 5; have c4 := blk_cell d1 4; have c5 := blk_cell d1 5; simp only [List.getElem?_toArray, List.getElem?_cons_zero, List.getElem?_cons_succ] at b4 b5 c4 c5; replace g1 := Aside0.mk ((H2.out _ _).trans (g1.mono (H2.out _ _).size)); replace d0 := Aside0.mk d0; replace d1 := Aside0.mk d1)
            | (go_at_call 58; refine (hB.out _ g1.out).mono ?_; rintro e w2 ⟨rfl, g2⟩; replace d0 := blk_below g2 d0.out; replace d1 := blk_below g2 d1.out; clear b4 c4 b5 c5; have b5 := blk_cell d0 5; have c5 := blk_cell d1 5; simp only [List.getElem?_toArray, List.getElem?_cons_zero, List.getElem?_cons_succ] at b5 c5; replace g2 := Aside0.mk (g1.out.trans (g2.mono g1.out.size)); clear d0 d1)
            | (go_at_call 59; refine (hF.out _ g2.out).mono ?_; rintro e w3 ⟨rfl, g3⟩))
          go_ret
          exact ⟨by simp, g2.out⟩
        · go_wp2_with (first
            | (go_at_call 57; refine (hT.out _ (H2.out _ _)).mono ?_; rintro e w1 ⟨rfl, g1⟩; have d0 := blk_below g1 (heap_new2a w _ _); have d1 := blk_below g1 (heap_new2b w _ _); have b4 := blk_cell d0 4; have b5 := blk_cell d0 5; have c4 := blk_cell d1 4; have c5 := blk_cell d1 5; simp only [List.getElem?_toArray, List.getElem?_cons_zero, List.getElem?_cons_succ] at b4 b5 c4 c5; replace g1 := Aside0.mk ((H2.out _ _).trans (g1.mono (H2.out _ _).size)); replace d0 := Aside0.mk d0; replace d1 := Aside0.mk d1)
            | (go_at_call 58; refine (hB.out _ g1.out).mono ?_; rintro e w2 ⟨rfl, g2⟩; replace d0 := blk_below g2 d0.out; replace d1 := blk_below g2 d1.out; clear b4 c4 b5 c5; have b5 := blk_cell d0 5; have c5 := blk_cell d1 5; simp only [List.getElem?_toArray, List.getElem?_cons_zero, List.getElem?_cons_succ] at b5 c5; replace g2 := Aside0.mk (g1.out.trans (g2.mono g1.out.size)); clear d0 d1)
            | (go_at_call 59; refine (hF.out _ g2.out).mono ?_; rintro e w3 ⟨rfl, g3⟩))
          go_ret
          exact ⟨by simp, g2.out.trans (g3.mono g2.out.size)⟩
      · go_enter Tryd.func30, Tryd.ntmps30
        go_wp2_with fail
        go_ret
        exact ⟨by simp [h2], H2.out _ _⟩
    · have h1' : ¬ nm.toList = nm'.toList := by rw [toList_inj]; exact h1
      go_enter Tryd.func30, Tryd.ntmps30
      go_wp2_with fail
      go_ret
      exact ⟨by simp [h1], H2.out _ _⟩
  · go_enter Tryd.func30, Tryd.ntmps30
    go_wp2_with fail
    go_ret
    exact ⟨by simp [h0], H2.out _ _⟩
theorem same_ok : ∀ s, SameOk s
  | 0 => fun x y A3 c3 A4 c4 A5 c5 B3 d3 B4 d4 B5 d5 w h => by rw [size_eq] at h; omega
  | s + 1 => same_step s (same_ok s)
theorem same_calls (x y : S26) (A3 : Option Addr) (c3 : Nat) (A4 : Option Addr) (c4 : Nat) (A5 : Option Addr) (c5 : Nat) (B3 : Option Addr) (d3 : Nat) (B4 : Option Addr) (d4 : Nat) (B5 : Option Addr) (d5 : Nat) (w : World) (hx : At w x A3 c3 A4 c4 A5 c5) (hy : At w y B3 d3 B4 d4 B5 d5) :
  Calls Tryd.prog 30 #[.agg #[.int .i64 x.f0, .string x.f1, .int .i64 x.f2, .slice A3 x.f3.length c3, .slice A4 x.f4.length c4, .slice A5 x.f5.length c5], .agg #[.int .i64 y.f0, .string y.f1, .int .i64 y.f2, .slice B3 y.f3.length d3, .slice B4 y.f4.length d4, .slice B5 y.f5.length d5]] w fun e w' => e = .returned (.bool (same x y)) ∧ Below w.heap.size w w' :=
  same_ok (size x) x y A3 c3 A4 c4 A5 c5 B3 d3 B4 d4 B5 d5 w (Nat.le_refl _) hx hy
end Go.Proofs.YtmlcaecknocpoaaDoor.It
namespace Go.Proofs.YtmlcaecknocpoaaDoor.It
open Go Go.RowKit Go.Shelf Go.Proofs.YtmlcaecknocpoaaDoorW.PrintWords Go.Proofs.YtmlcaecknocpoaaDoorW.PrintLast Go.Proofs.YtmlcaecknocpoaaDoor.Pr Go.Proofs.YtmlcaecknocpoaaDoor.Sp
attribute [local go_sem] Oper.semAt_some
theorem cell_blk {w : World} {g : Nat} {t : TypeId} {v : Value} (h : w.heap[g]? = some (.cells #[v] t (0, 0))) : w.cell? ⟨g, 0, none⟩ = some v ∧ w.frozen? ⟨g, 0, none⟩ = false := ⟨(blk_cell h 0).trans rfl, blk_frozen h 0⟩
set_option maxRecDepth 100000 in
set_option maxHeartbeats 4000000 in
theorem size_in (F : Fence) (hd : F.depth = none) (n : Nat) (h24 : F.fn 24) (h52 : F.fn 52) (h78 : F.fn 78) (h79 : F.fn 79) (hro : F.round = none) (hn : 3 ≤ n) (x : S26) (A3 : Option Addr) (c3 : Nat) (A4 : Option Addr) (c4 : Nat) (A5 : Option Addr) (c5 : Nat) (w : World)
    (hat : At w x A3 c3 A4 c4 A5 c5) (hs : size x ≤ 4611686018427387904) (hok : Deep x) :
    CallsIn F n Tryd.prog 24 #[.agg #[.int .i64 x.f0, .string x.f1, .int .i64 x.f2, .slice A3 x.f3.length c3, .slice A4 x.f4.length c4, .slice A5 x.f5.length c5]] w fun e w' => e = .returned (.int .i64 (size x)) ∧ Below w.heap.size w w' := by
  have h1 : 1 ≤ n := by omega
  refine callsIn_of_wp_marks Tryd.func24 rfl h24 ?_ hro
  simp only [Tryd.ntmps24, List.size_toArray, List.length_cons, List.length_nil, Nat.reduceAdd, Nat.reduceSub, Array.replicate_succ, Array.replicate_zero, List.push_toArray, List.append_toArray, List.nil_append, List.cons_append]
  gi_wp2_with (gi_at_call 52; refine (all_in F (n - 1) h52 hro _ x A3 c3 A4 c4 A5 c5 _ rfl).mono ?_; rintro e w' ⟨rfl, rfl⟩)
  obtain ⟨W0, hW0⟩ : ∃ W0, (((w.alloc (.cells #[.int .i64 x.f0, .string x.f1, .int .i64 x.f2, .slice A3 x.f3.length c3, .slice A4 x.f4.length c4, .slice A5 x.f5.length c5] 26)).alloc (.cells #[.int .i64 0] 3)).alloc
    (.cells #[.int .i64 x.f0, .string x.f1, .int .i64 x.f2, .slice A3 x.f3.length c3, .slice A4 x.f4.length c4, .slice A5 x.f5.length c5] 26)) = W0 := ⟨_, rfl⟩
  have hB : Below w.heap.size w W0 := by rw [← hW0]; exact (((Below.refl _ w).alloc (Nat.le_refl _) _).alloc (by simp) _).alloc (by simp; omega) _
  have hsz : W0.heap.size = w.heap.size + 3 := by rw [← hW0]; simp
  have hn : Boxed W0 (w.heap.size + 1) 3 (.int .i64 ((0 : Nat) : Int)) := by
    rw [← hW0]
    refine Boxed.alloc ?_ _
    have h := heap_new (w.alloc (.cells #[.int .i64 x.f0, .string x.f1, .int .i64 x.f2, .slice A3 x.f3.length c3, .slice A4 x.f4.length c4, .slice A5 x.f5.length c5] 26)) (.cells #[.int .i64 0] 3)
    rw [World.size_alloc] at h
    exact h
  have hf : W0.heap[w.heap.size + 2]? = some (.cells #[.int .i64 x.f0, .string x.f1, .int .i64 x.f2, .slice A3 x.f3.length c3, .slice A4 x.f4.length c4, .slice A5 x.f5.length c5] 26 (0, 0)) := by
    rw [← hW0]
    have h := heap_new ((w.alloc (.cells #[.int .i64 x.f0, .string x.f1, .int .i64 x.f2, .slice A3 x.f3.length c3, .slice A4 x.f4.length c4, .slice A5 x.f5.length c5] 26)).alloc (.cells #[.int .i64 0] 3)) (.cells #[.int .i64 x.f0, .string x.f1, .int .i64 x.f2, .slice A3 x.f3.length c3, .slice A4 x.f4.length c4, .slice A5 x.f5.length c5] 26)
    rw [World.size_alloc, World.size_alloc] at h
    exact h
  rw [hW0]
  clear hW0
  refine wpIn_rangeFunc_ownF hro h1 (gf := 78) (lb := #[.pointer (some ⟨w.heap.size + 1 + 1, 0, none⟩)]) rfl h78 (enters_of Tryd.func78 (by kernel_rfl) rfl)
    (all1_stops F hd (n - 1) h78 h79 hro w ⟨x, A3, c3, A4, c4, A5, c5, hat, hok⟩ (w.heap.size + 1 + 1) W0 hB (by omega) hf) (fun h k => h.trans k) (fun W l o o' hl h hc hw => Kp.put (w := W0) hB.size W l o o' hl h hc hw) (Below.refl _ _) (fun _ => rfl)
    (fun pre W => Boxed W (w.heap.size + 1) 3 (.int .i64 (pre.length : Int)) ∧ Below w.heap.size w W) (fun _ _ _ => False)
    (OwnFrom.and (Own.from (boxed_own _ _ _) _) (ownFrom_below (Nat.le_refl _) (by omega))) (fun _ _ _ _ _ hs _ _ => hs) ⟨hn, hB⟩
    (fun p => { tmps := #[.agg #[.int .i64 x.f0, .string x.f1, .int .i64 x.f2, .slice A3 x.f3.length c3, .slice A4 x.f4.length c4, .slice A5 x.f5.length c5], .pointer (some ⟨w.heap.size, 0, none⟩), .int .i64 0, .pointer (some ⟨w.heap.size + 1, 0, none⟩),
      .agg #[.int .i64 x.f0, .string x.f1, .int .i64 x.f2, .slice A3 x.f3.length c3, .slice A4 x.f4.length c4, .slice A5 x.f5.length c5], .func (.func 78) #[] #[.pointer (some ⟨w.heap.size + 1 + 1, 0, none⟩)], p.val, undef, undef, undef], defers := [] }) ?assign ?body ?done ?stop
  case assign =>
    intro l p W K hK
    gi_wp2
    simpa using hK
  case body =>
    rintro l pre p W ⟨hb, hbel⟩ hlen
    dsimp only at hlen
    have hc := (cell_blk hb).1
    have hfz := (cell_blk hb).2
    have hl : (pre.length : Int) < 4611686018427387904 := by omega
    gi_wp2
    refine ⟨KeepsOthers.setCell _ _ _, Kp.setCell _ (Nat.le_add_right _ _) (by show w.heap.size + 1 < W0.heap.size; omega) _, ?_, hbel.setCell (Nat.le_add_right _ _) _⟩
    have h := hb.set (.int .i64 ((pre.length : Int) + 1))
    simpa using h
  case done =>
    rintro D ys W hD hys ⟨hb, hbel⟩ hK
    have hc := (cell_blk hb).1
    have hfz := (cell_blk hb).2
    gi_wp2
    refine ⟨by simp, .inl ⟨_, _, rfl, run_takeDeferred hK, ?_⟩⟩
    refine ⟨_, results_tmp rfl _ _ _, ?_, hbel.trans (belowK_b (w := w) (Nat.le_refl _) W D _ _ (by omega) hK rfl rfl)⟩
    have e : ys.length = size x := by rw [← nodes_length, ← hys, List.length_map]
    rw [e]
    rfl
  case stop =>
    rintro D c pre W _ _ h _
    exact h.elim
end Go.Proofs.YtmlcaecknocpoaaDoor.It
