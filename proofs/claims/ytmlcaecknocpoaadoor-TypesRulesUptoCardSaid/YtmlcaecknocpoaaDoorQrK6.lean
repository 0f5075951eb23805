/- Lemmas and walks for the claim below. -/
import Derived.Test.YtmlcaecknocpoaaDoorQrK5
import Derived.Deep.RegionHeld3
import Derived.Deep.DrawnRows
import Derived.Deep.DeepCutAuto
import Derived.Maps.OwnSet
import Derived.Carry
import Derived.Deep.Slices
import Derived.Deep.Fields
import Derived.ChangeSame
import Derived.Test.YtmlcaecknocpoaaDoorRows
namespace Go.Proofs.YtmlcaecknocpoaaDoor.It
open Go Go.RowKit Go.Shelf Go.Proofs.YtmlcaecknocpoaaDoorW.PrintWords Go.Proofs.YtmlcaecknocpoaaDoorW.PrintLast Go.Proofs.YtmlcaecknocpoaaDoor.Pr Go.Proofs.YtmlcaecknocpoaaDoor.Sp
attribute [local go_sem ↓] Go.wp_at_zero Go.wp_at_succ
theorem six {w : World} {B : Nat} {a0 a1 a2 a3 a4 a5 : Value} (h : w.heap[B]? = some (.cells #[a0, a1, a2, a3, a4, a5] 26 (0, 0))) :
   w.cell? ⟨B, 0, none⟩ = some a0 ∧ w.cell? ⟨B, 1, none⟩ = some a1 ∧ w.cell? ⟨B, 2, none⟩ = some a2 ∧ w.cell? ⟨B, 3, none⟩ = some a3 ∧ w.cell? ⟨B, 4, none⟩ = some a4 ∧ w.cell? ⟨B, 5, none⟩ = some a5 :=
 ⟨(bCl h 0).trans rfl, (bCl h 1).trans rfl, (bCl h 2).trans rfl, (bCl h 3).trans rfl, (bCl h 4).trans rfl, (bCl h 5).trans rfl⟩
structure Two (w0 W w : World) (k : Int) (nm : ByteArray) (n : Int) (ts : List S47) (bs : List S42) (l : List S26) (A3 : Option Addr) (c3 : Nat) (A4 : Option Addr) (c4 : Nat) (A5 : Option Addr) (c5 : Nat) : Prop where
 a : w.heap[W.heap.size]? = some (.cells #[.int .i64 k, .string nm, .int .i64 n, .slice A3 ts.length c3, .slice A4 bs.length c4, .slice A5 l.length c5] 26 (0, 0))
 b : w.heap[W.heap.size + 1]? = some (.cells #[.int .i64 0, .string ⟨#[]⟩, .int .i64 0, .slice none 0 0, .slice none 0 0, .slice none 0 0] 26 (0, 0))
 h0 : Below w0.heap.size w0 w
 h : Below W.heap.size W w
 s : W.heap.size + 2 ≤ w.heap.size
theorem Two.below {w0 W w w1 : World} {k : Int} {nm : ByteArray} {n : Int} {ts : List S47} {bs : List S42} {l : List S26} {A3 : Option Addr} {c3 : Nat} {A4 : Option Addr} {c4 : Nat} {A5 : Option Addr} {c5 : Nat} (h : Two w0 W w k nm n ts bs l A3 c3 A4 c4 A5 c5) (hb : Below w.heap.size w w1) : Two w0 W w1 k nm n ts bs l A3 c3 A4 c4 A5 c5 :=
 ⟨blk_below hb h.a, blk_below hb h.b, h.h0.trans (hb.mono h.h0.size), h.h.trans (hb.mono h.h.size), Nat.le_trans h.s hb.size⟩
theorem Two.drew {w0 W w : World} {k : Int} {nm : ByteArray} {n : Int} {ts : List S47} {bs : List S42} {l : List S26} {A3 : Option Addr} {c3 : Nat} {A4 : Option Addr} {c4 : Nat} {A5 : Option Addr} {c5 : Nat} (h : Two w0 W w k nm n ts bs l A3 c3 A4 c4 A5 c5) : Two w0 W w.drew k nm n ts bs l A3 c3 A4 c4 A5 c5 := h.below (below_drew (Below.refl _ _))
theorem Two.alloc {w0 W w : World} {k : Int} {nm : ByteArray} {n : Int} {ts : List S47} {bs : List S42} {l : List S26} {A3 : Option Addr} {c3 : Nat} {A4 : Option Addr} {c4 : Nat} {A5 : Option Addr} {c5 : Nat} (h : Two w0 W w k nm n ts bs l A3 c3 A4 c4 A5 c5) (o : Obj) : Two w0 W (w.alloc o) k nm n ts bs l A3 c3 A4 c4 A5 c5 := h.below ((Below.refl _ _).alloc (Nat.le_refl _) _)
theorem set_one {w : World} {B : Nat} {cs : Array Value} {t : TypeId} (h : w.heap[B]? = some (.cells cs t (0, 0))) (j : Nat) (v : Value) : (w.setCell ⟨B, j, none⟩ v).heap[B]? = some (.cells (cs.setIfInBounds j v) t (0, 0)) := by
 simp [World.setCell, Array.getElem?_modify, h]
theorem Agree.set (w : World) (B j : Nat) (v : Value) (ok : Nat → Prop) (h : ∀ k, ok k → k ≠ B) : Agree ok w (w.setCell ⟨B, j, none⟩ v) :=
 ⟨(Below.refl _ _).setCell (Nat.zero_le _) _, fun k hk _ => Below.heap_setCell _ _ _ _ (h k hk)⟩
theorem Agree.six (w : World) (B : Nat) (v0 v1 v2 v3 v4 v5 : Value) (ok : Nat → Prop) (h : ∀ k, ok k → k ≠ B) :
   Agree ok w ((((((w.setCell ⟨B, 0, none⟩ v0).setCell ⟨B, 1, none⟩ v1).setCell ⟨B, 2, none⟩ v2).setCell ⟨B, 3, none⟩ v3).setCell ⟨B, 4, none⟩ v4).setCell ⟨B, 5, none⟩ v5) :=
 (((((Agree.set w B 0 v0 ok h).trans (Agree.set _ B 1 v1 ok h) (fun _ h _ => h)).trans (Agree.set _ B 2 v2 ok h) (fun _ h _ => h)).trans (Agree.set _ B 3 v3 ok h) (fun _ h _ => h)).trans (Agree.set _ B 4 v4 ok h) (fun _ h _ => h)).trans (Agree.set _ B 5 v5 ok h) (fun _ h _ => h)
theorem Agree.alloc (w : World) (o : Obj) (ok : Nat → Prop) : Agree ok w (w.alloc o) := Agree.of_below ((Below.refl w.heap.size w).alloc (Nat.le_refl _) o) (fun _ _ h => h)
theorem Agree.low {ok : Nat → Prop} {n : Nat} {w w1 : World} (h : Agree ok w w1) (hok : ∀ k, k < n → ok k) (hn : n ≤ w.heap.size) : Below n w w1 :=
 ⟨h.1.os, h.1.tape, h.1.output, h.1.size, fun k hk => h.2 k (hok k hk) (by omega)⟩
theorem Two.agree {w0 W w w1 : World} {k : Int} {nm : ByteArray} {n : Int} {ts : List S47} {bs : List S42} {l : List S26} {A3 : Option Addr} {c3 : Nat} {A4 : Option Addr} {c4 : Nat} {A5 : Option Addr} {c5 : Nat} (h : Two w0 W w k nm n ts bs l A3 c3 A4 c4 A5 c5) (hw : w0.heap.size ≤ W.heap.size) (ha : Agree (fun i => i < W.heap.size + 2) w w1) : Two w0 W w1 k nm n ts bs l A3 c3 A4 c4 A5 c5 := by
 have hs := h.s
 exact ⟨(ha.2 _ (by omega) (by omega)).trans h.a, (ha.2 _ (by omega) (by omega)).trans h.b, h.h0.trans (ha.low (fun k hk => by omega) (by omega)), h.h.trans (ha.low (fun k hk => by omega) (by omega)), Nat.le_trans h.s ha.1.size⟩
structure Three (w0 W wx : World) (B : Nat) (V3 : Option Addr) (e3 : Nat) (V4 : Option Addr) (e4 : Nat) (k : Int) (nm : ByteArray) (n : Int) (ts : List S47) (bs : List S42) (l : List S26) (A3 : Option Addr) (c3 : Nat) (A4 : Option Addr) (c4 : Nat) (A5 : Option Addr) (c5 : Nat) (k1 : Int) (nm1 : ByteArray) (n1 : Int) : Prop where
 two : Two w0 W wx k nm n ts bs l A3 c3 A4 c4 A5 c5
 hB : W.heap.size + 2 ≤ B
 box : wx.heap[B]? = some (.cells #[.int .i64 k1, .string nm1, .int .i64 n1, .slice V3 ts.length e3, .slice V4 bs.length e4, .slice none 0 0] 26 (0, 0))
 r3 : ∀ w1, Agree (fun i => W.heap.size + 2 ≤ i ∧ i ≠ B) wx w1 → ts.length ≤ e3 ∧ Kd.C k47 w1 V3 ts.length ts
 r4 : ∀ w1, Agree (fun i => W.heap.size + 2 ≤ i ∧ i ≠ B) wx w1 → bs.length ≤ e4 ∧ Kd.C k42 w1 V4 bs.length bs
def okR (w0 W : World) (B i : Nat) : Prop := (i < w0.heap.size ∨ W.heap.size + 2 ≤ i) ∧ i ≠ B
structure LI (w0 W wx wr : World) (B : Nat) (V3 : Option Addr) (e3 : Nat) (V4 : Option Addr) (e4 : Nat) (ts : List S47) (bs : List S42) (k1 : Int) (nm1 : ByteArray) (n1 : Int) (b : Bool) (l : List S26) (j : Nat) (v : Value) : Prop where
 ag : Agree (fun i => i ≠ B) wx wr
 box : wr.heap[B]? = some (.cells #[.int .i64 k1, .string nm1, .int .i64 n1, .slice V3 ts.length e3, .slice V4 bs.length e4, v] 26 (0, 0))
 row : Row (okR w0 W B) wr wx.heap.size v (rights (l.take j) b)
theorem okR_own {w0 W wx wr : World} {B : Nat} {v : Value} {l : List S26} (hs : W.heap.size + 2 ≤ wx.heap.size) (hB : B < wx.heap.size) (h : Row (okR w0 W B) wr wx.heap.size v l) : ∀ k, v.ownBlock = some k → okR w0 W B k := fun k hk => by
 have := (h.lt k hk).2
 exact ⟨by omega, by omega⟩
theorem rights_take (l : List S26) (b : Bool) (j : Nat) (hj : j < l.length) : rights (l.take (j + 1)) b = rights (l.take j) b ++ [right (rd_T26 l j) b] := by
 induction l generalizing j with
 | nil => simp at hj
 | cons x l ih =>
   cases j with
   | zero => simp [rights, rd_T26]
   | succ j =>
     have := ih j (by simpa using hj)
     have e : rd_T26 (x :: l) ((j + 1 : Nat) : Int) = rd_T26 l j := by simp [rd_T26]
     rw [e]
     simp only [List.take_succ_cons, rights, this, List.cons_append]
theorem LI.up {w0 W wx wr : World} {B : Nat} {V3 : Option Addr} {e3 : Nat} {V4 : Option Addr} {e4 : Nat} {ts : List S47} {bs : List S42} {k1 : Int} {nm1 : ByteArray} {n1 : Int} {b : Bool} {l : List S26} {j : Nat} {v : Value} (h : LI w0 W wx wr B V3 e3 V4 e4 ts bs k1 nm1 n1 b l j v) (hs : W.heap.size + 2 ≤ wx.heap.size) (hB : B < wx.heap.size) {w5 : World} (g : Below wr.heap.size wr w5) : LI w0 W wx w5 B V3 e3 V4 e4 ts bs k1 nm1 n1 b l j v :=
 ⟨h.ag.trans (Agree.of_below g (fun _ _ h => h)) (fun _ h _ => h), blk_below g h.box, h.row.move (Agree.of_below g (fun _ _ h => h)) (okR_own hs hB h.row) (fun _ h _ => h)⟩
theorem LI.step {w0 W wx wr : World} {B : Nat} {V3 : Option Addr} {e3 : Nat} {V4 : Option Addr} {e4 : Nat} {ts : List S47} {bs : List S42} {k1 : Int} {nm1 : ByteArray} {n1 : Int} {b : Bool} {l : List S26} {j : Nat} {v : Value} (h : LI w0 W wx wr B V3 e3 V4 e4 ts bs k1 nm1 n1 b l j v) (hj : j < l.length) (hs : W.heap.size + 2 ≤ wx.heap.size) (hB : B < wx.heap.size)
   {v1 : Value} {w1 : World} (ho : OwnRow (fun y cs => ∀ w1, Agree (fun k => okR w0 W B k ∧ some k ≠ v.ownBlock) wr w1 → k26.K w1 y cs) 26 6 w1 wx.heap.size v1 (rights (l.take j) b ++ [right (rd_T26 l j) b])) (hb : Below 0 wr w1) (hg : wr.grownBy w1 v.ownBlock) (hat : v1.ownBlock = v.ownBlock ∨ ∃ b, v1.ownBlock = some b ∧ wr.heap.size ≤ b) :
   LI w0 W wx (w1.setCell ⟨B, 5, none⟩ v1) B V3 e3 V4 e4 ts bs k1 nm1 n1 b l (j + 1) v1 := by
 have hv : some B ≠ v.ownBlock := fun e => by have := (h.row.lt B e.symm).2; omega
 have hr : Row (okR w0 W B) w1 wx.heap.size v1 (rights (l.take (j + 1)) b) := by
   rw [rights_take l b j hj]
   exact Row.snoc (fun y cs h => h) ho hb hg hat
 refine ⟨?_, ?_, hr.move (Agree.set w1 B 5 v1 (okR w0 W B) (fun _ h => h.2)) (okR_own hs hB hr) (fun _ h _ => h)⟩
 · refine ⟨(h.ag.1.trans hb).trans ((Below.refl _ _).setCell (Nat.zero_le _) _), fun k hk hl => ?_⟩
   rw [Below.heap_setCell _ _ _ _ (by simpa using hk), hg.block k (Nat.lt_of_lt_of_le hl h.ag.1.size) (fun e => by have := (h.row.lt k e.symm).2; omega)]
   exact h.ag.2 k hk hl
 · have hb1 : w1.heap[B]? = _ := (hg.block B (Array.getElem?_eq_some_iff.1 h.box).1 hv).trans h.box
   exact (set_one hb1 5 v1).trans rfl
theorem LI.fin {w0 W wx wr : World} {B : Nat} {V3 : Option Addr} {e3 : Nat} {V4 : Option Addr} {e4 : Nat} {k : Int} {nm : ByteArray} {n : Int} {ts : List S47} {bs : List S42} {l : List S26} {A3 : Option Addr} {c3 : Nat} {A4 : Option Addr} {c4 : Nat} {A5 : Option Addr} {c5 : Nat} {k1 : Int} {nm1 : ByteArray} {n1 : Int} {b : Bool} {A : Option Addr} {c : Nat}
   (T : Three w0 W wx B V3 e3 V4 e4 k nm n ts bs l A3 c3 A4 c4 A5 c5 k1 nm1 n1) (h : LI w0 W wx wr B V3 e3 V4 e4 ts bs k1 nm1 n1 b l l.length (.slice A (rights l b).length c)) (hw : w0.heap.size ≤ W.heap.size) {wf : World} (hf : Agree (fun i => i ≠ W.heap.size + 1) wr wf) :
   Below W.heap.size W wf ∧ Lies (fun i => i < w0.heap.size ∨ W.heap.size ≤ i) wf ⟨k1, nm1, n1, ts, bs, rights l b⟩ V3 e3 V4 e4 A c := by
 have hB := T.hB
 have hs := T.two.s
 have hlt : B < wx.heap.size := (Array.getElem?_eq_some_iff.1 T.box).1
 have hsz := h.ag.1.size
 refine ⟨T.two.h.trans ((h.ag.low (fun k hk => by omega) (by omega)).trans (hf.low (fun k hk => by omega) (by omega))), fun w1 h1 => ?_⟩
 have hrow := h.row
 rw [List.take_length] at hrow
 have a1 : Agree (fun i => W.heap.size + 2 ≤ i ∧ i ≠ B) wx w1 := ((h.ag.mono (ok' := fun i => W.heap.size + 2 ≤ i ∧ i ≠ B) (fun i hi _ => hi.2)).trans hf (fun i hi _ => by omega)).trans h1 (fun i hi _ => .inr (by omega))
 have a2 : Agree (okR w0 W B) wr w1 := (hf.mono (ok' := okR w0 W B) (fun i hi _ => by unfold okR at hi; omega)).trans h1 (fun i hi _ => by unfold okR at hi; omega)
 obtain ⟨l3, g3⟩ := T.r3 w1 a1
 obtain ⟨l4, g4⟩ := T.r4 w1 a1
 obtain ⟨l5, g5⟩ := hrow.reads a2 (okR_own hs hlt hrow)
 exact ⟨l3, g3, l4, g4, l5, g5⟩
theorem Three.set {w0 W wx w1 : World} {B : Nat} {V3 : Option Addr} {e3 : Nat} {V4 : Option Addr} {e4 : Nat} {k : Int} {nm : ByteArray} {n : Int} {ts : List S47} {bs : List S42} {l : List S26} {A3 : Option Addr} {c3 : Nat} {A4 : Option Addr} {c4 : Nat} {A5 : Option Addr} {c5 : Nat} {k1 : Int} {nm1 : ByteArray} {n1 : Int}
   (T : Three w0 W wx B V3 e3 V4 e4 k nm n ts bs l A3 c3 A4 c4 A5 c5 k1 nm1 n1) (hw : w0.heap.size ≤ W.heap.size) (ha : Agree (fun i => i ≠ B) wx w1) (k2 : Int) (nm2 : ByteArray) (n2 : Int)
   (hbox : w1.heap[B]? = some (.cells #[.int .i64 k2, .string nm2, .int .i64 n2, .slice V3 ts.length e3, .slice V4 bs.length e4, .slice none 0 0] 26 (0, 0))) : Three w0 W w1 B V3 e3 V4 e4 k nm n ts bs l A3 c3 A4 c4 A5 c5 k2 nm2 n2 :=
 ⟨T.two.agree hw (ha.mono (fun i hi _ => by have := T.hB; omega)), T.hB, hbox, fun w2 h2 => T.r3 w2 ((ha.mono (fun i hi _ => hi.2)).trans h2 (fun _ h _ => h)), fun w2 h2 => T.r4 w2 ((ha.mono (fun i hi _ => hi.2)).trans h2 (fun _ h _ => h))⟩
theorem forms_rd (l : List S26) (h : forms l = true) (j : Nat) (hj : j < l.length) : form (rd_T26 l j) = true := by
 induction l generalizing j with
 | nil => simp at hj
 | cons x l ih =>
   simp only [forms, Bool.and_eq_true] at h
   cases j with
   | zero => simpa [rd_T26] using h.1
   | succ j => simpa [rd_T26] using ih h.2 j (by simpa using hj)
theorem LI.elem {w0 W wx wr : World} {B : Nat} {V3 : Option Addr} {e3 : Nat} {V4 : Option Addr} {e4 : Nat} {ts : List S47} {bs : List S42} {k1 : Int} {nm1 : ByteArray} {n1 : Int} {b : Bool} {l : List S26} {j : Nat} {v : Value} (h : LI w0 W wx wr B V3 e3 V4 e4 ts bs k1 nm1 n1 b l j v) (_hs : W.heap.size + 2 ≤ wx.heap.size) (hB : B < wx.heap.size) (hB0 : W.heap.size + 2 ≤ B) (hn : w0.heap.size ≤ W.heap.size)
   {w5 : World} {n : Nat} (hn5 : wr.heap.size ≤ n) {y : S26} {D3 : Option Addr} {f3 : Nat} {D4 : Option Addr} {f4 : Nat} {D5 : Option Addr} {f5 : Nat} (hl : Lies (fun k => k < w0.heap.size ∨ n ≤ k) w5 y D3 f3 D4 f4 D5 f5) :
   ∀ w1, Agree (fun k => okR w0 W B k ∧ some k ≠ v.ownBlock) w5 w1 → k26.K w1 y [.int .i64 y.f0, .string y.f1, .int .i64 y.f2, .slice D3 y.f3.length f3, .slice D4 y.f4.length f4, .slice D5 y.f5.length f5] := fun w1 h1 => by
 have hsz := h.ag.1.size
 refine (hl w1 (h1.mono (fun i hi _ => ⟨⟨?_, ?_⟩, fun e => ?_⟩))).K
 · omega
 · omega
 · have := h.row.lt i e.symm
   omega
theorem leaf_at (w : World) (k : Int) : At w (leaf k) none 0 none 0 none 0 := ⟨Nat.le_refl _, Kd.C_nil _ _, Nat.le_refl _, Kd.C_nil _ _, Nat.le_refl _, Kd.C_nil _ _⟩
end Go.Proofs.YtmlcaecknocpoaaDoor.It
namespace Go.Proofs.YtmlcaecknocpoaaDoor.It
open Go Go.RowKit Go.Shelf Go.Proofs.YtmlcaecknocpoaaDoorW.PrintWords Go.Proofs.YtmlcaecknocpoaaDoorW.PrintLast Go.Proofs.YtmlcaecknocpoaaDoor.Pr Go.Proofs.YtmlcaecknocpoaaDoor.Sp
open Go.ChangeMaps Go.MapKept Go.WideShapes
theorem key9 (s : ByteArray) (hs : s.size ≤ maxLen) : keyOf Tryd.prog 9 (.string s) = some (.string s.data.toList) := by
 have h9 := Tryd.underlying9
 simp [keyOf, mapKey, h9, hs]
theorem keyed9 : Maps.Keyed Tryd.prog 9 := Maps.string_keyed Tryd.underlying9
def cnt (l : List ByteArray) (s : ByteArray) : Nat := (l.filter fun x => decide (x = s)).length
def MapIs (w : World) (M n : Nat) (bl : List ByteArray) : Prop :=
 ∃ D : DataW Unit, w.ownsMap Tryd.prog 9 (plainElem Tryd.prog 3) M n D ∧ ∀ s : ByteArray, D.atKey (.string s.data.toList) (.lit (.int .i64 0)) = .lit (.int .i64 (cnt bl s))
theorem MapIs.look {w : World} {M n : Nat} {bl : List ByteArray} (h : MapIs w M n bl) (s : ByteArray) (hs : s.size ≤ maxLen) : (Instr.lookup 68 (.map (some M)) (.string s) false).run Tryd.prog w = .ok (.int .i64 (cnt bl s)) w := by
 obtain ⟨D, ho, hD⟩ := h
 obtain ⟨c, hrun, hat, _⟩ := ho.lookup_int keyed9 Tryd.underlying68 Tryd.underlying3 (by kernel_rfl) (key := .string s) (kl := .string s.data.toList) (key9 s hs)
 have e := (hD s).symm.trans hat
 have e2 : ((cnt bl s : Nat) : Int) = c := (Lit.int.inj (DataW.lit.inj e)).2
 rw [hrun, ← e2]
theorem MapIs.kept {w w1 : World} {M n : Nat} {bl : List ByteArray} (h : MapIs w M n bl) {row : Option Nat} (hg : w.grownBy w1 row) (hne : some M ≠ row) : MapIs w1 M n bl := by
 obtain ⟨D, ho, hD⟩ := h
 exact ⟨D, ho.kept hg hne, hD⟩
theorem MapIs.congr {w : World} {M n : Nat} {bl bl' : List ByteArray} (h : MapIs w M n bl) (hc : ∀ s, cnt bl' s = cnt bl s) : MapIs w M n bl' := by
 obtain ⟨D, ho, hD⟩ := h
 exact ⟨D, ho, fun s => by rw [hc s]; exact hD s⟩
theorem MapIs.put {w : World} {M n : Nat} {bl bl' : List ByteArray} (h : MapIs w M n bl) (hn : n < maxLen) (s : ByteArray) (hs : s.size ≤ maxLen) (hI : I64 (cnt bl' s : Nat)) (hc : ∀ s', s' ≠ s → cnt bl' s' = cnt bl s') :
   ∃ w1, (Instr.mapUpdate 68 (.map (some M)) (.string s) (.int .i64 (cnt bl' s))).run Tryd.prog w = .ok () w1 ∧ MapIs w1 M (n + 1) bl' ∧ w.grownBy w1 (some M) := by
 obtain ⟨D, ho, hD⟩ := h
 obtain ⟨w1, hrun, h1, h2⟩ := ho.update keyed9 Tryd.underlying68 hn (key9 s hs) (plainElem_int Tryd.underlying3 hI)
 refine ⟨w1, hrun, ⟨_, h1, fun s' => ?_⟩, h2⟩
 by_cases e : s' = s
 · subst e
   exact Maps.atKey_put_same ho.isMap (by simp [WideAt.IsKeyLit]) _ _
 · rw [Maps.atKey_put_other (fun he => e ?_), hD s', hc s' e]
   have he' := Lit.string.inj he
   cases s'; cases s
   simpa [Array.toList_inj] using he'
theorem MapIs.new (w : World) : MapIs (w.alloc (.map #[] 0)) w.heap.size 0 [] := ⟨.map [], World.ownsMap_made w _ _ _, fun _ => rfl⟩
end Go.Proofs.YtmlcaecknocpoaaDoor.It
namespace Go.Proofs.YtmlcaecknocpoaaDoor.Pr
open Go.RowKit Go.Proofs.YtmlcaecknocpoaaDoorW.PrintWords Go.Proofs.YtmlcaecknocpoaaDoorW.PrintLast Go.Proofs.YtmlcaecknocpoaaDoorW.PrintMore
attribute [local go_sem] max2_int min2_int max_two min_two max_three min_three max_four min_four   
set_option linter.unusedVariables false
set_option linter.unusedSimpArgs false
end Go.Proofs.YtmlcaecknocpoaaDoor.Pr
namespace Go.Proofs.YtmlcaecknocpoaaDoor.It
open Go Go.RowKit Go.Shelf Go.Proofs.YtmlcaecknocpoaaDoorW.PrintWords Go.Proofs.YtmlcaecknocpoaaDoorW.PrintLast Go.Proofs.YtmlcaecknocpoaaDoor.Pr Go.Proofs.YtmlcaecknocpoaaDoor.Sp
mutual
def nb : S26 → Nat
 | ⟨_, _, _, _, bs, l⟩ => bs.length + nbs l
def nbs : List S26 → Nat
 | [] => 0
 | x :: l => nb x + nbs l
end
mutual
def nt : S26 → Nat
 | ⟨_, _, _, ts, _, l⟩ => ts.length + nts l
def nts : List S26 → Nat
 | [] => 0
 | x :: l => nt x + nts l
end
structure FS (w0 W : World) (Bm Bo Bl M n : Nat) (bl out : List ByteArray) (v : Value) : Prop where
 bm : W.heap[Bm]? = some (.cells #[.map (some M)] 68 (0, 0))
 bo : W.heap[Bo]? = some (.cells #[v] 32 (0, 0))
 bf : W.heap[Bl]? = some (.cells #[.func (.func 55) #[] #[.pointer (some ⟨Bm, 0, none⟩), .pointer (some ⟨Bo, 0, none⟩), .pointer (some ⟨Bl, 0, none⟩)]] 69 (0, 0))
 map : MapIs W M n bl
 row : Kd.R Kd.string 9 W w0.heap.size (fun _ => True) v out
 h0 : Below w0.heap.size w0 W
 gM : w0.heap.size ≤ M
 gO : w0.heap.size ≤ Bo
theorem MapIs.obj {w : World} {M n : Nat} {bl : List ByteArray} (h : MapIs w M n bl) : ∃ es c, w.heap[M]? = some (.map es c) := by
 obtain ⟨D, ⟨es, c, h, _⟩, _⟩ := h
 exact ⟨es, c, h⟩
theorem MapIs.ne {w : World} {M n : Nat} {bl : List ByteArray} (h : MapIs w M n bl) {B : Nat} {cs : Array Value} {t : TypeId} (hB : w.heap[B]? = some (.cells cs t (0, 0))) : B ≠ M := by
 rintro rfl
 obtain ⟨es, c, h⟩ := h.obj
 rw [h] at hB
 cases hB
theorem FS.up {w0 W W1 : World} {Bm Bo Bl M n : Nat} {bl out : List ByteArray} {v : Value} (h : FS w0 W Bm Bo Bl M n bl out v) (g : Below W.heap.size W W1) : FS w0 W1 Bm Bo Bl M n bl out v := by
 have hg : W.grownBy W1 none := ⟨g.os, g.tape, g.output, g.size, fun k hk _ => g.block k hk⟩
 exact ⟨blk_below g h.bm, blk_below g h.bo, blk_below g h.bf, h.map.kept hg (by simp), Kd.R_below h.row g, h.h0.trans (g.mono h.h0.size), h.gM, h.gO⟩
theorem MapIs.setCell {w : World} {M n : Nat} {bl : List ByteArray} (h : MapIs w M n bl) {a : Addr} (ha : M ≠ a.block) (u : Value) : MapIs (w.setCell a u) M n bl := by
 obtain ⟨D, ho, hD⟩ := h
 exact ⟨D, ho.setCell ha u, hD⟩
def Kept26 (W w : World) : Prop := ∀ (B : Nat) (cs : Array Value), W.heap[B]? = some (.cells cs 26 (0, 0)) → w.heap[B]? = some (.cells cs 26 (0, 0))
theorem Kept26.refl (W : World) : Kept26 W W := fun _ _ h => h
theorem Kept26.below {W w w1 : World} (h : Kept26 W w) (g : Below w.heap.size w w1) : Kept26 W w1 := fun B cs hB => blk_below g (h B cs hB)
theorem Kept26.trans {W w w1 : World} (h : Kept26 W w) (g : Kept26 w w1) : Kept26 W w1 := fun B cs hB => g B cs (h B cs hB)
theorem Kept26.map {W w w1 : World} {M n : Nat} {bl : List ByteArray} (h : Kept26 W w) (hm : MapIs w M n bl) (g : w.grownBy w1 (some M)) : Kept26 W w1 := fun B cs hB =>
 (g.block B (Array.getElem?_eq_some_iff.1 (h B cs hB)).1 (fun e => hm.ne (h B cs hB) (by injection e))).trans (h B cs hB)
def BoxAt (W w : World) (k : Int) (nm : ByteArray) (nn : Int) (ts : List S47) (bs : List S42) (l : List S26) (A3 : Option Addr) (c3 : Nat) (A4 : Option Addr) (c4 : Nat) (A5 : Option Addr) (c5 : Nat) : Prop :=
 Kept26 (W.alloc (.cells #[.int .i64 k, .string nm, .int .i64 nn, .slice A3 ts.length c3, .slice A4 bs.length c4, .slice A5 l.length c5] 26)) w
theorem BoxAt.box {W w : World} {k : Int} {nm : ByteArray} {nn : Int} {ts : List S47} {bs : List S42} {l : List S26} {A3 : Option Addr} {c3 : Nat} {A4 : Option Addr} {c4 : Nat} {A5 : Option Addr} {c5 : Nat} (h : BoxAt W w k nm nn ts bs l A3 c3 A4 c4 A5 c5) :
   w.heap[W.heap.size]? = some (.cells #[.int .i64 k, .string nm, .int .i64 nn, .slice A3 ts.length c3, .slice A4 bs.length c4, .slice A5 l.length c5] 26 (0, 0)) := h _ _ (heap_new W _)
theorem BoxAt.kept {W w : World} {k : Int} {nm : ByteArray} {nn : Int} {ts : List S47} {bs : List S42} {l : List S26} {A3 : Option Addr} {c3 : Nat} {A4 : Option Addr} {c4 : Nat} {A5 : Option Addr} {c5 : Nat} (h : BoxAt W w k nm nn ts bs l A3 c3 A4 c4 A5 c5) : Kept26 W w :=
 ((Kept26.refl W).below ((Below.refl _ W).alloc (Nat.le_refl _) _)).trans h
end Go.Proofs.YtmlcaecknocpoaaDoor.It
namespace Go.Proofs.YtmlcaecknocpoaaDoor.Pr
open Go.RowKit Go.Proofs.YtmlcaecknocpoaaDoorW.PrintWords Go.Proofs.YtmlcaecknocpoaaDoorW.PrintLast Go.Proofs.YtmlcaecknocpoaaDoorW.PrintMore
attribute [local go_sem] max2_int min2_int max_two min_two max_three min_three max_four min_four   
set_option linter.unusedVariables false
set_option linter.unusedSimpArgs false
end Go.Proofs.YtmlcaecknocpoaaDoor.Pr
namespace Go.Proofs.YtmlcaecknocpoaaDoor.Pr
open Go.RowKit Go.Proofs.YtmlcaecknocpoaaDoorW.PrintWords Go.Proofs.YtmlcaecknocpoaaDoorW.PrintLast Go.Proofs.YtmlcaecknocpoaaDoorW.PrintMore
attribute [local go_sem] max2_int min2_int max_two min_two max_three min_three max_four min_four   
set_option linter.unusedVariables false
set_option linter.unusedSimpArgs false
attribute [local go_sem high] eqA42 eqA47
end Go.Proofs.YtmlcaecknocpoaaDoor.Pr
namespace Go.Proofs.YtmlcaecknocpoaaDoor.Pr
open Go.RowKit Go.Proofs.YtmlcaecknocpoaaDoorW.PrintWords Go.Proofs.YtmlcaecknocpoaaDoorW.PrintLast Go.Proofs.YtmlcaecknocpoaaDoorW.PrintMore
attribute [local go_sem] max2_int min2_int max_two min_two max_three min_three max_four min_four   
set_option linter.unusedVariables false
set_option linter.unusedSimpArgs false
mutual
def rf6Weigh.j1 : Nat → Int → Int → Int → ByteArray → Int → List (S47) → List (S42) → List (S26) → Option (Int)
 | 0, _, _, _, _, _, _, _, _ => none
 | k + 1, x1, x5, x102000, x102001, x102002, x102003, x102004, x102005 => rf6Weigh.l1 k x1 x5 0 x102000 x102001 x102002 x102003 x102004 x102005
def rf6Weigh.j3 : Nat → Int → Int → Int → ByteArray → Int → List (S47) → List (S42) → List (S26) → Option (Int)
 | 0, _, _, _, _, _, _, _, _ => none
 | k + 1, x1, x5, x102000, x102001, x102002, x102003, x102004, x102005 => rf6Weigh.l2 k x1 x5 0 x102000 x102001 x102002 x102003 x102004 x102005
def rf6Weigh.l2 : Nat → Int → Int → Int → Int → ByteArray → Int → List (S47) → List (S42) → List (S26) → Option (Int)
 | 0, _, _, _, _, _, _, _, _, _ => none
 | k + 1, x1, x5, x8, x102000, x102001, x102002, x102003, x102004, x102005 => if x8 < (x102005.length : Int) then (if x5 ≤ x1 then (if 0 ≤ x8 then ((rf6Weigh.f k ((rd_T26 x102005 x8).f0) ((rd_T26 x102005 x8).f1) ((rd_T26 x102005 x8).f2) ((rd_T26 x102005 x8).f3) ((rd_T26 x102005 x8).f4) ((rd_T26 x102005 x8).f5) x1).bind fun t105 => (rf6Weigh.l2 k x1 (wrap64 (x5 + t105)) (wrap64 (x8 + 1)) x102000 x102001 x102002 x102003 x102004 x102005)) else (none)) else (some x5)) else (some x5)
def rf6Weigh.l1 : Nat → Int → Int → Int → Int → ByteArray → Int → List (S47) → List (S42) → List (S26) → Option (Int)
 | 0, _, _, _, _, _, _, _, _, _ => none
 | k + 1, x1, x5, x7, x102000, x102001, x102002, x102003, x102004, x102005 => if x7 < (x102004.length : Int) then (if x5 ≤ x1 then (if 0 ≤ x7 then (rf6Weigh.l1 k x1 (wrap64 (x5 + (((rd_T42 x102004 x7).f0).size : Int))) (wrap64 (x7 + 1)) x102000 x102001 x102002 x102003 x102004 x102005) else (none)) else (rf6Weigh.j3 k x1 x5 x102000 x102001 x102002 x102003 x102004 x102005)) else (rf6Weigh.j3 k x1 x5 x102000 x102001 x102002 x102003 x102004 x102005)
def rf6Weigh.l0 : Nat → Int → Int → Int → Int → ByteArray → Int → List (S47) → List (S42) → List (S26) → Option (Int)
 | 0, _, _, _, _, _, _, _, _, _ => none
 | k + 1, x1, x5, x6, x102000, x102001, x102002, x102003, x102004, x102005 => if x6 < (x102003.length : Int) then (if x5 ≤ x1 then (if 0 ≤ x6 then (rf6Weigh.l0 k x1 (wrap64 (x5 + (((rd_T47 x102003 x6).f1).size : Int))) (wrap64 (x6 + 1)) x102000 x102001 x102002 x102003 x102004 x102005) else (none)) else (rf6Weigh.j1 k x1 x5 x102000 x102001 x102002 x102003 x102004 x102005)) else (rf6Weigh.j1 k x1 x5 x102000 x102001 x102002 x102003 x102004 x102005)
def rf6Weigh.f : Nat → Int → ByteArray → Int → List (S47) → List (S42) → List (S26) → Int → Option (Int)
 | 0, _, _, _, _, _, _, _ => none
 | k + 1, a0_0, a0_1, a0_2, l0_3, l0_4, l0_5, a1 => rf6Weigh.l0 k a1 (wrap64 ((wrap64 ((wrap64 (1 + (a0_1.size : Int))) + (l0_3.length : Int))) + (l0_4.length : Int))) 0 a0_0 a0_1 a0_2 l0_3 l0_4 l0_5
end
set_option maxHeartbeats 8000000 in
set_option maxRecDepth 100000 in
theorem rf6Weigh.calls (k : Nat) : ∀ (a0_0 : Int) (a0_1 : ByteArray) (a0_2 : Int) (A0_3 : Option Addr) (c0_3 : Nat) (l0_3 : List (S47)) (A0_4 : Option Addr) (c0_4 : Nat) (l0_4 : List (S42)) (A0_5 : Option Addr) (c0_5 : Nat) (l0_5 : List (S26)) (a1 : Int) (r : Int) (w : World) (hr0_3 : Kd.C k47 w A0_3 l0_3.length l0_3) (hc0_3 : l0_3.length ≤ c0_3) (hr0_4 : Kd.C k42 w A0_4 l0_4.length l0_4) (hc0_4 : l0_4.length ≤ c0_4) (hr0_5 : Kd.C k26 w A0_5 l0_5.length l0_5) (hc0_5 : l0_5.length ≤ c0_5) (h : rf6Weigh.f k a0_0 a0_1 a0_2 l0_3 l0_4 l0_5 a1 = some r),
   Calls Tryd.prog 51 #[.agg #[.int .i64 a0_0, .string a0_1, .int .i64 a0_2, .slice A0_3 l0_3.length c0_3, .slice A0_4 l0_4.length c0_4, .slice A0_5 l0_5.length c0_5], .int .i64 a1] w fun e w' => e = .returned (.int .i64 r) ∧ Below w.heap.size w w' := by
 induction k using Nat.strongRecOn with
 | _ k ih =>
 intro a0_0 a0_1 a0_2 A0_3 c0_3 l0_3 A0_4 c0_4 l0_4 A0_5 c0_5 l0_5 a1 r w hr0_3 hc0_3 hr0_4 hc0_4 hr0_5 hc0_5 h
 cases k with
 | zero => exact absurd h (by simp [rf6Weigh.f])
 | succ k =>
 simp only [rf6Weigh.f] at h
 have hu26 := Tryd.underlying26
 have HR0_3 := Aside0.mk hr0_3
 have HC0_3 := Aside0.mk hc0_3
 clear hr0_3 hc0_3
 have HR0_4 := Aside0.mk hr0_4
 have HC0_4 := Aside0.mk hc0_4
 clear hr0_4 hc0_4
 have HR0_5 := Aside0.mk hr0_5
 have HC0_5 := Aside0.mk hc0_5
 clear hr0_5 hc0_5
 have HB := Aside0.mk (Below.refl w.heap.size w)
 have H : (rf6Weigh.l0 k a1 (wrap64 ((wrap64 ((wrap64 (1 + (a0_1.size : Int))) + (l0_3.length : Int))) + (l0_4.length : Int))) 0 a0_0 a0_1 a0_2 l0_3 l0_4 l0_5) = some r := h
 clear h
 have HC3 := Aside0.mk H
 clear H
 go_enter Tryd.func51, Tryd.ntmps51
 go_upto_block 0 with (first | ((with_reducible refine gate_dst (N := 2) rfl ?_); refine box_event ?hg (N := 2) ?hd (cs := #[.int .i64 a0_0, .string a0_1, .int .i64 a0_2, .slice A0_3 l0_3.length c0_3, .slice A0_4 l0_4.length c0_4, .slice A0_5 l0_5.length c0_5]) (t := 26) ?hr ?_; (case hd => rfl); (case hg => rfl); (case hr => first | (go_simp; done) | (go_simp; rfl)); intro gb101 hg w4 hbox hb; have n0_ := Aside0.mk (below_step (by repeat (first | (with_reducible first | exact HB.out | apply bAl | apply pwDN | apply bD1) | exact HB.out)) hb); have n1_ := Aside0.mk (hbox); have n2_ := Aside0.mk ((by rw [hg]; exact (below_size (by repeat (first | (with_reducible first | exact HB.out | apply bAl | apply pwDN | apply bD1) | exact HB.out))) : w.heap.size ≤ gb101)); have n3_ := Aside0.mk ((by rw [hg]; exact (below_size (by repeat (first | (with_reducible first | exact HB.out | apply bAl | apply pwDN | apply bD1) | exact HB.out))) : w.heap.size ≤ gb101)); clear HB; have HB := n0_; have BK101 := n1_; have GW101 := n2_; have GE101 := n3_; clear n0_ n1_ n2_ n3_; clear hb hbox hg; have hcz5_0 : w4.cell? ⟨gb101, 0, none⟩ = some (.int .i64 a0_0) := (bCl BK101.out 0).trans rfl; have hcz5_1 : w4.cell? ⟨gb101, 1, none⟩ = some (.string a0_1) := (bCl BK101.out 1).trans rfl; have hcz5_2 : w4.cell? ⟨gb101, 2, none⟩ = some (.int .i64 a0_2) := (bCl BK101.out 2).trans rfl; have hcz5_3 : w4.cell? ⟨gb101, 3, none⟩ = some (.slice A0_3 l0_3.length c0_3) := (bCl BK101.out 3).trans rfl; have hcz5_4 : w4.cell? ⟨gb101, 4, none⟩ = some (.slice A0_4 l0_4.length c0_4) := (bCl BK101.out 4).trans rfl; have hcz5_5 : w4.cell? ⟨gb101, 5, none⟩ = some (.slice A0_5 l0_5.length c0_5) := (bCl BK101.out 5).trans rfl; have hfz5_0 := bFz BK101.out 0; have hfz5_1 := bFz BK101.out 1; have hfz5_2 := bFz BK101.out 2; have hfz5_3 := bFz BK101.out 3; have hfz5_4 := bFz BK101.out 4; have hfz5_5 := bFz BK101.out 5))
 (try simp only [Act.put, List.setIfInBounds_toArray, List.set_cons_zero, List.set_cons_succ])
 go_cut [5] (fun v5 wc => ∃ (kq : Nat) (x5_2 : Int), v5 = .int .i64 x5_2 ∧ Aside0 (rf6Weigh.j1 kq a1 x5_2 a0_0 a0_1 a0_2 l0_3 l0_4 l0_5 = some r) ∧ Aside0 (kq ≤ k) ∧ Aside0 (wc.heap[gb101]? = some (.cells #[.int .i64 a0_0, .string a0_1, .int .i64 a0_2, (.slice A0_3 l0_3.length c0_3), (.slice A0_4 l0_4.length c0_4), (.slice A0_5 l0_5.length c0_5)] 26 (0, 0))) ∧ Aside0 (Below w.heap.size w wc))
 case first =>
   have H := HC3.out
   clear HC3
   have H' := Aside0.mk H
   clear H
   go_wp2
   go_loopg [5, 6] k (fun kq v5 v6 w' => ∃ (x5_1 : Int) (x6_1 : Int), v5 = .int .i64 x5_1 ∧ v6 = .int .i64 x6_1 ∧ Aside0 (rf6Weigh.l0 kq a1 x5_1 x6_1 a0_0 a0_1 a0_2 l0_3 l0_4 l0_5 = some r) ∧ Aside0 (kq ≤ k) ∧ Aside0 (w'.heap[gb101]? = some (.cells #[.int .i64 a0_0, .string a0_1, .int .i64 a0_2, (.slice A0_3 l0_3.length c0_3), (.slice A0_4 l0_4.length c0_4), (.slice A0_5 l0_5.length c0_5)] 26 (0, 0))) ∧ Aside0 (Below w.heap.size w w'))
   case atStart => exact ⟨(wrap64 ((wrap64 ((wrap64 (1 + (a0_1.size : Int))) + (l0_3.length : Int))) + (l0_4.length : Int))), (0), (by first | rfl | (simp; done) | (simp [*]; done)), (by first | rfl | (simp; done) | (simp [*]; done)), H', ⟨Nat.le_refl _⟩, ⟨by (with_reducible repeat (first | refine blk_drewN ?_ _ | refine blk_drew ?_ | refine blk_alloc ?_ _)); exact BK101.out⟩, ⟨by repeat (first | (with_reducible first | exact HB.out | apply bAl | apply pwDN | apply bD1 | refine bSt ?_ GE101.out) | exact HB.out)⟩⟩
   case round =>
     clear H'
     try clear p2
     try clear c5
     try clear hcz5_0
     try clear hcz5_1
     try clear hcz5_2
     try clear hcz5_3
     try clear hcz5_4
     try clear hcz5_5
     try clear hfz5_0
     try clear hfz5_1
     try clear hfz5_2
     try clear hfz5_3
     try clear hfz5_4
     try clear hfz5_5
     obtain ⟨x5_1, x6_1, rfl, rfl, HA, HK1, BK101, HB⟩ := hrel
     cases gk with
     | zero => exact absurd HA.out (by simp [rf6Weigh.l0])
     | succ k1 =>
       have H := HA.out
       clear HA
       simp only [rf6Weigh.l0] at H
       by_cases c6 : x6_1 < (l0_3.length : Int)
       · rw [if_pos c6] at H
         have c6b0 : decide (x6_1 < (l0_3.length : Int)) = true := decide_eq_true c6
         clear c6
         (first | rw [c6b0] | (simp only [i64_w, i32_w]; rw [c6b0]) | skip)
         by_cases c7 : x5_1 ≤ a1
         · rw [if_pos c7] at H
           have c7b0 : decide (x5_1 ≤ a1) = true := decide_eq_true c7
           clear c7
           by_cases c8 : 0 ≤ x6_1
           · rw [if_pos c8] at H
             have c8b0 : decide (0 ≤ x6_1) = true := decide_eq_true c8
             clear c8
             have H' := Aside0.mk H
             clear H
             have hcz9_0 : wr.cell? ⟨gb101, 0, none⟩ = some (.int .i64 a0_0) := (bCl BK101.out 0).trans rfl
             have hcz9_1 : wr.cell? ⟨gb101, 1, none⟩ = some (.string a0_1) := (bCl BK101.out 1).trans rfl
             have hcz9_2 : wr.cell? ⟨gb101, 2, none⟩ = some (.int .i64 a0_2) := (bCl BK101.out 2).trans rfl
             have hcz9_3 : wr.cell? ⟨gb101, 3, none⟩ = some (.slice A0_3 l0_3.length c0_3) := (bCl BK101.out 3).trans rfl
             have hcz9_4 : wr.cell? ⟨gb101, 4, none⟩ = some (.slice A0_4 l0_4.length c0_4) := (bCl BK101.out 4).trans rfl
             have hcz9_5 : wr.cell? ⟨gb101, 5, none⟩ = some (.slice A0_5 l0_5.length c0_5) := (bCl BK101.out 5).trans rfl
             have hfz9_0 := bFz BK101.out 0
             have hfz9_1 := bFz BK101.out 1
             have hfz9_2 := bFz BK101.out 2
             have hfz9_3 := bFz BK101.out 3
             have hfz9_4 := bFz BK101.out 4
             have hfz9_5 := bFz BK101.out 5
             have p102 : 0 ≤ (x6_1 : Int) := of_decide_eq_true (by first | (with_reducible assumption) | assumption)
             have q102 : x6_1 < (l0_3.length : Int) := of_decide_eq_true (by first | (with_reducible assumption) | assumption)
             obtain ⟨ad102, e102, hx102_0, hx102_1, hx102_2⟩ := at_T47 HR0_3.out x6_1 p102 q102
             cases e102
             replace hx102_0 := (HB.out.cell (World.block_lt_of_cell? w _ hx102_0)).trans hx102_0
             replace hx102_1 := (HB.out.cell (World.block_lt_of_cell? w _ hx102_1)).trans hx102_1
             replace hx102_2 := (HB.out.cell (World.block_lt_of_cell? w _ hx102_2)).trans hx102_2
             replace p102 := eq_true p102
             replace q102 := eq_true q102
             go_wp2
             go_roundg k1
             case measure => have := HK1.out; omega
             case rel => exact ⟨(wrap64 (x5_1 + (((rd_T47 l0_3 x6_1).f1).size : Int))), (wrap64 (x6_1 + 1)), (by first | rfl | (simp; done) | (simp [*]; done)), (by first | rfl | (simp; done) | (simp [*]; done)), H', ⟨by have := HK1.out; omega⟩, ⟨by (with_reducible repeat (first | refine blk_drewN ?_ _ | refine blk_drew ?_ | refine blk_alloc ?_ _)); exact BK101.out⟩, ⟨by repeat (first | (with_reducible first | exact HB.out | apply bAl | apply pwDN | apply bD1 | refine bSt ?_ GE101.out) | exact HB.out)⟩⟩
           · rw [if_neg c8] at H
             exact absurd H (by simp)
         · rw [if_neg c7] at H
           have c7b0 : decide (x5_1 ≤ a1) = false := decide_eq_false c7
           clear c7
           have H' := Aside0.mk H
           clear H
           have hcz10_0 : wr.cell? ⟨gb101, 0, none⟩ = some (.int .i64 a0_0) := (bCl BK101.out 0).trans rfl
           have hcz10_1 : wr.cell? ⟨gb101, 1, none⟩ = some (.string a0_1) := (bCl BK101.out 1).trans rfl
           have hcz10_2 : wr.cell? ⟨gb101, 2, none⟩ = some (.int .i64 a0_2) := (bCl BK101.out 2).trans rfl
           have hcz10_3 : wr.cell? ⟨gb101, 3, none⟩ = some (.slice A0_3 l0_3.length c0_3) := (bCl BK101.out 3).trans rfl
           have hcz10_4 : wr.cell? ⟨gb101, 4, none⟩ = some (.slice A0_4 l0_4.length c0_4) := (bCl BK101.out 4).trans rfl
           have hcz10_5 : wr.cell? ⟨gb101, 5, none⟩ = some (.slice A0_5 l0_5.length c0_5) := (bCl BK101.out 5).trans rfl
           have hfz10_0 := bFz BK101.out 0
           have hfz10_1 := bFz BK101.out 1
           have hfz10_2 := bFz BK101.out 2
           have hfz10_3 := bFz BK101.out 3
           have hfz10_4 := bFz BK101.out 4
           have hfz10_5 := bFz BK101.out 5
           go_wp2
           go_meet
           case rel => exact ⟨_, (x5_1), (by first | rfl | (simp; done) | (simp [*]; done)), H', ⟨by have := HK1.out; first | omega | exact Nat.le_refl _⟩, ⟨by (with_reducible repeat (first | refine blk_drewN ?_ _ | refine blk_drew ?_ | refine blk_alloc ?_ _)); exact BK101.out⟩, ⟨by repeat (first | (with_reducible first | exact HB.out | apply bAl | apply pwDN | apply bD1 | refine bSt ?_ GE101.out) | exact HB.out)⟩⟩
       · rw [if_neg c6] at H
         have c6b0 : decide (x6_1 < (l0_3.length : Int)) = false := decide_eq_false c6
         clear c6
         (first | rw [c6b0] | (simp only [i64_w, i32_w]; rw [c6b0]) | skip)
         have H' := Aside0.mk H
         clear H
         have hcz11_0 : wr.cell? ⟨gb101, 0, none⟩ = some (.int .i64 a0_0) := (bCl BK101.out 0).trans rfl
         have hcz11_1 : wr.cell? ⟨gb101, 1, none⟩ = some (.string a0_1) := (bCl BK101.out 1).trans rfl
         have hcz11_2 : wr.cell? ⟨gb101, 2, none⟩ = some (.int .i64 a0_2) := (bCl BK101.out 2).trans rfl
         have hcz11_3 : wr.cell? ⟨gb101, 3, none⟩ = some (.slice A0_3 l0_3.length c0_3) := (bCl BK101.out 3).trans rfl
         have hcz11_4 : wr.cell? ⟨gb101, 4, none⟩ = some (.slice A0_4 l0_4.length c0_4) := (bCl BK101.out 4).trans rfl
         have hcz11_5 : wr.cell? ⟨gb101, 5, none⟩ = some (.slice A0_5 l0_5.length c0_5) := (bCl BK101.out 5).trans rfl
         have hfz11_0 := bFz BK101.out 0
         have hfz11_1 := bFz BK101.out 1
         have hfz11_2 := bFz BK101.out 2
         have hfz11_3 := bFz BK101.out 3
         have hfz11_4 := bFz BK101.out 4
         have hfz11_5 := bFz BK101.out 5
         go_wp2
         go_meet
         case rel => exact ⟨_, (x5_1), (by first | rfl | (simp; done) | (simp [*]; done)), H', ⟨by have := HK1.out; first | omega | exact Nat.le_refl _⟩, ⟨by (with_reducible repeat (first | refine blk_drewN ?_ _ | refine blk_drew ?_ | refine blk_alloc ?_ _)); exact BK101.out⟩, ⟨by repeat (first | (with_reducible first | exact HB.out | apply bAl | apply pwDN | apply bD1 | refine bSt ?_ GE101.out) | exact HB.out)⟩⟩
 case rest =>
   clear HC3
   try clear p1
   try clear q1
   try clear hx1
   try clear p2
   try clear c5
   try clear c6
   try clear c6b0
   try clear p6
   try clear c7
   try clear c7b0
   try clear c8
   try clear c8b0
   try clear p10
   try clear q10
   try clear hx10
   try clear hcz10_0
   try clear hcz10_1
   try clear hcz10_2
   try clear hcz10_3
   try clear hcz10_4
   try clear hcz10_5
   try clear hcz11_0
   try clear hcz11_1
   try clear hcz11_2
   try clear hcz11_3
   try clear hcz11_4
   try clear hcz11_5
   try clear hcz5_0
   try clear hcz5_1
   try clear hcz5_2
   try clear hcz5_3
   try clear hcz5_4
   try clear hcz5_5
   try clear hcz9_0
   try clear hcz9_1
   try clear hcz9_2
   try clear hcz9_3
   try clear hcz9_4
   try clear hcz9_5
   try clear hfz10_0
   try clear hfz10_1
   try clear hfz10_2
   try clear hfz10_3
   try clear hfz10_4
   try clear hfz10_5
   try clear hfz11_0
   try clear hfz11_1
   try clear hfz11_2
   try clear hfz11_3
   try clear hfz11_4
   try clear hfz11_5
   try clear hfz5_0
   try clear hfz5_1
   try clear hfz5_2
   try clear hfz5_3
   try clear hfz5_4
   try clear hfz5_5
   try clear hfz9_0
   try clear hfz9_1
   try clear hfz9_2
   try clear hfz9_3
   try clear hfz9_4
   try clear hfz9_5
   try clear hx102_0
   try clear hx102_1
   try clear hx102_2
   try clear p102
   try clear p2
   try clear q102
   obtain ⟨kq, x5_2, rfl, HA, HJ2, BK101, HB⟩ := hcut
   cases kq with
   | zero => exact absurd HA.out (by simp [rf6Weigh.j1])
   | succ kj2 =>
     have H := HA.out
     clear HA
     simp only [rf6Weigh.j1] at H
     have HC12 := Aside0.mk H
     clear H
     go_upto_block 2 with (fail)
     go_cut [5] (fun v5 wc => ∃ (kq : Nat) (x5_11 : Int), v5 = .int .i64 x5_11 ∧ Aside0 (rf6Weigh.j3 kq a1 x5_11 a0_0 a0_1 a0_2 l0_3 l0_4 l0_5 = some r) ∧ Aside0 (kq ≤ kj2) ∧ Aside0 (wc.heap[gb101]? = some (.cells #[.int .i64 a0_0, .string a0_1, .int .i64 a0_2, (.slice A0_3 l0_3.length c0_3), (.slice A0_4 l0_4.length c0_4), (.slice A0_5 l0_5.length c0_5)] 26 (0, 0))) ∧ Aside0 (Below w.heap.size w wc))
     case first =>
       have H := HC12.out
       clear HC12
       have H' := Aside0.mk H
       clear H
       go_wp2
       go_loopg [5, 7] kj2 (fun kq v5 v7 w' => ∃ (x5_2 : Int) (x7_2 : Int), v5 = .int .i64 x5_2 ∧ v7 = .int .i64 x7_2 ∧ Aside0 (rf6Weigh.l1 kq a1 x5_2 x7_2 a0_0 a0_1 a0_2 l0_3 l0_4 l0_5 = some r) ∧ Aside0 (kq ≤ kj2) ∧ Aside0 (w'.heap[gb101]? = some (.cells #[.int .i64 a0_0, .string a0_1, .int .i64 a0_2, (.slice A0_3 l0_3.length c0_3), (.slice A0_4 l0_4.length c0_4), (.slice A0_5 l0_5.length c0_5)] 26 (0, 0))) ∧ Aside0 (Below w.heap.size w w'))
       case atStart => exact ⟨(x5_2), (0), (by first | rfl | (simp; done) | (simp [*]; done)), (by first | rfl | (simp; done) | (simp [*]; done)), H', ⟨Nat.le_refl _⟩, ⟨by (with_reducible repeat (first | refine blk_drewN ?_ _ | refine blk_drew ?_ | refine blk_alloc ?_ _)); exact BK101.out⟩, ⟨by repeat (first | (with_reducible first | exact HB.out | apply bAl | apply pwDN | apply bD1 | refine bSt ?_ GE101.out) | exact HB.out)⟩⟩
       case round =>
         clear H'
         try clear p1
         try clear q1
         try clear hx1
         try clear p2
         try clear c5
         try clear c6
         try clear c6b0
         try clear p6
         try clear c7
         try clear c7b0
         try clear c8
         try clear c8b0
         try clear p10
         try clear q10
         try clear hx10
         try clear hcz10_0
         try clear hcz10_1
         try clear hcz10_2
         try clear hcz10_3
         try clear hcz10_4
         try clear hcz10_5
         try clear hcz11_0
         try clear hcz11_1
         try clear hcz11_2
         try clear hcz11_3
         try clear hcz11_4
         try clear hcz11_5
         try clear hcz5_0
         try clear hcz5_1
         try clear hcz5_2
         try clear hcz5_3
         try clear hcz5_4
         try clear hcz5_5
         try clear hcz9_0
         try clear hcz9_1
         try clear hcz9_2
         try clear hcz9_3
         try clear hcz9_4
         try clear hcz9_5
         try clear hfz10_0
         try clear hfz10_1
         try clear hfz10_2
         try clear hfz10_3
         try clear hfz10_4
         try clear hfz10_5
         try clear hfz11_0
         try clear hfz11_1
         try clear hfz11_2
         try clear hfz11_3
         try clear hfz11_4
         try clear hfz11_5
         try clear hfz5_0
         try clear hfz5_1
         try clear hfz5_2
         try clear hfz5_3
         try clear hfz5_4
         try clear hfz5_5
         try clear hfz9_0
         try clear hfz9_1
         try clear hfz9_2
         try clear hfz9_3
         try clear hfz9_4
         try clear hfz9_5
         try clear hx102_0
         try clear hx102_1
         try clear hx102_2
         try clear p1
         try clear p10
         try clear p102
         try clear p2
         try clear p6
         try clear q1
         try clear q10
         try clear q102
         obtain ⟨x5_2, x7_2, rfl, rfl, HA, HK2, BK101, HB⟩ := hrel
         cases gk with
         | zero => exact absurd HA.out (by simp [rf6Weigh.l1])
         | succ k2 =>
           have H := HA.out
           clear HA
           simp only [rf6Weigh.l1] at H
           by_cases c13 : x7_2 < (l0_4.length : Int)
           · rw [if_pos c13] at H
             have c13b0 : decide (x7_2 < (l0_4.length : Int)) = true := decide_eq_true c13
             clear c13
             (first | rw [c13b0] | (simp only [i64_w, i32_w]; rw [c13b0]) | skip)
             by_cases c14 : x5_2 ≤ a1
             · rw [if_pos c14] at H
               have c14b0 : decide (x5_2 ≤ a1) = true := decide_eq_true c14
               clear c14
               by_cases c15 : 0 ≤ x7_2
               · rw [if_pos c15] at H
                 have c15b0 : decide (0 ≤ x7_2) = true := decide_eq_true c15
                 clear c15
                 have H' := Aside0.mk H
                 clear H
                 have hcz16_0 : wr.cell? ⟨gb101, 0, none⟩ = some (.int .i64 a0_0) := (bCl BK101.out 0).trans rfl
                 have hcz16_1 : wr.cell? ⟨gb101, 1, none⟩ = some (.string a0_1) := (bCl BK101.out 1).trans rfl
                 have hcz16_2 : wr.cell? ⟨gb101, 2, none⟩ = some (.int .i64 a0_2) := (bCl BK101.out 2).trans rfl
                 have hcz16_3 : wr.cell? ⟨gb101, 3, none⟩ = some (.slice A0_3 l0_3.length c0_3) := (bCl BK101.out 3).trans rfl
                 have hcz16_4 : wr.cell? ⟨gb101, 4, none⟩ = some (.slice A0_4 l0_4.length c0_4) := (bCl BK101.out 4).trans rfl
                 have hcz16_5 : wr.cell? ⟨gb101, 5, none⟩ = some (.slice A0_5 l0_5.length c0_5) := (bCl BK101.out 5).trans rfl
                 have hfz16_0 := bFz BK101.out 0
                 have hfz16_1 := bFz BK101.out 1
                 have hfz16_2 := bFz BK101.out 2
                 have hfz16_3 := bFz BK101.out 3
                 have hfz16_4 := bFz BK101.out 4
                 have hfz16_5 := bFz BK101.out 5
                 have p103 : 0 ≤ (x7_2 : Int) := of_decide_eq_true (by first | (with_reducible assumption) | assumption)
                 have q103 : x7_2 < (l0_4.length : Int) := of_decide_eq_true (by first | (with_reducible assumption) | assumption)
                 obtain ⟨ad103, e103, hx103_0, hx103_1⟩ := at_T42 HR0_4.out x7_2 p103 q103
                 cases e103
                 replace hx103_0 := (HB.out.cell (World.block_lt_of_cell? w _ hx103_0)).trans hx103_0
                 replace hx103_1 := (HB.out.cell (World.block_lt_of_cell? w _ hx103_1)).trans hx103_1
                 replace p103 := eq_true p103
                 replace q103 := eq_true q103
                 go_wp2
                 go_roundg k2
                 case measure => have := HJ2.out; have := HK2.out; omega
                 case rel => exact ⟨(wrap64 (x5_2 + (((rd_T42 l0_4 x7_2).f0).size : Int))), (wrap64 (x7_2 + 1)), (by first | rfl | (simp; done) | (simp [*]; done)), (by first | rfl | (simp; done) | (simp [*]; done)), H', ⟨by have := HJ2.out; have := HK2.out; omega⟩, ⟨by (with_reducible repeat (first | refine blk_drewN ?_ _ | refine blk_drew ?_ | refine blk_alloc ?_ _)); exact BK101.out⟩, ⟨by repeat (first | (with_reducible first | exact HB.out | apply bAl | apply pwDN | apply bD1 | refine bSt ?_ GE101.out) | exact HB.out)⟩⟩
               · rw [if_neg c15] at H
                 exact absurd H (by simp)
             · rw [if_neg c14] at H
               have c14b0 : decide (x5_2 ≤ a1) = false := decide_eq_false c14
               clear c14
               have H' := Aside0.mk H
               clear H
               have hcz17_0 : wr.cell? ⟨gb101, 0, none⟩ = some (.int .i64 a0_0) := (bCl BK101.out 0).trans rfl
               have hcz17_1 : wr.cell? ⟨gb101, 1, none⟩ = some (.string a0_1) := (bCl BK101.out 1).trans rfl
               have hcz17_2 : wr.cell? ⟨gb101, 2, none⟩ = some (.int .i64 a0_2) := (bCl BK101.out 2).trans rfl
               have hcz17_3 : wr.cell? ⟨gb101, 3, none⟩ = some (.slice A0_3 l0_3.length c0_3) := (bCl BK101.out 3).trans rfl
               have hcz17_4 : wr.cell? ⟨gb101, 4, none⟩ = some (.slice A0_4 l0_4.length c0_4) := (bCl BK101.out 4).trans rfl
               have hcz17_5 : wr.cell? ⟨gb101, 5, none⟩ = some (.slice A0_5 l0_5.length c0_5) := (bCl BK101.out 5).trans rfl
               have hfz17_0 := bFz BK101.out 0
               have hfz17_1 := bFz BK101.out 1
               have hfz17_2 := bFz BK101.out 2
               have hfz17_3 := bFz BK101.out 3
               have hfz17_4 := bFz BK101.out 4
               have hfz17_5 := bFz BK101.out 5
               go_wp2
               go_meet
               case rel => exact ⟨_, (x5_2), (by first | rfl | (simp; done) | (simp [*]; done)), H', ⟨by have := HJ2.out; have := HK2.out; first | omega | exact Nat.le_refl _⟩, ⟨by (with_reducible repeat (first | refine blk_drewN ?_ _ | refine blk_drew ?_ | refine blk_alloc ?_ _)); exact BK101.out⟩, ⟨by repeat (first | (with_reducible first | exact HB.out | apply bAl | apply pwDN | apply bD1 | refine bSt ?_ GE101.out) | exact HB.out)⟩⟩
           · rw [if_neg c13] at H
             have c13b0 : decide (x7_2 < (l0_4.length : Int)) = false := decide_eq_false c13
             clear c13
             (first | rw [c13b0] | (simp only [i64_w, i32_w]; rw [c13b0]) | skip)
             have H' := Aside0.mk H
             clear H
             have hcz18_0 : wr.cell? ⟨gb101, 0, none⟩ = some (.int .i64 a0_0) := (bCl BK101.out 0).trans rfl
             have hcz18_1 : wr.cell? ⟨gb101, 1, none⟩ = some (.string a0_1) := (bCl BK101.out 1).trans rfl
             have hcz18_2 : wr.cell? ⟨gb101, 2, none⟩ = some (.int .i64 a0_2) := (bCl BK101.out 2).trans rfl
             have hcz18_3 : wr.cell? ⟨gb101, 3, none⟩ = some (.slice A0_3 l0_3.length c0_3) := (bCl BK101.out 3).trans rfl
             have hcz18_4 : wr.cell? ⟨gb101, 4, none⟩ = some (.slice A0_4 l0_4.length c0_4) := (bCl BK101.out 4).trans rfl
             have hcz18_5 : wr.cell? ⟨gb101, 5, none⟩ = some (.slice A0_5 l0_5.length c0_5) := (bCl BK101.out 5).trans rfl
             have hfz18_0 := bFz BK101.out 0
             have hfz18_1 := bFz BK101.out 1
             have hfz18_2 := bFz BK101.out 2
             have hfz18_3 := bFz BK101.out 3
             have hfz18_4 := bFz BK101.out 4
             have hfz18_5 := bFz BK101.out 5
             go_wp2
             go_meet
             case rel => exact ⟨_, (x5_2), (by first | rfl | (simp; done) | (simp [*]; done)), H', ⟨by have := HJ2.out; have := HK2.out; first | omega | exact Nat.le_refl _⟩, ⟨by (with_reducible repeat (first | refine blk_drewN ?_ _ | refine blk_drew ?_ | refine blk_alloc ?_ _)); exact BK101.out⟩, ⟨by repeat (first | (with_reducible first | exact HB.out | apply bAl | apply pwDN | apply bD1 | refine bSt ?_ GE101.out) | exact HB.out)⟩⟩
     case rest =>
       clear HC12
       try clear c1
       try clear p1
       try clear q1
       try clear hx1
       try clear p2
       try clear c5
       try clear c6
       try clear c6b0
       try clear p6
       try clear c7
       try clear c7b0
       try clear c8
       try clear c8b0
       try clear p10
       try clear q10
       try clear hx10
       try clear c13
       try clear c13b0
       try clear c14
       try clear c14b0
       try clear c15
       try clear c15b0
       try clear hcz10_0
       try clear hcz10_1
       try clear hcz10_2
       try clear hcz10_3
       try clear hcz10_4
       try clear hcz10_5
       try clear hcz11_0
       try clear hcz11_1
       try clear hcz11_2
       try clear hcz11_3
       try clear hcz11_4
       try clear hcz11_5
       try clear hcz16_0
       try clear hcz16_1
       try clear hcz16_2
       try clear hcz16_3
       try clear hcz16_4
       try clear hcz16_5
       try clear hcz17_0
       try clear hcz17_1
       try clear hcz17_2
       try clear hcz17_3
       try clear hcz17_4
       try clear hcz17_5
       try clear hcz18_0
       try clear hcz18_1
       try clear hcz18_2
       try clear hcz18_3
       try clear hcz18_4
       try clear hcz18_5
       try clear hcz5_0
       try clear hcz5_1
       try clear hcz5_2
       try clear hcz5_3
       try clear hcz5_4
       try clear hcz5_5
       try clear hcz9_0
       try clear hcz9_1
       try clear hcz9_2
       try clear hcz9_3
       try clear hcz9_4
       try clear hcz9_5
       try clear hfz10_0
       try clear hfz10_1
       try clear hfz10_2
       try clear hfz10_3
       try clear hfz10_4
       try clear hfz10_5
       try clear hfz11_0
       try clear hfz11_1
       try clear hfz11_2
       try clear hfz11_3
       try clear hfz11_4
       try clear hfz11_5
       try clear hfz16_0
       try clear hfz16_1
       try clear hfz16_2
       try clear hfz16_3
       try clear hfz16_4
       try clear hfz16_5
       try clear hfz17_0
       try clear hfz17_1
       try clear hfz17_2
       try clear hfz17_3
       try clear hfz17_4
       try clear hfz17_5
       try clear hfz18_0
       try clear hfz18_1
       try clear hfz18_2
       try clear hfz18_3
       try clear hfz18_4
       try clear hfz18_5
       try clear hfz5_0
       try clear hfz5_1
       try clear hfz5_2
       try clear hfz5_3
       try clear hfz5_4
       try clear hfz5_5
       try clear hfz9_0
       try clear hfz9_1
       try clear hfz9_2
       try clear hfz9_3
       try clear hfz9_4
       try clear hfz9_5
       try clear hx102_0
       try clear hx102_1
       try clear hx102_2
       try clear hx103_0
       try clear hx103_1
       try clear p1
       try clear p10
       try clear p102
       try clear p103
       try clear p2
       try clear p6
       try clear q1
       try clear q10
       try clear q102
       try clear q103
       obtain ⟨kq, x5_11, rfl, HA, HJ11, BK101, HB⟩ := hcut
       cases kq with
       | zero => exact absurd HA.out (by simp [rf6Weigh.j3])
       | succ kj11 =>
         have H := HA.out
         clear HA
         simp only [rf6Weigh.j3] at H
         have H' := Aside0.mk H
         clear H
         go_wp2
         go_loopg [5, 8] kj11 (fun kq v5 v8 w' => ∃ (x5_3 : Int) (x8_3 : Int), v5 = .int .i64 x5_3 ∧ v8 = .int .i64 x8_3 ∧ Aside0 (rf6Weigh.l2 kq a1 x5_3 x8_3 a0_0 a0_1 a0_2 l0_3 l0_4 l0_5 = some r) ∧ Aside0 (kq ≤ kj11) ∧ Aside0 (w'.heap[gb101]? = some (.cells #[.int .i64 a0_0, .string a0_1, .int .i64 a0_2, (.slice A0_3 l0_3.length c0_3), (.slice A0_4 l0_4.length c0_4), (.slice A0_5 l0_5.length c0_5)] 26 (0, 0))) ∧ Aside0 (Below w.heap.size w w'))
         case atStart => exact ⟨(x5_11), (0), (by first | rfl | (simp; done) | (simp [*]; done)), (by first | rfl | (simp; done) | (simp [*]; done)), H', ⟨Nat.le_refl _⟩, ⟨by (with_reducible repeat (first | refine blk_drewN ?_ _ | refine blk_drew ?_ | refine blk_alloc ?_ _)); exact BK101.out⟩, ⟨by repeat (first | (with_reducible first | exact HB.out | apply bAl | apply pwDN | apply bD1 | refine bSt ?_ GE101.out) | exact HB.out)⟩⟩
         case round =>
           clear H'
           try clear c1
           try clear p1
           try clear q1
           try clear hx1
           try clear p2
           try clear c5
           try clear c6
           try clear c6b0
           try clear p6
           try clear c7
           try clear c7b0
           try clear c8
           try clear c8b0
           try clear p10
           try clear q10
           try clear hx10
           try clear c13
           try clear c13b0
           try clear c14
           try clear c14b0
           try clear c15
           try clear c15b0
           try clear hcz10_0
           try clear hcz10_1
           try clear hcz10_2
           try clear hcz10_3
           try clear hcz10_4
           try clear hcz10_5
           try clear hcz11_0
           try clear hcz11_1
           try clear hcz11_2
           try clear hcz11_3
           try clear hcz11_4
           try clear hcz11_5
           try clear hcz16_0
           try clear hcz16_1
           try clear hcz16_2
           try clear hcz16_3
           try clear hcz16_4
           try clear hcz16_5
           try clear hcz17_0
           try clear hcz17_1
           try clear hcz17_2
           try clear hcz17_3
           try clear hcz17_4
           try clear hcz17_5
           try clear hcz18_0
           try clear hcz18_1
           try clear hcz18_2
           try clear hcz18_3
           try clear hcz18_4
           try clear hcz18_5
           try clear hcz5_0
           try clear hcz5_1
           try clear hcz5_2
           try clear hcz5_3
           try clear hcz5_4
           try clear hcz5_5
           try clear hcz9_0
           try clear hcz9_1
           try clear hcz9_2
           try clear hcz9_3
           try clear hcz9_4
           try clear hcz9_5
           try clear hfz10_0
           try clear hfz10_1
           try clear hfz10_2
           try clear hfz10_3
           try clear hfz10_4
           try clear hfz10_5
           try clear hfz11_0
           try clear hfz11_1
           try clear hfz11_2
           try clear hfz11_3
           try clear hfz11_4
           try clear hfz11_5
           try clear hfz16_0
           try clear hfz16_1
           try clear hfz16_2
           try clear hfz16_3
           try clear hfz16_4
           try clear hfz16_5
           try clear hfz17_0
           try clear hfz17_1
           try clear hfz17_2
           try clear hfz17_3
           try clear hfz17_4
           try clear hfz17_5
           try clear hfz18_0
           try clear hfz18_1
           try clear hfz18_2
           try clear hfz18_3
           try clear hfz18_4
           try clear hfz18_5
           try clear hfz5_0
           try clear hfz5_1
           try clear hfz5_2
           try clear hfz5_3
           try clear hfz5_4
           try clear hfz5_5
           try clear hfz9_0
           try clear hfz9_1
           try clear hfz9_2
           try clear hfz9_3
           try clear hfz9_4
           try clear hfz9_5
           try clear hx102_0
           try clear hx102_1
           try clear hx102_2
           try clear hx103_0
           try clear hx103_1
           try clear p1
           try clear p10
           try clear p102
           try clear p103
           try clear p2
           try clear p6
           try clear q1
           try clear q10
           try clear q102
           try clear q103
           obtain ⟨x5_3, x8_3, rfl, rfl, HA, HK3, BK101, HB⟩ := hrel
           cases gk with
           | zero => exact absurd HA.out (by simp [rf6Weigh.l2])
           | succ k3 =>
             have H := HA.out
             clear HA
             simp only [rf6Weigh.l2] at H
             by_cases c19 : x8_3 < (l0_5.length : Int)
             · rw [if_pos c19] at H
               have c19b0 : decide (x8_3 < (l0_5.length : Int)) = true := decide_eq_true c19
               clear c19
               by_cases c20 : x5_3 ≤ a1
               · rw [if_pos c20] at H
                 have c20b0 : decide (x5_3 ≤ a1) = true := decide_eq_true c20
                 clear c20
                 by_cases c21 : 0 ≤ x8_3
                 · rw [if_pos c21] at H
                   have c21b0 : decide (0 ≤ x8_3) = true := decide_eq_true c21
                   clear c21
                   replace H := Option.bind_eq_some_iff.mp H
                   obtain ⟨t105, A220, H⟩ := H
                   replace H : (rf6Weigh.l2 k3 a1 (wrap64 (x5_3 + t105)) (wrap64 (x8_3 + 1)) a0_0 a0_1 a0_2 l0_3 l0_4 l0_5) = some r := H
                   have A22 := Aside0.mk A220
                   clear A220
                   have H' := Aside0.mk H
                   clear H
                   have hcz23_0 : wr.cell? ⟨gb101, 0, none⟩ = some (.int .i64 a0_0) := (bCl BK101.out 0).trans rfl
                   have hcz23_1 : wr.cell? ⟨gb101, 1, none⟩ = some (.string a0_1) := (bCl BK101.out 1).trans rfl
                   have hcz23_2 : wr.cell? ⟨gb101, 2, none⟩ = some (.int .i64 a0_2) := (bCl BK101.out 2).trans rfl
                   have hcz23_3 : wr.cell? ⟨gb101, 3, none⟩ = some (.slice A0_3 l0_3.length c0_3) := (bCl BK101.out 3).trans rfl
                   have hcz23_4 : wr.cell? ⟨gb101, 4, none⟩ = some (.slice A0_4 l0_4.length c0_4) := (bCl BK101.out 4).trans rfl
                   have hcz23_5 : wr.cell? ⟨gb101, 5, none⟩ = some (.slice A0_5 l0_5.length c0_5) := (bCl BK101.out 5).trans rfl
                   have hfz23_0 := bFz BK101.out 0
                   have hfz23_1 := bFz BK101.out 1
                   have hfz23_2 := bFz BK101.out 2
                   have hfz23_3 := bFz BK101.out 3
                   have hfz23_4 := bFz BK101.out 4
                   have hfz23_5 := bFz BK101.out 5
                   have p104 : 0 ≤ (x8_3 : Int) := of_decide_eq_true (by first | (with_reducible assumption) | assumption)
                   have q104 : x8_3 < (l0_5.length : Int) := of_decide_eq_true (by first | (with_reducible assumption) | assumption)
                   obtain ⟨ad104, A104_3, c104_3, A104_4, c104_4, A104_5, c104_5, e104, hx104_0, hx104_1, hx104_2, hx104_3, hx104_4, hx104_5, hl104_3, hi104_3, hl104_4, hi104_4, hl104_5, hi104_5⟩ := at_T26 HR0_5.out x8_3 p104 q104
                   cases e104
                   replace hx104_0 := (HB.out.cell (World.block_lt_of_cell? w _ hx104_0)).trans hx104_0
                   replace hx104_1 := (HB.out.cell (World.block_lt_of_cell? w _ hx104_1)).trans hx104_1
                   replace hx104_2 := (HB.out.cell (World.block_lt_of_cell? w _ hx104_2)).trans hx104_2
                   replace hx104_3 := (HB.out.cell (World.block_lt_of_cell? w _ hx104_3)).trans hx104_3
                   replace hx104_4 := (HB.out.cell (World.block_lt_of_cell? w _ hx104_4)).trans hx104_4
                   replace hx104_5 := (HB.out.cell (World.block_lt_of_cell? w _ hx104_5)).trans hx104_5
                   have HR104_3 := Aside0.mk hi104_3
                   have HC104_3 := Aside0.mk hl104_3
                   clear hi104_3 hl104_3
                   have HR104_4 := Aside0.mk hi104_4
                   have HC104_4 := Aside0.mk hl104_4
                   clear hi104_4 hl104_4
                   have HR104_5 := Aside0.mk hi104_5
                   have HC104_5 := Aside0.mk hl104_5
                   clear hi104_5 hl104_5
                   replace p104 := eq_true p104
                   replace q104 := eq_true q104
                   go_wp2_with (first | ((with_reducible refine gate_callee (f := 51) rfl ?_); refine goesL_ (some 82) rfl rfl Tryd.func51 (by kernel_rfl) rfl #[.agg #[.int .i64 ((rd_T26 l0_5 x8_3).f0), .string ((rd_T26 l0_5 x8_3).f1), .int .i64 ((rd_T26 l0_5 x8_3).f2), .slice A104_3 ((rd_T26 l0_5 x8_3).f3).length c104_3, .slice A104_4 ((rd_T26 l0_5 x8_3).f4).length c104_4, .slice A104_5 ((rd_T26 l0_5 x8_3).f5).length c104_5], .int .i64 a1] rfl (by (try simp only [List.map_toArray, List.map_cons, List.map_nil]); first | done | rfl | (simp only [List.length_drop, List.length_take]; rfl)) ?_; (with_reducible refine (ih k3 (by have := HJ2.out; have := HJ11.out; have := HK3.out; omega) ((rd_T26 l0_5 x8_3).f0) ((rd_T26 l0_5 x8_3).f1) ((rd_T26 l0_5 x8_3).f2) _ _ ((rd_T26 l0_5 x8_3).f3) _ _ ((rd_T26 l0_5 x8_3).f4) _ _ ((rd_T26 l0_5 x8_3).f5) a1 t105 _ ?side1 ?side2 ?side3 ?side4 ?side5 ?side6 A22.out).mono ?_); (case side1 => repeat (first | exact (Kd.C_below HR104_3.out HB.out) | (with_reducible refine Kd.C_alloc ?_ _) | (with_reducible refine Kd.C_drewN ?_ _) | (with_reducible refine Kd.C_drew ?_))); (case side2 => exact HC104_3.out); (case side3 => repeat (first | exact (Kd.C_below HR104_4.out HB.out) | (with_reducible refine Kd.C_alloc ?_ _) | (with_reducible refine Kd.C_drewN ?_ _) | (with_reducible refine Kd.C_drew ?_))); (case side4 => exact HC104_4.out); (case side5 => repeat (first | exact (Kd.C_below HR104_5.out HB.out) | (with_reducible refine Kd.C_alloc ?_ _) | (with_reducible refine Kd.C_drewN ?_ _) | (with_reducible refine Kd.C_drew ?_))); (case side6 => exact HC104_5.out); rintro e w24 ⟨rfl, hb⟩; refine ⟨_, rfl, ?_⟩; have n0_ := Aside0.mk (blk_below (g := gb101) (o := .cells #[.int .i64 a0_0, .string a0_1, .int .i64 a0_2, .slice A0_3 l0_3.length c0_3, .slice A0_4 l0_4.length c0_4, .slice (some ad104) l0_5.length c0_5] 26 (0, 0)) (by (with_reducible repeat (first | refine blk_drewN ?_ _ | refine blk_drew ?_ | refine blk_alloc ?_ _)); exact BK101.out) hb); have n1_ := Aside0.mk (below_step (by repeat (first | (with_reducible first | exact HB.out | apply bAl | apply pwDN | apply bD1 | refine bSt ?_ GE101.out) | exact HB.out)) hb); clear BK101; clear HB; have BK101 := n0_; have HB := n1_; clear n0_ n1_; (try clear hb); (try clear hb2); (try clear hk); (try clear hi)))
                   go_roundg k3
                   case measure => have := HJ2.out; have := HJ11.out; have := HK3.out; omega
                   case rel => exact ⟨(wrap64 (x5_3 + t105)), (wrap64 (x8_3 + 1)), (by first | rfl | (simp; done) | (simp [*]; done)), (by first | rfl | (simp; done) | (simp [*]; done)), H', ⟨by have := HJ2.out; have := HJ11.out; have := HK3.out; omega⟩, ⟨by (with_reducible repeat (first | refine blk_drewN ?_ _ | refine blk_drew ?_ | refine blk_alloc ?_ _)); exact BK101.out⟩, ⟨by repeat (first | (with_reducible first | exact HB.out | apply bAl | apply pwDN | apply bD1 | refine bSt ?_ GE101.out) | exact HB.out)⟩⟩
                 · rw [if_neg c21] at H
                   exact absurd H (by simp)
               · rw [if_neg c20] at H
                 have c20b0 : decide (x5_3 ≤ a1) = false := decide_eq_false c20
                 clear c20
                 obtain rfl := Option.some.inj H
                 have hcz25_0 : wr.cell? ⟨gb101, 0, none⟩ = some (.int .i64 a0_0) := (bCl BK101.out 0).trans rfl
                 have hcz25_1 : wr.cell? ⟨gb101, 1, none⟩ = some (.string a0_1) := (bCl BK101.out 1).trans rfl
                 have hcz25_2 : wr.cell? ⟨gb101, 2, none⟩ = some (.int .i64 a0_2) := (bCl BK101.out 2).trans rfl
                 have hcz25_3 : wr.cell? ⟨gb101, 3, none⟩ = some (.slice A0_3 l0_3.length c0_3) := (bCl BK101.out 3).trans rfl
                 have hcz25_4 : wr.cell? ⟨gb101, 4, none⟩ = some (.slice A0_4 l0_4.length c0_4) := (bCl BK101.out 4).trans rfl
                 have hcz25_5 : wr.cell? ⟨gb101, 5, none⟩ = some (.slice A0_5 l0_5.length c0_5) := (bCl BK101.out 5).trans rfl
                 have hfz25_0 := bFz BK101.out 0
                 have hfz25_1 := bFz BK101.out 1
                 have hfz25_2 := bFz BK101.out 2
                 have hfz25_3 := bFz BK101.out 3
                 have hfz25_4 := bFz BK101.out 4
                 have hfz25_5 := bFz BK101.out 5
                 go_wp2
                 go_ret
                 exact ⟨by first | rfl | (simp [errW_none, errW_some] <;> rfl) | (simp [*, errW_none, errW_some] <;> rfl), by repeat (first | (with_reducible first | exact HB.out | apply bAl | apply pwDN | apply bD1 | refine bSt ?_ GE101.out) | exact HB.out)⟩
             · rw [if_neg c19] at H
               have c19b0 : decide (x8_3 < (l0_5.length : Int)) = false := decide_eq_false c19
               clear c19
               obtain rfl := Option.some.inj H
               have hcz26_0 : wr.cell? ⟨gb101, 0, none⟩ = some (.int .i64 a0_0) := (bCl BK101.out 0).trans rfl
               have hcz26_1 : wr.cell? ⟨gb101, 1, none⟩ = some (.string a0_1) := (bCl BK101.out 1).trans rfl
               have hcz26_2 : wr.cell? ⟨gb101, 2, none⟩ = some (.int .i64 a0_2) := (bCl BK101.out 2).trans rfl
               have hcz26_3 : wr.cell? ⟨gb101, 3, none⟩ = some (.slice A0_3 l0_3.length c0_3) := (bCl BK101.out 3).trans rfl
               have hcz26_4 : wr.cell? ⟨gb101, 4, none⟩ = some (.slice A0_4 l0_4.length c0_4) := (bCl BK101.out 4).trans rfl
               have hcz26_5 : wr.cell? ⟨gb101, 5, none⟩ = some (.slice A0_5 l0_5.length c0_5) := (bCl BK101.out 5).trans rfl
               have hfz26_0 := bFz BK101.out 0
               have hfz26_1 := bFz BK101.out 1
               have hfz26_2 := bFz BK101.out 2
               have hfz26_3 := bFz BK101.out 3
               have hfz26_4 := bFz BK101.out 4
               have hfz26_5 := bFz BK101.out 5
               go_wp2
               go_ret
               exact ⟨by first | rfl | (simp [errW_none, errW_some] <;> rfl) | (simp [*, errW_none, errW_some] <;> rfl), by repeat (first | (with_reducible first | exact HB.out | apply bAl | apply pwDN | apply bD1 | refine bSt ?_ GE101.out) | exact HB.out)⟩
def rf6Few.f (k : Nat) (a0_0 : Int) (a0_1 : ByteArray) (a0_2 : Int) (l0_3 : List (S47)) (l0_4 : List (S42)) (l0_5 : List (S26)) : Option (Bool) := (rf6Weigh.f k a0_0 a0_1 a0_2 l0_3 l0_4 l0_5 3000).bind fun t107 => (some (decide (t107 ≤ 3000)))
set_option maxHeartbeats 8000000 in
set_option maxRecDepth 100000 in
theorem rf6Few.calls (k : Nat) (a0_0 : Int) (a0_1 : ByteArray) (a0_2 : Int) (A0_3 : Option Addr) (c0_3 : Nat) (l0_3 : List (S47)) (A0_4 : Option Addr) (c0_4 : Nat) (l0_4 : List (S42)) (A0_5 : Option Addr) (c0_5 : Nat) (l0_5 : List (S26)) (r : Bool) (w : World) (hr0_3 : Kd.C k47 w A0_3 l0_3.length l0_3) (hc0_3 : l0_3.length ≤ c0_3) (hr0_4 : Kd.C k42 w A0_4 l0_4.length l0_4) (hc0_4 : l0_4.length ≤ c0_4) (hr0_5 : Kd.C k26 w A0_5 l0_5.length l0_5) (hc0_5 : l0_5.length ≤ c0_5) (h : rf6Few.f k a0_0 a0_1 a0_2 l0_3 l0_4 l0_5 = some r) :
   Calls Tryd.prog 21 #[.agg #[.int .i64 a0_0, .string a0_1, .int .i64 a0_2, .slice A0_3 l0_3.length c0_3, .slice A0_4 l0_4.length c0_4, .slice A0_5 l0_5.length c0_5]] w fun e w' => e = .returned (.bool r) ∧ Below w.heap.size w w' := by
 have hu26 := Tryd.underlying26
 have HR0_3 := Aside0.mk hr0_3
 have HC0_3 := Aside0.mk hc0_3
 clear hr0_3 hc0_3
 have HR0_4 := Aside0.mk hr0_4
 have HC0_4 := Aside0.mk hc0_4
 clear hr0_4 hc0_4
 have HR0_5 := Aside0.mk hr0_5
 have HC0_5 := Aside0.mk hc0_5
 clear hr0_5 hc0_5
 have HB := Aside0.mk (Below.refl w.heap.size w)
 have H : ((rf6Weigh.f k a0_0 a0_1 a0_2 l0_3 l0_4 l0_5 3000).bind fun t107 => (some (decide (t107 ≤ 3000)))) = some r := h
 clear h
 replace H := Option.bind_eq_some_iff.mp H
 obtain ⟨t107, A20, H⟩ := H
 replace H : (some (decide (t107 ≤ 3000))) = some r := H
 have A2 := Aside0.mk A20
 clear A20
 obtain rfl := Option.some.inj H
 go_enter Tryd.func21, Tryd.ntmps21
 go_wp2_with (first | ((with_reducible refine gate_dst (N := 1) rfl ?_); refine box_event ?hg (N := 1) ?hd (cs := #[.int .i64 a0_0, .string a0_1, .int .i64 a0_2, .slice A0_3 l0_3.length c0_3, .slice A0_4 l0_4.length c0_4, .slice A0_5 l0_5.length c0_5]) (t := 26) ?hr ?_; (case hd => rfl); (case hg => rfl); (case hr => first | (go_simp; done) | (go_simp; rfl)); intro gb106 hg w3 hbox hb; have n0_ := Aside0.mk (below_step (by repeat (first | (with_reducible first | exact HB.out | apply bAl | apply pwDN | apply bD1) | exact HB.out)) hb); have n1_ := Aside0.mk (hbox); have n2_ := Aside0.mk ((by rw [hg]; exact (below_size (by repeat (first | (with_reducible first | exact HB.out | apply bAl | apply pwDN | apply bD1) | exact HB.out))) : w.heap.size ≤ gb106)); have n3_ := Aside0.mk ((by rw [hg]; exact (below_size (by repeat (first | (with_reducible first | exact HB.out | apply bAl | apply pwDN | apply bD1) | exact HB.out))) : w.heap.size ≤ gb106)); clear HB; have HB := n0_; have BK106 := n1_; have GW106 := n2_; have GE106 := n3_; clear n0_ n1_ n2_ n3_; clear hb hbox hg; have hcz4_0 : w3.cell? ⟨gb106, 0, none⟩ = some (.int .i64 a0_0) := (bCl BK106.out 0).trans rfl; have hcz4_1 : w3.cell? ⟨gb106, 1, none⟩ = some (.string a0_1) := (bCl BK106.out 1).trans rfl; have hcz4_2 : w3.cell? ⟨gb106, 2, none⟩ = some (.int .i64 a0_2) := (bCl BK106.out 2).trans rfl; have hcz4_3 : w3.cell? ⟨gb106, 3, none⟩ = some (.slice A0_3 l0_3.length c0_3) := (bCl BK106.out 3).trans rfl; have hcz4_4 : w3.cell? ⟨gb106, 4, none⟩ = some (.slice A0_4 l0_4.length c0_4) := (bCl BK106.out 4).trans rfl; have hcz4_5 : w3.cell? ⟨gb106, 5, none⟩ = some (.slice A0_5 l0_5.length c0_5) := (bCl BK106.out 5).trans rfl; have hfz4_0 := bFz BK106.out 0; have hfz4_1 := bFz BK106.out 1; have hfz4_2 := bFz BK106.out 2; have hfz4_3 := bFz BK106.out 3; have hfz4_4 := bFz BK106.out 4; have hfz4_5 := bFz BK106.out 5) | ((with_reducible refine gate_callee (f := 51) rfl ?_); refine goesL_ (some 4) rfl rfl Tryd.func51 (by kernel_rfl) rfl #[.agg #[.int .i64 a0_0, .string a0_1, .int .i64 a0_2, .slice A0_3 l0_3.length c0_3, .slice A0_4 l0_4.length c0_4, .slice A0_5 l0_5.length c0_5], .int .i64 3000] rfl (by (try simp only [List.map_toArray, List.map_cons, List.map_nil]); first | done | rfl | (simp only [List.length_drop, List.length_take]; rfl)) ?_; (with_reducible refine (rf6Weigh.calls k a0_0 a0_1 a0_2 _ _ l0_3 _ _ l0_4 _ _ l0_5 3000 t107 _ ?side1 ?side2 ?side3 ?side4 ?side5 ?side6 A2.out).mono ?_); (case side1 => repeat (first | exact (Kd.C_below HR0_3.out HB.out) | (with_reducible refine Kd.C_alloc ?_ _) | (with_reducible refine Kd.C_drewN ?_ _) | (with_reducible refine Kd.C_drew ?_))); (case side2 => exact HC0_3.out); (case side3 => repeat (first | exact (Kd.C_below HR0_4.out HB.out) | (with_reducible refine Kd.C_alloc ?_ _) | (with_reducible refine Kd.C_drewN ?_ _) | (with_reducible refine Kd.C_drew ?_))); (case side4 => exact HC0_4.out); (case side5 => repeat (first | exact (Kd.C_below HR0_5.out HB.out) | (with_reducible refine Kd.C_alloc ?_ _) | (with_reducible refine Kd.C_drewN ?_ _) | (with_reducible refine Kd.C_drew ?_))); (case side6 => exact HC0_5.out); rintro e w5 ⟨rfl, hb⟩; refine ⟨_, rfl, ?_⟩; have n0_ := Aside0.mk (blk_below (g := gb106) (o := .cells #[.int .i64 a0_0, .string a0_1, .int .i64 a0_2, .slice A0_3 l0_3.length c0_3, .slice A0_4 l0_4.length c0_4, .slice A0_5 l0_5.length c0_5] 26 (0, 0)) (by (with_reducible repeat (first | refine blk_drewN ?_ _ | refine blk_drew ?_ | refine blk_alloc ?_ _)); exact BK106.out) hb); have n1_ := Aside0.mk (below_step (by repeat (first | (with_reducible first | exact HB.out | apply bAl | apply pwDN | apply bD1 | refine bSt ?_ GE106.out) | exact HB.out)) hb); clear BK106; clear HB; have BK106 := n0_; have HB := n1_; clear n0_ n1_; (try clear hb); (try clear hb2); (try clear hk); (try clear hi)))
 go_ret
 exact ⟨by first | rfl | (simp [errW_none, errW_some] <;> rfl) | (simp [*, errW_none, errW_some] <;> rfl), by repeat (first | (with_reducible first | exact HB.out | apply bAl | apply pwDN | apply bD1 | refine bSt ?_ GE106.out) | exact HB.out)⟩
end Go.Proofs.YtmlcaecknocpoaaDoor.Pr
namespace Go.Proofs.YtmlcaecknocpoaaDoor.It
set_option linter.unusedVariables false
set_option linter.unusedSimpArgs false
open Go Go.RowKit Go.Shelf Go.Proofs.YtmlcaecknocpoaaDoorW.PrintWords Go.Proofs.YtmlcaecknocpoaaDoorW.PrintLast Go.Proofs.YtmlcaecknocpoaaDoor.Pr Go.Proofs.YtmlcaecknocpoaaDoor.Sp
theorem drop_rd42 (l : List S42) (j : Nat) (h : j < l.length) : l.drop j = rd_T42 l j :: l.drop (j + 1) := by
 rw [List.drop_eq_getElem_cons h]
 simp [rd_T42, List.getD, h]
theorem weigh_ev (s : Nat) (b : Int) : ∀ x : S26, size x ≤ s → size x ≤ 4611686018427387904 → NmOk x → ∃ r : Int, Ev (fun k => rf6Weigh.f k x.f0 x.f1 x.f2 x.f3 x.f4 x.f5 b) r := by
 induction s with
 | zero => intro x h; rw [size_eq] at h; omega
 | succ s ih =>
   rintro ⟨k, nm, n, ts, bs, l⟩ hs hb hn
   simp only [size] at hs hb
   have hlen := len_sizes l
   have hln := hn.self.2.2
   dsimp only at hln
   have l2 : ∀ d j : Nat, j + d = l.length → ∀ a : Int, ∃ r, Ev (fun K => rf6Weigh.l2 K b a (j : Int) k nm n ts bs l) r := by
     intro d
     induction d with
     | zero =>
       intro j hj a
       refine ⟨a, Ev.step (f := fun _ => some a) (fun K => ?_) (Ev.now _)⟩
       simp only [rf6Weigh.l2]
       rw [if_neg (by omega)]
     | succ d ihd =>
       intro j hj a
       have hlt : j < l.length := by omega
       have hc := size_child l j hlt
       by_cases hle : a ≤ b
       · obtain ⟨r1, h1⟩ := ih (rd_T26 l j) (by omega) (by omega) (hn.child j hlt)
         obtain ⟨r2, h2⟩ := ihd (j + 1) (by omega) (wrap64 (a + r1))
         refine ⟨r2, Ev.step (f := fun K => (rf6Weigh.f K (rd_T26 l (j : Int)).f0 (rd_T26 l (j : Int)).f1 (rd_T26 l (j : Int)).f2 (rd_T26 l (j : Int)).f3 (rd_T26 l (j : Int)).f4 (rd_T26 l (j : Int)).f5 b).bind fun t => rf6Weigh.l2 K b (wrap64 (a + t)) ((j + 1 : Nat) : Int) k nm n ts bs l) (fun K => ?_) (Ev.bind h1 h2)⟩
         simp only [rf6Weigh.l2]
         rw [if_pos (by omega), if_pos hle, if_pos (by omega), wrap_one j (by omega)]
       · refine ⟨a, Ev.step (f := fun _ => some a) (fun K => ?_) (Ev.now _)⟩
         simp only [rf6Weigh.l2]
         rw [if_pos (by omega), if_neg hle]
   have j3 : ∀ a : Int, ∃ r, Ev (fun K => rf6Weigh.j3 K b a k nm n ts bs l) r := fun a => by
     obtain ⟨r, h⟩ := l2 l.length 0 (by omega) a
     exact ⟨r, Ev.step (f := fun K => rf6Weigh.l2 K b a 0 k nm n ts bs l) (fun K => rfl) h⟩
   have l1 : ∀ d j : Nat, j + d = bs.length → ∀ a : Int, ∃ r, Ev (fun K => rf6Weigh.l1 K b a (j : Int) k nm n ts bs l) r := by
     intro d
     induction d with
     | zero =>
       intro j hj a
       obtain ⟨r, h⟩ := j3 a
       refine ⟨r, Ev.step (f := fun K => rf6Weigh.j3 K b a k nm n ts bs l) (fun K => ?_) h⟩
       simp only [rf6Weigh.l1]
       rw [if_neg (by omega)]
     | succ d ihd =>
       intro j hj a
       by_cases hle : a ≤ b
       · obtain ⟨r, h⟩ := ihd (j + 1) (by omega) (wrap64 (a + ((rd_T42 bs (j : Int)).f0.size : Int)))
         refine ⟨r, Ev.step (f := fun K => rf6Weigh.l1 K b (wrap64 (a + ((rd_T42 bs (j : Int)).f0.size : Int))) ((j + 1 : Nat) : Int) k nm n ts bs l) (fun K => ?_) h⟩
         simp only [rf6Weigh.l1]
         rw [if_pos (by omega), if_pos hle, if_pos (by omega), wrap_one j (by omega)]
       · obtain ⟨r, h⟩ := j3 a
         refine ⟨r, Ev.step (f := fun K => rf6Weigh.j3 K b a k nm n ts bs l) (fun K => ?_) h⟩
         simp only [rf6Weigh.l1]
         rw [if_pos (by omega), if_neg hle]
   have j1 : ∀ a : Int, ∃ r, Ev (fun K => rf6Weigh.j1 K b a k nm n ts bs l) r := fun a => by
     obtain ⟨r, h⟩ := l1 bs.length 0 (by omega) a
     exact ⟨r, Ev.step (f := fun K => rf6Weigh.l1 K b a 0 k nm n ts bs l) (fun K => rfl) h⟩
   have l0 : ∀ d j : Nat, j + d = ts.length → ∀ a : Int, ∃ r, Ev (fun K => rf6Weigh.l0 K b a (j : Int) k nm n ts bs l) r := by
     intro d
     induction d with
     | zero =>
       intro j hj a
       obtain ⟨r, h⟩ := j1 a
       refine ⟨r, Ev.step (f := fun K => rf6Weigh.j1 K b a k nm n ts bs l) (fun K => ?_) h⟩
       simp only [rf6Weigh.l0]
       rw [if_neg (by omega)]
     | succ d ihd =>
       intro j hj a
       by_cases hle : a ≤ b
       · obtain ⟨r, h⟩ := ihd (j + 1) (by omega) (wrap64 (a + ((rd_T47 ts (j : Int)).f1.size : Int)))
         refine ⟨r, Ev.step (f := fun K => rf6Weigh.l0 K b (wrap64 (a + ((rd_T47 ts (j : Int)).f1.size : Int))) ((j + 1 : Nat) : Int) k nm n ts bs l) (fun K => ?_) h⟩
         simp only [rf6Weigh.l0]
         rw [if_pos (by omega), if_pos hle, if_pos (by omega), wrap_one j (by omega)]
       · obtain ⟨r, h⟩ := j1 a
         refine ⟨r, Ev.step (f := fun K => rf6Weigh.j1 K b a k nm n ts bs l) (fun K => ?_) h⟩
         simp only [rf6Weigh.l0]
         rw [if_pos (by omega), if_neg hle]
   obtain ⟨r, h⟩ := l0 ts.length 0 (by omega) (wrap64 (wrap64 (wrap64 (1 + (nm.size : Int)) + (ts.length : Int)) + (bs.length : Int)))
   exact ⟨r, Ev.step (f := fun K => rf6Weigh.l0 K b (wrap64 (wrap64 (wrap64 (1 + (nm.size : Int)) + (ts.length : Int)) + (bs.length : Int))) 0 k nm n ts bs l) (fun K => rfl) h⟩
theorem few_ev (x : S26) (hs : size x ≤ 4611686018427387904) (hn : NmOk x) : ∃ r : Bool, Ev (fun k => rf6Few.f k x.f0 x.f1 x.f2 x.f3 x.f4 x.f5) r := by
 obtain ⟨r, h⟩ := weigh_ev (size x) 3000 x (Nat.le_refl _) hs hn
 exact ⟨decide (r ≤ 3000), Ev.bind h (Ev.now _)⟩
end Go.Proofs.YtmlcaecknocpoaaDoor.It
namespace Go.Proofs.YtmlcaecknocpoaaDoor.It
open Go Go.RowKit Go.Shelf Go.Proofs.YtmlcaecknocpoaaDoorW.PrintWords Go.Proofs.YtmlcaecknocpoaaDoorW.PrintLast Go.Proofs.YtmlcaecknocpoaaDoor.Pr Go.Proofs.YtmlcaecknocpoaaDoor.Sp
attribute [local go_sem ↓] Go.wp_at_zero Go.wp_at_succ
theorem row_one {w : World} {B : Nat} {y : S26} {D3 : Option Addr} {f3 : Nat} {D4 : Option Addr} {f4 : Nat} {D5 : Option Addr} {f5 : Nat} (hB : w.heap[B]? = some (.cells #[.int .i64 y.f0, .string y.f1, .int .i64 y.f2, .slice D3 y.f3.length f3, .slice D4 y.f4.length f4, .slice D5 y.f5.length f5] 26 (0, 0))) (hat : At w y D3 f3 D4 f4 D5 f5) :
   Kd.C k26 w (some ⟨B, 0, none⟩) [y].length [y] := by
 refine ⟨rfl, by simp, fun _ => ⟨⟨B, 0, none⟩, rfl, fun j p hj => ?_⟩⟩
 cases j with
 | zero =>
   obtain rfl : y = p := by simpa using hj
   refine ⟨_, rfl, hat.K, fun i u hu => ?_⟩
   have := World.news_of_block hB i u (by simpa [cl] using hu)
   simpa using this
 | succ j => simp at hj
end Go.Proofs.YtmlcaecknocpoaaDoor.It
namespace Go.Proofs.YtmlcaecknocpoaaDoor.It
set_option linter.unusedVariables false
set_option linter.unusedSimpArgs false
open Go Go.RowKit Go.Shelf Go.Proofs.YtmlcaecknocpoaaDoorW.PrintWords Go.Proofs.YtmlcaecknocpoaaDoorW.PrintLast Go.Proofs.YtmlcaecknocpoaaDoor.Pr Go.Proofs.YtmlcaecknocpoaaDoor.Sp
attribute [local go_sem ↓] Go.wp_at_zero Go.wp_at_succ
def Ans (w0 W : World) (R : S26) (e : Ending) (w' : World) : Prop := ∃ B3 d3 B4 d4 B5 d5,
   e = .returned (.agg #[.int .i64 R.f0, .string R.f1, .int .i64 R.f2, .slice B3 R.f3.length d3, .slice B4 R.f4.length d4, .slice B5 R.f5.length d5]) ∧ Below W.heap.size W w' ∧ Lies (fun k => k < w0.heap.size ∨ W.heap.size ≤ k) w' R B3 d3 B4 d4 B5 d5
theorem Ans.leaf {w0 W w : World} {B : Nat} {k1 : Int} (h : Below W.heap.size W w) (hB : W.heap.size ≤ B) (hsz : B < w.heap.size) : Ans w0 W (leaf k1) (.returned (.agg #[.int .i64 k1, .string ⟨#[]⟩, .int .i64 0, .slice none 0 0, .slice none 0 0, .slice none 0 0])) ((((((w.setCell ⟨B, 0, none⟩ (.int .i64 k1)).setCell ⟨B, 1, none⟩ (.string ⟨#[]⟩)).setCell ⟨B, 2, none⟩ (.int .i64 0)).setCell ⟨B, 3, none⟩ (.slice none 0 0)).setCell ⟨B, 4, none⟩ (.slice none 0 0)).setCell ⟨B, 5, none⟩ (.slice none 0 0)) :=
 ⟨none, 0, none, 0, none, 0, rfl, h.trans ((Agree.six _ _ _ _ _ _ _ _ (fun i => i < W.heap.size) (fun i hi => by omega)).low (fun _ h => h) (by have := h.size; omega)), fun w1 _ => leaf_at w1 _⟩
theorem Ans.laid {w0 W w : World} {B : Nat} {R : S26} (B3 : Option Addr) (d3 : Nat) (B4 : Option Addr) (d4 : Nat) (B5 : Option Addr) (d5 : Nat) (hw : w0.heap.size ≤ W.heap.size) (h : Below W.heap.size W w) (hB : W.heap.size ≤ B) (m : Nat) (hm : W.heap.size ≤ m) (hBm : B < m) (hl : Lies (fun i => i < w0.heap.size ∨ m ≤ i) w R B3 d3 B4 d4 B5 d5) :
   Ans w0 W R (.returned (.agg #[.int .i64 R.f0, .string R.f1, .int .i64 R.f2, .slice B3 R.f3.length d3, .slice B4 R.f4.length d4, .slice B5 R.f5.length d5])) ((((((w.setCell ⟨B, 0, none⟩ (.int .i64 R.f0)).setCell ⟨B, 1, none⟩ (.string R.f1)).setCell ⟨B, 2, none⟩ (.int .i64 R.f2)).setCell ⟨B, 3, none⟩ (.slice B3 R.f3.length d3)).setCell ⟨B, 4, none⟩ (.slice B4 R.f4.length d4)).setCell ⟨B, 5, none⟩ (.slice B5 R.f5.length d5)) :=
 ⟨B3, d3, B4, d4, B5, d5, rfl, h.trans ((Agree.six _ _ _ _ _ _ _ _ (fun i => i < W.heap.size) (fun i hi => by omega)).low (fun _ h => h) (by have := h.size; omega)), hl.move (Agree.six _ _ _ _ _ _ _ _ _ (fun i hi => by omega)) (fun i hi _ => by omega)⟩
theorem Lies.step {w0 w3 w4 : World} {y : S26} {B3 : Option Addr} {d3 : Nat} {B4 : Option Addr} {d4 : Nat} {B5 : Option Addr} {d5 : Nat} {m n : Nat} (l : Lies (fun i => i < w0.heap.size ∨ m ≤ i) w3 y B3 d3 B4 d4 B5 d5) (g : Below w3.heap.size w3 w4) (hm : n ≤ m) :
   Lies (fun i => i < w0.heap.size ∨ n ≤ i) w4 y B3 d3 B4 d4 B5 d5 := l.move (Agree.of_below g (fun _ _ h => h)) (fun i hi _ => by omega)
end Go.Proofs.YtmlcaecknocpoaaDoor.It
namespace Go.Proofs.YtmlcaecknocpoaaDoor.Pr
open Go.RowKit Go.Proofs.YtmlcaecknocpoaaDoorW.PrintWords Go.Proofs.YtmlcaecknocpoaaDoorW.PrintLast Go.Proofs.YtmlcaecknocpoaaDoorW.PrintMore
attribute [local go_sem] max2_int min2_int max_two min_two max_three min_three max_four min_four   
set_option linter.unusedVariables false
set_option linter.unusedSimpArgs false
end Go.Proofs.YtmlcaecknocpoaaDoor.Pr
namespace Go.Proofs.YtmlcaecknocpoaaDoor.It
set_option linter.unusedVariables false
set_option linter.unusedSimpArgs false
open Go Go.RowKit Go.Shelf Go.Proofs.YtmlcaecknocpoaaDoorW.PrintWords Go.Proofs.YtmlcaecknocpoaaDoorW.PrintLast Go.Proofs.YtmlcaecknocpoaaDoor.Pr Go.Proofs.YtmlcaecknocpoaaDoor.Sp
attribute [local go_sem ↓] Go.wp_at_zero Go.wp_at_succ
structure BoxF (w : World) (B : Nat) (x : S26) (A3 : Option Addr) (c3 : Nat) (A4 : Option Addr) (c4 : Nat) (A5 : Option Addr) (c5 : Nat) : Prop where
 blk : w.heap[B]? = some (.cells #[.int .i64 x.f0, .string x.f1, .int .i64 x.f2, .slice A3 x.f3.length c3, .slice A4 x.f4.length c4, .slice A5 x.f5.length c5] 26 (0, 0))
 at_ : At w x A3 c3 A4 c4 A5 c5
theorem BoxF.below {w w1 : World} {B : Nat} {x : S26} {A3 : Option Addr} {c3 : Nat} {A4 : Option Addr} {c4 : Nat} {A5 : Option Addr} {c5 : Nat} (h : BoxF w B x A3 c3 A4 c4 A5 c5) (hb : Below w.heap.size w w1) : BoxF w1 B x A3 c3 A4 c4 A5 c5 := ⟨blk_below hb h.blk, h.at_.below hb⟩
theorem row_terms2 {w : World} {B : Nat} {t u : S47} (hB : w.heap[B]? = some (.cells #[.int .i64 t.f0, .string t.f1, .int .i64 t.f2, .int .i64 u.f0, .string u.f1, .int .i64 u.f2] 47 (0, 0))) : Kd.C k47 w (some ⟨B, 0, none⟩) 2 [t, u] := by
 refine ⟨rfl, by omega, fun _ => ⟨⟨B, 0, none⟩, rfl, fun j p hj => ?_⟩⟩
 have hn := World.news_of_block hB
 cases j with
 | zero =>
   obtain rfl : t = p := by simpa using hj
   refine ⟨_, rfl, k47_mk w t, fun i v hv => ?_⟩
   rw [Nat.zero_mul, Nat.zero_add]
   refine hn i v ?_
   match i, hv with
   | 0, hv => exact hv
   | 1, hv => exact hv
   | 2, hv => exact hv
   | i + 3, hv => simp at hv
 | succ j =>
   cases j with
   | zero =>
     obtain rfl : u = p := by simpa using hj
     refine ⟨_, rfl, k47_mk w u, fun i v hv => ?_⟩
     refine hn (1 * 3 + i) v ?_
     match i, hv with
     | 0, hv => exact hv
     | 1, hv => exact hv
     | 2, hv => exact hv
     | i + 3, hv => simp at hv
   | succ j => simp at hj
theorem row_bind1 {w : World} {B : Nat} {t : S42} (hB : w.heap[B]? = some (.cells #[.string t.f0, .int .i64 t.f1] 42 (0, 0))) : Kd.C k42 w (some ⟨B, 0, none⟩) 1 [t] := by
 refine ⟨rfl, by omega, fun _ => ⟨⟨B, 0, none⟩, rfl, fun j p hj => ?_⟩⟩
 have hn := World.news_of_block hB
 cases j with
 | zero =>
   obtain rfl : t = p := by simpa using hj
   refine ⟨_, rfl, k42_mk w t, fun i v hv => ?_⟩
   rw [Nat.zero_mul, Nat.zero_add]
   refine hn i v ?_
   match i, hv with
   | 0, hv => exact hv
   | 1, hv => exact hv
   | i + 2, hv => simp at hv
 | succ j => simp at hj
def sL : ByteArray := ⟨#[108]⟩
def sR : ByteArray := ⟨#[114]⟩
def sS : ByteArray := ⟨#[115]⟩
def fIn : S26 := ⟨4, e0, 0, [⟨2, sL, 0⟩, ⟨2, sR, 0⟩], [], []⟩
def fAt : S26 := ⟨3, e0, 0, [⟨2, sL, 0⟩, ⟨2, sS, 0⟩], [], []⟩
def fLeast : S26 := ⟨16, e0, 2, [], [⟨sS, 2⟩], [fAt]⟩
def fImp : S26 := ⟨13, e0, 0, [], [], [fIn, fLeast]⟩
def fF : S26 := ⟨10, e0, 0, [], [], [fImp]⟩
def fMost : S26 := ⟨17, e0, 1, [], [⟨sS, 2⟩], [fAt]⟩
def fWant : S26 := ⟨11, e0, 0, [], [], [fIn, fMost]⟩
theorem BoxF.new {w w1 : World} {n : Nat} (hb : Below n w w1) {B G : Nat} (x : S26) (A3 : Option Addr) (c3 : Nat) (A4 : Option Addr) (c4 : Nat) (A5 : Option Addr) (c5 : Nat)
   (hB : w1.heap[B]? = some (.cells #[.int .i64 x.f0, .string x.f1, .int .i64 x.f2, .slice A3 x.f3.length c3, .slice A4 x.f4.length c4, .slice A5 x.f5.length c5] 26 (0, 0))) (h : At w1 x A3 c3 A4 c4 A5 c5) : BoxF w1 B x A3 c3 A4 c4 A5 c5 := ⟨hB, h⟩
theorem BoxF.six {w : World} {B : Nat} {x : S26} {A3 : Option Addr} {c3 : Nat} {A4 : Option Addr} {c4 : Nat} {A5 : Option Addr} {c5 : Nat} (h : BoxF w B x A3 c3 A4 c4 A5 c5) :
   w.cell? ⟨B, 0, none⟩ = some (.int .i64 x.f0) ∧ w.cell? ⟨B, 1, none⟩ = some (.string x.f1) ∧ w.cell? ⟨B, 2, none⟩ = some (.int .i64 x.f2) ∧ w.cell? ⟨B, 3, none⟩ = some (.slice A3 x.f3.length c3) ∧ w.cell? ⟨B, 4, none⟩ = some (.slice A4 x.f4.length c4) ∧ w.cell? ⟨B, 5, none⟩ = some (.slice A5 x.f5.length c5) := It.six h.blk
theorem up1 (w : World) (o : Obj) : Below w.heap.size w (w.alloc o) := (Below.refl _ _).alloc (Nat.le_refl _) o
theorem up2 (w : World) (o o' : Obj) : Below w.heap.size w ((w.alloc o).alloc o') := (up1 w o).alloc (by simp) o'
theorem three_blocks (W : World) (o1 o2 o3 : Obj) (W3 : World) (h : ((W.alloc o1).alloc o2).alloc o3 = W3) :
   W3.heap[W.heap.size]? = some o1 ∧ W3.heap[W.heap.size + 1]? = some o2 ∧ W3.heap[W.heap.size + 1 + 1]? = some o3 ∧ Below W.heap.size W W3 := by
 subst h
 have nw : ∀ (w : World) (o : Obj) (n : Nat), w.heap.size = n → (w.alloc o).heap[n]? = some o := fun w o n e => e ▸ heap_new w o
 refine ⟨?_, ?_, ?_, ?_⟩
 · exact blk_below (up1 _ _) (blk_below (up1 _ _) (heap_new _ _))
 · exact blk_below (up1 _ _) (nw _ _ _ (by simp))
 · exact nw _ _ _ (by simp)
 · exact (up2 _ _ _).alloc (by simp; omega) _
theorem bare_deep {k : Int} (h : I64 k) : Deep ⟨k, e0, 0, [], [], []⟩ := by
 intro y hy
 simp only [nodes, nodesL, List.mem_cons, List.not_mem_nil, or_false] at hy
 subst hy
 exact ⟨h, (by decide : e0.size ≤ 9223372036854775807), by simp, by simp, rfl, by simp, by simp⟩
theorem bare_at (w : World) (k : Int) : At w ⟨k, e0, 0, [], [], []⟩ none 0 none 0 none 0 := ⟨Nat.le_refl _, Kd.C_nil _ _, Nat.le_refl _, Kd.C_nil _ _, Nat.le_refl _, Kd.C_nil _ _⟩
structure LS (w wx : World) (B6 : Nat) (a6 : Addr) (B7 : Nat) (a7 : Addr) (B8 : Nat) (X3 : Option Addr) (e3 : Nat) (X4 : Option Addr) (e4 : Nat) (X5 : Option Addr) (e5 : Nat) (A : Option Addr) : Prop where
 f : BoxF wx B6 fF none 0 none 0 (some a6) 1
 want : BoxF wx B7 fWant none 0 none 0 (some a7) 2
 x : BoxF wx B8 fWant X3 e3 X4 e4 X5 e5
 row : Kd.C Kd.string wx A 2 [sL, sR]
 b : Below w.heap.size w wx
theorem LS.below {w wx w1 : World} {B6 : Nat} {a6 : Addr} {B7 : Nat} {a7 : Addr} {B8 : Nat} {X3 : Option Addr} {e3 : Nat} {X4 : Option Addr} {e4 : Nat} {X5 : Option Addr} {e5 : Nat} {A : Option Addr} (h : LS w wx B6 a6 B7 a7 B8 X3 e3 X4 e4 X5 e5 A) (g : Below wx.heap.size wx w1) : LS w w1 B6 a6 B7 a7 B8 X3 e3 X4 e4 X5 e5 A :=
 ⟨h.f.below g, h.want.below g, h.x.below g, Kd.C_below h.row g, h.b.trans (g.mono h.b.size)⟩
end Go.Proofs.YtmlcaecknocpoaaDoor.It
namespace Go.Proofs.YtmlcaecknocpoaaDoor.It
set_option linter.unusedVariables false
set_option linter.unusedSimpArgs false
open Go Go.RowKit Go.Shelf Go.Proofs.YtmlcaecknocpoaaDoorW.PrintWords Go.Proofs.YtmlcaecknocpoaaDoorW.PrintLast Go.Proofs.YtmlcaecknocpoaaDoor.Pr Go.Proofs.YtmlcaecknocpoaaDoor.Sp
open Go.ChangeShapes Go.WideShapes Go.Deep
theorem cells26 : Tryd.prog.cellsOf 26 = 6 := by kernel_rfl
theorem cells47 : Tryd.prog.cellsOf 47 = 3 := by kernel_rfl
theorem cells42 : Tryd.prog.cellsOf 42 = 2 := by kernel_rfl
theorem cells3 : Tryd.prog.cellsOf 3 = 1 := by kernel_rfl
theorem cells9 : Tryd.prog.cellsOf 9 = 1 := by kernel_rfl
theorem cells22 : Tryd.prog.cellsOf 22 = 1 := by kernel_rfl
theorem cells23 : Tryd.prog.cellsOf 23 = 1 := by kernel_rfl
theorem cells24 : Tryd.prog.cellsOf 24 = 1 := by kernel_rfl
section
variable {H : Type} {enc : TypeId × Value → H} {w : World} {base : Nat} {spare : Nat → Bool} {held : Bool}
theorem bulk_all_append (l r : List (DataW H)) : Rows.uptoBulkAll (l ++ r) = Rows.uptoBulkAll l + Rows.uptoBulkAll r := by
 induction l with
 | nil => simp [Rows.uptoBulkAll]
 | cons x l ih => simp only [List.cons_append, Rows.uptoBulkAll, ih]; omega
theorem one3 {n : Nat} {cs : List Value} {y : DataW H × List MemPlace} (h : DataW.trod enc Tryd.prog w base spare held n 3 cs = some y) : ∃ k : Int, cs = [.int .i64 k] ∧ I64 k ∧ Rows.uptoBulk y.1 = 1 := by
 obtain ⟨a, e0, rfl, wa⟩ := DataW.trod_int Tryd.underlying3 h
 exact ⟨a, e0, wa, rfl⟩
theorem one9 {n : Nat} {cs : List Value} {y : DataW H × List MemPlace} (h : DataW.trod enc Tryd.prog w base spare held n 9 cs = some y) : ∃ s : ByteArray, cs = [.string s] ∧ s.size ≤ 9223372036854775807 ∧ Rows.uptoBulk y.1 = s.size + 1 := by
 obtain ⟨s, e0, rfl, hs⟩ := DataW.trod_string Tryd.underlying9 h
 refine ⟨s, e0, hs, ?_⟩
 show (s.data.toList).length + 1 = _
 rw [Array.length_toList]; rfl
set_option maxRecDepth 100000 in
theorem read47 {n : Nat} {cs : List Value} {y : DataW H × List MemPlace} (h : DataW.trod enc Tryd.prog w base spare held n 47 cs = some y) :
   ∃ t : S47, cs = [.int .i64 t.f0, .string t.f1, .int .i64 t.f2] ∧ (t.f1.size ≤ 9223372036854775807 ∧ I64 t.f0 ∧ I64 t.f2) ∧ 4 + t.f1.size ≤ Rows.uptoBulk y.1 := by
 obtain ⟨ys, n', hn', hy, hlen, hyl, hf⟩ := DataW.trod_struct Tryd.underlying47 h
 rw [cells47] at hlen
 match cs, hlen with
 | [c0, c1, c2], _ =>
   match ys, hyl with
   | [y0, y1, y2], _ =>
     have h0 := hf 0 _ rfl
     have h1 := hf 1 _ rfl
     have h2 := hf 2 _ rfl
     simp only [cells3, cells9, List.drop_zero, List.drop_succ_cons, List.take_succ_cons, List.take_zero, List.getElem?_cons_zero, List.getElem?_cons_succ] at h0 h1 h2
     obtain ⟨a, e0, wa, b0⟩ := one3 h0
     obtain ⟨s, e1, ws, b1⟩ := one9 h1
     obtain ⟨c, e2, wc, b2⟩ := one3 h2
     obtain rfl := List.singleton_inj.1 e0
     obtain rfl := List.singleton_inj.1 e1
     obtain rfl := List.singleton_inj.1 e2
     refine ⟨⟨a, s, c⟩, rfl, ⟨ws, wa, wc⟩, ?_⟩
     subst hy
     simp only [List.map_cons, List.map_nil, Rows.uptoBulk, Rows.uptoBulkAll, b0, b1, b2]
     omega
set_option maxRecDepth 100000 in
theorem read42 {n : Nat} {cs : List Value} {y : DataW H × List MemPlace} (h : DataW.trod enc Tryd.prog w base spare held n 42 cs = some y) :
   ∃ t : S42, cs = [.string t.f0, .int .i64 t.f1] ∧ (t.f0.size ≤ 9223372036854775807 ∧ I64 t.f1) ∧ 3 + t.f0.size ≤ Rows.uptoBulk y.1 := by
 obtain ⟨ys, n', hn', hy, hlen, hyl, hf⟩ := DataW.trod_struct Tryd.underlying42 h
 rw [cells42] at hlen
 match cs, hlen with
 | [c0, c1], _ =>
   match ys, hyl with
   | [y0, y1], _ =>
     have h0 := hf 0 _ rfl
     have h1 := hf 1 _ rfl
     simp only [cells3, cells9, List.drop_zero, List.drop_succ_cons, List.take_succ_cons, List.take_zero, List.getElem?_cons_zero, List.getElem?_cons_succ] at h0 h1
     obtain ⟨s, e0, ws, b0⟩ := one9 h0
     obtain ⟨c, e1, wc, b1⟩ := one3 h1
     obtain rfl := List.singleton_inj.1 e0
     obtain rfl := List.singleton_inj.1 e1
     refine ⟨⟨s, c⟩, rfl, ⟨ws, wc⟩, ?_⟩
     subst hy
     simp only [List.map_cons, List.map_nil, Rows.uptoBulk, Rows.uptoBulkAll, b0, b1]
     omega
theorem read_row {α : Type} (d : Kd α) {t e : TypeId} {k : Nat} (hsz : d.sz = k) (ht : Tryd.prog.underlying t = some (.slice e)) (hC : Tryd.prog.cellsOf e = k) (S : α → Prop) (wt : α → Nat) (z : α) {fuel : Nat} {cs : List Value} {x : DataW H × List MemPlace}
   (hel : ∀ (n : Nat) (cs' : List Value) (y : DataW H × List MemPlace), Rows.uptoBulk y.1 < Rows.uptoBulk x.1 → DataW.trod enc Tryd.prog w base spare held n e cs' = some y → ∃ v : α, d.K w v cs' ∧ cs'.length = k ∧ S v ∧ wt v ≤ Rows.uptoBulk y.1)
   (h : DataW.trod enc Tryd.prog w base spare held fuel t cs = some x) :
   ∃ A c xs, cs = [.slice A xs.length c] ∧ xs.length ≤ c ∧ Kd.C d w A xs.length xs ∧ (∀ v ∈ xs, S v) ∧ (xs.map wt).sum + 1 ≤ Rows.uptoBulk x.1 := by
 rcases open_slice ht h with ⟨rfl, rfl⟩ | ⟨a, len, cap, m, n, D, Pl, rfl, hb, hl, hm, hmm, rfl, hi⟩
 · exact ⟨none, 0, [], rfl, Nat.le_refl _, Kd.C_nil _ _, by simp, by simp [Rows.uptoBulk]⟩
 · have hlm : len ≤ m := by rw [hmm]; split <;> omega
   have hbD : ∀ j ≤ len, ∀ i < j, Rows.uptoBulk (D i) ≤ Rows.uptoBulkAll ((List.range j).map D) := by
     intro j
     induction j with
     | zero => intro _ i hi; omega
     | succ j ih =>
       intro hj i hi
       rw [List.range_succ, List.map_append, bulk_all_append]
       by_cases e : i = j
       · subst e; simp only [List.map_cons, List.map_nil, Rows.uptoBulkAll]; omega
       · have := ih (by omega) i (by omega); omega
   have hT : ∀ i, i < len → ∃ v : α, (∃ cs', w.cells? base (a.add (i * k)) k = some cs' ∧ d.K w v cs' ∧ cs'.length = k) ∧ S v ∧ wt v ≤ Rows.uptoBulk (D i) := fun i hil => by
     obtain ⟨cs', hc, ht'⟩ := hi i (by omega)
     rw [hC] at hc
     obtain ⟨v, h1, h2, h3, h4⟩ := hel n cs' (D i, Pl i) (by
       have := hbD len (Nat.le_refl _) i hil
       show Rows.uptoBulk (D i) < Rows.uptoBulk (.slice _ _)
       simp only [Rows.uptoBulk]; omega) ht'
     exact ⟨v, ⟨cs', hc, h1, h2⟩, h3, h4⟩
   obtain ⟨T, hT⟩ : ∃ T : Nat → α, ∀ i, i < len → (∃ cs', w.cells? base (a.add (i * k)) k = some cs' ∧ d.K w (T i) cs' ∧ cs'.length = k) ∧ S (T i) ∧ wt (T i) ≤ Rows.uptoBulk (D i) :=
     ⟨fun i => if hil : i < len then Classical.choose (hT i hil) else z, fun i hil => by
       simp only [dif_pos hil]
       exact Classical.choose_spec (hT i hil)⟩
   have hlen : ((List.range len).map T).length = len := by simp
   refine ⟨some a, cap, (List.range len).map T, by rw [hlen], by rw [hlen]; exact hl, ⟨rfl, by rw [hlen]; exact Nat.le_trans hl hm, fun _ => ⟨a, rfl, fun j p hj => ?_⟩⟩, ?_, ?_⟩
   · have hjl : j < len := by
       have := (List.getElem?_eq_some_iff.1 hj).1
       simpa using this
     obtain rfl : T j = p := by
       rw [List.getElem?_map, List.getElem?_range hjl] at hj
       simpa using hj
     obtain ⟨⟨cs', hc, hK, hcl⟩, _⟩ := hT j hjl
     obtain ⟨_, hcl', hat⟩ := World.cells?_some hc
     refine ⟨cs', by rw [hsz]; exact hcl, hK, fun i u hu => ?_⟩
     have hik : i < k := by
       have := (List.getElem?_eq_some_iff.1 hu).1
       omega
     rw [hsz, ← Go.Deep.add_add, hat i hik, hu]
   · intro v hv
     obtain ⟨i, hi', rfl⟩ := List.mem_map.1 hv
     exact (hT i (by simpa using hi')).2.1
   · have hsum : ∀ j ≤ len, (((List.range j).map T).map wt).sum ≤ Rows.uptoBulkAll ((List.range j).map D) := by
       intro j
       induction j with
       | zero => intro _; simp [Rows.uptoBulkAll]
       | succ j ih =>
         intro hj
         rw [List.range_succ, List.map_append, List.map_append, List.map_append, bulk_all_append, List.sum_append]
         have h1 := ih (by omega)
         have h2 := (hT j (by omega)).2.2
         simp only [List.map_cons, List.map_nil, Rows.uptoBulkAll, List.sum_cons, List.sum_nil]
         omega
     have := hsum len (Nat.le_refl _)
     simp only [Rows.uptoBulk]
     omega
theorem sum_const {α : Type} (l : List α) (c : Nat) : (l.map fun _ => c).sum = c * l.length := by
 induction l with
 | nil => rfl
 | cons x l ih => rw [List.map_cons, List.sum_cons, ih, List.length_cons, Nat.mul_succ]; omega
def wt26 (x : S26) : Nat := size x + 3 * nb x + 4 * nt x
theorem wt26_sum (l : List S26) : (l.map wt26).sum = sizes l + 3 * nbs l + 4 * nts l := by
 induction l with
 | nil => simp [sizes, nbs, nts]
 | cons x l ih => simp only [List.map_cons, List.sum_cons, ih, wt26, sizes, nbs, nts]; omega
theorem mem_nodesL {l : List S26} {y : S26} (h : y ∈ nodesL l) : ∃ x ∈ l, y ∈ nodes x := by
 induction l with
 | nil => cases h
 | cons x l ih =>
   simp only [nodesL, List.mem_append] at h
   rcases h with h | h
   · exact ⟨x, by simp, h⟩
   · obtain ⟨x', hx', hy⟩ := ih h
     exact ⟨x', by simp [hx'], hy⟩
set_option maxRecDepth 100000 in
theorem read26 (b : Nat) : ∀ (n : Nat) (cs : List Value) (y : DataW H × List MemPlace), Rows.uptoBulk y.1 ≤ b → DataW.trod enc Tryd.prog w base spare held n 26 cs = some y →
   ∃ (x : S26) (A3 : Option Addr) (c3 : Nat) (A4 : Option Addr) (c4 : Nat) (A5 : Option Addr) (c5 : Nat), cs = [.int .i64 x.f0, .string x.f1, .int .i64 x.f2, .slice A3 x.f3.length c3, .slice A4 x.f4.length c4, .slice A5 x.f5.length c5] ∧ At w x A3 c3 A4 c4 A5 c5 ∧ Deep x ∧ wt26 x ≤ Rows.uptoBulk y.1 := by
 induction b with
 | zero =>
   intro n cs y hb h
   obtain ⟨ys, n', hn', hy, hlen, hyl, hf⟩ := DataW.trod_struct Tryd.underlying26 h
   subst hy
   simp [Rows.uptoBulk] at hb
 | succ b ih =>
   intro n cs y hb h
   obtain ⟨ys, n', hn', hy, hlen, hyl, hf⟩ := DataW.trod_struct Tryd.underlying26 h
   rw [cells26] at hlen
   match cs, hlen with
   | [q0, q1, q2, q3, q4, q5], _ =>
     match ys, hyl with
     | [y0, y1, y2, y3, y4, y5], _ =>
       have h0 := hf 0 _ rfl
       have h1 := hf 1 _ rfl
       have h2 := hf 2 _ rfl
       have h3 := hf 3 _ rfl
       have h4 := hf 4 _ rfl
       have h5 := hf 5 _ rfl
       simp only [cells3, cells9, cells22, cells23, cells24, List.drop_zero, List.drop_succ_cons, List.take_succ_cons, List.take_zero, List.getElem?_cons_zero, List.getElem?_cons_succ] at h0 h1 h2 h3 h4 h5
       obtain ⟨k, e0, wk, b0⟩ := one3 h0
       obtain ⟨nm, e1, ws, b1⟩ := one9 h1
       obtain ⟨nn, e2, wn, b2⟩ := one3 h2
       obtain rfl := List.singleton_inj.1 e0
       obtain rfl := List.singleton_inj.1 e1
       obtain rfl := List.singleton_inj.1 e2
       subst hy
       simp only [List.map_cons, List.map_nil, Rows.uptoBulk, Rows.uptoBulkAll, b0, b1, b2] at hb ⊢
       obtain ⟨A3, c3, ts, e3, l3, g3, S3, B3⟩ := read_row k47 rfl Tryd.underlying22 cells47 (fun t => t.f1.size ≤ 9223372036854775807 ∧ I64 t.f0 ∧ I64 t.f2) (fun _ => 4) z47 (fun n cs' y _ ht => by
         obtain ⟨t, rfl, hs, hb⟩ := read47 ht
         exact ⟨t, k47_mk w t, rfl, hs, by omega⟩) h3
       obtain ⟨A4, c4, bs, e4, l4, g4, S4, B4⟩ := read_row k42 rfl Tryd.underlying23 cells42 (fun t => t.f0.size ≤ 9223372036854775807 ∧ I64 t.f1) (fun _ => 3) z42 (fun n cs' y _ ht => by
         obtain ⟨t, rfl, hs, hb⟩ := read42 ht
         exact ⟨t, k42_mk w t, rfl, hs, by omega⟩) h4
       obtain ⟨A5, c5, l, e5, l5, g5, S5, B5⟩ := read_row k26 rfl Tryd.underlying24 cells26 Deep wt26 z26 (fun n cs' y hlt ht => by
         obtain ⟨x, B3, d3, B4, d4, B5, d5, rfl, hat, hdp, hw⟩ := ih n cs' y (by omega) ht
         exact ⟨x, hat.K, rfl, hdp, hw⟩) h5
       obtain rfl := List.singleton_inj.1 e3
       obtain rfl := List.singleton_inj.1 e4
       obtain rfl := List.singleton_inj.1 e5
       refine ⟨⟨k, nm, nn, ts, bs, l⟩, A3, c3, A4, c4, A5, c5, rfl, ⟨l3, g3, l4, g4, l5, g5⟩, ?_, ?_⟩
       · intro y hy
         rw [nodes_eq] at hy
         cases hy with
         | head => exact ⟨wk, ws, fun t ht => (S3 t ht).1, fun t ht => (S4 t ht).1, wn, fun t ht => (S3 t ht).2, fun t ht => (S4 t ht).2⟩
         | tail _ hy =>
           obtain ⟨x, hx, hy⟩ := mem_nodesL hy
           exact S5 x hx y hy
       · have hs3 := sum_const ts 4
         have hs4 := sum_const bs 3
         rw [hs3] at B3
         rw [hs4] at B4
         rw [wt26_sum] at B5
         simp only [wt26, size, nb, nt]
         omega
end
end Go.Proofs.YtmlcaecknocpoaaDoor.It
namespace Go.Proofs.YtmlcaecknocpoaaDoor.It
set_option linter.unusedVariables false
set_option linter.unusedSimpArgs false
open Go Go.RowKit Go.Shelf Go.Proofs.YtmlcaecknocpoaaDoorW.PrintWords Go.Proofs.YtmlcaecknocpoaaDoorW.PrintLast Go.Proofs.YtmlcaecknocpoaaDoor.Pr Go.Proofs.YtmlcaecknocpoaaDoor.Sp
mutual
theorem nodes_le : ∀ x y : S26, y ∈ nodes x → y.f3.length ≤ nt x ∧ y.f4.length ≤ nb x
 | ⟨k, nm, n, ts, bs, l⟩, y, h => by
   rw [nodes, List.mem_cons] at h
   rcases h with rfl | h
   · simp only [nt, nb]; omega
   · have := nodesL_le l y h
     simp only [nt, nb]; omega
theorem nodesL_le : ∀ (l : List S26) (y : S26), y ∈ nodesL l → y.f3.length ≤ nts l ∧ y.f4.length ≤ nbs l
 | [], y, h => by simp [nodesL] at h
 | x :: l, y, h => by
   rw [nodesL, List.mem_append] at h
   rcases h with h | h
   · have := nodes_le x y h; simp only [nts, nbs]; omega
   · have := nodesL_le l y h; simp only [nts, nbs]; omega
end
structure Arg (w : World) (x : S26) (A3 : Option Addr) (c3 : Nat) (A4 : Option Addr) (c4 : Nat) (A5 : Option Addr) (c5 : Nat) : Prop where
 at_ : At w x A3 c3 A4 c4 A5 c5
 deep : Deep x
 wt : wt26 x ≤ 1048576
section
variable {w : World} {x : S26} {A3 : Option Addr} {c3 : Nat} {A4 : Option Addr} {c4 : Nat} {A5 : Option Addr} {c5 : Nat}
theorem Arg.below (h : Arg w x A3 c3 A4 c4 A5 c5) {w1 : World} (hb : Below w.heap.size w w1) : Arg w1 x A3 c3 A4 c4 A5 c5 := ⟨h.at_.below hb, h.deep, h.wt⟩
theorem Arg.size (h : Arg w x A3 c3 A4 c4 A5 c5) : Sp.size x ≤ 4611686018427387904 := by have := h.wt; unfold wt26 at this; omega
theorem Arg.nb (h : Arg w x A3 c3 A4 c4 A5 c5) : It.nb x ≤ 400000 := by have := h.wt; unfold wt26 at this; omega
theorem Arg.nt (h : Arg w x A3 c3 A4 c4 A5 c5) : It.nt x ≤ 1000000 := by have := h.wt; unfold wt26 at this; omega
theorem Arg.nm (h : Arg w x A3 c3 A4 c4 A5 c5) : NmOk x := fun y hy => by
 have h1 := nodes_le x y hy
 have h2 := h.nb
 have h3 := h.nt
 exact ⟨(h.deep y hy).ts, (h.deep y hy).bs, by omega, by omega⟩
theorem Arg.few (h : Arg w x A3 c3 A4 c4 A5 c5) : ∃ r : Bool, ∀ W, Below w.heap.size w W → Calls Tryd.prog 21 #[.agg #[.int .i64 x.f0, .string x.f1, .int .i64 x.f2, .slice A3 x.f3.length c3, .slice A4 x.f4.length c4, .slice A5 x.f5.length c5]] W fun e w' => e = .returned (.bool r) ∧ Below W.heap.size W w' := by
 obtain ⟨r, hr⟩ := few_ev x h.size h.nm
 obtain ⟨k, hk⟩ := hr.rounds
 exact ⟨r, fun W hW => rf6Few.calls k _ _ _ _ _ _ _ _ _ _ _ _ _ _ (h.below hW).at_.g3 h.at_.l3 (h.below hW).at_.g4 h.at_.l4 (h.below hW).at_.g5 h.at_.l5 hk⟩
end
structure St (w0 w : World) (B : Nat) (x : S26) (A3 : Option Addr) (c3 : Nat) (A4 : Option Addr) (c4 : Nat) (A5 : Option Addr) (c5 : Nat) : Prop where
 box : BoxF w B x A3 c3 A4 c4 A5 c5
 b : Below w0.heap.size w0 w
section
variable {w0 w : World} {B : Nat} {x : S26} {A3 : Option Addr} {c3 : Nat} {A4 : Option Addr} {c4 : Nat} {A5 : Option Addr} {c5 : Nat}
theorem St.below (h : St w0 w B x A3 c3 A4 c4 A5 c5) {w1 : World} (g : Below w.heap.size w w1) : St w0 w1 B x A3 c3 A4 c4 A5 c5 := ⟨h.box.below g, h.b.trans (g.mono h.b.size)⟩
theorem St.drew (h : St w0 w B x A3 c3 A4 c4 A5 c5) : St w0 w.drew B x A3 c3 A4 c4 A5 c5 := h.below (below_drew (Below.refl _ _))
end
theorem deep_of {x : S26} (h : Own1 x) (hl : ∀ y ∈ x.f5, Deep y) : Deep x := fun y hy => by
 rw [nodes_eq] at hy
 cases hy with
 | head => exact h
 | tail _ hy =>
   obtain ⟨z, hz, hy⟩ := mem_nodesL hy
   exact hl z hz y hy
theorem own_bare {k n : Int} (bs : List S42) (l : List S26) (hk : I64 k) (hn : I64 n) (hb : ∀ b ∈ bs, b.f0.size ≤ 9223372036854775807) (hb2 : ∀ b ∈ bs, I64 b.f1) : Own1 ⟨k, e0, n, [], bs, l⟩ :=
 ⟨hk, (by decide : e0.size ≤ 9223372036854775807), by simp, hb, hn, by simp, hb2⟩
structure ArgN (w : World) (x : S26) (A3 : Option Addr) (c3 : Nat) (A4 : Option Addr) (c4 : Nat) (A5 : Option Addr) (c5 : Nat) : Prop where
 at_ : At w x A3 c3 A4 c4 A5 c5
 deep : Deep x
 size : Sp.size x ≤ 4194304
 nb : It.nb x ≤ 400000
 nt : It.nt x ≤ 1000000
theorem ArgN.below {w w1 : World} {x : S26} {A3 : Option Addr} {c3 : Nat} {A4 : Option Addr} {c4 : Nat} {A5 : Option Addr} {c5 : Nat} (h : ArgN w x A3 c3 A4 c4 A5 c5) (hb : Below w.heap.size w w1) : ArgN w1 x A3 c3 A4 c4 A5 c5 := ⟨h.at_.below hb, h.deep, h.size, h.nb, h.nt⟩
end Go.Proofs.YtmlcaecknocpoaaDoor.It
namespace Go.Proofs.YtmlcaecknocpoaaDoor.It
set_option linter.unusedVariables false
set_option linter.unusedSimpArgs false
open Go Go.RowKit Go.Shelf Go.Proofs.YtmlcaecknocpoaaDoorW.PrintWords Go.Proofs.YtmlcaecknocpoaaDoorW.PrintLast Go.Proofs.YtmlcaecknocpoaaDoor.Pr Go.Proofs.YtmlcaecknocpoaaDoor.Sp
attribute [local go_sem ↓] Go.wp_at_zero Go.wp_at_succ
structure BOk (b : S42) : Prop where
 nm : b.f0.size ≤ 9223372036854775807
 srt : I64 b.f1
def fB (b : S42) : S26 := ⟨14, e0, 0, [], [b], [leaf 1]⟩
theorem fB_check (b : S42) : check (fB b) = if Sp.bind b then 0 else 1 := by
 have e1 : form (fB b) = Sp.bind b := by
   have h1 : form (leaf 1) = true := by decide +kernel
   simp [fB, form, here, forms, h1, termsOk_none (show Sp.atom 14 = false from rfl), bindsOk, show Sp.quant 14 = true from rfl, show counts 14 = false from rfl, show arity 14 = some 1 from rfl]
 have e2 : size (fB b) = 2 := by simp [fB, leaf, size, sizes]
 have e3 : depth (fB b) = 2 := by simp [fB, leaf, depth, depths]
 unfold check
 rw [e1, e2, e3]
 simp
theorem fB_deep {b : S42} (h : BOk b) : Deep (fB b) :=
 deep_of (own_bare [b] _ rfl rfl (by simpa using h.nm) (by simpa using h.srt)) (fun y hy => by obtain rfl := List.mem_singleton.1 hy; exact bare_deep (k := 1) rfl)
theorem fB_at {w : World} {b : S42} {G H : Nat} (hG : w.heap[G]? = some (.cells #[.string b.f0, .int .i64 b.f1] 42 (0, 0))) (hH : w.heap[H]? = some (.cells #[.int .i64 1, .string ⟨#[]⟩, .int .i64 0, .slice none 0 0, .slice none 0 0, .slice none 0 0] 26 (0, 0))) :
   At w (fB b) none 0 (some ⟨G, 0, none⟩) 1 (some ⟨H, 0, none⟩) 1 :=
 ⟨Nat.le_refl _, Kd.C_nil _ _, Nat.le_refl _, row_bind1 hG, Nat.le_refl _, row_one (y := leaf 1) (D3 := none) (f3 := 0) (D4 := none) (f4 := 0) (D5 := none) (f5 := 0) hH (bare_at w 1)⟩
theorem checkB (b : S42) (hb : BOk b) (W : World) (G H : Nat) (hG : W.heap[G]? = some (.cells #[.string b.f0, .int .i64 b.f1] 42 (0, 0))) (hH : W.heap[H]? = some (.cells #[.int .i64 1, .string ⟨#[]⟩, .int .i64 0, .slice none 0 0, .slice none 0 0, .slice none 0 0] 26 (0, 0))) (ht : Tabs W) :
   Calls Tryd.prog 22 #[.agg #[.int .i64 14, .string ⟨#[]⟩, .int .i64 0, .slice none 0 0, .slice (some ⟨G, 0, none⟩) 1 1, .slice (some ⟨H, 0, none⟩) 1 1]] W fun e w' => e = .returned (.int .i64 (if Sp.bind b then 0 else 1)) ∧ Below W.heap.size W w' := by
 have h := check_calls (fB b) none 0 (some ⟨G, 0, none⟩) 1 (some ⟨H, 0, none⟩) 1 W (fB_at hG hH) (by simp [fB, leaf, size, sizes]) (fB_deep hb) ht
 rw [fB_check] at h
 exact h
theorem str_beq (a b : ByteArray) : (a.toList == b.toList) = decide (a = b) := by
 rw [Bool.eq_iff_iff, beq_iff_eq, decide_eq_true_iff, ByteArray.toList_eq, ByteArray.toList_eq]
 constructor
 · intro h
   obtain ⟨⟨l⟩⟩ := a
   obtain ⟨⟨m⟩⟩ := b
   have : l = m := h
   rw [this]
 · rintro rfl; rfl
set_option maxRecDepth 100000 in
set_option maxHeartbeats 4000000 in
theorem formedB_calls (b : S42) (hb : BOk b) (w : World) (ht : Tabs w) : Calls Tryd.prog 72 #[bVal b] w fun e w' => e = .returned (.bool (Sp.bind b)) ∧ Below w.heap.size w w' := by
 have hu26 := Tryd.underlying26
 have hu42 := Tryd.underlying42
 have C22 := Aside0.mk (fun (W : World) (G H : Nat) hG hH (hW : Below w.heap.size w W) => checkB b hb W G H hG hH (ht.below hW))
 obtain ⟨r, hr⟩ : ∃ r, Sp.bind b = r := ⟨_, rfl⟩
 rw [hr] at C22 ⊢
 obtain ⟨b0, b1⟩ := b
 have T3 := Aside0.mk (three_blocks w (.cells #[.string b0, .int .i64 b1] 42) (.cells #[.string b0, .int .i64 b1] 42) (.cells #[.int .i64 1, .string ⟨#[]⟩, .int .i64 0, .slice none 0 0, .slice none 0 0, .slice none 0 0] 26) _ rfl)
 clear hr ht hb
 unfold bVal
 dsimp only at C22 T3 ⊢
 cases r
 · rw [if_neg (by decide)] at C22
   go_enter Tryd.func72, Tryd.ntmps72
   go_wp2_with (go_at_call 22; (with_reducible refine (C22.out _ _ _ T3.out.2.1 T3.out.2.2.1 T3.out.2.2.2).mono ?_); rintro e w1 ⟨rfl, g⟩; have T4 := Aside0.mk (T3.out.2.2.2.trans (g.mono T3.out.2.2.2.size)); clear g)
   go_ret
   exact ⟨rfl, T4.out⟩
 · rw [if_pos rfl] at C22
   go_enter Tryd.func72, Tryd.ntmps72
   go_wp2_with (go_at_call 22; (with_reducible refine (C22.out _ _ _ T3.out.2.1 T3.out.2.2.1 T3.out.2.2.2).mono ?_); rintro e w1 ⟨rfl, g⟩; have T4 := Aside0.mk (T3.out.2.2.2.trans (g.mono T3.out.2.2.2.size)); clear g)
   go_ret
   exact ⟨rfl, T4.out⟩
theorem enters71 : ∀ args w, (callFunc 71 args).run Tryd.prog w = .ok (.enter 71 args) w := enters_of Tryd.func71 (by kernel_rfl) rfl
theorem enters116 : ∀ args w, (callFunc 116 args).run Tryd.prog w = .ok (.enter 116 args) w := enters_of Tryd.func116 (by kernel_rfl) rfl
theorem enters67 : ∀ args w, (callFunc 67 args).run Tryd.prog w = .ok (.enter 67 args) w := enters_of Tryd.func67 (by kernel_rfl) rfl
set_option maxRecDepth 100000 in
set_option maxHeartbeats 4000000 in
theorem rule1_calls (b : S42) (hb : BOk b) (w : World) (ht : Tabs w) : Calls Tryd.prog 71 #[bVal b] w fun e w' => e = .returned (.bool (!Sp.bind b)) ∧ Below w.heap.size w w' := by
 have hu42 := Tryd.underlying42
 have C72 := Aside0.mk (fun (W : World) (hW : Below w.heap.size w W) => formedB_calls b hb W (ht.below hW))
 obtain ⟨r, hr⟩ : ∃ r, Sp.bind b = r := ⟨_, rfl⟩
 rw [hr] at C72 ⊢
 obtain ⟨b0, b1⟩ := b
 have T1 := Aside0.mk (up1 w (.cells #[.string b0, .int .i64 b1] 42))
 clear hr ht hb
 unfold bVal at C72 ⊢
 dsimp only at C72 ⊢
 go_enter Tryd.func71, Tryd.ntmps71
 go_wp2_with (go_at_call 72; (with_reducible refine (C72.out _ T1.out).mono ?_); rintro e w1 ⟨rfl, g⟩; have T4 := Aside0.mk (T1.out.trans (g.mono T1.out.size)); clear g)
 go_ret
 exact ⟨rfl, T4.out⟩
set_option maxRecDepth 100000 in
set_option maxHeartbeats 4000000 in
theorem find1_calls (b : S42) (nm : ByteArray) (B : Nat) (w : World) (h0 : w.cell? ⟨B, 0, none⟩ = some (.string nm)) : Calls Tryd.prog 116 #[bVal b, .pointer (some ⟨B, 0, none⟩)] w fun e w' => e = .returned (.bool (decide (b.f0 = nm))) ∧ Below w.heap.size w w' := by
 have hu42 := Tryd.underlying42
 obtain ⟨b0, b1⟩ := b
 have T1 := Aside0.mk (up1 w (.cells #[.string b0, .int .i64 b1] 42))
 have h1 := up_cell T1.out h0
 clear h0
 unfold bVal
 dsimp only
 go_enter Tryd.func116, Tryd.ntmps116
 go_wp2_with fail
 go_ret
 exact ⟨by rw [str_beq]; rfl, T1.out⟩
def spot (env : List S42) (nm : ByteArray) : Int := idx (fun b : S42 => decide (b.f0 = nm)) env
set_option maxRecDepth 100000 in
set_option maxHeartbeats 4000000 in
theorem find_calls (env : List S42) (A : Option Addr) (c : Nat) (nm : ByteArray) (w : World) (hr : Kd.C k42 w A env.length env) : Calls Tryd.prog 101 #[.slice A env.length c, .string nm] w fun e w' => e = .returned (.int .i64 (spot env nm)) ∧ Below w.heap.size w w' := by
 have hA := up1 w (.cells #[.string nm] 9)
 have hb := heap_new w (.cells #[.string nm] 9)
 have C115 := Aside0.mk (indexE_calls 116 #[.pointer (some ⟨w.heap.size, 0, none⟩)] enters116 (fun b : S42 => decide (b.f0 = nm)) (fun _ => True) A c env _ (Kd.C_below hr hA) (fun _ _ => trivial)
   (fun b _ W hW => find1_calls b nm w.heap.size W (up_cell hW ((bCl hb 0).trans rfl))))
 replace hA := Aside0.mk hA
 clear hr hb
 unfold spot
 obtain ⟨r, hr⟩ : ∃ r, idx (fun b : S42 => decide (b.f0 = nm)) env = r := ⟨_, rfl⟩
 rw [hr] at C115 ⊢
 clear hr
 go_enter Tryd.func101, Tryd.ntmps101
 go_wp2_with (go_at_call 115; (with_reducible refine C115.out.mono ?_); rintro e w1 ⟨rfl, g⟩; replace g := Aside0.mk (hA.out.trans (g.mono hA.out.size)); clear C115 hA)
 go_ret
 exact ⟨rfl, g.out⟩
theorem spot_hit {env : List S42} {nm : ByteArray} (h : has env nm = true) : ∃ j : Nat, j < env.length ∧ spot env nm = j ∧ seek env nm = some (rd_T42 env j).f1 ∧ has (env.take j) nm = false ∧ (rd_T42 env j).f0 = nm := by
 induction env with
 | nil => cases h
 | cons b r ih =>
   by_cases e : b.f0 = nm
   · refine ⟨0, by simp, ?_, ?_, rfl, e⟩
     · unfold spot idx; rw [List.findIdx?_cons, if_pos (by simpa using e)]
     · rw [seek, if_pos e]; rfl
   · have h' : has r nm = true := by unfold has at h ⊢; rw [seek, if_neg e] at h; exact h
     obtain ⟨j, h1, h2, h3, h4, h5⟩ := ih h'
     refine ⟨j + 1, by simp; omega, ?_, ?_, ?_, ?_⟩
     · unfold spot idx at h2 ⊢
       rw [List.findIdx?_cons, if_neg (by simpa using e)]
       cases hf : r.findIdx? (fun b => decide (b.f0 = nm)) with
       | none => rw [hf] at h2; simp only at h2; omega
       | some i => rw [hf] at h2; simp only [Option.map_some] at h2 ⊢; omega
     · rw [seek, if_neg e, h3]; simp [rd_T42]
     · rw [List.take_succ_cons]; unfold has at h4 ⊢; rw [seek, if_neg e]; exact h4
     · rw [← h5]; simp [rd_T42]
theorem spot_miss {env : List S42} {nm : ByteArray} (h : has env nm = false) : spot env nm = -1 := by
 rw [has_any] at h
 have := idx_any (fun b : S42 => decide (b.f0 = nm)) env
 rw [h] at this
 unfold spot idx at *
 cases hf : env.findIdx? (fun b => decide (b.f0 = nm)) with
 | none => rfl
 | some i => rw [hf] at this; simp at this
theorem spot_iff {env : List S42} {nm : ByteArray} : 0 ≤ spot env nm ↔ has env nm = true := by
 cases h : has env nm
 · rw [spot_miss h]; simp
 · obtain ⟨j, _, e, _⟩ := spot_hit h
   rw [e]; simp
theorem has_take {env : List S42} {nm : ByteArray} {j : Nat} (hj : j ≤ env.length) : has (env.take j) nm = false ↔ ∀ i, i < j → (rd_T42 env i).f0 ≠ nm := by
 rw [has_any, List.any_eq_false]
 constructor
 · intro h i hi
   have := h (rd_T42 env i) (by
     rw [List.mem_take_iff_getElem]
     exact ⟨i, by omega, by simp [rd_T42, List.getD, show i < env.length by omega]⟩)
   simpa using this
 · intro h b hb
   rw [List.mem_take_iff_getElem] at hb
   obtain ⟨i, hi, rfl⟩ := hb
   have := h i (by omega)
   simpa [rd_T42, List.getD, show i < env.length by omega] using this
theorem spot_self {env : List S42} {j : Nat} (hj : j < env.length) : spot env (rd_T42 env j).f0 = j ↔ ∀ i, i < j → (rd_T42 env i).f0 ≠ (rd_T42 env j).f0 := by
 have hh : has env (rd_T42 env j).f0 = true := by
   rw [has_any, List.any_eq_true]
   exact ⟨_, rd42_mem env j hj, by simp⟩
 obtain ⟨i, h1, h2, h3, h4, h5⟩ := spot_hit hh
 constructor
 · intro h
   have : i = j := by omega
   subst this
   exact (has_take (by omega)).1 h4
 · intro h
   rw [h2]
   rcases Nat.lt_trichotomy i j with hlt | rfl | hgt
   · exact absurd h5 (h i hlt)
   · rfl
   · exact absurd rfl ((has_take (by omega)).1 h4 j hgt)
theorem envOk_iff {env : List S42} : envOk env = true ↔ ∀ j : Nat, j < env.length → Sp.bind (rd_T42 env j) = true ∧ spot env (rd_T42 env j).f0 = j := by
 unfold envOk
 rw [Bool.and_eq_true, fresh_nodup, List.all_eq_true, List.Nodup, List.pairwise_iff_getElem]
 constructor
 · rintro ⟨h1, h2⟩ j hj
   refine ⟨h1 _ (rd42_mem env j hj), (spot_self hj).2 fun i hi e => ?_⟩
   refine h2 i j (by simp; omega) (by simpa using hj) hi ?_
   simpa [rd_T42, List.getD, hj, show i < env.length by omega] using e
 · intro h
   refine ⟨fun b hb => ?_, fun i j hi hj hij e => ?_⟩
   · obtain ⟨j, hj, rfl⟩ := List.mem_iff_getElem.1 hb
     have := (h j hj).1
     simpa [rd_T42, List.getD, hj] using this
   · simp only [List.length_map] at hi hj
     refine (spot_self hj).1 (h j hj).2 i hij ?_
     simpa [rd_T42, List.getD, hj, hi] using e
theorem envOk_no {env : List S42} {j : Nat} (hj : j < env.length) (h : Sp.bind (rd_T42 env j) = false ∨ spot env (rd_T42 env j).f0 ≠ j) : envOk env = false := by
 rw [Bool.eq_false_iff]
 intro he
 have := envOk_iff.1 he j hj
 rcases h with h | h
 · rw [h] at this; exact absurd this.1 (by decide)
 · exact h this.2
set_option maxRecDepth 100000 in
set_option maxHeartbeats 4000000 in
theorem may_calls (env : List S42) (A : Option Addr) (c : Nat) (w : World) (hr : Kd.C k42 w A env.length env) (hok : ∀ b ∈ env, BOk b) (ht : Tabs w) :
   Calls Tryd.prog 65 #[.slice A env.length c] w fun e w' => e = .returned (.bool (envOk env)) ∧ Below w.heap.size w w' := by
 have hlen : env.length ≤ 9223372036854775807 := hr.2.1
 have hu42 := Tryd.underlying42
 have C72 := Aside0.mk (fun (j : Nat) (hj : j < env.length) (W : World) (hW : Below w.heap.size w W) => formedB_calls (rd_T42 env j) (hok _ (rd42_mem env j hj)) W (ht.below hW))
 have C101 := Aside0.mk (fun (nm : ByteArray) (W : World) (hW : Below w.heap.size w W) => find_calls env A c nm W (Kd.C_below hr hW))
 have HR := Aside0.mk hr
 have HE := Aside0.mk (envOk_iff (env := env)).2
 have HN := Aside0.mk (fun j hj h => envOk_no (env := env) (j := j) hj h)
 obtain ⟨r, hr0⟩ : ∃ r, envOk env = r := ⟨_, rfl⟩
 rw [hr0] at HE HN ⊢
 clear hr hok ht hr0
 go_enter Tryd.func65, Tryd.ntmps65
 go_wp2_with fail
 go_loopg [3, 7] env.length (fun gg _ s7 wr => ∃ j : Nat, j ≤ env.length ∧ env.length - j ≤ gg ∧ s7 = .int .i64 j ∧ Aside0 (Below w.heap.size w wr ∧ ∀ i : Nat, i < j → Sp.bind (rd_T42 env i) = true ∧ spot env (rd_T42 env i).f0 = i))
 case atStart => exact ⟨0, Nat.zero_le _, by omega, rfl, ⟨Below.refl _ _, fun j hj => absurd hj (Nat.not_lt_zero _)⟩⟩
 case round =>
   obtain ⟨j, hj, hg, rfl, HJ⟩ := hrel
   by_cases hlt : j < env.length
   · have hltz : (j : Int) < (env.length : Int) := by omega
     obtain ⟨ad, rfl, y0, y1⟩ := bindAt HR.out HJ.out.1 j hlt
     have hcall := Aside0.mk (C72.out j hlt (wr.alloc (.cells #[.string (rd_T42 env j).f0, .int .i64 (rd_T42 env j).f1] 42)) (HJ.out.1.trans ((up1 wr _).mono HJ.out.1.size)))
     have hb := Aside0.mk (heap_new wr (.cells #[.string (rd_T42 env j).f0, .int .i64 (rd_T42 env j).f1] 42))
     unfold bVal at hcall
     cases hq : Sp.bind (rd_T42 env j) with
     | false =>
       rw [hq] at hcall
       have HQ := Aside0.mk (HN.out j hlt (.inl hq))
       clear hq
       go_wp2_with (go_at_call 72; (with_reducible refine hcall.out.mono ?_); clear hcall; rintro e w1 ⟨rfl, g⟩; have G := Aside0.mk (HJ.out.1.trans (((up1 wr _).trans (g.mono (up1 wr _).size)).mono HJ.out.1.size)); clear g)
       go_ret
       exact ⟨by rw [HQ.out]; rfl, G.out⟩
     | true =>
       rw [hq] at hcall
       have HQ := Aside0.mk hq
       clear hq
       have HS := Aside0.mk (fun h => HN.out j hlt (.inr h))
       have hc2 := Aside0.mk (C101.out (rd_T42 env j).f0)
       have HT := Aside0.mk (HJ.out.2)
       obtain ⟨sp, hsp⟩ : ∃ v, spot env (rd_T42 env j).f0 = v := ⟨_, rfl⟩
       rw [hsp] at HS hc2
       by_cases hs : sp = j
       · have hsb : (sp != (j : Int)) = false := by simpa using hs
         have HD := Aside0.mk (hsp.trans hs)
         clear hs hsp
         go_wp2_with (first
           | (go_at_call 72; (with_reducible refine hcall.out.mono ?_); clear hcall; rintro e w1 ⟨rfl, g⟩; have q0 := up_cell g ((bCl hb.out 0).trans rfl); have G := Aside0.mk (HJ.out.1.trans (((up1 wr _).trans (g.mono (up1 wr _).size)).mono HJ.out.1.size)); clear g)
           | (go_at_call 101; (with_reducible refine (hc2.out _ G.out).mono ?_); rintro e w2 ⟨rfl, g⟩; replace G := Aside0.mk (G.out.trans (g.mono G.out.size)); clear g q0))
         go_roundg (env.length - (j + 1))
         case measure => omega
         case rel =>
           refine ⟨j + 1, by omega, by omega, by go_num, ⟨G.out, fun i hi => ?_⟩⟩
           by_cases e : i = j
           · subst e; exact ⟨HQ.out, HD.out⟩
           · exact HT.out i (by omega)
       · have hsb : (sp != (j : Int)) = true := by simpa using hs
         have HD := Aside0.mk (HS.out hs)
         clear hs hsp
         go_wp2_with (first
           | (go_at_call 72; (with_reducible refine hcall.out.mono ?_); clear hcall; rintro e w1 ⟨rfl, g⟩; have q0 := up_cell g ((bCl hb.out 0).trans rfl); have G := Aside0.mk (HJ.out.1.trans (((up1 wr _).trans (g.mono (up1 wr _).size)).mono HJ.out.1.size)); clear g)
           | (go_at_call 101; (with_reducible refine (hc2.out _ G.out).mono ?_); rintro e w2 ⟨rfl, g⟩; replace G := Aside0.mk (G.out.trans (g.mono G.out.size)); clear g q0))
         go_ret
         exact ⟨by rw [HD.out]; rfl, G.out⟩
   · have hltz : ¬ (j : Int) < (env.length : Int) := by omega
     have he : j = env.length := by omega
     have HT := Aside0.mk (HE.out (by rw [← he]; exact HJ.out.2))
     clear he
     go_wp2_with fail
     go_ret
     exact ⟨by rw [HT.out]; rfl, HJ.out.1⟩
end Go.Proofs.YtmlcaecknocpoaaDoor.It
