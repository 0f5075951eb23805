/-
  chalklinelaw06.FormDoubleNegation answers true, for every input that reads as data and is of bulk at most 1048576; what it reads stands as it stood.
  Conditions: the listed package-level variables hold what the program's text lays (tied by the card); the arguments' bulk is at most 1048576.
-/
import Derived.Test.YtmlcaecknocpoaaDoorQ8K6
import Derived.ProofKit
import Derived.LaidMore
import Derived.MakeChecks
import Derived.Maps.Keyed
import Derived.WideKeyElems2
import Derived.Maps.StringElems
import Derived.Deep.DeepHandedRow
import Derived.Deep.DeepWitnessRowRef
import Derived.WalkKit
import Derived.OpenShut
import Derived.ChangeOld
import Derived.Below
import Derived.SizedLaws
import Derived.Lib.SmallJoins
import Derived.SevenTiedAt
import Derived.Test.YtmlcaecknocpoaaDoorCards
import Derived.Test.YtmlcaecknocpoaaDoorRows
import Derived.Test.YtmlcaecknocpoaaDoorTie
import Derived.Test.YtmlcaecknocpoaaDoorH25
import Derived.Test.YtmlcaecknocpoaaDoorH26
import Derived.Test.YtmlcaecknocpoaaDoorH27
import Derived.Test.YtmlcaecknocpoaaDoorF8
import Derived.Test.YtmlcaecknocpoaaDoorH28
namespace Go.Proofs.YtmlcaecknocpoaaDoor.It
set_option linter.unusedVariables false
set_option linter.unusedSimpArgs false
open Go Go.RowKit Go.Shelf Go.Proofs.YtmlcaecknocpoaaDoorW.PrintWords Go.Proofs.YtmlcaecknocpoaaDoorW.PrintLast Go.Proofs.YtmlcaecknocpoaaDoor.Pr Go.Proofs.YtmlcaecknocpoaaDoor.Sp
attribute [local go_sem ↓] Go.wp_at_zero Go.wp_at_succ
set_option maxRecDepth 100000 in
set_option maxHeartbeats 8000000 in
theorem law8_few (x : S26) (A3 : Option Addr) (c3 : Nat) (A4 : Option Addr) (c4 : Nat) (A5 : Option Addr) (c5 : Nat) (w : World) (ha : Arg w x A3 c3 A4 c4 A5 c5) (ht : Tabs w) (hd : Duals w) (hfew : ∀ W, Below w.heap.size w W → Calls Tryd.prog 21 #[.agg #[.int .i64 x.f0, .string x.f1, .int .i64 x.f2, .slice A3 x.f3.length c3, .slice A4 x.f4.length c4, .slice A5 x.f5.length c5]] W fun e w' => e = .returned (.bool false) ∧ Below W.heap.size W w') :
    Calls Tryd.prog 8 #[.agg #[.int .i64 x.f0, .string x.f1, .int .i64 x.f2, .slice A3 x.f3.length c3, .slice A4 x.f4.length c4, .slice A5 x.f5.length c5]] w fun e w' => e = .returned (.bool true) ∧ Below w.heap.size w w' := by
  have hu26 := Tryd.underlying26
  have C20 := Aside0.mk (fun W (h : St w W w.heap.size x A3 c3 A4 c4 A5 c5) => live_calls W (ht.below h.b) (hd.below h.b))
  have C21 := Aside0.mk (fun W (h : St w W w.heap.size x A3 c3 A4 c4 A5 c5) => hfew W h.b)
  have T0 := Aside0.mk (St.start ha.at_)
  clear ha ht hd hfew
  go_enter Tryd.func8, Tryd.ntmps8
  go_wp2_with (first
    | (go_at_call 20; (with_reducible refine (C20.out _ T0.out).mono ?_); rintro e w1 ⟨rfl, g⟩; have T1 := Aside0.mk (T0.out.below g); clear g; obtain ⟨p0, p1, p2, p3, p4, p5⟩ := T1.out.box.six)
    | (go_at_call 21; (with_reducible refine (C21.out _ T1.out).mono ?_); rintro e w2 ⟨rfl, g⟩; have T2 := Aside0.mk (T1.out.below g); clear g p0 p1 p2 p3 p4 p5))
  go_ret
  exact ⟨rfl, T2.out.b⟩
set_option maxRecDepth 100000 in
set_option maxHeartbeats 8000000 in
theorem law8_c1 (x : S26) (A3 : Option Addr) (c3 : Nat) (A4 : Option Addr) (c4 : Nat) (A5 : Option Addr) (c5 : Nat) (w : World) (ha : Arg w x A3 c3 A4 c4 A5 c5) (ht : Tabs w) (hd : Duals w) (hfew : ∀ W, Below w.heap.size w W → Calls Tryd.prog 21 #[.agg #[.int .i64 x.f0, .string x.f1, .int .i64 x.f2, .slice A3 x.f3.length c3, .slice A4 x.f4.length c4, .slice A5 x.f5.length c5]] W fun e w' => e = .returned (.bool true) ∧ Below W.heap.size W w') (h1 : check x ≠ 0) (h2 : check (neg (neg x)) ≠ 0) (h3 : check (neg x) = check x) :
    Calls Tryd.prog 8 #[.agg #[.int .i64 x.f0, .string x.f1, .int .i64 x.f2, .slice A3 x.f3.length c3, .slice A4 x.f4.length c4, .slice A5 x.f5.length c5]] w fun e w' => e = .returned (.bool true) ∧ Below w.heap.size w w' := by
  have hu26 := Tryd.underlying26
  have C20 := Aside0.mk (fun W (h : St w W w.heap.size x A3 c3 A4 c4 A5 c5) => live_calls W (ht.below h.b) (hd.below h.b))
  have C21 := Aside0.mk (fun W (h : St w W w.heap.size x A3 c3 A4 c4 A5 c5) => hfew W h.b)
  have hsl := ha.argN.slim
  have hsz : size x ≤ 1048576 := by have := ha.wt; unfold wt26 at this; omega
  have hs1 := hsl.neg (by omega)
  have hs2 := hs1.neg (by rw [size_neg]; omega)
  have C32 := Aside0.mk (fun W (h : St w W w.heap.size x A3 c3 A4 c4 A5 c5) => nnf_at x A3 c3 A4 c4 A5 c5 W h.box.at_ ha.size ha.deep (ht.below h.b) (hd.below h.b))
  have C40 := Aside0.mk (fun W (h : St w W w.heap.size x A3 c3 A4 c4 A5 c5) => not1 x A3 c3 A4 c4 A5 c5 W h.box.at_)
  have CNN := Aside0.mk (fun W (hb : Below w.heap.size w W) a (h : At W (neg (neg x)) none 0 none 0 (some a) 1) => nnfN (neg x) a W hs2 h (ht.below hb) (hd.below hb))
  have CN := Aside0.mk (fun W (hb : Below w.heap.size w W) a (h : At W (neg x) none 0 none 0 (some a) 1) => nnfN x a W hs1 h (ht.below hb) (hd.below hb))
  have hs3 : Slim (neg (nnf (neg x))) := (slim_nnf hs1 (by rw [size_neg]; omega)).neg (by
    have hb : size (nnf (neg x)) ≤ 4194303 := by
      by_cases hz : check (neg x) = 0
      · rw [nnf_zero hz]
        have := right_size (fm_of (check_zero.1 hz).1) false
        rw [size_neg] at this
        omega
      · rw [nnf_other hz]
        decide +kernel
    exact hb)
  have CZ := Aside0.mk (fun W (hb : Below w.heap.size w W) a (h : At W (neg (nnf (neg x))) none 0 none 0 (some a) 1) => nnfN (nnf (neg x)) a W hs3 h (ht.below hb) (hd.below hb))
  rw [h3] at CN
  obtain ⟨v, e_v⟩ : ∃ v, check x = v := ⟨_, rfl⟩
  obtain ⟨g, e_g⟩ : ∃ v, check (neg (neg x)) = v := ⟨_, rfl⟩
  obtain ⟨nx, e_nx⟩ : ∃ v, nnf x = v := ⟨_, rfl⟩
  obtain ⟨ny, e_ny⟩ : ∃ v, nnf (neg (neg x)) = v := ⟨_, rfl⟩
  obtain ⟨nz, e_nz⟩ : ∃ v, nnf (neg x) = v := ⟨_, rfl⟩
  rw [e_v] at h1 CN C32
  rw [e_g] at h2 CNN
  rw [e_nx] at C32
  rw [e_ny] at CNN
  rw [e_nz] at CN
  have b1 : (v == 0) = false := by simpa using h1
  have b2 : (v != 0) = true := by simpa using h1
  have b3 : (g == 0) = false := by simpa using h2
  have b4 : (g != 0) = true := by simpa using h2
  clear e_v e_g e_nx e_ny e_nz h1 h2 h3 CZ
  have T0 := Aside0.mk (St.start ha.at_)
  clear ha ht hd hfew hsl hsz hs1 hs2 hs3
  go_enter Tryd.func8, Tryd.ntmps8
  go_wp2_with (first
    | (go_at_call 20; (with_reducible refine (C20.out _ T0.out).mono ?_); rintro e w1 ⟨rfl, g⟩; have T1 := Aside0.mk (T0.out.below g); replace g := Aside0.mk g; obtain ⟨p0, p1, p2, p3, p4, p5⟩ := T1.out.box.six)
    | (go_at_call 21; (with_reducible refine (C21.out _ T1.out).mono ?_); rintro e w2 ⟨rfl, g⟩; have T2 := Aside0.mk (T1.out.below g); replace g := Aside0.mk g; clear p0 p1 p2 p3 p4 p5; obtain ⟨p0, p1, p2, p3, p4, p5⟩ := T2.out.box.six)
    | (go_at_call 32; (with_reducible refine (C32.out _ T2.out).mono ?_); rintro e w3 ⟨D3, f3, D4, f4, D5, f5, rfl, g, hx⟩; have BX := Aside0.mk (⟨heap_new w3 _, hx.below (up1 w3 _)⟩ : BoxF (w3.alloc (.cells #[.int .i64 nx.f0, .string nx.f1, .int .i64 nx.f2, .slice D3 nx.f3.length f3, .slice D4 nx.f4.length f4, .slice D5 nx.f5.length f5] 26)) w3.heap.size nx D3 f3 D4 f4 D5 f5); have T3 := Aside0.mk ((T2.out.below g).below (up1 w3 (.cells #[.int .i64 nx.f0, .string nx.f1, .int .i64 nx.f2, .slice D3 nx.f3.length f3, .slice D4 nx.f4.length f4, .slice D5 nx.f5.length f5] 26))); clear g hx; clear p0 p1 p2 p3 p4 p5; obtain ⟨p0, p1, p2, p3, p4, p5⟩ := T3.out.box.six)
    | (go_at_call 40; (with_reducible refine (C40.out _ T3.out).mono ?_); rintro e w4 ⟨a4, rfl, g, h4⟩; have T4 := Aside0.mk (T3.out.below g); replace BX := Aside0.mk (BX.out.below g); replace h4 := Aside0.mk h4; replace g := Aside0.mk g; clear p0 p1 p2 p3 p4 p5; obtain ⟨p0, p1, p2, p3, p4, p5⟩ := T4.out.box.six)
    | (go_at_call 40; (with_reducible refine (not2 x a4 _ h4.out).mono ?_); rintro e w5 ⟨a5, rfl, g, h5⟩; have T5 := Aside0.mk (T4.out.below g); replace BX := Aside0.mk (BX.out.below g); replace h5 := Aside0.mk h5; replace g := Aside0.mk g; clear p0 p1 p2 p3 p4 p5; obtain ⟨p0, p1, p2, p3, p4, p5⟩ := T5.out.box.six)
    | (go_at_call 32; (with_reducible refine (CNN.out _ T5.out.b _ h5.out).mono ?_); rintro e w6 ⟨E3, h3, E4, h4, E5, h5, rfl, g, hx⟩; have BY := Aside0.mk (⟨heap_new w6 _, hx.below (up1 w6 _)⟩ : BoxF (w6.alloc (.cells #[.int .i64 ny.f0, .string ny.f1, .int .i64 ny.f2, .slice E3 ny.f3.length h3, .slice E4 ny.f4.length h4, .slice E5 ny.f5.length h5] 26)) w6.heap.size ny E3 h3 E4 h4 E5 h5); have T6 := Aside0.mk ((T5.out.below g).below (up1 w6 (.cells #[.int .i64 ny.f0, .string ny.f1, .int .i64 ny.f2, .slice E3 ny.f3.length h3, .slice E4 ny.f4.length h4, .slice E5 ny.f5.length h5] 26))); replace BX := Aside0.mk ((BX.out.below g).below (up1 w6 (.cells #[.int .i64 ny.f0, .string ny.f1, .int .i64 ny.f2, .slice E3 ny.f3.length h3, .slice E4 ny.f4.length h4, .slice E5 ny.f5.length h5] 26))); clear g hx; clear p0 p1 p2 p3 p4 p5; obtain ⟨p0, p1, p2, p3, p4, p5⟩ := T6.out.box.six)
    | (go_at_call 40; (with_reducible refine (C40.out _ T6.out).mono ?_); rintro e w7 ⟨a7, rfl, g, h7⟩; have T7 := Aside0.mk (T6.out.below g); replace BX := Aside0.mk (BX.out.below g); replace BY := Aside0.mk (BY.out.below g); replace h7 := Aside0.mk h7; replace g := Aside0.mk g; clear p0 p1 p2 p3 p4 p5; obtain ⟨p0, p1, p2, p3, p4, p5⟩ := T7.out.box.six)
    | (go_at_call 32; (with_reducible refine (CN.out _ T7.out.b _ h7.out).mono ?_); rintro e w8 ⟨G3, i3, G4, i4, G5, i5, rfl, g, hx⟩; have BZ := Aside0.mk (⟨heap_new w8 _, hx.below (up1 w8 _)⟩ : BoxF (w8.alloc (.cells #[.int .i64 nz.f0, .string nz.f1, .int .i64 nz.f2, .slice G3 nz.f3.length i3, .slice G4 nz.f4.length i4, .slice G5 nz.f5.length i5] 26)) w8.heap.size nz G3 i3 G4 i4 G5 i5); have T8 := Aside0.mk ((T7.out.below g).below (up1 w8 (.cells #[.int .i64 nz.f0, .string nz.f1, .int .i64 nz.f2, .slice G3 nz.f3.length i3, .slice G4 nz.f4.length i4, .slice G5 nz.f5.length i5] 26))); replace BX := Aside0.mk ((BX.out.below g).below (up1 w8 (.cells #[.int .i64 nz.f0, .string nz.f1, .int .i64 nz.f2, .slice G3 nz.f3.length i3, .slice G4 nz.f4.length i4, .slice G5 nz.f5.length i5] 26))); replace BY := Aside0.mk ((BY.out.below g).below (up1 w8 (.cells #[.int .i64 nz.f0, .string nz.f1, .int .i64 nz.f2, .slice G3 nz.f3.length i3, .slice G4 nz.f4.length i4, .slice G5 nz.f5.length i5] 26))); clear g hx; clear p0 p1 p2 p3 p4 p5; obtain ⟨p0, p1, p2, p3, p4, p5⟩ := T8.out.box.six; obtain ⟨q0, q1, q2, q3, q4, q5⟩ := BZ.out.six))
  go_ret
  exact ⟨rfl, T8.out.b⟩
set_option maxRecDepth 100000 in
set_option maxHeartbeats 8000000 in
theorem law8_c2 (x : S26) (A3 : Option Addr) (c3 : Nat) (A4 : Option Addr) (c4 : Nat) (A5 : Option Addr) (c5 : Nat) (w : World) (ha : Arg w x A3 c3 A4 c4 A5 c5) (ht : Tabs w) (hd : Duals w) (hfew : ∀ W, Below w.heap.size w W → Calls Tryd.prog 21 #[.agg #[.int .i64 x.f0, .string x.f1, .int .i64 x.f2, .slice A3 x.f3.length c3, .slice A4 x.f4.length c4, .slice A5 x.f5.length c5]] W fun e w' => e = .returned (.bool true) ∧ Below W.heap.size W w') (h1 : check x = 0) (h2 : check (neg (neg x)) ≠ 0) (h3 : check (neg x) ≠ 0) :
    Calls Tryd.prog 8 #[.agg #[.int .i64 x.f0, .string x.f1, .int .i64 x.f2, .slice A3 x.f3.length c3, .slice A4 x.f4.length c4, .slice A5 x.f5.length c5]] w fun e w' => e = .returned (.bool true) ∧ Below w.heap.size w w' := by
  have hu26 := Tryd.underlying26
  have C20 := Aside0.mk (fun W (h : St w W w.heap.size x A3 c3 A4 c4 A5 c5) => live_calls W (ht.below h.b) (hd.below h.b))
  have C21 := Aside0.mk (fun W (h : St w W w.heap.size x A3 c3 A4 c4 A5 c5) => hfew W h.b)
  have hsl := ha.argN.slim
  have hsz : size x ≤ 1048576 := by have := ha.wt; unfold wt26 at this; omega
  have hs1 := hsl.neg (by omega)
  have hs2 := hs1.neg (by rw [size_neg]; omega)
  have C32 := Aside0.mk (fun W (h : St w W w.heap.size x A3 c3 A4 c4 A5 c5) => nnf_at x A3 c3 A4 c4 A5 c5 W h.box.at_ ha.size ha.deep (ht.below h.b) (hd.below h.b))
  have C40 := Aside0.mk (fun W (h : St w W w.heap.size x A3 c3 A4 c4 A5 c5) => not1 x A3 c3 A4 c4 A5 c5 W h.box.at_)
  have CNN := Aside0.mk (fun W (hb : Below w.heap.size w W) a (h : At W (neg (neg x)) none 0 none 0 (some a) 1) => nnfN (neg x) a W hs2 h (ht.below hb) (hd.below hb))
  have CN := Aside0.mk (fun W (hb : Below w.heap.size w W) a (h : At W (neg x) none 0 none 0 (some a) 1) => nnfN x a W hs1 h (ht.below hb) (hd.below hb))
  have hs3 : Slim (neg (nnf (neg x))) := (slim_nnf hs1 (by rw [size_neg]; omega)).neg (by
    have hb : size (nnf (neg x)) ≤ 4194303 := by
      by_cases hz : check (neg x) = 0
      · rw [nnf_zero hz]
        have := right_size (fm_of (check_zero.1 hz).1) false
        rw [size_neg] at this
        omega
      · rw [nnf_other hz]
        decide +kernel
    exact hb)
  have CZ := Aside0.mk (fun W (hb : Below w.heap.size w W) a (h : At W (neg (nnf (neg x))) none 0 none 0 (some a) 1) => nnfN (nnf (neg x)) a W hs3 h (ht.below hb) (hd.below hb))
  rw [h1] at C32
  obtain ⟨h, e_h⟩ : ∃ v, check (neg x) = v := ⟨_, rfl⟩
  obtain ⟨g, e_g⟩ : ∃ v, check (neg (neg x)) = v := ⟨_, rfl⟩
  obtain ⟨nx, e_nx⟩ : ∃ v, nnf x = v := ⟨_, rfl⟩
  obtain ⟨ny, e_ny⟩ : ∃ v, nnf (neg (neg x)) = v := ⟨_, rfl⟩
  obtain ⟨nz, e_nz⟩ : ∃ v, nnf (neg x) = v := ⟨_, rfl⟩
  rw [e_h] at h3 CN
  rw [e_g] at h2 CNN
  rw [e_nx] at C32
  rw [e_ny] at CNN
  rw [e_nz] at CN
  have b1 : (h == 0) = false := by simpa using h3
  have b2 : (h != 0) = true := by simpa using h3
  have b3 : (g == 0) = false := by simpa using h2
  have b4 : (g != 0) = true := by simpa using h2
  clear e_h e_g e_nx e_ny e_nz h1 h2 h3 CZ
  have T0 := Aside0.mk (St.start ha.at_)
  clear ha ht hd hfew hsl hsz hs1 hs2 hs3
  go_enter Tryd.func8, Tryd.ntmps8
  go_wp2_with (first
    | (go_at_call 20; (with_reducible refine (C20.out _ T0.out).mono ?_); rintro e w1 ⟨rfl, g⟩; have T1 := Aside0.mk (T0.out.below g); replace g := Aside0.mk g; obtain ⟨p0, p1, p2, p3, p4, p5⟩ := T1.out.box.six)
    | (go_at_call 21; (with_reducible refine (C21.out _ T1.out).mono ?_); rintro e w2 ⟨rfl, g⟩; have T2 := Aside0.mk (T1.out.below g); replace g := Aside0.mk g; clear p0 p1 p2 p3 p4 p5; obtain ⟨p0, p1, p2, p3, p4, p5⟩ := T2.out.box.six)
    | (go_at_call 32; (with_reducible refine (C32.out _ T2.out).mono ?_); rintro e w3 ⟨D3, f3, D4, f4, D5, f5, rfl, g, hx⟩; have BX := Aside0.mk (⟨heap_new w3 _, hx.below (up1 w3 _)⟩ : BoxF (w3.alloc (.cells #[.int .i64 nx.f0, .string nx.f1, .int .i64 nx.f2, .slice D3 nx.f3.length f3, .slice D4 nx.f4.length f4, .slice D5 nx.f5.length f5] 26)) w3.heap.size nx D3 f3 D4 f4 D5 f5); have T3 := Aside0.mk ((T2.out.below g).below (up1 w3 (.cells #[.int .i64 nx.f0, .string nx.f1, .int .i64 nx.f2, .slice D3 nx.f3.length f3, .slice D4 nx.f4.length f4, .slice D5 nx.f5.length f5] 26))); clear g hx; clear p0 p1 p2 p3 p4 p5; obtain ⟨p0, p1, p2, p3, p4, p5⟩ := T3.out.box.six)
    | (go_at_call 40; (with_reducible refine (C40.out _ T3.out).mono ?_); rintro e w4 ⟨a4, rfl, g, h4⟩; have T4 := Aside0.mk (T3.out.below g); replace BX := Aside0.mk (BX.out.below g); replace h4 := Aside0.mk h4; replace g := Aside0.mk g; clear p0 p1 p2 p3 p4 p5; obtain ⟨p0, p1, p2, p3, p4, p5⟩ := T4.out.box.six)
    | (go_at_call 40; (with_reducible refine (not2 x a4 _ h4.out).mono ?_); rintro e w5 ⟨a5, rfl, g, h5⟩; have T5 := Aside0.mk (T4.out.below g); replace BX := Aside0.mk (BX.out.below g); replace h5 := Aside0.mk h5; replace g := Aside0.mk g; clear p0 p1 p2 p3 p4 p5; obtain ⟨p0, p1, p2, p3, p4, p5⟩ := T5.out.box.six)
    | (go_at_call 32; (with_reducible refine (CNN.out _ T5.out.b _ h5.out).mono ?_); rintro e w6 ⟨E3, h3, E4, h4, E5, h5, rfl, g, hx⟩; have BY := Aside0.mk (⟨heap_new w6 _, hx.below (up1 w6 _)⟩ : BoxF (w6.alloc (.cells #[.int .i64 ny.f0, .string ny.f1, .int .i64 ny.f2, .slice E3 ny.f3.length h3, .slice E4 ny.f4.length h4, .slice E5 ny.f5.length h5] 26)) w6.heap.size ny E3 h3 E4 h4 E5 h5); have T6 := Aside0.mk ((T5.out.below g).below (up1 w6 (.cells #[.int .i64 ny.f0, .string ny.f1, .int .i64 ny.f2, .slice E3 ny.f3.length h3, .slice E4 ny.f4.length h4, .slice E5 ny.f5.length h5] 26))); replace BX := Aside0.mk ((BX.out.below g).below (up1 w6 (.cells #[.int .i64 ny.f0, .string ny.f1, .int .i64 ny.f2, .slice E3 ny.f3.length h3, .slice E4 ny.f4.length h4, .slice E5 ny.f5.length h5] 26))); clear g hx; clear p0 p1 p2 p3 p4 p5; obtain ⟨p0, p1, p2, p3, p4, p5⟩ := T6.out.box.six)
    | (go_at_call 40; (with_reducible refine (C40.out _ T6.out).mono ?_); rintro e w7 ⟨a7, rfl, g, h7⟩; have T7 := Aside0.mk (T6.out.below g); replace BX := Aside0.mk (BX.out.below g); replace BY := Aside0.mk (BY.out.below g); replace h7 := Aside0.mk h7; replace g := Aside0.mk g; clear p0 p1 p2 p3 p4 p5; obtain ⟨p0, p1, p2, p3, p4, p5⟩ := T7.out.box.six)
    | (go_at_call 32; (with_reducible refine (CN.out _ T7.out.b _ h7.out).mono ?_); rintro e w8 ⟨G3, i3, G4, i4, G5, i5, rfl, g, hx⟩; have BZ := Aside0.mk (⟨heap_new w8 _, hx.below (up1 w8 _)⟩ : BoxF (w8.alloc (.cells #[.int .i64 nz.f0, .string nz.f1, .int .i64 nz.f2, .slice G3 nz.f3.length i3, .slice G4 nz.f4.length i4, .slice G5 nz.f5.length i5] 26)) w8.heap.size nz G3 i3 G4 i4 G5 i5); have T8 := Aside0.mk ((T7.out.below g).below (up1 w8 (.cells #[.int .i64 nz.f0, .string nz.f1, .int .i64 nz.f2, .slice G3 nz.f3.length i3, .slice G4 nz.f4.length i4, .slice G5 nz.f5.length i5] 26))); replace BX := Aside0.mk ((BX.out.below g).below (up1 w8 (.cells #[.int .i64 nz.f0, .string nz.f1, .int .i64 nz.f2, .slice G3 nz.f3.length i3, .slice G4 nz.f4.length i4, .slice G5 nz.f5.length i5] 26))); replace BY := Aside0.mk ((BY.out.below g).below (up1 w8 (.cells #[.int .i64 nz.f0, .string nz.f1, .int .i64 nz.f2, .slice G3 nz.f3.length i3, .slice G4 nz.f4.length i4, .slice G5 nz.f5.length i5] 26))); clear g hx; clear p0 p1 p2 p3 p4 p5; obtain ⟨p0, p1, p2, p3, p4, p5⟩ := T8.out.box.six; obtain ⟨q0, q1, q2, q3, q4, q5⟩ := BZ.out.six))
  go_ret
  exact ⟨rfl, T8.out.b⟩
set_option maxRecDepth 100000 in
set_option maxHeartbeats 8000000 in
theorem law8_g0i0 (x : S26) (A3 : Option Addr) (c3 : Nat) (A4 : Option Addr) (c4 : Nat) (A5 : Option Addr) (c5 : Nat) (w : World) (ha : Arg w x A3 c3 A4 c4 A5 c5) (ht : Tabs w) (hd : Duals w) (hfew : ∀ W, Below w.heap.size w W → Calls Tryd.prog 21 #[.agg #[.int .i64 x.f0, .string x.f1, .int .i64 x.f2, .slice A3 x.f3.length c3, .slice A4 x.f4.length c4, .slice A5 x.f5.length c5]] W fun e w' => e = .returned (.bool true) ∧ Below W.heap.size W w') (h1 : check x = 0) (h3 : check (neg x) = 0) (h2 : check (neg (neg x)) = 0) (e2 : nnf (neg (neg x)) = nnf x) (h4 : check (neg (nnf (neg x))) = 0) (e4 : nnf (neg (nnf (neg x))) = nnf x) :
    Calls Tryd.prog 8 #[.agg #[.int .i64 x.f0, .string x.f1, .int .i64 x.f2, .slice A3 x.f3.length c3, .slice A4 x.f4.length c4, .slice A5 x.f5.length c5]] w fun e w' => e = .returned (.bool true) ∧ Below w.heap.size w w' := by
  have hu26 := Tryd.underlying26
  have C20 := Aside0.mk (fun W (h : St w W w.heap.size x A3 c3 A4 c4 A5 c5) => live_calls W (ht.below h.b) (hd.below h.b))
  have C21 := Aside0.mk (fun W (h : St w W w.heap.size x A3 c3 A4 c4 A5 c5) => hfew W h.b)
  have hsl := ha.argN.slim
  have hsz : size x ≤ 1048576 := by have := ha.wt; unfold wt26 at this; omega
  have hs1 := hsl.neg (by omega)
  have hs2 := hs1.neg (by rw [size_neg]; omega)
  have C32 := Aside0.mk (fun W (h : St w W w.heap.size x A3 c3 A4 c4 A5 c5) => nnf_at x A3 c3 A4 c4 A5 c5 W h.box.at_ ha.size ha.deep (ht.below h.b) (hd.below h.b))
  have C40 := Aside0.mk (fun W (h : St w W w.heap.size x A3 c3 A4 c4 A5 c5) => not1 x A3 c3 A4 c4 A5 c5 W h.box.at_)
  have CNN := Aside0.mk (fun W (hb : Below w.heap.size w W) a (h : At W (neg (neg x)) none 0 none 0 (some a) 1) => nnfN (neg x) a W hs2 h (ht.below hb) (hd.below hb))
  have CN := Aside0.mk (fun W (hb : Below w.heap.size w W) a (h : At W (neg x) none 0 none 0 (some a) 1) => nnfN x a W hs1 h (ht.below hb) (hd.below hb))
  have hs3 : Slim (neg (nnf (neg x))) := (slim_nnf hs1 (by rw [size_neg]; omega)).neg (by
    have hb : size (nnf (neg x)) ≤ 4194303 := by
      by_cases hz : check (neg x) = 0
      · rw [nnf_zero hz]
        have := right_size (fm_of (check_zero.1 hz).1) false
        rw [size_neg] at this
        omega
      · rw [nnf_other hz]
        decide +kernel
    exact hb)
  have CZ := Aside0.mk (fun W (hb : Below w.heap.size w W) a (h : At W (neg (nnf (neg x))) none 0 none 0 (some a) 1) => nnfN (nnf (neg x)) a W hs3 h (ht.below hb) (hd.below hb))
  rw [h1] at C32
  rw [h3] at CN
  rw [h2, e2] at CNN
  rw [h4, e4] at CZ
  obtain ⟨nz, e_nz⟩ : ∃ v, nnf (neg x) = v := ⟨_, rfl⟩
  obtain ⟨nx, e_nx⟩ : ∃ v, nnf x = v := ⟨_, rfl⟩
  rw [e_nz] at CN CZ
  rw [e_nx] at C32 CNN CZ
  clear e_nz e_nx h1 h2 h3 h4 e2 e4
  have T0 := Aside0.mk (St.start ha.at_)
  clear ha ht hd hfew hsl hsz hs1 hs2 hs3
  go_enter Tryd.func8, Tryd.ntmps8
  go_wp2_with (first
    | (go_at_call 20; (with_reducible refine (C20.out _ T0.out).mono ?_); rintro e w1 ⟨rfl, g⟩; have T1 := Aside0.mk (T0.out.below g); replace g := Aside0.mk g; obtain ⟨p0, p1, p2, p3, p4, p5⟩ := T1.out.box.six)
    | (go_at_call 21; (with_reducible refine (C21.out _ T1.out).mono ?_); rintro e w2 ⟨rfl, g⟩; have T2 := Aside0.mk (T1.out.below g); replace g := Aside0.mk g; clear p0 p1 p2 p3 p4 p5; obtain ⟨p0, p1, p2, p3, p4, p5⟩ := T2.out.box.six)
    | (go_at_call 32; (with_reducible refine (C32.out _ T2.out).mono ?_); rintro e w3 ⟨D3, f3, D4, f4, D5, f5, rfl, g, hx⟩; have BX := Aside0.mk (⟨heap_new w3 _, hx.below (up1 w3 _)⟩ : BoxF (w3.alloc (.cells #[.int .i64 nx.f0, .string nx.f1, .int .i64 nx.f2, .slice D3 nx.f3.length f3, .slice D4 nx.f4.length f4, .slice D5 nx.f5.length f5] 26)) w3.heap.size nx D3 f3 D4 f4 D5 f5); have T3 := Aside0.mk ((T2.out.below g).below (up1 w3 (.cells #[.int .i64 nx.f0, .string nx.f1, .int .i64 nx.f2, .slice D3 nx.f3.length f3, .slice D4 nx.f4.length f4, .slice D5 nx.f5.length f5] 26))); clear g hx; clear p0 p1 p2 p3 p4 p5; obtain ⟨p0, p1, p2, p3, p4, p5⟩ := T3.out.box.six)
    | (go_at_call 40; (with_reducible refine (C40.out _ T3.out).mono ?_); rintro e w4 ⟨a4, rfl, g, h4⟩; have T4 := Aside0.mk (T3.out.below g); replace BX := Aside0.mk (BX.out.below g); replace h4 := Aside0.mk h4; replace g := Aside0.mk g; clear p0 p1 p2 p3 p4 p5; obtain ⟨p0, p1, p2, p3, p4, p5⟩ := T4.out.box.six)
    | (go_at_call 40; (with_reducible refine (not2 x a4 _ h4.out).mono ?_); rintro e w5 ⟨a5, rfl, g, h5⟩; have T5 := Aside0.mk (T4.out.below g); replace BX := Aside0.mk (BX.out.below g); replace h5 := Aside0.mk h5; replace g := Aside0.mk g; clear p0 p1 p2 p3 p4 p5; obtain ⟨p0, p1, p2, p3, p4, p5⟩ := T5.out.box.six)
    | (go_at_call 32; (with_reducible refine (CNN.out _ T5.out.b _ h5.out).mono ?_); rintro e w6 ⟨E3, h3, E4, h4, E5, h5, rfl, g, hx⟩; have BY := Aside0.mk (⟨heap_new w6 _, hx.below (up1 w6 _)⟩ : BoxF (w6.alloc (.cells #[.int .i64 nx.f0, .string nx.f1, .int .i64 nx.f2, .slice E3 nx.f3.length h3, .slice E4 nx.f4.length h4, .slice E5 nx.f5.length h5] 26)) w6.heap.size nx E3 h3 E4 h4 E5 h5); have T6 := Aside0.mk ((T5.out.below g).below (up1 w6 (.cells #[.int .i64 nx.f0, .string nx.f1, .int .i64 nx.f2, .slice E3 nx.f3.length h3, .slice E4 nx.f4.length h4, .slice E5 nx.f5.length h5] 26))); replace BX := Aside0.mk ((BX.out.below g).below (up1 w6 (.cells #[.int .i64 nx.f0, .string nx.f1, .int .i64 nx.f2, .slice E3 nx.f3.length h3, .slice E4 nx.f4.length h4, .slice E5 nx.f5.length h5] 26))); clear g hx; clear p0 p1 p2 p3 p4 p5; obtain ⟨p0, p1, p2, p3, p4, p5⟩ := T6.out.box.six)
    | (go_at_call 40; (with_reducible refine (C40.out _ T6.out).mono ?_); rintro e w7 ⟨a7, rfl, g, h7⟩; have T7 := Aside0.mk (T6.out.below g); replace BX := Aside0.mk (BX.out.below g); replace BY := Aside0.mk (BY.out.below g); replace h7 := Aside0.mk h7; replace g := Aside0.mk g; clear p0 p1 p2 p3 p4 p5; obtain ⟨p0, p1, p2, p3, p4, p5⟩ := T7.out.box.six)
    | (go_at_call 32; (with_reducible refine (CN.out _ T7.out.b _ h7.out).mono ?_); rintro e w8 ⟨G3, i3, G4, i4, G5, i5, rfl, g, hx⟩; have BZ := Aside0.mk (⟨heap_new w8 _, hx.below (up1 w8 _)⟩ : BoxF (w8.alloc (.cells #[.int .i64 nz.f0, .string nz.f1, .int .i64 nz.f2, .slice G3 nz.f3.length i3, .slice G4 nz.f4.length i4, .slice G5 nz.f5.length i5] 26)) w8.heap.size nz G3 i3 G4 i4 G5 i5); have T8 := Aside0.mk ((T7.out.below g).below (up1 w8 (.cells #[.int .i64 nz.f0, .string nz.f1, .int .i64 nz.f2, .slice G3 nz.f3.length i3, .slice G4 nz.f4.length i4, .slice G5 nz.f5.length i5] 26))); replace BX := Aside0.mk ((BX.out.below g).below (up1 w8 (.cells #[.int .i64 nz.f0, .string nz.f1, .int .i64 nz.f2, .slice G3 nz.f3.length i3, .slice G4 nz.f4.length i4, .slice G5 nz.f5.length i5] 26))); replace BY := Aside0.mk ((BY.out.below g).below (up1 w8 (.cells #[.int .i64 nz.f0, .string nz.f1, .int .i64 nz.f2, .slice G3 nz.f3.length i3, .slice G4 nz.f4.length i4, .slice G5 nz.f5.length i5] 26))); clear g hx; clear p0 p1 p2 p3 p4 p5; obtain ⟨p0, p1, p2, p3, p4, p5⟩ := T8.out.box.six; obtain ⟨q0, q1, q2, q3, q4, q5⟩ := BZ.out.six)
    | (go_at_call 40; (with_reducible refine (not1 nz G3 i3 G4 i4 G5 i5 _ BZ.out.at_).mono ?_); rintro e w9 ⟨a9, rfl, g, h9⟩; have T9 := Aside0.mk (T8.out.below g); replace BX := Aside0.mk (BX.out.below g); replace BY := Aside0.mk (BY.out.below g); replace BZ := Aside0.mk (BZ.out.below g); replace h9 := Aside0.mk h9; replace g := Aside0.mk g; clear p0 p1 p2 p3 p4 p5 q0 q1 q2 q3 q4 q5; obtain ⟨p0, p1, p2, p3, p4, p5⟩ := T9.out.box.six)
    | (go_at_call 32; (with_reducible refine (CZ.out _ T9.out.b _ h9.out).mono ?_); rintro e w10 ⟨U3, j3, U4, j4, U5, j5, rfl, g, hx⟩; have BU := Aside0.mk (⟨heap_new w10 _, hx.below (up1 w10 _)⟩ : BoxF (w10.alloc (.cells #[.int .i64 nx.f0, .string nx.f1, .int .i64 nx.f2, .slice U3 nx.f3.length j3, .slice U4 nx.f4.length j4, .slice U5 nx.f5.length j5] 26)) w10.heap.size nx U3 j3 U4 j4 U5 j5); have T10 := Aside0.mk ((T9.out.below g).below (up1 w10 (.cells #[.int .i64 nx.f0, .string nx.f1, .int .i64 nx.f2, .slice U3 nx.f3.length j3, .slice U4 nx.f4.length j4, .slice U5 nx.f5.length j5] 26))); replace BX := Aside0.mk ((BX.out.below g).below (up1 w10 (.cells #[.int .i64 nx.f0, .string nx.f1, .int .i64 nx.f2, .slice U3 nx.f3.length j3, .slice U4 nx.f4.length j4, .slice U5 nx.f5.length j5] 26))); replace BY := Aside0.mk ((BY.out.below g).below (up1 w10 (.cells #[.int .i64 nx.f0, .string nx.f1, .int .i64 nx.f2, .slice U3 nx.f3.length j3, .slice U4 nx.f4.length j4, .slice U5 nx.f5.length j5] 26))); replace BZ := Aside0.mk ((BZ.out.below g).below (up1 w10 (.cells #[.int .i64 nx.f0, .string nx.f1, .int .i64 nx.f2, .slice U3 nx.f3.length j3, .slice U4 nx.f4.length j4, .slice U5 nx.f5.length j5] 26))); clear g hx; clear p0 p1 p2 p3 p4 p5; obtain ⟨p0, p1, p2, p3, p4, p5⟩ := T10.out.box.six; obtain ⟨q0, q1, q2, q3, q4, q5⟩ := BX.out.six; obtain ⟨n0, n1, n2, n3, n4, n5⟩ := BY.out.six; obtain ⟨r0, r1, r2, r3, r4, r5⟩ := BU.out.six)
    | (go_at_call 30; (with_reducible refine (same_calls nx nx D3 f3 D4 f4 D5 f5 E3 h3 E4 h4 E5 h5 _ BX.out.at_ BY.out.at_).mono ?_); rintro e w11 ⟨rfl, g⟩; have T11 := Aside0.mk (T10.out.below g); replace BX := Aside0.mk (BX.out.below g); replace BY := Aside0.mk (BY.out.below g); replace BZ := Aside0.mk (BZ.out.below g); replace BU := Aside0.mk (BU.out.below g); (try rw [same_refl nx]); replace g := Aside0.mk g; clear p0 p1 p2 p3 p4 p5 q0 q1 q2 q3 q4 q5 n0 n1 n2 n3 n4 n5 r0 r1 r2 r3 r4 r5; obtain ⟨p0, p1, p2, p3, p4, p5⟩ := T11.out.box.six; obtain ⟨q0, q1, q2, q3, q4, q5⟩ := BX.out.six; obtain ⟨r0, r1, r2, r3, r4, r5⟩ := BU.out.six)
    | (go_at_call 30; (with_reducible refine (same_calls nx nx D3 f3 D4 f4 D5 f5 U3 j3 U4 j4 U5 j5 _ BX.out.at_ BU.out.at_).mono ?_); rintro e w12 ⟨rfl, g⟩; have T12 := Aside0.mk (T11.out.below g); replace BX := Aside0.mk (BX.out.below g); replace BY := Aside0.mk (BY.out.below g); replace BZ := Aside0.mk (BZ.out.below g); replace BU := Aside0.mk (BU.out.below g); (try rw [same_refl nx]); replace g := Aside0.mk g; clear p0 p1 p2 p3 p4 p5 q0 q1 q2 q3 q4 q5 r0 r1 r2 r3 r4 r5; obtain ⟨p0, p1, p2, p3, p4, p5⟩ := T12.out.box.six))
  go_ret
  exact ⟨rfl, T12.out.b⟩
set_option maxRecDepth 100000 in
set_option maxHeartbeats 8000000 in
theorem law8_g0i2 (x : S26) (A3 : Option Addr) (c3 : Nat) (A4 : Option Addr) (c4 : Nat) (A5 : Option Addr) (c5 : Nat) (w : World) (ha : Arg w x A3 c3 A4 c4 A5 c5) (ht : Tabs w) (hd : Duals w) (hfew : ∀ W, Below w.heap.size w W → Calls Tryd.prog 21 #[.agg #[.int .i64 x.f0, .string x.f1, .int .i64 x.f2, .slice A3 x.f3.length c3, .slice A4 x.f4.length c4, .slice A5 x.f5.length c5]] W fun e w' => e = .returned (.bool true) ∧ Below W.heap.size W w') (h1 : check x = 0) (h3 : check (neg x) = 0) (h2 : check (neg (neg x)) = 0) (e2 : nnf (neg (neg x)) = nnf x) (h4 : check (neg (nnf (neg x))) = 2)  :
    Calls Tryd.prog 8 #[.agg #[.int .i64 x.f0, .string x.f1, .int .i64 x.f2, .slice A3 x.f3.length c3, .slice A4 x.f4.length c4, .slice A5 x.f5.length c5]] w fun e w' => e = .returned (.bool true) ∧ Below w.heap.size w w' := by
  have hu26 := Tryd.underlying26
  have C20 := Aside0.mk (fun W (h : St w W w.heap.size x A3 c3 A4 c4 A5 c5) => live_calls W (ht.below h.b) (hd.below h.b))
  have C21 := Aside0.mk (fun W (h : St w W w.heap.size x A3 c3 A4 c4 A5 c5) => hfew W h.b)
  have hsl := ha.argN.slim
  have hsz : size x ≤ 1048576 := by have := ha.wt; unfold wt26 at this; omega
  have hs1 := hsl.neg (by omega)
  have hs2 := hs1.neg (by rw [size_neg]; omega)
  have C32 := Aside0.mk (fun W (h : St w W w.heap.size x A3 c3 A4 c4 A5 c5) => nnf_at x A3 c3 A4 c4 A5 c5 W h.box.at_ ha.size ha.deep (ht.below h.b) (hd.below h.b))
  have C40 := Aside0.mk (fun W (h : St w W w.heap.size x A3 c3 A4 c4 A5 c5) => not1 x A3 c3 A4 c4 A5 c5 W h.box.at_)
  have CNN := Aside0.mk (fun W (hb : Below w.heap.size w W) a (h : At W (neg (neg x)) none 0 none 0 (some a) 1) => nnfN (neg x) a W hs2 h (ht.below hb) (hd.below hb))
  have CN := Aside0.mk (fun W (hb : Below w.heap.size w W) a (h : At W (neg x) none 0 none 0 (some a) 1) => nnfN x a W hs1 h (ht.below hb) (hd.below hb))
  have hs3 : Slim (neg (nnf (neg x))) := (slim_nnf hs1 (by rw [size_neg]; omega)).neg (by
    have hb : size (nnf (neg x)) ≤ 4194303 := by
      by_cases hz : check (neg x) = 0
      · rw [nnf_zero hz]
        have := right_size (fm_of (check_zero.1 hz).1) false
        rw [size_neg] at this
        omega
      · rw [nnf_other hz]
        decide +kernel
    exact hb)
  have CZ := Aside0.mk (fun W (hb : Below w.heap.size w W) a (h : At W (neg (nnf (neg x))) none 0 none 0 (some a) 1) => nnfN (nnf (neg x)) a W hs3 h (ht.below hb) (hd.below hb))
  rw [h1] at C32
  rw [h3] at CN
  rw [h2, e2] at CNN
  rw [h4] at CZ
  obtain ⟨nu, e_nu⟩ : ∃ v, nnf (neg (nnf (neg x))) = v := ⟨_, rfl⟩
  obtain ⟨nz, e_nz⟩ : ∃ v, nnf (neg x) = v := ⟨_, rfl⟩
  obtain ⟨nx, e_nx⟩ : ∃ v, nnf x = v := ⟨_, rfl⟩
  rw [e_nu] at CZ
  rw [e_nz] at CN CZ
  rw [e_nx] at C32 CNN
  clear e_nu e_nz e_nx h1 h2 h3 h4 e2
  have T0 := Aside0.mk (St.start ha.at_)
  clear ha ht hd hfew hsl hsz hs1 hs2 hs3
  go_enter Tryd.func8, Tryd.ntmps8
  go_wp2_with (first
    | (go_at_call 20; (with_reducible refine (C20.out _ T0.out).mono ?_); rintro e w1 ⟨rfl, g⟩; have T1 := Aside0.mk (T0.out.below g); replace g := Aside0.mk g; obtain ⟨p0, p1, p2, p3, p4, p5⟩ := T1.out.box.six)
    | (go_at_call 21; (with_reducible refine (C21.out _ T1.out).mono ?_); rintro e w2 ⟨rfl, g⟩; have T2 := Aside0.mk (T1.out.below g); replace g := Aside0.mk g; clear p0 p1 p2 p3 p4 p5; obtain ⟨p0, p1, p2, p3, p4, p5⟩ := T2.out.box.six)
    | (go_at_call 32; (with_reducible refine (C32.out _ T2.out).mono ?_); rintro e w3 ⟨D3, f3, D4, f4, D5, f5, rfl, g, hx⟩; have BX := Aside0.mk (⟨heap_new w3 _, hx.below (up1 w3 _)⟩ : BoxF (w3.alloc (.cells #[.int .i64 nx.f0, .string nx.f1, .int .i64 nx.f2, .slice D3 nx.f3.length f3, .slice D4 nx.f4.length f4, .slice D5 nx.f5.length f5] 26)) w3.heap.size nx D3 f3 D4 f4 D5 f5); have T3 := Aside0.mk ((T2.out.below g).below (up1 w3 (.cells #[.int .i64 nx.f0, .string nx.f1, .int .i64 nx.f2, .slice D3 nx.f3.length f3, .slice D4 nx.f4.length f4, .slice D5 nx.f5.length f5] 26))); clear g hx; clear p0 p1 p2 p3 p4 p5; obtain ⟨p0, p1, p2, p3, p4, p5⟩ := T3.out.box.six)
    | (go_at_call 40; (with_reducible refine (C40.out _ T3.out).mono ?_); rintro e w4 ⟨a4, rfl, g, h4⟩; have T4 := Aside0.mk (T3.out.below g); replace BX := Aside0.mk (BX.out.below g); replace h4 := Aside0.mk h4; replace g := Aside0.mk g; clear p0 p1 p2 p3 p4 p5; obtain ⟨p0, p1, p2, p3, p4, p5⟩ := T4.out.box.six)
    | (go_at_call 40; (with_reducible refine (not2 x a4 _ h4.out).mono ?_); rintro e w5 ⟨a5, rfl, g, h5⟩; have T5 := Aside0.mk (T4.out.below g); replace BX := Aside0.mk (BX.out.below g); replace h5 := Aside0.mk h5; replace g := Aside0.mk g; clear p0 p1 p2 p3 p4 p5; obtain ⟨p0, p1, p2, p3, p4, p5⟩ := T5.out.box.six)
    | (go_at_call 32; (with_reducible refine (CNN.out _ T5.out.b _ h5.out).mono ?_); rintro e w6 ⟨E3, h3, E4, h4, E5, h5, rfl, g, hx⟩; have BY := Aside0.mk (⟨heap_new w6 _, hx.below (up1 w6 _)⟩ : BoxF (w6.alloc (.cells #[.int .i64 nx.f0, .string nx.f1, .int .i64 nx.f2, .slice E3 nx.f3.length h3, .slice E4 nx.f4.length h4, .slice E5 nx.f5.length h5] 26)) w6.heap.size nx E3 h3 E4 h4 E5 h5); have T6 := Aside0.mk ((T5.out.below g).below (up1 w6 (.cells #[.int .i64 nx.f0, .string nx.f1, .int .i64 nx.f2, .slice E3 nx.f3.length h3, .slice E4 nx.f4.length h4, .slice E5 nx.f5.length h5] 26))); replace BX := Aside0.mk ((BX.out.below g).below (up1 w6 (.cells #[.int .i64 nx.f0, .string nx.f1, .int .i64 nx.f2, .slice E3 nx.f3.length h3, .slice E4 nx.f4.length h4, .slice E5 nx.f5.length h5] 26))); clear g hx; clear p0 p1 p2 p3 p4 p5; obtain ⟨p0, p1, p2, p3, p4, p5⟩ := T6.out.box.six)
    | (go_at_call 40; (with_reducible refine (C40.out _ T6.out).mono ?_); rintro e w7 ⟨a7, rfl, g, h7⟩; have T7 := Aside0.mk (T6.out.below g); replace BX := Aside0.mk (BX.out.below g); replace BY := Aside0.mk (BY.out.below g); replace h7 := Aside0.mk h7; replace g := Aside0.mk g; clear p0 p1 p2 p3 p4 p5; obtain ⟨p0, p1, p2, p3, p4, p5⟩ := T7.out.box.six)
    | (go_at_call 32; (with_reducible refine (CN.out _ T7.out.b _ h7.out).mono ?_); rintro e w8 ⟨G3, i3, G4, i4, G5, i5, rfl, g, hx⟩; have BZ := Aside0.mk (⟨heap_new w8 _, hx.below (up1 w8 _)⟩ : BoxF (w8.alloc (.cells #[.int .i64 nz.f0, .string nz.f1, .int .i64 nz.f2, .slice G3 nz.f3.length i3, .slice G4 nz.f4.length i4, .slice G5 nz.f5.length i5] 26)) w8.heap.size nz G3 i3 G4 i4 G5 i5); have T8 := Aside0.mk ((T7.out.below g).below (up1 w8 (.cells #[.int .i64 nz.f0, .string nz.f1, .int .i64 nz.f2, .slice G3 nz.f3.length i3, .slice G4 nz.f4.length i4, .slice G5 nz.f5.length i5] 26))); replace BX := Aside0.mk ((BX.out.below g).below (up1 w8 (.cells #[.int .i64 nz.f0, .string nz.f1, .int .i64 nz.f2, .slice G3 nz.f3.length i3, .slice G4 nz.f4.length i4, .slice G5 nz.f5.length i5] 26))); replace BY := Aside0.mk ((BY.out.below g).below (up1 w8 (.cells #[.int .i64 nz.f0, .string nz.f1, .int .i64 nz.f2, .slice G3 nz.f3.length i3, .slice G4 nz.f4.length i4, .slice G5 nz.f5.length i5] 26))); clear g hx; clear p0 p1 p2 p3 p4 p5; obtain ⟨p0, p1, p2, p3, p4, p5⟩ := T8.out.box.six; obtain ⟨q0, q1, q2, q3, q4, q5⟩ := BZ.out.six)
    | (go_at_call 40; (with_reducible refine (not1 nz G3 i3 G4 i4 G5 i5 _ BZ.out.at_).mono ?_); rintro e w9 ⟨a9, rfl, g, h9⟩; have T9 := Aside0.mk (T8.out.below g); replace BX := Aside0.mk (BX.out.below g); replace BY := Aside0.mk (BY.out.below g); replace BZ := Aside0.mk (BZ.out.below g); replace h9 := Aside0.mk h9; replace g := Aside0.mk g; clear p0 p1 p2 p3 p4 p5 q0 q1 q2 q3 q4 q5; obtain ⟨p0, p1, p2, p3, p4, p5⟩ := T9.out.box.six)
    | (go_at_call 32; (with_reducible refine (CZ.out _ T9.out.b _ h9.out).mono ?_); rintro e w10 ⟨U3, j3, U4, j4, U5, j5, rfl, g, hx⟩; have BU := Aside0.mk (⟨heap_new w10 _, hx.below (up1 w10 _)⟩ : BoxF (w10.alloc (.cells #[.int .i64 nu.f0, .string nu.f1, .int .i64 nu.f2, .slice U3 nu.f3.length j3, .slice U4 nu.f4.length j4, .slice U5 nu.f5.length j5] 26)) w10.heap.size nu U3 j3 U4 j4 U5 j5); have T10 := Aside0.mk ((T9.out.below g).below (up1 w10 (.cells #[.int .i64 nu.f0, .string nu.f1, .int .i64 nu.f2, .slice U3 nu.f3.length j3, .slice U4 nu.f4.length j4, .slice U5 nu.f5.length j5] 26))); replace BX := Aside0.mk ((BX.out.below g).below (up1 w10 (.cells #[.int .i64 nu.f0, .string nu.f1, .int .i64 nu.f2, .slice U3 nu.f3.length j3, .slice U4 nu.f4.length j4, .slice U5 nu.f5.length j5] 26))); replace BY := Aside0.mk ((BY.out.below g).below (up1 w10 (.cells #[.int .i64 nu.f0, .string nu.f1, .int .i64 nu.f2, .slice U3 nu.f3.length j3, .slice U4 nu.f4.length j4, .slice U5 nu.f5.length j5] 26))); replace BZ := Aside0.mk ((BZ.out.below g).below (up1 w10 (.cells #[.int .i64 nu.f0, .string nu.f1, .int .i64 nu.f2, .slice U3 nu.f3.length j3, .slice U4 nu.f4.length j4, .slice U5 nu.f5.length j5] 26))); clear g hx; clear p0 p1 p2 p3 p4 p5; obtain ⟨p0, p1, p2, p3, p4, p5⟩ := T10.out.box.six; obtain ⟨q0, q1, q2, q3, q4, q5⟩ := BX.out.six; obtain ⟨n0, n1, n2, n3, n4, n5⟩ := BY.out.six)
    | (go_at_call 30; (with_reducible refine (same_calls nx nx D3 f3 D4 f4 D5 f5 E3 h3 E4 h4 E5 h5 _ BX.out.at_ BY.out.at_).mono ?_); rintro e w11 ⟨rfl, g⟩; have T11 := Aside0.mk (T10.out.below g); replace BX := Aside0.mk (BX.out.below g); replace BY := Aside0.mk (BY.out.below g); replace BZ := Aside0.mk (BZ.out.below g); replace BU := Aside0.mk (BU.out.below g); (try rw [same_refl nx]); replace g := Aside0.mk g; clear p0 p1 p2 p3 p4 p5 q0 q1 q2 q3 q4 q5 n0 n1 n2 n3 n4 n5; obtain ⟨p0, p1, p2, p3, p4, p5⟩ := T11.out.box.six; obtain ⟨q0, q1, q2, q3, q4, q5⟩ := BX.out.six))
  go_ret
  exact ⟨rfl, T11.out.b⟩
set_option maxRecDepth 100000 in
set_option maxHeartbeats 8000000 in
theorem law8_g2i0 (x : S26) (A3 : Option Addr) (c3 : Nat) (A4 : Option Addr) (c4 : Nat) (A5 : Option Addr) (c5 : Nat) (w : World) (ha : Arg w x A3 c3 A4 c4 A5 c5) (ht : Tabs w) (hd : Duals w) (hfew : ∀ W, Below w.heap.size w W → Calls Tryd.prog 21 #[.agg #[.int .i64 x.f0, .string x.f1, .int .i64 x.f2, .slice A3 x.f3.length c3, .slice A4 x.f4.length c4, .slice A5 x.f5.length c5]] W fun e w' => e = .returned (.bool true) ∧ Below W.heap.size W w') (h1 : check x = 0) (h3 : check (neg x) = 0) (h2 : check (neg (neg x)) = 2) (h4 : check (neg (nnf (neg x))) = 0) (e4 : nnf (neg (nnf (neg x))) = nnf x) :
    Calls Tryd.prog 8 #[.agg #[.int .i64 x.f0, .string x.f1, .int .i64 x.f2, .slice A3 x.f3.length c3, .slice A4 x.f4.length c4, .slice A5 x.f5.length c5]] w fun e w' => e = .returned (.bool true) ∧ Below w.heap.size w w' := by
  have hu26 := Tryd.underlying26
  have C20 := Aside0.mk (fun W (h : St w W w.heap.size x A3 c3 A4 c4 A5 c5) => live_calls W (ht.below h.b) (hd.below h.b))
  have C21 := Aside0.mk (fun W (h : St w W w.heap.size x A3 c3 A4 c4 A5 c5) => hfew W h.b)
  have hsl := ha.argN.slim
  have hsz : size x ≤ 1048576 := by have := ha.wt; unfold wt26 at this; omega
  have hs1 := hsl.neg (by omega)
  have hs2 := hs1.neg (by rw [size_neg]; omega)
  have C32 := Aside0.mk (fun W (h : St w W w.heap.size x A3 c3 A4 c4 A5 c5) => nnf_at x A3 c3 A4 c4 A5 c5 W h.box.at_ ha.size ha.deep (ht.below h.b) (hd.below h.b))
  have C40 := Aside0.mk (fun W (h : St w W w.heap.size x A3 c3 A4 c4 A5 c5) => not1 x A3 c3 A4 c4 A5 c5 W h.box.at_)
  have CNN := Aside0.mk (fun W (hb : Below w.heap.size w W) a (h : At W (neg (neg x)) none 0 none 0 (some a) 1) => nnfN (neg x) a W hs2 h (ht.below hb) (hd.below hb))
  have CN := Aside0.mk (fun W (hb : Below w.heap.size w W) a (h : At W (neg x) none 0 none 0 (some a) 1) => nnfN x a W hs1 h (ht.below hb) (hd.below hb))
  have hs3 : Slim (neg (nnf (neg x))) := (slim_nnf hs1 (by rw [size_neg]; omega)).neg (by
    have hb : size (nnf (neg x)) ≤ 4194303 := by
      by_cases hz : check (neg x) = 0
      · rw [nnf_zero hz]
        have := right_size (fm_of (check_zero.1 hz).1) false
        rw [size_neg] at this
        omega
      · rw [nnf_other hz]
        decide +kernel
    exact hb)
  have CZ := Aside0.mk (fun W (hb : Below w.heap.size w W) a (h : At W (neg (nnf (neg x))) none 0 none 0 (some a) 1) => nnfN (nnf (neg x)) a W hs3 h (ht.below hb) (hd.below hb))
  rw [h1] at C32
  rw [h3] at CN
  rw [h2] at CNN
  rw [h4, e4] at CZ
  obtain ⟨ny, e_ny⟩ : ∃ v, nnf (neg (neg x)) = v := ⟨_, rfl⟩
  obtain ⟨nz, e_nz⟩ : ∃ v, nnf (neg x) = v := ⟨_, rfl⟩
  obtain ⟨nx, e_nx⟩ : ∃ v, nnf x = v := ⟨_, rfl⟩
  rw [e_ny] at CNN
  rw [e_nz] at CN CZ
  rw [e_nx] at C32 CZ
  clear e_ny e_nz e_nx h1 h2 h3 h4 e4
  have T0 := Aside0.mk (St.start ha.at_)
  clear ha ht hd hfew hsl hsz hs1 hs2 hs3
  go_enter Tryd.func8, Tryd.ntmps8
  go_wp2_with (first
    | (go_at_call 20; (with_reducible refine (C20.out _ T0.out).mono ?_); rintro e w1 ⟨rfl, g⟩; have T1 := Aside0.mk (T0.out.below g); replace g := Aside0.mk g; obtain ⟨p0, p1, p2, p3, p4, p5⟩ := T1.out.box.six)
    | (go_at_call 21; (with_reducible refine (C21.out _ T1.out).mono ?_); rintro e w2 ⟨rfl, g⟩; have T2 := Aside0.mk (T1.out.below g); replace g := Aside0.mk g; clear p0 p1 p2 p3 p4 p5; obtain ⟨p0, p1, p2, p3, p4, p5⟩ := T2.out.box.six)
    | (go_at_call 32; (with_reducible refine (C32.out _ T2.out).mono ?_); rintro e w3 ⟨D3, f3, D4, f4, D5, f5, rfl, g, hx⟩; have BX := Aside0.mk (⟨heap_new w3 _, hx.below (up1 w3 _)⟩ : BoxF (w3.alloc (.cells #[.int .i64 nx.f0, .string nx.f1, .int .i64 nx.f2, .slice D3 nx.f3.length f3, .slice D4 nx.f4.length f4, .slice D5 nx.f5.length f5] 26)) w3.heap.size nx D3 f3 D4 f4 D5 f5); have T3 := Aside0.mk ((T2.out.below g).below (up1 w3 (.cells #[.int .i64 nx.f0, .string nx.f1, .int .i64 nx.f2, .slice D3 nx.f3.length f3, .slice D4 nx.f4.length f4, .slice D5 nx.f5.length f5] 26))); clear g hx; clear p0 p1 p2 p3 p4 p5; obtain ⟨p0, p1, p2, p3, p4, p5⟩ := T3.out.box.six)
    | (go_at_call 40; (with_reducible refine (C40.out _ T3.out).mono ?_); rintro e w4 ⟨a4, rfl, g, h4⟩; have T4 := Aside0.mk (T3.out.below g); replace BX := Aside0.mk (BX.out.below g); replace h4 := Aside0.mk h4; replace g := Aside0.mk g; clear p0 p1 p2 p3 p4 p5; obtain ⟨p0, p1, p2, p3, p4, p5⟩ := T4.out.box.six)
    | (go_at_call 40; (with_reducible refine (not2 x a4 _ h4.out).mono ?_); rintro e w5 ⟨a5, rfl, g, h5⟩; have T5 := Aside0.mk (T4.out.below g); replace BX := Aside0.mk (BX.out.below g); replace h5 := Aside0.mk h5; replace g := Aside0.mk g; clear p0 p1 p2 p3 p4 p5; obtain ⟨p0, p1, p2, p3, p4, p5⟩ := T5.out.box.six)
    | (go_at_call 32; (with_reducible refine (CNN.out _ T5.out.b _ h5.out).mono ?_); rintro e w6 ⟨E3, h3, E4, h4, E5, h5, rfl, g, hx⟩; have BY := Aside0.mk (⟨heap_new w6 _, hx.below (up1 w6 _)⟩ : BoxF (w6.alloc (.cells #[.int .i64 ny.f0, .string ny.f1, .int .i64 ny.f2, .slice E3 ny.f3.length h3, .slice E4 ny.f4.length h4, .slice E5 ny.f5.length h5] 26)) w6.heap.size ny E3 h3 E4 h4 E5 h5); have T6 := Aside0.mk ((T5.out.below g).below (up1 w6 (.cells #[.int .i64 ny.f0, .string ny.f1, .int .i64 ny.f2, .slice E3 ny.f3.length h3, .slice E4 ny.f4.length h4, .slice E5 ny.f5.length h5] 26))); replace BX := Aside0.mk ((BX.out.below g).below (up1 w6 (.cells #[.int .i64 ny.f0, .string ny.f1, .int .i64 ny.f2, .slice E3 ny.f3.length h3, .slice E4 ny.f4.length h4, .slice E5 ny.f5.length h5] 26))); clear g hx; clear p0 p1 p2 p3 p4 p5; obtain ⟨p0, p1, p2, p3, p4, p5⟩ := T6.out.box.six)
    | (go_at_call 40; (with_reducible refine (C40.out _ T6.out).mono ?_); rintro e w7 ⟨a7, rfl, g, h7⟩; have T7 := Aside0.mk (T6.out.below g); replace BX := Aside0.mk (BX.out.below g); replace BY := Aside0.mk (BY.out.below g); replace h7 := Aside0.mk h7; replace g := Aside0.mk g; clear p0 p1 p2 p3 p4 p5; obtain ⟨p0, p1, p2, p3, p4, p5⟩ := T7.out.box.six)
    | (go_at_call 32; (with_reducible refine (CN.out _ T7.out.b _ h7.out).mono ?_); rintro e w8 ⟨G3, i3, G4, i4, G5, i5, rfl, g, hx⟩; have BZ := Aside0.mk (⟨heap_new w8 _, hx.below (up1 w8 _)⟩ : BoxF (w8.alloc (.cells #[.int .i64 nz.f0, .string nz.f1, .int .i64 nz.f2, .slice G3 nz.f3.length i3, .slice G4 nz.f4.length i4, .slice G5 nz.f5.length i5] 26)) w8.heap.size nz G3 i3 G4 i4 G5 i5); have T8 := Aside0.mk ((T7.out.below g).below (up1 w8 (.cells #[.int .i64 nz.f0, .string nz.f1, .int .i64 nz.f2, .slice G3 nz.f3.length i3, .slice G4 nz.f4.length i4, .slice G5 nz.f5.length i5] 26))); replace BX := Aside0.mk ((BX.out.below g).below (up1 w8 (.cells #[.int .i64 nz.f0, .string nz.f1, .int .i64 nz.f2, .slice G3 nz.f3.length i3, .slice G4 nz.f4.length i4, .slice G5 nz.f5.length i5] 26))); replace BY := Aside0.mk ((BY.out.below g).below (up1 w8 (.cells #[.int .i64 nz.f0, .string nz.f1, .int .i64 nz.f2, .slice G3 nz.f3.length i3, .slice G4 nz.f4.length i4, .slice G5 nz.f5.length i5] 26))); clear g hx; clear p0 p1 p2 p3 p4 p5; obtain ⟨p0, p1, p2, p3, p4, p5⟩ := T8.out.box.six; obtain ⟨q0, q1, q2, q3, q4, q5⟩ := BZ.out.six)
    | (go_at_call 40; (with_reducible refine (not1 nz G3 i3 G4 i4 G5 i5 _ BZ.out.at_).mono ?_); rintro e w9 ⟨a9, rfl, g, h9⟩; have T9 := Aside0.mk (T8.out.below g); replace BX := Aside0.mk (BX.out.below g); replace BY := Aside0.mk (BY.out.below g); replace BZ := Aside0.mk (BZ.out.below g); replace h9 := Aside0.mk h9; replace g := Aside0.mk g; clear p0 p1 p2 p3 p4 p5 q0 q1 q2 q3 q4 q5; obtain ⟨p0, p1, p2, p3, p4, p5⟩ := T9.out.box.six)
    | (go_at_call 32; (with_reducible refine (CZ.out _ T9.out.b _ h9.out).mono ?_); rintro e w10 ⟨U3, j3, U4, j4, U5, j5, rfl, g, hx⟩; have BU := Aside0.mk (⟨heap_new w10 _, hx.below (up1 w10 _)⟩ : BoxF (w10.alloc (.cells #[.int .i64 nx.f0, .string nx.f1, .int .i64 nx.f2, .slice U3 nx.f3.length j3, .slice U4 nx.f4.length j4, .slice U5 nx.f5.length j5] 26)) w10.heap.size nx U3 j3 U4 j4 U5 j5); have T10 := Aside0.mk ((T9.out.below g).below (up1 w10 (.cells #[.int .i64 nx.f0, .string nx.f1, .int .i64 nx.f2, .slice U3 nx.f3.length j3, .slice U4 nx.f4.length j4, .slice U5 nx.f5.length j5] 26))); replace BX := Aside0.mk ((BX.out.below g).below (up1 w10 (.cells #[.int .i64 nx.f0, .string nx.f1, .int .i64 nx.f2, .slice U3 nx.f3.length j3, .slice U4 nx.f4.length j4, .slice U5 nx.f5.length j5] 26))); replace BY := Aside0.mk ((BY.out.below g).below (up1 w10 (.cells #[.int .i64 nx.f0, .string nx.f1, .int .i64 nx.f2, .slice U3 nx.f3.length j3, .slice U4 nx.f4.length j4, .slice U5 nx.f5.length j5] 26))); replace BZ := Aside0.mk ((BZ.out.below g).below (up1 w10 (.cells #[.int .i64 nx.f0, .string nx.f1, .int .i64 nx.f2, .slice U3 nx.f3.length j3, .slice U4 nx.f4.length j4, .slice U5 nx.f5.length j5] 26))); clear g hx; clear p0 p1 p2 p3 p4 p5; obtain ⟨p0, p1, p2, p3, p4, p5⟩ := T10.out.box.six; obtain ⟨q0, q1, q2, q3, q4, q5⟩ := BX.out.six; obtain ⟨r0, r1, r2, r3, r4, r5⟩ := BU.out.six)
    | (go_at_call 30; (with_reducible refine (same_calls nx nx D3 f3 D4 f4 D5 f5 U3 j3 U4 j4 U5 j5 _ BX.out.at_ BU.out.at_).mono ?_); rintro e w11 ⟨rfl, g⟩; have T11 := Aside0.mk (T10.out.below g); replace BX := Aside0.mk (BX.out.below g); replace BY := Aside0.mk (BY.out.below g); replace BZ := Aside0.mk (BZ.out.below g); replace BU := Aside0.mk (BU.out.below g); (try rw [same_refl nx]); replace g := Aside0.mk g; clear p0 p1 p2 p3 p4 p5 q0 q1 q2 q3 q4 q5 r0 r1 r2 r3 r4 r5; obtain ⟨p0, p1, p2, p3, p4, p5⟩ := T11.out.box.six))
  go_ret
  exact ⟨rfl, T11.out.b⟩
set_option maxRecDepth 100000 in
set_option maxHeartbeats 8000000 in
theorem law8_g2i2 (x : S26) (A3 : Option Addr) (c3 : Nat) (A4 : Option Addr) (c4 : Nat) (A5 : Option Addr) (c5 : Nat) (w : World) (ha : Arg w x A3 c3 A4 c4 A5 c5) (ht : Tabs w) (hd : Duals w) (hfew : ∀ W, Below w.heap.size w W → Calls Tryd.prog 21 #[.agg #[.int .i64 x.f0, .string x.f1, .int .i64 x.f2, .slice A3 x.f3.length c3, .slice A4 x.f4.length c4, .slice A5 x.f5.length c5]] W fun e w' => e = .returned (.bool true) ∧ Below W.heap.size W w') (h1 : check x = 0) (h3 : check (neg x) = 0) (h2 : check (neg (neg x)) = 2) (h4 : check (neg (nnf (neg x))) = 2)  :
    Calls Tryd.prog 8 #[.agg #[.int .i64 x.f0, .string x.f1, .int .i64 x.f2, .slice A3 x.f3.length c3, .slice A4 x.f4.length c4, .slice A5 x.f5.length c5]] w fun e w' => e = .returned (.bool true) ∧ Below w.heap.size w w' := by
  have hu26 := Tryd.underlying26
  have C20 := Aside0.mk (fun W (h : St w W w.heap.size x A3 c3 A4 c4 A5 c5) => live_calls W (ht.below h.b) (hd.below h.b))
  have C21 := Aside0.mk (fun W (h : St w W w.heap.size x A3 c3 A4 c4 A5 c5) => hfew W h.b)
  have hsl := ha.argN.slim
  have hsz : size x ≤ 1048576 := by have := ha.wt; unfold wt26 at this; omega
  have hs1 := hsl.neg (by omega)
  have hs2 := hs1.neg (by rw [size_neg]; omega)
  have C32 := Aside0.mk (fun W (h : St w W w.heap.size x A3 c3 A4 c4 A5 c5) => nnf_at x A3 c3 A4 c4 A5 c5 W h.box.at_ ha.size ha.deep (ht.below h.b) (hd.below h.b))
  have C40 := Aside0.mk (fun W (h : St w W w.heap.size x A3 c3 A4 c4 A5 c5) => not1 x A3 c3 A4 c4 A5 c5 W h.box.at_)
  have CNN := Aside0.mk (fun W (hb : Below w.heap.size w W) a (h : At W (neg (neg x)) none 0 none 0 (some a) 1) => nnfN (neg x) a W hs2 h (ht.below hb) (hd.below hb))
  have CN := Aside0.mk (fun W (hb : Below w.heap.size w W) a (h : At W (neg x) none 0 none 0 (some a) 1) => nnfN x a W hs1 h (ht.below hb) (hd.below hb))
  have hs3 : Slim (neg (nnf (neg x))) := (slim_nnf hs1 (by rw [size_neg]; omega)).neg (by
    have hb : size (nnf (neg x)) ≤ 4194303 := by
      by_cases hz : check (neg x) = 0
      · rw [nnf_zero hz]
        have := right_size (fm_of (check_zero.1 hz).1) false
        rw [size_neg] at this
        omega
      · rw [nnf_other hz]
        decide +kernel
    exact hb)
  have CZ := Aside0.mk (fun W (hb : Below w.heap.size w W) a (h : At W (neg (nnf (neg x))) none 0 none 0 (some a) 1) => nnfN (nnf (neg x)) a W hs3 h (ht.below hb) (hd.below hb))
  rw [h1] at C32
  rw [h3] at CN
  rw [h2] at CNN
  rw [h4] at CZ
  obtain ⟨nu, e_nu⟩ : ∃ v, nnf (neg (nnf (neg x))) = v := ⟨_, rfl⟩
  obtain ⟨ny, e_ny⟩ : ∃ v, nnf (neg (neg x)) = v := ⟨_, rfl⟩
  obtain ⟨nz, e_nz⟩ : ∃ v, nnf (neg x) = v := ⟨_, rfl⟩
  obtain ⟨nx, e_nx⟩ : ∃ v, nnf x = v := ⟨_, rfl⟩
  rw [e_nu] at CZ
  rw [e_ny] at CNN
  rw [e_nz] at CN CZ
  rw [e_nx] at C32
  clear e_nu e_ny e_nz e_nx h1 h2 h3 h4
  have T0 := Aside0.mk (St.start ha.at_)
  clear ha ht hd hfew hsl hsz hs1 hs2 hs3
  go_enter Tryd.func8, Tryd.ntmps8
  go_wp2_with (first
    | (go_at_call 20; (with_reducible refine (C20.out _ T0.out).mono ?_); rintro e w1 ⟨rfl, g⟩; have T1 := Aside0.mk (T0.out.below g); replace g := Aside0.mk g; obtain ⟨p0, p1, p2, p3, p4, p5⟩ := T1.out.box.six)
    | (go_at_call 21; (with_reducible refine (C21.out _ T1.out).mono ?_); rintro e w2 ⟨rfl, g⟩; have T2 := Aside0.mk (T1.out.below g); replace g := Aside0.mk g; clear p0 p1 p2 p3 p4 p5; obtain ⟨p0, p1, p2, p3, p4, p5⟩ := T2.out.box.six)
    | (go_at_call 32; (with_reducible refine (C32.out _ T2.out).mono ?_); rintro e w3 ⟨D3, f3, D4, f4, D5, f5, rfl, g, hx⟩; have BX := Aside0.mk (⟨heap_new w3 _, hx.below (up1 w3 _)⟩ : BoxF (w3.alloc (.cells #[.int .i64 nx.f0, .string nx.f1, .int .i64 nx.f2, .slice D3 nx.f3.length f3, .slice D4 nx.f4.length f4, .slice D5 nx.f5.length f5] 26)) w3.heap.size nx D3 f3 D4 f4 D5 f5); have T3 := Aside0.mk ((T2.out.below g).below (up1 w3 (.cells #[.int .i64 nx.f0, .string nx.f1, .int .i64 nx.f2, .slice D3 nx.f3.length f3, .slice D4 nx.f4.length f4, .slice D5 nx.f5.length f5] 26))); clear g hx; clear p0 p1 p2 p3 p4 p5; obtain ⟨p0, p1, p2, p3, p4, p5⟩ := T3.out.box.six)
    | (go_at_call 40; (with_reducible refine (C40.out _ T3.out).mono ?_); rintro e w4 ⟨a4, rfl, g, h4⟩; have T4 := Aside0.mk (T3.out.below g); replace BX := Aside0.mk (BX.out.below g); replace h4 := Aside0.mk h4; replace g := Aside0.mk g; clear p0 p1 p2 p3 p4 p5; obtain ⟨p0, p1, p2, p3, p4, p5⟩ := T4.out.box.six)
    | (go_at_call 40; (with_reducible refine (not2 x a4 _ h4.out).mono ?_); rintro e w5 ⟨a5, rfl, g, h5⟩; have T5 := Aside0.mk (T4.out.below g); replace BX := Aside0.mk (BX.out.below g); replace h5 := Aside0.mk h5; replace g := Aside0.mk g; clear p0 p1 p2 p3 p4 p5; obtain ⟨p0, p1, p2, p3, p4, p5⟩ := T5.out.box.six)
    | (go_at_call 32; (with_reducible refine (CNN.out _ T5.out.b _ h5.out).mono ?_); rintro e w6 ⟨E3, h3, E4, h4, E5, h5, rfl, g, hx⟩; have BY := Aside0.mk (⟨heap_new w6 _, hx.below (up1 w6 _)⟩ : BoxF (w6.alloc (.cells #[.int .i64 ny.f0, .string ny.f1, .int .i64 ny.f2, .slice E3 ny.f3.length h3, .slice E4 ny.f4.length h4, .slice E5 ny.f5.length h5] 26)) w6.heap.size ny E3 h3 E4 h4 E5 h5); have T6 := Aside0.mk ((T5.out.below g).below (up1 w6 (.cells #[.int .i64 ny.f0, .string ny.f1, .int .i64 ny.f2, .slice E3 ny.f3.length h3, .slice E4 ny.f4.length h4, .slice E5 ny.f5.length h5] 26))); replace BX := Aside0.mk ((BX.out.below g).below (up1 w6 (.cells #[.int .i64 ny.f0, .string ny.f1, .int .i64 ny.f2, .slice E3 ny.f3.length h3, .slice E4 ny.f4.length h4, .slice E5 ny.f5.length h5] 26))); clear g hx; clear p0 p1 p2 p3 p4 p5; obtain ⟨p0, p1, p2, p3, p4, p5⟩ := T6.out.box.six)
    | (go_at_call 40; (with_reducible refine (C40.out _ T6.out).mono ?_); rintro e w7 ⟨a7, rfl, g, h7⟩; have T7 := Aside0.mk (T6.out.below g); replace BX := Aside0.mk (BX.out.below g); replace BY := Aside0.mk (BY.out.below g); replace h7 := Aside0.mk h7; replace g := Aside0.mk g; clear p0 p1 p2 p3 p4 p5; obtain ⟨p0, p1, p2, p3, p4, p5⟩ := T7.out.box.six)
    | (go_at_call 32; (with_reducible refine (CN.out _ T7.out.b _ h7.out).mono ?_); rintro e w8 ⟨G3, i3, G4, i4, G5, i5, rfl, g, hx⟩; have BZ := Aside0.mk (⟨heap_new w8 _, hx.below (up1 w8 _)⟩ : BoxF (w8.alloc (.cells #[.int .i64 nz.f0, .string nz.f1, .int .i64 nz.f2, .slice G3 nz.f3.length i3, .slice G4 nz.f4.length i4, .slice G5 nz.f5.length i5] 26)) w8.heap.size nz G3 i3 G4 i4 G5 i5); have T8 := Aside0.mk ((T7.out.below g).below (up1 w8 (.cells #[.int .i64 nz.f0, .string nz.f1, .int .i64 nz.f2, .slice G3 nz.f3.length i3, .slice G4 nz.f4.length i4, .slice G5 nz.f5.length i5] 26))); replace BX := Aside0.mk ((BX.out.below g).below (up1 w8 (.cells #[.int .i64 nz.f0, .string nz.f1, .int .i64 nz.f2, .slice G3 nz.f3.length i3, .slice G4 nz.f4.length i4, .slice G5 nz.f5.length i5] 26))); replace BY := Aside0.mk ((BY.out.below g).below (up1 w8 (.cells #[.int .i64 nz.f0, .string nz.f1, .int .i64 nz.f2, .slice G3 nz.f3.length i3, .slice G4 nz.f4.length i4, .slice G5 nz.f5.length i5] 26))); clear g hx; clear p0 p1 p2 p3 p4 p5; obtain ⟨p0, p1, p2, p3, p4, p5⟩ := T8.out.box.six; obtain ⟨q0, q1, q2, q3, q4, q5⟩ := BZ.out.six)
    | (go_at_call 40; (with_reducible refine (not1 nz G3 i3 G4 i4 G5 i5 _ BZ.out.at_).mono ?_); rintro e w9 ⟨a9, rfl, g, h9⟩; have T9 := Aside0.mk (T8.out.below g); replace BX := Aside0.mk (BX.out.below g); replace BY := Aside0.mk (BY.out.below g); replace BZ := Aside0.mk (BZ.out.below g); replace h9 := Aside0.mk h9; replace g := Aside0.mk g; clear p0 p1 p2 p3 p4 p5 q0 q1 q2 q3 q4 q5; obtain ⟨p0, p1, p2, p3, p4, p5⟩ := T9.out.box.six)
    | (go_at_call 32; (with_reducible refine (CZ.out _ T9.out.b _ h9.out).mono ?_); rintro e w10 ⟨U3, j3, U4, j4, U5, j5, rfl, g, hx⟩; have BU := Aside0.mk (⟨heap_new w10 _, hx.below (up1 w10 _)⟩ : BoxF (w10.alloc (.cells #[.int .i64 nu.f0, .string nu.f1, .int .i64 nu.f2, .slice U3 nu.f3.length j3, .slice U4 nu.f4.length j4, .slice U5 nu.f5.length j5] 26)) w10.heap.size nu U3 j3 U4 j4 U5 j5); have T10 := Aside0.mk ((T9.out.below g).below (up1 w10 (.cells #[.int .i64 nu.f0, .string nu.f1, .int .i64 nu.f2, .slice U3 nu.f3.length j3, .slice U4 nu.f4.length j4, .slice U5 nu.f5.length j5] 26))); replace BX := Aside0.mk ((BX.out.below g).below (up1 w10 (.cells #[.int .i64 nu.f0, .string nu.f1, .int .i64 nu.f2, .slice U3 nu.f3.length j3, .slice U4 nu.f4.length j4, .slice U5 nu.f5.length j5] 26))); replace BY := Aside0.mk ((BY.out.below g).below (up1 w10 (.cells #[.int .i64 nu.f0, .string nu.f1, .int .i64 nu.f2, .slice U3 nu.f3.length j3, .slice U4 nu.f4.length j4, .slice U5 nu.f5.length j5] 26))); replace BZ := Aside0.mk ((BZ.out.below g).below (up1 w10 (.cells #[.int .i64 nu.f0, .string nu.f1, .int .i64 nu.f2, .slice U3 nu.f3.length j3, .slice U4 nu.f4.length j4, .slice U5 nu.f5.length j5] 26))); clear g hx; clear p0 p1 p2 p3 p4 p5; obtain ⟨p0, p1, p2, p3, p4, p5⟩ := T10.out.box.six; obtain ⟨q0, q1, q2, q3, q4, q5⟩ := BX.out.six))
  go_ret
  exact ⟨rfl, T10.out.b⟩
theorem law8 (x : S26) (A3 : Option Addr) (c3 : Nat) (A4 : Option Addr) (c4 : Nat) (A5 : Option Addr) (c5 : Nat) (w : World) (ha : Arg w x A3 c3 A4 c4 A5 c5) (ht : Tabs w) (hd : Duals w) : Calls Tryd.prog 8 #[.agg #[.int .i64 x.f0, .string x.f1, .int .i64 x.f2, .slice A3 x.f3.length c3, .slice A4 x.f4.length c4, .slice A5 x.f5.length c5]] w fun e w' => e = .returned (.bool true) ∧ Below w.heap.size w w' := by
  obtain ⟨few, hfew⟩ := ha.few
  cases few
  · exact law8_few x A3 c3 A4 c4 A5 c5 w ha ht hd hfew
  · by_cases h1 : check x = 0
    · by_cases h3 : check (neg x) = 0
      · rcases dn_good x h1 h3 with ⟨h2 | ⟨h2, e2⟩, h4 | ⟨h4, e4⟩⟩
        · exact law8_g2i2 x A3 c3 A4 c4 A5 c5 w ha ht hd hfew h1 h3 h2 h4
        · exact law8_g2i0 x A3 c3 A4 c4 A5 c5 w ha ht hd hfew h1 h3 h2 h4 e4
        · exact law8_g0i2 x A3 c3 A4 c4 A5 c5 w ha ht hd hfew h1 h3 h2 e2 h4
        · exact law8_g0i0 x A3 c3 A4 c4 A5 c5 w ha ht hd hfew h1 h3 h2 e2 h4 e4
      · exact law8_c2 x A3 c3 A4 c4 A5 c5 w ha ht hd hfew h1 (dn_neg x h3) h3
    · exact law8_c1 x A3 c3 A4 c4 A5 c5 w ha ht hd hfew h1 (dn_bad x h1).1 (dn_bad x h1).2
end Go.Proofs.YtmlcaecknocpoaaDoor.It
namespace Go.Proofs.YtmlcaecknocpoaaDoor.It
set_option linter.unusedVariables false
set_option linter.unusedSimpArgs false
open Go Go.RowKit Go.Shelf Go.Proofs.YtmlcaecknocpoaaDoorW.PrintWords Go.Proofs.YtmlcaecknocpoaaDoorW.PrintLast Go.Proofs.YtmlcaecknocpoaaDoor.Pr Go.Proofs.YtmlcaecknocpoaaDoor.Sp
open Go.ChangeShapes Go.WideShapes Go.ChangeAt Go.WideMaps Go.WideElems
theorem laid_at {P : Program} {W : World} : ∀ (laid : List (String × DataW Unit)) (ps : List MemPlace), DataW.LaidVars P W laid ps → ∀ n d, (n, d) ∈ laid →
    ∃ g t cs fuel p, P.globalNamed n = some g ∧ (P.globals[g]?).map (·.type) = some t ∧ W.var? P n = some cs ∧ DataW.trod (fun _ => ()) P W 0 (fun _ => true) false fuel t cs.toList = some (d, p)
  | [], _, _, _, _, h => by cases h
  | (n0, d0) :: r, ps, ⟨g, t, cs, fuel, p, q, h1, h2, h3, h4, h5, _⟩, n, d, h => by
    cases h with
    | head => exact ⟨g, t, cs, fuel, p, h1, h2, h3, h4⟩
    | tail _ h => exact laid_at r q h5 n d h
set_option maxRecDepth 100000 in
theorem map_laid {W : World} {laid : List (String × DataW Unit)} (h : laidMet Tryd.prog laid W) {n : String} {es0 : List (Lit × DataW Unit)} {g t k e : Nat} (hm : (n, .map es0) ∈ laid) (hg : Tryd.prog.globalNamed n = some g) (hty : (Tryd.prog.globals[g]?).map (·.type) = some t)
    (hu : Tryd.prog.underlying t = some (.map k e)) : ∃ b es clock m, W.cell? ⟨g, 0, none⟩ = some (.map (some b)) ∧ W.heap[b]? = some (.map es clock) ∧ Fit Tryd.prog k (elemAt (fun _ => ()) Tryd.prog W 0 (fun _ => true) false m e) es clock ∧
      DataW.map es0 = .map ((es.toList.map (rg Tryd.prog k (elemAt (fun _ => ()) Tryd.prog W 0 (fun _ => true) false m e))).foldr DataW.insert []) := by
  obtain ⟨ps, hv, _⟩ := h
  obtain ⟨g', t', cs, fuel, p, h1, h2, h3, h4⟩ := laid_at _ _ hv _ _ hm
  obtain rfl := Option.some.inj (hg.symm.trans h1)
  obtain rfl := Option.some.inj (hty.symm.trans h2)
  rcases open_map hu h4 with ⟨_, hx⟩ | ⟨b, es, clock, m, rfl, hcs, hb, _, F, hx⟩
  · simp at hx
  · simp only [Prod.mk.injEq] at hx
    refine ⟨b, es, clock, m, ?_, hb, F, hx.1⟩
    have := World.var?_cell h1 h3 0
    rw [Array.eq_one_of_toList hcs] at this
    simpa using this
theorem look_laid {W : World} {es0 : List (Lit × DataW Unit)} {t k e b m clock : Nat} {es : Array MapEntry} (K : Maps.Keyed Tryd.prog k) (hu : Tryd.prog.underlying t = some (.map k e)) (hb : W.heap[b]? = some (.map es clock))
    (F : Fit Tryd.prog k (elemAt (fun _ => ()) Tryd.prog W 0 (fun _ => true) false m e) es clock) (hx : DataW.map es0 = .map ((es.toList.map (rg Tryd.prog k (elemAt (fun _ => ()) Tryd.prog W 0 (fun _ => true) false m e))).foldr DataW.insert []))
    {z : Value} (hz : ∀ w : World, (zeroValue e).run Tryd.prog w = .ok z w) (c : Bool) {key : Value} {kl : Lit} (hkey : keyOf Tryd.prog k key = some kl) (W1 : World) (h1 : Below W.heap.size W W1) :
    ((Instr.lookup t (.map (some b)) key c).run Tryd.prog W1 = .ok (if c then .tuple #[z, .bool false] else z) W1 ∧ ∀ zd, (DataW.map es0).atKey kl zd = zd) ∨
    ∃ v y, (Instr.lookup t (.map (some b)) key c).run Tryd.prog W1 = .ok (if c then .tuple #[v, .bool true] else v) W1 ∧ elemAt (fun _ => ()) Tryd.prog W 0 (fun _ => true) false m e v = some y ∧ ∀ zd, (DataW.map es0).atKey kl zd = y.1 := by
  have hb1 : W1.heap[b]? = some (.map es clock) := (h1.block b (Array.getElem?_eq_some_iff.1 hb).1).trans hb
  rw [hx]
  rcases Maps.fit_look c K hu (hz W1) hb1 F hkey with ⟨h2, _, h3⟩ | ⟨e0, y, _, _, h2, h3, h4, _⟩
  · exact .inl ⟨h2, h3⟩
  · exact .inr ⟨e0.val, y, h2, h3, h4⟩
theorem key3 (k : Int) (h : I64 k) : keyOf Tryd.prog 3 (.int .i64 k) = some (.int .i64 k) := by
  have h3 := Tryd.underlying3
  have hw : (Lit.int .i64 k).wf = true := h
  simp [keyOf, mapKey, h3, hw]
theorem arity_at (k : Int) (z : DataW Unit) : Rows.laid_chalkline_formula_arity.atKey (.int .i64 k) z = (match Sp.arity k with | some m => .lit (.int .i64 m) | none => z) := by
  by_cases h : 1 ≤ k ∧ k ≤ 17
  · have : k = 1 ∨ k = 2 ∨ k = 3 ∨ k = 4 ∨ k = 5 ∨ k = 6 ∨ k = 7 ∨ k = 8 ∨ k = 9 ∨ k = 10 ∨ k = 11 ∨ k = 12 ∨ k = 13 ∨ k = 14 ∨ k = 15 ∨ k = 16 ∨ k = 17 := by omega
    rcases this with rfl | rfl | rfl | rfl | rfl | rfl | rfl | rfl | rfl | rfl | rfl | rfl | rfl | rfl | rfl | rfl | rfl <;> rfl
  · have ha : Sp.arity k = none := by unfold Sp.arity; rw [if_neg (by omega), if_neg (by omega), if_neg (by omega)]
    rw [ha]
    have hn : ∀ j : Int, 1 ≤ j → j ≤ 17 → (Lit.sameKey (.int .i64 j) (.int .i64 k)) = false := fun j h1 h2 => by
      simp [Lit.sameKey]; omega
    simp [Rows.laid_chalkline_formula_arity, DataW.atKey, List.find?, hn]
theorem dual_at (k : Int) : Rows.laid_chalkline_formula_duals.atKey (.int .i64 k) (.lit (.int .i64 0) : DataW Unit) = .lit (.int .i64 (dualOf k)) := by
  by_cases h : 1 ≤ k ∧ k ≤ 17
  · have : k = 1 ∨ k = 2 ∨ k = 3 ∨ k = 4 ∨ k = 5 ∨ k = 6 ∨ k = 7 ∨ k = 8 ∨ k = 9 ∨ k = 10 ∨ k = 11 ∨ k = 12 ∨ k = 13 ∨ k = 14 ∨ k = 15 ∨ k = 16 ∨ k = 17 := by omega
    rcases this with rfl | rfl | rfl | rfl | rfl | rfl | rfl | rfl | rfl | rfl | rfl | rfl | rfl | rfl | rfl | rfl | rfl <;> rfl
  · have ha : dualOf k = 0 := by
      unfold dualOf
      rw [if_neg (by omega), if_neg (by omega), if_neg (by omega), if_neg (by omega), if_neg (by omega), if_neg (by omega), if_neg (by omega), if_neg (by omega)]
    rw [ha]
    have hn : ∀ j : Int, 1 ≤ j → j ≤ 17 → (Lit.sameKey (.int .i64 j) (.int .i64 k)) = false := fun j h1 h2 => by
      simp [Lit.sameKey]; omega
    simp [Rows.laid_chalkline_formula_duals, DataW.atKey, List.find?, hn]
theorem atKey_none {es : List (Lit × DataW Unit)} {kl : Lit} {z : DataW Unit} (h : ∀ p ∈ es, p.1.sameKey kl = false) : (DataW.map es).atKey kl z = z := by
  have : es.find? (fun p => p.1.sameKey kl) = none := List.find?_eq_none.2 (fun p hp => by rw [h p hp]; simp)
  simp [DataW.atKey, this]
def reservedL : List (Lit × DataW Unit) := match (Rows.laid_chalkline_formula_reserved : DataW Unit) with | .map es => es | _ => []
def signsL : List (Lit × DataW Unit) := match (Rows.laid_chalkline_formula_signs : DataW Unit) with | .map es => es | _ => []
theorem reserved_at (l : List UInt8) : Rows.laid_chalkline_formula_reserved.atKey (.string l) (.lit (.bool false) : DataW Unit) = .lit (.bool (Sp.reserved.contains l)) := by
  by_cases hm : l ∈ Sp.reserved
  · have hc : Sp.reserved.contains l = true := by simpa using hm
    rw [hc]
    simp only [Sp.reserved, List.mem_cons, List.not_mem_nil, or_false] at hm
    rcases hm with rfl | rfl | rfl | rfl | rfl | rfl | rfl | rfl | rfl | rfl | rfl | rfl | rfl | rfl | rfl | rfl | rfl | rfl | rfl | rfl | rfl | rfl | rfl | rfl | rfl <;> rfl
  · have hc : Sp.reserved.contains l = false := by simpa using hm
    rw [hc]
    refine (atKey_none (es := reservedL) fun p hp => ?_)
    have hk : reservedL.all (fun p => match p.1 with | .string b => Sp.reserved.contains b | _ => false) = true := by decide +kernel
    have := List.all_eq_true.1 hk p hp
    obtain ⟨q, d⟩ := p
    cases q with
    | string b =>
      have hb : b ∈ Sp.reserved := by simpa using this
      simp only [Lit.sameKey]
      have hne : b ≠ l := fun e => hm (e ▸ hb)
      simpa using hne
    | _ => simp at this
theorem sign_at (s : ByteArray) : Rows.laid_chalkline_formula_signs.atKey (.string s.data.toList) (.lit (.string []) : DataW Unit) = .lit (.string (sign s).data.toList) := by
  unfold sign
  generalize s.data.toList = l
  by_cases hm : l ∈ [[61], [33, 61], [60], [62, 61], [60, 61], [62]]
  · simp only [List.mem_cons, List.not_mem_nil, or_false] at hm
    rcases hm with rfl | rfl | rfl | rfl | rfl | rfl <;> rfl
  · have hl : signs.lookup l = none := by
      simp only [List.mem_cons, List.not_mem_nil, or_false, not_or] at hm
      have hb : ∀ m : List UInt8, ¬ l = m → (l == m) = false := fun m h => by simpa using h
      obtain ⟨h1, h2, h3, h4, h5, h6⟩ := hm
      simp [signs, List.lookup_cons, hb _ h1, hb _ h2, hb _ h3, hb _ h4, hb _ h5, hb _ h6]
    rw [hl]
    refine (atKey_none (es := signsL) fun p hp => ?_)
    have hk : signsL.all (fun p => match p.1 with | .string b => ([[61], [33, 61], [60], [62, 61], [60, 61], [62]] : List (List UInt8)).contains b | _ => false) = true := by decide +kernel
    have := List.all_eq_true.1 hk p hp
    obtain ⟨q, d⟩ := p
    cases q with
    | string b =>
      have hb : b ∈ ([[61], [33, 61], [60], [62, 61], [60, 61], [62]] : List (List UInt8)) := List.contains_iff_mem.1 this
      simp only [Lit.sameKey]
      have hne : b ≠ l := fun e => hm (e ▸ hb)
      simpa using hne
    | _ => simp at this
theorem gArity : Tryd.prog.globalNamed "chalkline/formula.arity" = some 0 := by kernel_rfl
theorem gSigns : Tryd.prog.globalNamed "chalkline/formula.signs" = some 1 := by kernel_rfl
theorem gDuals : Tryd.prog.globalNamed "chalkline/formula.duals" = some 2 := by kernel_rfl
theorem gReserved : Tryd.prog.globalNamed "chalkline/formula.reserved" = some 5 := by kernel_rfl
theorem tArity : (Tryd.prog.globals[0]?).map (·.type) = some 85 := by kernel_rfl
theorem tSigns : (Tryd.prog.globals[1]?).map (·.type) = some 87 := by kernel_rfl
theorem tDuals : (Tryd.prog.globals[2]?).map (·.type) = some 85 := by kernel_rfl
theorem tReserved : (Tryd.prog.globals[5]?).map (·.type) = some 79 := by kernel_rfl
theorem zero3 (w : World) : (zeroValue 3).run Tryd.prog w = .ok (.int .i64 0) w := by kernel_rfl
theorem zero4 (w : World) : (zeroValue 4).run Tryd.prog w = .ok (.bool false) w := by kernel_rfl
theorem zero9 (w : World) : (zeroValue 9).run Tryd.prog w = .ok (.string ⟨#[]⟩) w := by kernel_rfl
theorem duals_laid {W : World} {laid : List (String × DataW Unit)} (h : laidMet Tryd.prog laid W) (hm : ("chalkline/formula.duals", Rows.laid_chalkline_formula_duals) ∈ laid) : Duals W := by
  obtain ⟨b, es, clock, m, hc, hb, F, hx⟩ := map_laid h hm gDuals tDuals Tryd.underlying85
  refine ⟨b, hc, fun W1 h1 k hk => ?_⟩
  have hd := dual_at k
  rcases look_laid (Maps.int_keyed Tryd.underlying3) Tryd.underlying85 hb F hx zero3 false (key3 k hk) W1 h1 with ⟨hr, hat⟩ | ⟨v, y, hr, hv, hat⟩
  · have := (hat (.lit (.int .i64 0))).symm.trans hd
    rw [hr]
    have e : (0 : Int) = dualOf k := by simpa using this
    rw [← e]; rfl
  · obtain ⟨r, rfl, rfl, _⟩ := elemAt_int Tryd.underlying3 hv
    have := (hat (.lit (.int .i64 0))).symm.trans hd
    have e : r = dualOf k := by simpa using this
    rw [hr, e]; rfl
theorem tabs_laid {W : World} {laid : List (String × DataW Unit)} (h : laidMet Tryd.prog laid W) (ha : ("chalkline/formula.arity", Rows.laid_chalkline_formula_arity) ∈ laid) (hs : ("chalkline/formula.signs", Rows.laid_chalkline_formula_signs) ∈ laid)
    (hr : ("chalkline/formula.reserved", Rows.laid_chalkline_formula_reserved) ∈ laid) : Tabs W := by
  refine ⟨?_, ?_, ?_⟩
  · obtain ⟨b, es, clock, m, hc, hb, F, hx⟩ := map_laid h ha gArity tArity Tryd.underlying85
    refine ⟨b, hc, fun W1 h1 k hk => ?_⟩
    rcases look_laid (Maps.int_keyed Tryd.underlying3) Tryd.underlying85 hb F hx zero3 true (key3 k hk) W1 h1 with ⟨hr, hat⟩ | ⟨v, y, hr, hv, hat⟩
    · have h1 := (hat .nil).symm.trans (arity_at k .nil)
      rw [hr]
      cases e : Sp.arity k with
      | none => rfl
      | some m => rw [e] at h1; cases h1
    · obtain ⟨r, rfl, rfl, _⟩ := elemAt_int Tryd.underlying3 hv
      have h1 := (hat .nil).symm.trans (arity_at k .nil)
      rw [hr]
      cases e : Sp.arity k with
      | none => rw [e] at h1; cases h1
      | some m =>
        rw [e] at h1
        have : r = m := by simpa using h1
        subst this
        rfl
  · obtain ⟨b, es, clock, m, hc, hb, F, hx⟩ := map_laid h hs gSigns tSigns Tryd.underlying87
    refine ⟨b, hc, fun W1 h1 s hs => ?_⟩
    have hd := sign_at s
    rcases look_laid keyed9 Tryd.underlying87 hb F hx zero9 false (key9 s hs) W1 h1 with ⟨hr, hat⟩ | ⟨v, y, hr, hv, hat⟩
    · have := (hat (.lit (.string []))).symm.trans hd
      have e : ([] : List UInt8) = (sign s).data.toList := by simpa using this
      rw [hr]
      have e2 : sign s = ⟨#[]⟩ := by
        generalize sign s = u at e
        obtain ⟨⟨l⟩⟩ := u
        have : [] = l := e
        subst this; rfl
      rw [e2]; rfl
    · obtain ⟨r, rfl, rfl, _⟩ := Go.WideElems.elemAt_string Tryd.underlying9 hv
      have := (hat (.lit (.string []))).symm.trans hd
      have e : r.data.toList = (sign s).data.toList := by simpa using this
      have e2 : r = sign s := by
        generalize sign s = u at e
        obtain ⟨⟨l⟩⟩ := u
        obtain ⟨⟨l'⟩⟩ := r
        have : l' = l := e
        subst this; rfl
      rw [hr, e2]; rfl
  · obtain ⟨b, es, clock, m, hc, hb, F, hx⟩ := map_laid h hr gReserved tReserved Tryd.underlying79
    refine ⟨b, hc, fun W1 h1 s hs => ?_⟩
    have hd := reserved_at s.data.toList
    rcases look_laid keyed9 Tryd.underlying79 hb F hx zero4 false (key9 s hs) W1 h1 with ⟨hr, hat⟩ | ⟨v, y, hr, hv, hat⟩
    · have := (hat (.lit (.bool false))).symm.trans hd
      have e : false = Sp.reserved.contains s.data.toList := by simpa using this
      rw [hr, ← e]; rfl
    · obtain ⟨r, rfl, rfl⟩ := elemAt_bool Tryd.underlying4 hv
      have := (hat (.lit (.bool false))).symm.trans hd
      have e : r = Sp.reserved.contains s.data.toList := by simpa using this
      rw [hr, e]; rfl
end Go.Proofs.YtmlcaecknocpoaaDoor.It
namespace Go.Proofs.YtmlcaecknocpoaaDoor.Wt
set_option linter.unusedVariables false
set_option linter.unusedSimpArgs false
open Go Go.ChangeShapes Go.WideShapes Go.ChangeAt Go.RowKit
def firstCells : Array Value := match Go.Pinned.utf8First with
  | .agg l => (l.map fun d => match d with | .lit (.int k n) => Value.int k n | _ => undef).toArray
  | _ => #[]
noncomputable def world (os : Os) : World :=
  { World.doorLaid Tryd.prog 341 os with heap := (World.doorLaid Tryd.prog 341 os).heap.modify 6 fun
      | .cells _ t frozen => .cells firstCells t frozen
      | o => o }
def zero26 : Value := .agg #[.int .i64 0, .string ByteArray.empty, .int .i64 0, .slice none 0 0, .slice none 0 0, .slice none 0 0]
end Go.Proofs.YtmlcaecknocpoaaDoor.Wt
namespace Go.Proofs.YtmlcaecknocpoaaDoor.It
set_option linter.unusedVariables false
set_option linter.unusedSimpArgs false
open Go Go.ChangeShapes Go.WideShapes Go.ChangeAt Go.RowKit
theorem own : ownKnob Tryd.prog.godebug = none := by kernel_rfl
theorem laidOut : laidOutB Tryd.prog = true := by kernel_rfl
set_option maxRecDepth 100000 in
theorem trod_val {H : Type} {enc : TypeId × Value → H} {W : World} {base : Nat} {v : Value} {d : DataW H} {p : List MemPlace} (hv : Value.okWide Tryd.prog W .any base 26 v) (h : DataW.Trod enc Tryd.prog W 0 (fun _ => true) true 26 v d p) (hd : Rows.uptoBulk d ≤ 1048576) :
    ∃ (x : Pr.S26) (A3 : Option Addr) (c3 : Nat) (A4 : Option Addr) (c4 : Nat) (A5 : Option Addr) (c5 : Nat), v = .agg #[.int .i64 x.f0, .string x.f1, .int .i64 x.f2, .slice A3 x.f3.length c3, .slice A4 x.f4.length c4, .slice A5 x.f5.length c5] ∧ Arg W x A3 c3 A4 c4 A5 c5 := by
  obtain ⟨cs, rfl, hsz⟩ := okWide_struct Tryd.underlying26 hv
  obtain ⟨fuel, hf⟩ := h
  obtain ⟨x, A3, c3, A4, c4, A5, c5, he, hat, hdp, hw⟩ := read26 (Rows.uptoBulk d) fuel _ (d, p) (Nat.le_refl _) hf
  obtain ⟨l⟩ := cs
  have he' : l = [.int .i64 x.f0, .string x.f1, .int .i64 x.f2, .slice A3 x.f3.length c3, .slice A4 x.f4.length c4, .slice A5 x.f5.length c5] := by simpa [Value.cells] using he
  subst he'
  exact ⟨x, A3, c3, A4, c4, A5, c5, rfl, hat, hdp, Nat.le_trans hw hd⟩
end Go.Proofs.YtmlcaecknocpoaaDoor.It
namespace Go.Proofs.YtmlcaecknocpoaaDoor.C8
set_option linter.unusedVariables false
set_option linter.unusedSimpArgs false
open Go Go.ChangeShapes Go.WideShapes Go.ChangeAt Go.RowKit Go.Proofs.YtmlcaecknocpoaaDoor.It
open Go.ChangeMaps (open_string shut_string)
set_option maxRecDepth 100000 in
theorem contract (H : Type) (enc : TypeId × Value → H) (W : World) (base : Nat) (args : Array Value) (ds gs : List (DataW H)) (before : List MemPlace)
    (hval0 : ∀ (j : Nat) t v, Tryd.f8.params[j]? = some t → args[j]? = some v → Value.okWide Tryd.prog W .any base t v)
    (hW : DataW.Whole enc Tryd.prog Tryd.f8.params.toList Rows.formDoubleNegationSpec.vars false W args.toList ds gs before) (hk : Rows.uptoSmall H (ds ++ gs) = true) (hL : laidMetH Tryd.prog Rows.formDoubleNegationUptoRow.laid W) :
    Calls Tryd.prog 8 args W fun e W' => ∃ v, e = .returned v ∧ Rows.formDoubleNegationSpec.post enc Tryd.prog Tryd.f8 false true false false W args v W' := by
  have hval : ∀ (j : Nat) t v, Tryd.f8.params[j]? = some t → args[j]? = some v → Value.okWide Tryd.prog W .any base t v := hval0
  have hW' := hW
  obtain ⟨p, q, hA0, hV, rfl, hfz, hnd⟩ := hW
  have hA : DataW.TrodAll enc Tryd.prog W 0 (fun _ => true) true Tryd.f8.params.toList args.toList ds p := hA0
  rw [Tryd.params8] at hA hval
  obtain ⟨v0, vs0, d0, ds0, p0, q0, hargs, rfl, rfl, h0, r0⟩ := trodAll_cons hA
  obtain ⟨rfl, rfl, rfl⟩ := trodAll_nil r0
  obtain rfl : args = #[v0] := by cases args; simp_all
  obtain ⟨rfl, rfl⟩ := trodVars_none hV
  have hk2 := of_decide_eq_true hk
  simp only [List.append_nil, Rows.uptoBulkAll] at hk2
  obtain ⟨x0, A30, c30, A40, c40, A50, c50, rfl, ha0⟩ := trod_val (hval 0 26 v0 rfl rfl) h0 (by omega)
  have lt0 : ∀ y ∈ p0, y.block < W.heap.size := by
    obtain ⟨m, hm⟩ := h0
    exact DataW.trod_lt m _ _ _ hm
  have hl := hL
  rw [MakeChecks.laidMetH_plain _ _ _ (by kernel_rfl)] at hl
  have ht : Tabs W := tabs_laid hl (by simp [Rows.formDoubleNegationUptoRow]) (by simp [Rows.formDoubleNegationUptoRow]) (by simp [Rows.formDoubleNegationUptoRow])
  have hd : Duals W := duals_laid hl (by simp [Rows.formDoubleNegationUptoRow])
  refine (law8 x0 A30 c30 A40 c40 A50 c50 W ha0 ht hd).mono fun e W' ⟨he, bel⟩ => ?_
  subst he
  exact ⟨_, rfl, _, _, _, [], _, [], hW', trodAll_mk1 (shut_bool Tryd.underlying4 _), (trodAll_cons_mk (Below.trod laidOut (by kernel_rfl) (of_decide_eq_true (by kernel_rfl)) h0 bel lt0) trodAll_mk0), rfl, bel.frame _, fun h => by cases h⟩
theorem met (os : Os) : laidMetH Tryd.prog Rows.formDoubleNegationUptoRow.laid ((Wt.world os).forCall (fun _ _ => 0) ⟨#[], #[Wt.zero26], []⟩).memory :=
  laidMetH_of_parts3 (fuel := 8) (laidMet_of_run' 8 (by kernel_rfl) (by kernel_rfl)) (by kernel_rfl) (by kernel_rfl)
set_option maxRecDepth 100000 in
theorem lifted (os : Os) (started : os.Started) (H : Type) (enc : TypeId × Value → H) (F : Stop.Interp) :
    ReturnsInHanded {} Tryd.checked os 8 .any ((Rows.OpenSpec.upto Rows.formDoubleNegationSpec).preRow enc Tryd.prog Tryd.f8 Rows.formDoubleNegationUptoRow.domain false Rows.formDoubleNegationUptoRow.laid) (((Rows.OpenSpec.upto Rows.formDoubleNegationSpec).at F).post enc Tryd.prog Tryd.f8 false true false false) := by
  have hx : DataW.whole enc Tryd.prog ((Wt.world os).forCall (fun _ _ => 0) ⟨#[], #[Wt.zero26], []⟩).memory Tryd.f8.params.toList Rows.formDoubleNegationSpec.vars false (#[Wt.zero26] : Array Value).toList 8 = some ([.agg [.lit (.int .i64 0), .lit (.string []), .lit (.int .i64 0), .nil, .nil, .nil]], [], []) := by kernel_rfl
  refine returnsInHanded_of_row (C := Tryd.checked) (s := Rows.OpenSpec.upto Rows.formDoubleNegationSpec) own started (by kernel_rfl) Tryd.func8
    (witness_row_atRef (enc := enc) (C := Tryd.checked) false (Wt.world os) #[Wt.zero26] rfl (by kernel_rfl) (by kernel_rfl) (by kernel_rfl)
      (OpenSpec.preRow_of_cond 8 hx (by kernel_rfl) (fun k hk => by cases hk; kernel_rfl) (by kernel_rfl) (met os))) ?_
  intro W base args ds gs before hval hW _ hcond _ hL _ _
  exact contract H enc W base args ds gs before hval hW (hcond _ rfl) hL
end Go.Proofs.YtmlcaecknocpoaaDoor.C8
namespace Go.Proofs.YtmlcaecknocpoaaDoor.C8
set_option linter.unusedVariables false
open Go Go.ChangeShapes Go.WideShapes Go.ChangeAt Go.RowKit
theorem isInst : Func.isInstance Tryd.pinned.checked.prog Tryd.f8 Rows.formDoubleNegationUptoRow.origin Rows.formDoubleNegationUptoRow.targs := of_decide_eq_true (by kernel_rfl)
theorem isWrap : Func.isWrapper Tryd.pinned.checked.prog Tryd.f8 Rows.formDoubleNegationUptoRow.wrapper Rows.formDoubleNegationUptoRow.mainSum := by
  unfold Func.isWrapper; first | (rw [if_pos (by decide +kernel)]; kernel_rfl) | (rw [if_neg (by decide +kernel)]; exact ⟨rfl, rfl⟩)
theorem isName : Tryd.pinned.checked.prog.funcNamed Rows.formDoubleNegationUptoRow.func = some 8 := by kernel_rfl
theorem saidUpto : Rows.FormDoubleNegationUptoSaid :=
  OpenClaim.holds_of_cond 8 Tryd.f8 rfl rfl rfl rfl rfl rfl rfl ⟨rfl, rfl, rfl, rfl, rfl⟩ rfl rfl rfl rfl rfl isName Tryd.func8 F8.closed isInst isWrap
    (fun os started H enc _ F => by rw [OpenClaim.pre_eq_preRow]; exact lifted os started H enc F)
theorem plain (f : FuncId) (fn : Func) (hf : Tryd.pinned.checked.prog.funcNamed "chalkline/chalklinelaw06.FormDoubleNegation" = some f) (hfn : Tryd.pinned.checked.prog.funcs[f]? = some fn) :
    false = Tryd.pinned.checked.prog.looks [] ∧ ∀ (j : Nat) t, fn.params[j]? = some t → Tryd.pinned.checked.prog.wantsStandIn t = false := by
  obtain rfl : f = 8 := Option.some.inj ((show Tryd.prog.funcNamed "chalkline/chalklinelaw06.FormDoubleNegation" = some 8 by kernel_rfl).symm.trans hf) |>.symm
  obtain rfl : fn = Tryd.f8 := (Option.some.inj (Tryd.func8.symm.trans hfn)).symm
  refine ⟨by kernel_rfl, fun j t ht => ?_⟩
  rw [Tryd.params8] at ht
  have hm := Array.mem_of_getElem? ht
  simp only [List.mem_toArray, List.mem_cons, List.not_mem_nil, or_false] at hm
  subst hm; exact (show Tryd.prog.wantsStandIn 26 = false by kernel_rfl)
theorem wfText : Rows.formDoubleNegationUptoRow.wfByText (Rows.OpenSpec.upto Rows.formDoubleNegationSpec) = true := by kernel_rfl
theorem goes : false = Rows.formDoubleNegationUptoRow.goesBy Tryd.pinned.checked.prog := by kernel_rfl
theorem cardUpto : Rows.FormDoubleNegationUptoCardSaid :=
  Claim7.holds_tied_plain_at .later [] _ _ _ _ saidUpto (fun _ h => by cases h) wfText (fun _ h => by cases h) formDoubleNegationUpto_row_tie rfl ⟨rfl, rfl⟩ HH.mainIs rfl plain goes
end Go.Proofs.YtmlcaecknocpoaaDoor.C8
namespace Go.Proofs.YtmlcaecknocpoaaDoor
theorem formDoubleNegationUpto_holds : Rows.FormDoubleNegationUptoCardSaid := C8.cardUpto
#print axioms formDoubleNegationUpto_holds
end Go.Proofs.YtmlcaecknocpoaaDoor
