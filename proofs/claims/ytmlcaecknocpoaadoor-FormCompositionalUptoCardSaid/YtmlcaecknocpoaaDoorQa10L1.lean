/-
  chalklinelaw06.FormCompositional answers true, for every input that reads as data and is of bulk at most 1048576; what it reads stands as it stood.
  Conditions: the listed package-level variables hold what the program's text lays (tied by the card); the arguments' bulk is at most 1048576.
-/
import Derived.Test.YtmlcaecknocpoaaDoorQaK6
import Derived.BigQuiet
import Derived.SevenTiedAt
import Derived.Test.YtmlcaecknocpoaaDoorH25
import Derived.Test.YtmlcaecknocpoaaDoorH26
import Derived.Test.YtmlcaecknocpoaaDoorH27
import Derived.Test.YtmlcaecknocpoaaDoorF10
import Derived.Test.YtmlcaecknocpoaaDoorH28
namespace Go.Proofs.YtmlcaecknocpoaaDoor.Sp
open Go.Proofs.YtmlcaecknocpoaaDoor.Pr
def pair (k : Int) (a b : S26) : S26 := ⟨k, e0, 0, [], [], [a, b]⟩
theorem pair_form {k : Int} (h : k = 11 ∨ k = 12 ∨ k = 13) (a b : S26) : form (pair k a b) = (form a && form b) := by
  rcases h with rfl | rfl | rfl
  · simp [pair, form, here, forms, termsOk_none (show Sp.atom 11 = false from rfl), bindsOk_none (show quant 11 = false from rfl)]; intros; rfl
  · simp [pair, form, here, forms, termsOk_none (show Sp.atom 12 = false from rfl), bindsOk_none (show quant 12 = false from rfl)]; intros; rfl
  · simp [pair, form, here, forms, termsOk_none (show Sp.atom 13 = false from rfl), bindsOk_none (show quant 13 = false from rfl)]; intros; rfl
theorem pair_size (k : Int) (a b : S26) : size (pair k a b) = 1 + size a + size b := by simp [pair, size, sizes]; omega
theorem pair_depth (k : Int) (a b : S26) : depth (pair k a b) = 1 + max (depth a) (depth b) := by simp [pair, depth, depths]; omega
theorem size_pos (a : S26) : 1 ≤ size a := by rcases a with ⟨k, nm, n, ts, bs, l⟩; simp [size]
theorem pair_check {k : Int} (h : k = 12 ∨ k = 13) (a b : S26) : check (pair k a b) = check (pair 11 a b) := by
  have e1 := pair_form (k := k) (by omega) a b
  have e2 := pair_form (k := 11) (.inl rfl) a b
  unfold check
  rw [e1, e2, pair_size, pair_size, pair_depth, pair_depth]
theorem pair_good {a b : S26} (h : check (pair 11 a b) = 0) : check a = 0 ∧ check b = 0 ∧ check (neg a) = 0 := by
  have h1 := check_zero.1 h
  rw [pair_form (.inl rfl), pair_size, pair_depth, Bool.and_eq_true] at h1
  have := size_pos a
  have := size_pos b
  refine ⟨check_zero.2 ⟨h1.1.1, by omega, by omega⟩, check_zero.2 ⟨h1.1.2, by omega, by omega⟩, check_zero.2 ⟨by rw [form_neg]; exact h1.1.1, by rw [size_neg]; omega, by rw [depth_neg]; omega⟩⟩
theorem pair_nnf {a b : S26} (h : check (pair 11 a b) = 0) : nnf (pair 11 a b) = pair 11 (nnf a) (nnf b) ∧ nnf (pair 13 a b) = pair 12 (nnf (neg a)) (nnf b) := by
  obtain ⟨h1, h2, h3⟩ := pair_good h
  have h4 := (pair_check (k := 13) (.inr rfl) a b).trans h
  rw [nnf_zero h, nnf_zero h4, nnf_zero h1, nnf_zero h2, nnf_zero h3, right_neg]
  exact ⟨right_two 11 a b false (.inl rfl), right_i a b false⟩
theorem pair_free (k : Int) (a b : S26) : ∃ r, free (pair k a b) = free a ++ r ∧ r.length ≤ (free b).length := free_two k a b
end Go.Proofs.YtmlcaecknocpoaaDoor.Sp
namespace Go.Proofs.YtmlcaecknocpoaaDoor.It
open Go Go.RowKit Go.Shelf Go.Proofs.YtmlcaecknocpoaaDoorW.PrintWords Go.Proofs.YtmlcaecknocpoaaDoorW.PrintLast Go.Proofs.YtmlcaecknocpoaaDoor.Pr Go.Proofs.YtmlcaecknocpoaaDoor.Sp
theorem own_pair {k : Int} (l : List S26) (hk : I64 k) : Own1 ⟨k, e0, 0, [], [], l⟩ := own_bare [] l hk rfl (by simp) (by simp)
theorem pair_deep {k : Int} {a b : S26} (hk : I64 k) (ha : Deep a) (hb : Deep b) : Deep (pair k a b) :=
  deep_of (own_pair _ hk) fun y hy => by
    have hy' : y ∈ [a, b] := hy
    rcases List.mem_cons.1 hy' with rfl | hy'
    · exact ha
    · obtain rfl := List.mem_singleton.1 hy'; exact hb
theorem pair_nb (k : Int) (a b : S26) : nb (pair k a b) = nb a + nb b := by simp [pair, nb, nbs]
theorem pair_nt (k : Int) (a b : S26) : nt (pair k a b) = nt a + nt b := by simp [pair, nt, nts]
end Go.Proofs.YtmlcaecknocpoaaDoor.It
namespace Go.Proofs.YtmlcaecknocpoaaDoor.It
set_option linter.unusedVariables false
set_option linter.unusedSimpArgs false
open Go Go.RowKit Go.Shelf Go.Proofs.YtmlcaecknocpoaaDoorW.PrintWords Go.Proofs.YtmlcaecknocpoaaDoorW.PrintLast Go.Proofs.YtmlcaecknocpoaaDoor.Pr Go.Proofs.YtmlcaecknocpoaaDoor.Sp
structure St4 (w0 w : World) (B : Nat) (x : S26) (A3 : Option Addr) (c3 : Nat) (A4 : Option Addr) (c4 : Nat) (A5 : Option Addr) (c5 : Nat) (C : Nat) (y : S26) (B3 : Option Addr) (d3 : Nat) (B4 : Option Addr) (d4 : Nat) (B5 : Option Addr) (d5 : Nat) (D : Nat) (a : Addr) (E : Nat) (b : Addr) : Prop where
  two : St2 w0 w B x A3 c3 A4 c4 A5 c5 C y B3 d3 B4 d4 B5 d5
  and_ : BoxF w D (pair 11 x y) none 0 none 0 (some a) 2
  imp : BoxF w E (pair 13 x y) none 0 none 0 (some b) 2
section
variable {w0 w : World} {B C D E : Nat} {a b : Addr} {x : S26} {A3 : Option Addr} {c3 : Nat} {A4 : Option Addr} {c4 : Nat} {A5 : Option Addr} {c5 : Nat} {y : S26} {B3 : Option Addr} {d3 : Nat} {B4 : Option Addr} {d4 : Nat} {B5 : Option Addr} {d5 : Nat}
theorem St4.below (h : St4 w0 w B x A3 c3 A4 c4 A5 c5 C y B3 d3 B4 d4 B5 d5 D a E b) {w1 : World} (g : Below w.heap.size w w1) : St4 w0 w1 B x A3 c3 A4 c4 A5 c5 C y B3 d3 B4 d4 B5 d5 D a E b := ⟨h.two.below g, h.and_.below g, h.imp.below g⟩
theorem St4.drew (h : St4 w0 w B x A3 c3 A4 c4 A5 c5 C y B3 d3 B4 d4 B5 d5 D a E b) : St4 w0 w.drew B x A3 c3 A4 c4 A5 c5 C y B3 d3 B4 d4 B5 d5 D a E b := h.below (below_drew (Below.refl _ _))
theorem six_pair {k : Int} (h : BoxF w D (pair k x y) none 0 none 0 (some a) 2) :
    w.cell? ⟨D, 0, none⟩ = some (.int .i64 k) ∧ w.cell? ⟨D, 1, none⟩ = some (.string ⟨#[]⟩) ∧ w.cell? ⟨D, 2, none⟩ = some (.int .i64 0) ∧ w.cell? ⟨D, 3, none⟩ = some (.slice none 0 0) ∧ w.cell? ⟨D, 4, none⟩ = some (.slice none 0 0) ∧ w.cell? ⟨D, 5, none⟩ = some (.slice (some a) 2 2) := h.six
theorem at_pair {G : Nat} (k : Int) (hG : w.heap[G]? = some (.cells #[.int .i64 x.f0, .string x.f1, .int .i64 x.f2, .slice A3 x.f3.length c3, .slice A4 x.f4.length c4, .slice A5 x.f5.length c5, .int .i64 y.f0, .string y.f1, .int .i64 y.f2, .slice B3 y.f3.length d3, .slice B4 y.f4.length d4, .slice B5 y.f5.length d5] 26 (0, 0))) (hx : At w x A3 c3 A4 c4 A5 c5) (hy : At w y B3 d3 B4 d4 B5 d5) : At w (pair k x y) none 0 none 0 (some ⟨G, 0, none⟩) 2 :=
  ⟨Nat.le_refl _, Kd.C_nil _ _, Nat.le_refl _, Kd.C_nil _ _, Nat.le_refl _, row_two hG hx hy⟩
theorem St4.make (h : St2 w0 w B x A3 c3 A4 c4 A5 c5 C y B3 d3 B4 d4 B5 d5) {w4 : World} (e : (((w.alloc (.cells #[.int .i64 x.f0, .string x.f1, .int .i64 x.f2, .slice A3 x.f3.length c3, .slice A4 x.f4.length c4, .slice A5 x.f5.length c5, .int .i64 y.f0, .string y.f1, .int .i64 y.f2, .slice B3 y.f3.length d3, .slice B4 y.f4.length d4, .slice B5 y.f5.length d5] 26)).alloc (.cells #[.int .i64 11, .string ⟨#[]⟩, .int .i64 0, .slice none 0 0, .slice none 0 0, .slice (some ⟨w.heap.size, 0, none⟩) 2 2] 26)).alloc (.cells #[.int .i64 x.f0, .string x.f1, .int .i64 x.f2, .slice A3 x.f3.length c3, .slice A4 x.f4.length c4, .slice A5 x.f5.length c5, .int .i64 y.f0, .string y.f1, .int .i64 y.f2, .slice B3 y.f3.length d3, .slice B4 y.f4.length d4, .slice B5 y.f5.length d5] 26)).alloc (.cells #[.int .i64 13, .string ⟨#[]⟩, .int .i64 0, .slice none 0 0, .slice none 0 0, .slice (some ⟨w.heap.size + 1 + 1, 0, none⟩) 2 2] 26) = w4) :
    St4 w0 w4 B x A3 c3 A4 c4 A5 c5 C y B3 d3 B4 d4 B5 d5 (w.heap.size + 1) ⟨w.heap.size, 0, none⟩ (w.heap.size + 1 + 1 + 1) ⟨w.heap.size + 1 + 1, 0, none⟩ := by
  obtain ⟨h1, h2, h3, h4, hb, _⟩ := four_blocks w _ _ _ _ w4 e
  have h' := h.below hb
  exact ⟨h', ⟨h2, at_pair 11 h1 h'.bx.at_ h'.byy.at_⟩, ⟨h4, at_pair 13 h3 h'.bx.at_ h'.byy.at_⟩⟩
end
theorem pair_slim (k : Int) (x y : S26) (hk : I64 k) (hx : Deep x) (hy : Deep y) (hw : wt26 x + wt26 y ≤ 1048576) : Slim (pair k x y) := by
  unfold wt26 at hw
  exact ⟨pair_deep hk hx hy, by rw [pair_size]; omega, by rw [pair_nb]; omega, by rw [pair_nt]; omega⟩
theorem nnfP (k : Int) (x y : S26) (ad : Addr) (W : World) (hs : Slim (pair k x y)) (hat : At W (pair k x y) none 0 none 0 (some ad) 2) (ht : Tabs W) (hd : Duals W) :
    Calls Tryd.prog 32 #[.agg #[.int .i64 k, .string ⟨#[]⟩, .int .i64 0, .slice none 0 0, .slice none 0 0, .slice (some ad) 2 2]] W fun e w' => ∃ B3 d3 B4 d4 B5 d5,
      e = .returned (.tuple #[.agg #[.int .i64 (nnf (pair k x y)).f0, .string (nnf (pair k x y)).f1, .int .i64 (nnf (pair k x y)).f2, .slice B3 (nnf (pair k x y)).f3.length d3, .slice B4 (nnf (pair k x y)).f4.length d4, .slice B5 (nnf (pair k x y)).f5.length d5], .int .i64 (check (pair k x y))]) ∧
      Below W.heap.size W w' ∧ At w' (nnf (pair k x y)) B3 d3 B4 d4 B5 d5 := nnf_at (pair k x y) none 0 none 0 (some ad) 2 W hat (by have := hs.size; omega) hs.deep ht hd
theorem sizeP (k : Int) (x y : S26) (ad : Addr) (W : World) (hs : Slim (pair k x y)) (hat : At W (pair k x y) none 0 none 0 (some ad) 2) :
    Calls Tryd.prog 24 #[.agg #[.int .i64 k, .string ⟨#[]⟩, .int .i64 0, .slice none 0 0, .slice none 0 0, .slice (some ad) 2 2]] W fun e w' => e = .returned (.int .i64 ((1 + size x + size y : Nat) : Int)) ∧ Below W.heap.size W w' := by
  have h := size_calls (pair k x y) none 0 none 0 (some ad) 2 W hat (by have := hs.size; omega) hs.deep
  rw [pair_size] at h
  exact h
theorem depthP (k : Int) (x y : S26) (ad : Addr) (W : World) (hs : Slim (pair k x y)) (hat : At W (pair k x y) none 0 none 0 (some ad) 2) :
    Calls Tryd.prog 26 #[.agg #[.int .i64 k, .string ⟨#[]⟩, .int .i64 0, .slice none 0 0, .slice none 0 0, .slice (some ad) 2 2]] W fun e w' => e = .returned (.int .i64 ((1 + max (depth x) (depth y) : Nat) : Int)) ∧ Below W.heap.size W w' := by
  have h := depth_calls (pair k x y) none 0 none 0 (some ad) 2 W hat (by have := hs.size; omega)
  rw [pair_depth] at h
  exact h
theorem freeP (k : Int) (x y : S26) (ad : Addr) (W : World) (hs : Slim (pair k x y)) (hat : At W (pair k x y) none 0 none 0 (some ad) 2) :
    Calls Tryd.prog 28 #[.agg #[.int .i64 k, .string ⟨#[]⟩, .int .i64 0, .slice none 0 0, .slice none 0 0, .slice (some ad) 2 2]] W fun e w' => ∃ A c, e = .returned (.slice A (free (pair k x y)).length c) ∧ Below W.heap.size W w' ∧ Strs w' A (free (pair k x y)) :=
  free_at (pair k x y) none 0 none 0 (some ad) 2 W hat hs.deep hs.nb hs.nt
theorem sameP (k : Int) (z x y : S26) (hz : z = pair k x y) (D3 : Option Addr) (f3 : Nat) (D4 : Option Addr) (f4 : Nat) (D5 : Option Addr) (f5 : Nat) (ad : Addr) (W : World) (hzat : At W z D3 f3 D4 f4 D5 f5) (hat : At W (pair k x y) none 0 none 0 (some ad) 2) :
    Calls Tryd.prog 30 #[.agg #[.int .i64 z.f0, .string z.f1, .int .i64 z.f2, .slice D3 z.f3.length f3, .slice D4 z.f4.length f4, .slice D5 z.f5.length f5], .agg #[.int .i64 k, .string ⟨#[]⟩, .int .i64 0, .slice none 0 0, .slice none 0 0, .slice (some ad) 2 2]] W fun e w' => e = .returned (.bool true) ∧ Below W.heap.size W w' := by
  have h := same_calls z (pair k x y) D3 f3 D4 f4 D5 f5 none 0 none 0 (some ad) 2 W hzat hat
  rw [hz, same_refl] at h
  rw [hz]
  exact h
end Go.Proofs.YtmlcaecknocpoaaDoor.It
namespace Go.Proofs.YtmlcaecknocpoaaDoor.It
set_option linter.unusedVariables false
set_option linter.unusedSimpArgs false
open Go Go.RowKit Go.Shelf Go.Proofs.YtmlcaecknocpoaaDoorW.PrintWords Go.Proofs.YtmlcaecknocpoaaDoorW.PrintLast Go.Proofs.YtmlcaecknocpoaaDoor.Pr Go.Proofs.YtmlcaecknocpoaaDoor.Sp
attribute [local go_sem ↓] Go.wp_at_zero Go.wp_at_succ
set_option maxRecDepth 100000 in
set_option maxHeartbeats 8000000 in
theorem law10_few1 (x y : S26) (A3 : Option Addr) (c3 : Nat) (A4 : Option Addr) (c4 : Nat) (A5 : Option Addr) (c5 : Nat) (B3 : Option Addr) (d3 : Nat) (B4 : Option Addr) (d4 : Nat) (B5 : Option Addr) (d5 : Nat) (w : World) (ha : Arg w x A3 c3 A4 c4 A5 c5) (hb : Arg w y B3 d3 B4 d4 B5 d5) (ht : Tabs w) (hd : Duals w) (hfa : ∀ W, Below w.heap.size w W → Calls Tryd.prog 21 #[.agg #[.int .i64 x.f0, .string x.f1, .int .i64 x.f2, .slice A3 x.f3.length c3, .slice A4 x.f4.length c4, .slice A5 x.f5.length c5]] W fun e w' => e = .returned (.bool false) ∧ Below W.heap.size W w') :
    Calls Tryd.prog 10 #[.agg #[.int .i64 x.f0, .string x.f1, .int .i64 x.f2, .slice A3 x.f3.length c3, .slice A4 x.f4.length c4, .slice A5 x.f5.length c5], .agg #[.int .i64 y.f0, .string y.f1, .int .i64 y.f2, .slice B3 y.f3.length d3, .slice B4 y.f4.length d4, .slice B5 y.f5.length d5]] w fun e w' => e = .returned (.bool true) ∧ Below w.heap.size w w' := by
  have hu26 := Tryd.underlying26
  have C20 := Aside0.mk (fun W (h : St2 w W w.heap.size x A3 c3 A4 c4 A5 c5 (w.heap.size + 1) y B3 d3 B4 d4 B5 d5) => live_calls W (ht.below h.b) (hd.below h.b))
  have C21 := Aside0.mk (fun W (h : St2 w W w.heap.size x A3 c3 A4 c4 A5 c5 (w.heap.size + 1) y B3 d3 B4 d4 B5 d5) => hfa W h.b)
  have T0 := Aside0.mk (St2.start ha.at_ hb.at_)
  clear ha hb ht hd hfa
  go_enter Tryd.func10, Tryd.ntmps10
  go_wp2_with (first
    | (go_at_call 20; (with_reducible refine (C20.out _ T0.out).mono ?_); rintro e w1 ⟨rfl, g⟩; have T1 := Aside0.mk (T0.out.below g); clear g; obtain ⟨p0, p1, p2, p3, p4, p5⟩ := T1.out.bx.six; obtain ⟨q0, q1, q2, q3, q4, q5⟩ := T1.out.byy.six)
    | (go_at_call 21; (with_reducible refine (C21.out _ T1.out).mono ?_); rintro e w2 ⟨rfl, g⟩; have T2 := Aside0.mk (T1.out.below g); clear g p0 p1 p2 p3 p4 p5 q0 q1 q2 q3 q4 q5; obtain ⟨p0, p1, p2, p3, p4, p5⟩ := T2.out.bx.six; obtain ⟨q0, q1, q2, q3, q4, q5⟩ := T2.out.byy.six))
  go_ret
  exact ⟨rfl, T2.out.b⟩
set_option maxRecDepth 100000 in
set_option maxHeartbeats 8000000 in
theorem law10_few2 (x y : S26) (A3 : Option Addr) (c3 : Nat) (A4 : Option Addr) (c4 : Nat) (A5 : Option Addr) (c5 : Nat) (B3 : Option Addr) (d3 : Nat) (B4 : Option Addr) (d4 : Nat) (B5 : Option Addr) (d5 : Nat) (w : World) (ha : Arg w x A3 c3 A4 c4 A5 c5) (hb : Arg w y B3 d3 B4 d4 B5 d5) (ht : Tabs w) (hd : Duals w) (hfa : ∀ W, Below w.heap.size w W → Calls Tryd.prog 21 #[.agg #[.int .i64 x.f0, .string x.f1, .int .i64 x.f2, .slice A3 x.f3.length c3, .slice A4 x.f4.length c4, .slice A5 x.f5.length c5]] W fun e w' => e = .returned (.bool true) ∧ Below W.heap.size W w') (hfb : ∀ W, Below w.heap.size w W → Calls Tryd.prog 21 #[.agg #[.int .i64 y.f0, .string y.f1, .int .i64 y.f2, .slice B3 y.f3.length d3, .slice B4 y.f4.length d4, .slice B5 y.f5.length d5]] W fun e w' => e = .returned (.bool false) ∧ Below W.heap.size W w') :
    Calls Tryd.prog 10 #[.agg #[.int .i64 x.f0, .string x.f1, .int .i64 x.f2, .slice A3 x.f3.length c3, .slice A4 x.f4.length c4, .slice A5 x.f5.length c5], .agg #[.int .i64 y.f0, .string y.f1, .int .i64 y.f2, .slice B3 y.f3.length d3, .slice B4 y.f4.length d4, .slice B5 y.f5.length d5]] w fun e w' => e = .returned (.bool true) ∧ Below w.heap.size w w' := by
  have hu26 := Tryd.underlying26
  have C20 := Aside0.mk (fun W (h : St2 w W w.heap.size x A3 c3 A4 c4 A5 c5 (w.heap.size + 1) y B3 d3 B4 d4 B5 d5) => live_calls W (ht.below h.b) (hd.below h.b))
  have C21 := Aside0.mk (fun W (h : St2 w W w.heap.size x A3 c3 A4 c4 A5 c5 (w.heap.size + 1) y B3 d3 B4 d4 B5 d5) => hfa W h.b)
  have D21 := Aside0.mk (fun W (h : St2 w W w.heap.size x A3 c3 A4 c4 A5 c5 (w.heap.size + 1) y B3 d3 B4 d4 B5 d5) => hfb W h.b)
  have T0 := Aside0.mk (St2.start ha.at_ hb.at_)
  clear ha hb ht hd hfa hfb
  go_enter Tryd.func10, Tryd.ntmps10
  go_wp2_with (first
    | (go_at_call 20; (with_reducible refine (C20.out _ T0.out).mono ?_); rintro e w1 ⟨rfl, g⟩; have T1 := Aside0.mk (T0.out.below g); clear g; obtain ⟨p0, p1, p2, p3, p4, p5⟩ := T1.out.bx.six; obtain ⟨q0, q1, q2, q3, q4, q5⟩ := T1.out.byy.six)
    | (go_at_call 21; (with_reducible refine (C21.out _ T1.out).mono ?_); rintro e w2 ⟨rfl, g⟩; have T2 := Aside0.mk (T1.out.below g); clear g p0 p1 p2 p3 p4 p5 q0 q1 q2 q3 q4 q5; obtain ⟨p0, p1, p2, p3, p4, p5⟩ := T2.out.bx.six; obtain ⟨q0, q1, q2, q3, q4, q5⟩ := T2.out.byy.six)
    | (go_at_call 21; (with_reducible refine (D21.out _ T2.out).mono ?_); rintro e w3 ⟨rfl, g⟩; have T3 := Aside0.mk (T2.out.below g); clear g p0 p1 p2 p3 p4 p5 q0 q1 q2 q3 q4 q5; obtain ⟨p0, p1, p2, p3, p4, p5⟩ := T3.out.bx.six; obtain ⟨q0, q1, q2, q3, q4, q5⟩ := T3.out.byy.six))
  go_ret
  exact ⟨rfl, T3.out.b⟩
set_option maxRecDepth 100000 in
set_option maxHeartbeats 8000000 in
theorem law10_bad (x y : S26) (A3 : Option Addr) (c3 : Nat) (A4 : Option Addr) (c4 : Nat) (A5 : Option Addr) (c5 : Nat) (B3 : Option Addr) (d3 : Nat) (B4 : Option Addr) (d4 : Nat) (B5 : Option Addr) (d5 : Nat) (w : World) (ha : Arg w x A3 c3 A4 c4 A5 c5) (hb : Arg w y B3 d3 B4 d4 B5 d5) (ht : Tabs w) (hd : Duals w) (hw : wt26 x + wt26 y ≤ 1048576) (hfa : ∀ W, Below w.heap.size w W → Calls Tryd.prog 21 #[.agg #[.int .i64 x.f0, .string x.f1, .int .i64 x.f2, .slice A3 x.f3.length c3, .slice A4 x.f4.length c4, .slice A5 x.f5.length c5]] W fun e w' => e = .returned (.bool true) ∧ Below W.heap.size W w') (hfb : ∀ W, Below w.heap.size w W → Calls Tryd.prog 21 #[.agg #[.int .i64 y.f0, .string y.f1, .int .i64 y.f2, .slice B3 y.f3.length d3, .slice B4 y.f4.length d4, .slice B5 y.f5.length d5]] W fun e w' => e = .returned (.bool true) ∧ Below W.heap.size W w') (hg : check (pair 11 x y) ≠ 0) :
    Calls Tryd.prog 10 #[.agg #[.int .i64 x.f0, .string x.f1, .int .i64 x.f2, .slice A3 x.f3.length c3, .slice A4 x.f4.length c4, .slice A5 x.f5.length c5], .agg #[.int .i64 y.f0, .string y.f1, .int .i64 y.f2, .slice B3 y.f3.length d3, .slice B4 y.f4.length d4, .slice B5 y.f5.length d5]] w fun e w' => e = .returned (.bool true) ∧ Below w.heap.size w w' := by
  have hu26 := Tryd.underlying26
  have C20 := Aside0.mk (fun W (h : St2 w W w.heap.size x A3 c3 A4 c4 A5 c5 (w.heap.size + 1) y B3 d3 B4 d4 B5 d5) => live_calls W (ht.below h.b) (hd.below h.b))
  have C21 := Aside0.mk (fun W (h : St2 w W w.heap.size x A3 c3 A4 c4 A5 c5 (w.heap.size + 1) y B3 d3 B4 d4 B5 d5) => hfa W h.b)
  have D21 := Aside0.mk (fun W (h : St2 w W w.heap.size x A3 c3 A4 c4 A5 c5 (w.heap.size + 1) y B3 d3 B4 d4 B5 d5) => hfb W h.b)
  have C32 := Aside0.mk (fun W (hb' : Below w.heap.size w W) (h : At W x A3 c3 A4 c4 A5 c5) => nnf_at x A3 c3 A4 c4 A5 c5 W h ha.size ha.deep (ht.below hb') (hd.below hb'))
  have D32 := Aside0.mk (fun W (hb' : Below w.heap.size w W) (h : At W y B3 d3 B4 d4 B5 d5) => nnf_at y B3 d3 B4 d4 B5 d5 W h hb.size hb.deep (ht.below hb') (hd.below hb'))
  have hs11 := pair_slim 11 x y rfl ha.deep hb.deep hw
  have hs13 := pair_slim 13 x y rfl ha.deep hb.deep hw
  have hsn := ha.argN.slim.neg (by have := ha.wt; unfold wt26 at this; omega)
  have P32 := Aside0.mk (fun W (hb' : Below w.heap.size w W) a (h : At W (pair 11 x y) none 0 none 0 (some a) 2) => nnfP 11 x y a W hs11 h (ht.below hb') (hd.below hb'))
  have Q32 := Aside0.mk (fun W (hb' : Below w.heap.size w W) a (h : At W (pair 13 x y) none 0 none 0 (some a) 2) => nnfP 13 x y a W hs13 h (ht.below hb') (hd.below hb'))
  have C40 := Aside0.mk (fun W (h : At W x A3 c3 A4 c4 A5 c5) => not1 x A3 c3 A4 c4 A5 c5 W h)
  have N32 := Aside0.mk (fun W (hb' : Below w.heap.size w W) a (h : At W (neg x) none 0 none 0 (some a) 1) => nnfN x a W hsn h (ht.below hb') (hd.below hb'))
  have hgi := pair_check (k := 13) (.inr rfl) x y
  rw [hgi] at Q32
  obtain ⟨nx, e_nx⟩ : ∃ v, nnf x = v := ⟨_, rfl⟩
  rw [e_nx] at C32
  obtain ⟨ny, e_ny⟩ : ∃ v, nnf y = v := ⟨_, rfl⟩
  rw [e_ny] at D32
  obtain ⟨nz, e_nz⟩ : ∃ v, nnf (pair 11 x y) = v := ⟨_, rfl⟩
  rw [e_nz] at P32
  obtain ⟨nw, e_nw⟩ : ∃ v, nnf (pair 13 x y) = v := ⟨_, rfl⟩
  rw [e_nw] at Q32
  obtain ⟨nt, e_nt⟩ : ∃ v, nnf (neg x) = v := ⟨_, rfl⟩
  rw [e_nt] at N32
  obtain ⟨ve, e_e⟩ : ∃ v, check x = v := ⟨_, rfl⟩
  rw [e_e] at C32
  obtain ⟨vf, e_f⟩ : ∃ v, check y = v := ⟨_, rfl⟩
  rw [e_f] at D32
  obtain ⟨vg, e_g⟩ : ∃ v, check (pair 11 x y) = v := ⟨_, rfl⟩
  rw [e_g] at P32 Q32 hg
  obtain ⟨vi, e_i⟩ : ∃ v, check (neg x) = v := ⟨_, rfl⟩
  rw [e_i] at N32
  have b1 : (vg == 0) = false := by simpa using hg
  have b2 : (vg != 0) = true := by simpa using hg
  clear e_e e_f e_g e_i e_nx e_ny e_nz e_nw e_nt hg hgi hs11 hs13 hsn
  have T0 := Aside0.mk (St2.start ha.at_ hb.at_)
  clear ha hb ht hd hfa hfb
  obtain ⟨be, hbe⟩ : ∃ b, (ve != 0) = b := ⟨_, rfl⟩
  obtain ⟨bf, hbf⟩ : ∃ b, (vf != 0) = b := ⟨_, rfl⟩
  cases be <;> cases bf <;>
  · go_enter Tryd.func10, Tryd.ntmps10
    go_wp2_with (first
      | (go_at_call 20; (with_reducible refine (C20.out _ T0.out).mono ?_); rintro e w1 ⟨rfl, g⟩; have T1 := Aside0.mk (T0.out.below g); clear g; obtain ⟨p0, p1, p2, p3, p4, p5⟩ := T1.out.bx.six; obtain ⟨q0, q1, q2, q3, q4, q5⟩ := T1.out.byy.six)
      | (go_at_call 21; (with_reducible refine (C21.out _ T1.out).mono ?_); rintro e w2 ⟨rfl, g⟩; have T2 := Aside0.mk (T1.out.below g); clear g p0 p1 p2 p3 p4 p5 q0 q1 q2 q3 q4 q5; obtain ⟨p0, p1, p2, p3, p4, p5⟩ := T2.out.bx.six; obtain ⟨q0, q1, q2, q3, q4, q5⟩ := T2.out.byy.six)
      | (go_at_call 21; (with_reducible refine (D21.out _ T2.out).mono ?_); rintro e w3 ⟨rfl, g⟩; have T3 := Aside0.mk (T2.out.below g); clear g p0 p1 p2 p3 p4 p5 q0 q1 q2 q3 q4 q5; obtain ⟨p0, p1, p2, p3, p4, p5⟩ := T3.out.bx.six; obtain ⟨q0, q1, q2, q3, q4, q5⟩ := T3.out.byy.six; have U3 := Aside0.mk (T3.out.below (up2 w3 (.cells #[.int .i64 x.f0, .string x.f1, .int .i64 x.f2, .slice A3 x.f3.length c3, .slice A4 x.f4.length c4, .slice A5 x.f5.length c5, .int .i64 y.f0, .string y.f1, .int .i64 y.f2, .slice B3 y.f3.length d3, .slice B4 y.f4.length d4, .slice B5 y.f5.length d5] 26) (.cells #[.int .i64 11, .string ⟨#[]⟩, .int .i64 0, .slice none 0 0, .slice none 0 0, .slice (some ⟨w3.heap.size, 0, none⟩) 2 2] 26))); obtain ⟨u0, u1, u2, u3, u4, u5⟩ := U3.out.bx.six; obtain ⟨v0, v1, v2, v3, v4, v5⟩ := U3.out.byy.six; have S3 := Aside0.mk (St4.make T3.out rfl); obtain ⟨z0, z1, z2, z3, z4, z5⟩ := S3.out.two.bx.six)
      | (go_at_call 32; (with_reducible refine (C32.out _ S3.out.two.b S3.out.two.bx.at_).mono ?_); rintro e w4 ⟨D3, f3, D4, f4, D5, f5, rfl, g, hx⟩; have BX := Aside0.mk (⟨heap_new w4 _, hx.below (up1 w4 _)⟩ : BoxF (w4.alloc (.cells #[.int .i64 nx.f0, .string nx.f1, .int .i64 nx.f2, .slice D3 nx.f3.length f3, .slice D4 nx.f4.length f4, .slice D5 nx.f5.length f5] 26)) w4.heap.size nx D3 f3 D4 f4 D5 f5); have T4 := Aside0.mk ((S3.out.below g).below (up1 w4 (.cells #[.int .i64 nx.f0, .string nx.f1, .int .i64 nx.f2, .slice D3 nx.f3.length f3, .slice D4 nx.f4.length f4, .slice D5 nx.f5.length f5] 26))); clear g hx; clear p0 p1 p2 p3 p4 p5 q0 q1 q2 q3 q4 q5 u0 u1 u2 u3 u4 u5 v0 v1 v2 v3 v4 v5 z0 z1 z2 z3 z4 z5; obtain ⟨q0, q1, q2, q3, q4, q5⟩ := T4.out.two.byy.six)
      | (go_at_call 32; (with_reducible refine (D32.out _ T4.out.two.b T4.out.two.byy.at_).mono ?_); rintro e w5 ⟨E3, h3, E4, h4, E5, h5, rfl, g, hx⟩; have BY := Aside0.mk (⟨heap_new w5 _, hx.below (up1 w5 _)⟩ : BoxF (w5.alloc (.cells #[.int .i64 ny.f0, .string ny.f1, .int .i64 ny.f2, .slice E3 ny.f3.length h3, .slice E4 ny.f4.length h4, .slice E5 ny.f5.length h5] 26)) w5.heap.size ny E3 h3 E4 h4 E5 h5); have T5 := Aside0.mk ((T4.out.below g).below (up1 w5 (.cells #[.int .i64 ny.f0, .string ny.f1, .int .i64 ny.f2, .slice E3 ny.f3.length h3, .slice E4 ny.f4.length h4, .slice E5 ny.f5.length h5] 26))); replace BX := Aside0.mk ((BX.out.below g).below (up1 w5 (.cells #[.int .i64 ny.f0, .string ny.f1, .int .i64 ny.f2, .slice E3 ny.f3.length h3, .slice E4 ny.f4.length h4, .slice E5 ny.f5.length h5] 26))); clear g hx; clear q0 q1 q2 q3 q4 q5; obtain ⟨r0, r1, r2, r3, r4, r5⟩ := six_pair T5.out.and_)
      | (go_at_call 32; (with_reducible refine (P32.out _ T5.out.two.b _ T5.out.and_.at_).mono ?_); rintro e w6 ⟨G3, i3, G4, i4, G5, i5, rfl, g, hx⟩; have BZ := Aside0.mk (⟨heap_new w6 _, hx.below (up1 w6 _)⟩ : BoxF (w6.alloc (.cells #[.int .i64 nz.f0, .string nz.f1, .int .i64 nz.f2, .slice G3 nz.f3.length i3, .slice G4 nz.f4.length i4, .slice G5 nz.f5.length i5] 26)) w6.heap.size nz G3 i3 G4 i4 G5 i5); have T6 := Aside0.mk ((T5.out.below g).below (up1 w6 (.cells #[.int .i64 nz.f0, .string nz.f1, .int .i64 nz.f2, .slice G3 nz.f3.length i3, .slice G4 nz.f4.length i4, .slice G5 nz.f5.length i5] 26))); replace BX := Aside0.mk ((BX.out.below g).below (up1 w6 (.cells #[.int .i64 nz.f0, .string nz.f1, .int .i64 nz.f2, .slice G3 nz.f3.length i3, .slice G4 nz.f4.length i4, .slice G5 nz.f5.length i5] 26))); replace BY := Aside0.mk ((BY.out.below g).below (up1 w6 (.cells #[.int .i64 nz.f0, .string nz.f1, .int .i64 nz.f2, .slice G3 nz.f3.length i3, .slice G4 nz.f4.length i4, .slice G5 nz.f5.length i5] 26))); clear g hx; clear r0 r1 r2 r3 r4 r5; obtain ⟨s0, s1, s2, s3, s4, s5⟩ := six_pair T6.out.imp)
      | (go_at_call 32; (with_reducible refine (Q32.out _ T6.out.two.b _ T6.out.imp.at_).mono ?_); rintro e w7 ⟨H3, j3, H4, j4, H5, j5, rfl, g, hx⟩; have BW := Aside0.mk (⟨heap_new w7 _, hx.below (up1 w7 _)⟩ : BoxF (w7.alloc (.cells #[.int .i64 nw.f0, .string nw.f1, .int .i64 nw.f2, .slice H3 nw.f3.length j3, .slice H4 nw.f4.length j4, .slice H5 nw.f5.length j5] 26)) w7.heap.size nw H3 j3 H4 j4 H5 j5); have T7 := Aside0.mk ((T6.out.below g).below (up1 w7 (.cells #[.int .i64 nw.f0, .string nw.f1, .int .i64 nw.f2, .slice H3 nw.f3.length j3, .slice H4 nw.f4.length j4, .slice H5 nw.f5.length j5] 26))); replace BX := Aside0.mk ((BX.out.below g).below (up1 w7 (.cells #[.int .i64 nw.f0, .string nw.f1, .int .i64 nw.f2, .slice H3 nw.f3.length j3, .slice H4 nw.f4.length j4, .slice H5 nw.f5.length j5] 26))); replace BY := Aside0.mk ((BY.out.below g).below (up1 w7 (.cells #[.int .i64 nw.f0, .string nw.f1, .int .i64 nw.f2, .slice H3 nw.f3.length j3, .slice H4 nw.f4.length j4, .slice H5 nw.f5.length j5] 26))); replace BZ := Aside0.mk ((BZ.out.below g).below (up1 w7 (.cells #[.int .i64 nw.f0, .string nw.f1, .int .i64 nw.f2, .slice H3 nw.f3.length j3, .slice H4 nw.f4.length j4, .slice H5 nw.f5.length j5] 26))); clear g hx; clear s0 s1 s2 s3 s4 s5; obtain ⟨p0, p1, p2, p3, p4, p5⟩ := T7.out.two.bx.six)
      | (go_at_call 40; (with_reducible refine (C40.out _ T7.out.two.bx.at_).mono ?_); rintro e w8 ⟨a8, rfl, g, h8⟩; have T8 := Aside0.mk (T7.out.below g); replace BX := Aside0.mk (BX.out.below g); replace BY := Aside0.mk (BY.out.below g); replace BZ := Aside0.mk (BZ.out.below g); replace BW := Aside0.mk (BW.out.below g); replace h8 := Aside0.mk h8; replace g := Aside0.mk g; clear p0 p1 p2 p3 p4 p5; obtain ⟨p0, p1, p2, p3, p4, p5⟩ := T8.out.two.bx.six)
      | (go_at_call 32; (with_reducible refine (N32.out _ T8.out.two.b _ h8.out).mono ?_); rintro e w9 ⟨K3, k3, K4, k4, K5, k5, rfl, g, hx⟩; have BT := Aside0.mk (⟨heap_new w9 _, hx.below (up1 w9 _)⟩ : BoxF (w9.alloc (.cells #[.int .i64 nt.f0, .string nt.f1, .int .i64 nt.f2, .slice K3 nt.f3.length k3, .slice K4 nt.f4.length k4, .slice K5 nt.f5.length k5] 26)) w9.heap.size nt K3 k3 K4 k4 K5 k5); have T9 := Aside0.mk ((T8.out.below g).below (up1 w9 (.cells #[.int .i64 nt.f0, .string nt.f1, .int .i64 nt.f2, .slice K3 nt.f3.length k3, .slice K4 nt.f4.length k4, .slice K5 nt.f5.length k5] 26))); replace BX := Aside0.mk ((BX.out.below g).below (up1 w9 (.cells #[.int .i64 nt.f0, .string nt.f1, .int .i64 nt.f2, .slice K3 nt.f3.length k3, .slice K4 nt.f4.length k4, .slice K5 nt.f5.length k5] 26))); replace BY := Aside0.mk ((BY.out.below g).below (up1 w9 (.cells #[.int .i64 nt.f0, .string nt.f1, .int .i64 nt.f2, .slice K3 nt.f3.length k3, .slice K4 nt.f4.length k4, .slice K5 nt.f5.length k5] 26))); replace BZ := Aside0.mk ((BZ.out.below g).below (up1 w9 (.cells #[.int .i64 nt.f0, .string nt.f1, .int .i64 nt.f2, .slice K3 nt.f3.length k3, .slice K4 nt.f4.length k4, .slice K5 nt.f5.length k5] 26))); replace BW := Aside0.mk ((BW.out.below g).below (up1 w9 (.cells #[.int .i64 nt.f0, .string nt.f1, .int .i64 nt.f2, .slice K3 nt.f3.length k3, .slice K4 nt.f4.length k4, .slice K5 nt.f5.length k5] 26))); clear g hx; clear p0 p1 p2 p3 p4 p5; obtain ⟨r0, r1, r2, r3, r4, r5⟩ := six_pair T9.out.and_))
    go_ret
    exact ⟨rfl, T9.out.two.b⟩
end Go.Proofs.YtmlcaecknocpoaaDoor.It
namespace Go.Proofs.YtmlcaecknocpoaaDoor.It
set_option linter.unusedVariables false
set_option linter.unusedSimpArgs false
open Go Go.RowKit Go.Shelf Go.Proofs.YtmlcaecknocpoaaDoorW.PrintWords Go.Proofs.YtmlcaecknocpoaaDoorW.PrintLast Go.Proofs.YtmlcaecknocpoaaDoor.Pr Go.Proofs.YtmlcaecknocpoaaDoor.Sp
attribute [local go_sem ↓] Go.wp_at_zero Go.wp_at_succ
theorem drewN_below (w : World) (n : Nat) : Below w.heap.size w (w.drewN n) := pw_below_drewN (Below.refl _ _) n
set_option maxRecDepth 100000 in
set_option maxHeartbeats 8000000 in
theorem law10_good (x y : S26) (A3 : Option Addr) (c3 : Nat) (A4 : Option Addr) (c4 : Nat) (A5 : Option Addr) (c5 : Nat) (B3 : Option Addr) (d3 : Nat) (B4 : Option Addr) (d4 : Nat) (B5 : Option Addr) (d5 : Nat) (w : World) (ha : Arg w x A3 c3 A4 c4 A5 c5) (hb : Arg w y B3 d3 B4 d4 B5 d5) (ht : Tabs w) (hd : Duals w) (hw : wt26 x + wt26 y ≤ 1048576) (hfa : ∀ W, Below w.heap.size w W → Calls Tryd.prog 21 #[.agg #[.int .i64 x.f0, .string x.f1, .int .i64 x.f2, .slice A3 x.f3.length c3, .slice A4 x.f4.length c4, .slice A5 x.f5.length c5]] W fun e w' => e = .returned (.bool true) ∧ Below W.heap.size W w') (hfb : ∀ W, Below w.heap.size w W → Calls Tryd.prog 21 #[.agg #[.int .i64 y.f0, .string y.f1, .int .i64 y.f2, .slice B3 y.f3.length d3, .slice B4 y.f4.length d4, .slice B5 y.f5.length d5]] W fun e w' => e = .returned (.bool true) ∧ Below W.heap.size W w') (hg : check (pair 11 x y) = 0) :
    Calls Tryd.prog 10 #[.agg #[.int .i64 x.f0, .string x.f1, .int .i64 x.f2, .slice A3 x.f3.length c3, .slice A4 x.f4.length c4, .slice A5 x.f5.length c5], .agg #[.int .i64 y.f0, .string y.f1, .int .i64 y.f2, .slice B3 y.f3.length d3, .slice B4 y.f4.length d4, .slice B5 y.f5.length d5]] w fun e w' => e = .returned (.bool true) ∧ Below w.heap.size w w' := by
  have hu26 := Tryd.underlying26
  have C20 := Aside0.mk (fun W (h : St2 w W w.heap.size x A3 c3 A4 c4 A5 c5 (w.heap.size + 1) y B3 d3 B4 d4 B5 d5) => live_calls W (ht.below h.b) (hd.below h.b))
  have C21 := Aside0.mk (fun W (h : St2 w W w.heap.size x A3 c3 A4 c4 A5 c5 (w.heap.size + 1) y B3 d3 B4 d4 B5 d5) => hfa W h.b)
  have D21 := Aside0.mk (fun W (h : St2 w W w.heap.size x A3 c3 A4 c4 A5 c5 (w.heap.size + 1) y B3 d3 B4 d4 B5 d5) => hfb W h.b)
  have C32 := Aside0.mk (fun W (hb' : Below w.heap.size w W) (h : At W x A3 c3 A4 c4 A5 c5) => nnf_at x A3 c3 A4 c4 A5 c5 W h ha.size ha.deep (ht.below hb') (hd.below hb'))
  have D32 := Aside0.mk (fun W (hb' : Below w.heap.size w W) (h : At W y B3 d3 B4 d4 B5 d5) => nnf_at y B3 d3 B4 d4 B5 d5 W h hb.size hb.deep (ht.below hb') (hd.below hb'))
  have hs11 := pair_slim 11 x y rfl ha.deep hb.deep hw
  have hs13 := pair_slim 13 x y rfl ha.deep hb.deep hw
  have hsn := ha.argN.slim.neg (by have := ha.wt; unfold wt26 at this; omega)
  have P32 := Aside0.mk (fun W (hb' : Below w.heap.size w W) a (h : At W (pair 11 x y) none 0 none 0 (some a) 2) => nnfP 11 x y a W hs11 h (ht.below hb') (hd.below hb'))
  have Q32 := Aside0.mk (fun W (hb' : Below w.heap.size w W) a (h : At W (pair 13 x y) none 0 none 0 (some a) 2) => nnfP 13 x y a W hs13 h (ht.below hb') (hd.below hb'))
  have C40 := Aside0.mk (fun W (h : At W x A3 c3 A4 c4 A5 c5) => not1 x A3 c3 A4 c4 A5 c5 W h)
  have N32 := Aside0.mk (fun W (hb' : Below w.heap.size w W) a (h : At W (neg x) none 0 none 0 (some a) 1) => nnfN x a W hsn h (ht.below hb') (hd.below hb'))
  have P28 := Aside0.mk (fun W (hb' : Below w.heap.size w W) a (h : At W (pair 11 x y) none 0 none 0 (some a) 2) => freeP 11 x y a W hs11 h)
  have C28 := Aside0.mk (fun W (hb' : Below w.heap.size w W) (h : At W x A3 c3 A4 c4 A5 c5) => free_at x A3 c3 A4 c4 A5 c5 W h ha.deep ha.nb ha.nt)
  have D28 := Aside0.mk (fun W (hb' : Below w.heap.size w W) (h : At W y B3 d3 B4 d4 B5 d5) => free_at y B3 d3 B4 d4 B5 d5 W h hb.deep hb.nb hb.nt)
  have P24 := Aside0.mk (fun W (hb' : Below w.heap.size w W) a (h : At W (pair 11 x y) none 0 none 0 (some a) 2) => sizeP 11 x y a W hs11 h)
  have C24 := Aside0.mk (fun W (hb' : Below w.heap.size w W) (h : At W x A3 c3 A4 c4 A5 c5) => size_calls x A3 c3 A4 c4 A5 c5 W h ha.size ha.deep)
  have D24 := Aside0.mk (fun W (hb' : Below w.heap.size w W) (h : At W y B3 d3 B4 d4 B5 d5) => size_calls y B3 d3 B4 d4 B5 d5 W h hb.size hb.deep)
  have P26 := Aside0.mk (fun W (hb' : Below w.heap.size w W) a (h : At W (pair 11 x y) none 0 none 0 (some a) 2) => depthP 11 x y a W hs11 h)
  have C26 := Aside0.mk (fun W (hb' : Below w.heap.size w W) (h : At W x A3 c3 A4 c4 A5 c5) => depth_calls x A3 c3 A4 c4 A5 c5 W h ha.size)
  have D26 := Aside0.mk (fun W (hb' : Below w.heap.size w W) (h : At W y B3 d3 B4 d4 B5 d5) => depth_calls y B3 d3 B4 d4 B5 d5 W h hb.size)
  have hgi := (pair_check (k := 13) (.inr rfl) x y).trans hg
  have hzw := pair_nnf hg
  obtain ⟨g1, g2, g3⟩ := pair_good hg
  have hsz1 := (check_zero.1 g1).2
  have hsz2 := (check_zero.1 g2).2
  rw [hgi] at Q32
  rw [hg] at P32
  rw [g1] at C32
  rw [g2] at D32
  rw [g3] at N32
  obtain ⟨nx, e_nx⟩ : ∃ v, nnf x = v := ⟨_, rfl⟩
  rw [e_nx] at C32
  obtain ⟨ny, e_ny⟩ : ∃ v, nnf y = v := ⟨_, rfl⟩
  rw [e_ny] at D32
  obtain ⟨nz, e_nz⟩ : ∃ v, nnf (pair 11 x y) = v := ⟨_, rfl⟩
  rw [e_nz] at P32
  obtain ⟨nw, e_nw⟩ : ∃ v, nnf (pair 13 x y) = v := ⟨_, rfl⟩
  rw [e_nw] at Q32
  obtain ⟨nt, e_nt⟩ : ∃ v, nnf (neg x) = v := ⟨_, rfl⟩
  rw [e_nt] at N32
  rw [e_nz, e_nw, e_nx, e_ny, e_nt] at hzw
  have HZ := Aside0.mk hzw.1
  have HW := Aside0.mk hzw.2
  obtain ⟨r, hr, hrl⟩ := pair_free 11 x y
  have hfx : (free x).length ≤ 1000000 := Nat.le_trans (free_length x) ha.nt
  have hfy : (free y).length ≤ 1000000 := Nat.le_trans (free_length y) hb.nt
  obtain ⟨l, e_l⟩ : ∃ v, free (pair 11 x y) = v := ⟨_, rfl⟩
  rw [e_l] at P28 hr
  obtain ⟨fx, e_fx⟩ : ∃ v, free x = v := ⟨_, rfl⟩
  rw [e_fx] at C28 hfx hr
  obtain ⟨fy, e_fy⟩ : ∃ v, free y = v := ⟨_, rfl⟩
  rw [e_fy] at D28 hfy hrl
  have hl1 : fx.length ≤ l.length := by rw [hr]; simp
  have hl2 : l.length ≤ fx.length + fy.length := by rw [hr]; simp; omega
  have hl3 : Aside0 (∀ j, j < fx.length → l.getD j ByteArray.empty = fx.getD j ByteArray.empty) := ⟨fun j hj => by rw [hr]; simp [List.getD, List.getElem?_append_left hj]⟩
  obtain ⟨sx, e_sx⟩ : ∃ v, size x = v := ⟨_, rfl⟩
  obtain ⟨sy, e_sy⟩ : ∃ v, size y = v := ⟨_, rfl⟩
  obtain ⟨dx, e_dx⟩ : ∃ v, depth x = v := ⟨_, rfl⟩
  obtain ⟨dy, e_dy⟩ : ∃ v, depth y = v := ⟨_, rfl⟩
  rw [e_sx, e_dx] at hsz1
  rw [e_sy, e_dy] at hsz2
  rw [e_sx, e_sy] at P24
  rw [e_sx] at C24
  rw [e_sy] at D24
  rw [e_dx, e_dy] at P26
  rw [e_dx] at C26
  rw [e_dy] at D26
  have hT0 := St2.start ha.at_ hb.at_
  clear e_nx e_ny e_nz e_nw e_nt e_l e_fx e_fy e_sx e_sy e_dx e_dy hr hrl hg hgi g1 g2 g3 hzw hs11 hs13 hsn r
  have T0 := Aside0.mk hT0
  clear ha hb ht hd hfa hfb hT0
  go_enter Tryd.func10, Tryd.ntmps10
  go_upto_region 17 with (first
    | (go_at_call 20; (with_reducible refine (C20.out _ T0.out).mono ?_); rintro e w1 ⟨rfl, g⟩; have T1 := Aside0.mk (T0.out.below g); clear g; obtain ⟨p0, p1, p2, p3, p4, p5⟩ := T1.out.bx.six; obtain ⟨q0, q1, q2, q3, q4, q5⟩ := T1.out.byy.six)
    | (go_at_call 21; (with_reducible refine (C21.out _ T1.out).mono ?_); rintro e w2 ⟨rfl, g⟩; have T2 := Aside0.mk (T1.out.below g); clear g p0 p1 p2 p3 p4 p5 q0 q1 q2 q3 q4 q5; obtain ⟨p0, p1, p2, p3, p4, p5⟩ := T2.out.bx.six; obtain ⟨q0, q1, q2, q3, q4, q5⟩ := T2.out.byy.six)
    | (go_at_call 21; (with_reducible refine (D21.out _ T2.out).mono ?_); rintro e w3 ⟨rfl, g⟩; have T3 := Aside0.mk (T2.out.below g); clear g p0 p1 p2 p3 p4 p5 q0 q1 q2 q3 q4 q5; obtain ⟨p0, p1, p2, p3, p4, p5⟩ := T3.out.bx.six; obtain ⟨q0, q1, q2, q3, q4, q5⟩ := T3.out.byy.six; have U3 := Aside0.mk (T3.out.below (up2 w3 (.cells #[.int .i64 x.f0, .string x.f1, .int .i64 x.f2, .slice A3 x.f3.length c3, .slice A4 x.f4.length c4, .slice A5 x.f5.length c5, .int .i64 y.f0, .string y.f1, .int .i64 y.f2, .slice B3 y.f3.length d3, .slice B4 y.f4.length d4, .slice B5 y.f5.length d5] 26) (.cells #[.int .i64 11, .string ⟨#[]⟩, .int .i64 0, .slice none 0 0, .slice none 0 0, .slice (some ⟨w3.heap.size, 0, none⟩) 2 2] 26))); obtain ⟨u0, u1, u2, u3, u4, u5⟩ := U3.out.bx.six; obtain ⟨v0, v1, v2, v3, v4, v5⟩ := U3.out.byy.six; have S3 := Aside0.mk (St4.make T3.out rfl); obtain ⟨z0, z1, z2, z3, z4, z5⟩ := S3.out.two.bx.six)
    | (go_at_call 32; (with_reducible refine (C32.out _ S3.out.two.b S3.out.two.bx.at_).mono ?_); rintro e w4 ⟨D3, f3, D4, f4, D5, f5, rfl, g, hx⟩; have BX := Aside0.mk (⟨heap_new w4 _, hx.below (up1 w4 _)⟩ : BoxF (w4.alloc (.cells #[.int .i64 nx.f0, .string nx.f1, .int .i64 nx.f2, .slice D3 nx.f3.length f3, .slice D4 nx.f4.length f4, .slice D5 nx.f5.length f5] 26)) w4.heap.size nx D3 f3 D4 f4 D5 f5); have T4 := Aside0.mk ((S3.out.below g).below (up1 w4 (.cells #[.int .i64 nx.f0, .string nx.f1, .int .i64 nx.f2, .slice D3 nx.f3.length f3, .slice D4 nx.f4.length f4, .slice D5 nx.f5.length f5] 26))); clear g hx; clear p0 p1 p2 p3 p4 p5 q0 q1 q2 q3 q4 q5 u0 u1 u2 u3 u4 u5 v0 v1 v2 v3 v4 v5 z0 z1 z2 z3 z4 z5; obtain ⟨q0, q1, q2, q3, q4, q5⟩ := T4.out.two.byy.six)
    | (go_at_call 32; (with_reducible refine (D32.out _ T4.out.two.b T4.out.two.byy.at_).mono ?_); rintro e w5 ⟨E3, h3, E4, h4, E5, h5, rfl, g, hx⟩; have BY := Aside0.mk (⟨heap_new w5 _, hx.below (up1 w5 _)⟩ : BoxF (w5.alloc (.cells #[.int .i64 ny.f0, .string ny.f1, .int .i64 ny.f2, .slice E3 ny.f3.length h3, .slice E4 ny.f4.length h4, .slice E5 ny.f5.length h5] 26)) w5.heap.size ny E3 h3 E4 h4 E5 h5); have T5 := Aside0.mk ((T4.out.below g).below (up1 w5 (.cells #[.int .i64 ny.f0, .string ny.f1, .int .i64 ny.f2, .slice E3 ny.f3.length h3, .slice E4 ny.f4.length h4, .slice E5 ny.f5.length h5] 26))); replace BX := Aside0.mk ((BX.out.below g).below (up1 w5 (.cells #[.int .i64 ny.f0, .string ny.f1, .int .i64 ny.f2, .slice E3 ny.f3.length h3, .slice E4 ny.f4.length h4, .slice E5 ny.f5.length h5] 26))); clear g hx; clear q0 q1 q2 q3 q4 q5; obtain ⟨r0, r1, r2, r3, r4, r5⟩ := six_pair T5.out.and_)
    | (go_at_call 32; (with_reducible refine (P32.out _ T5.out.two.b _ T5.out.and_.at_).mono ?_); rintro e w6 ⟨G3, i3, G4, i4, G5, i5, rfl, g, hx⟩; have BZ := Aside0.mk (⟨heap_new w6 _, hx.below (up1 w6 _)⟩ : BoxF (w6.alloc (.cells #[.int .i64 nz.f0, .string nz.f1, .int .i64 nz.f2, .slice G3 nz.f3.length i3, .slice G4 nz.f4.length i4, .slice G5 nz.f5.length i5] 26)) w6.heap.size nz G3 i3 G4 i4 G5 i5); have T6 := Aside0.mk ((T5.out.below g).below (up1 w6 (.cells #[.int .i64 nz.f0, .string nz.f1, .int .i64 nz.f2, .slice G3 nz.f3.length i3, .slice G4 nz.f4.length i4, .slice G5 nz.f5.length i5] 26))); replace BX := Aside0.mk ((BX.out.below g).below (up1 w6 (.cells #[.int .i64 nz.f0, .string nz.f1, .int .i64 nz.f2, .slice G3 nz.f3.length i3, .slice G4 nz.f4.length i4, .slice G5 nz.f5.length i5] 26))); replace BY := Aside0.mk ((BY.out.below g).below (up1 w6 (.cells #[.int .i64 nz.f0, .string nz.f1, .int .i64 nz.f2, .slice G3 nz.f3.length i3, .slice G4 nz.f4.length i4, .slice G5 nz.f5.length i5] 26))); clear g hx; clear r0 r1 r2 r3 r4 r5; obtain ⟨s0, s1, s2, s3, s4, s5⟩ := six_pair T6.out.imp)
    | (go_at_call 32; (with_reducible refine (Q32.out _ T6.out.two.b _ T6.out.imp.at_).mono ?_); rintro e w7 ⟨H3, j3, H4, j4, H5, j5, rfl, g, hx⟩; have BW := Aside0.mk (⟨heap_new w7 _, hx.below (up1 w7 _)⟩ : BoxF (w7.alloc (.cells #[.int .i64 nw.f0, .string nw.f1, .int .i64 nw.f2, .slice H3 nw.f3.length j3, .slice H4 nw.f4.length j4, .slice H5 nw.f5.length j5] 26)) w7.heap.size nw H3 j3 H4 j4 H5 j5); have T7 := Aside0.mk ((T6.out.below g).below (up1 w7 (.cells #[.int .i64 nw.f0, .string nw.f1, .int .i64 nw.f2, .slice H3 nw.f3.length j3, .slice H4 nw.f4.length j4, .slice H5 nw.f5.length j5] 26))); replace BX := Aside0.mk ((BX.out.below g).below (up1 w7 (.cells #[.int .i64 nw.f0, .string nw.f1, .int .i64 nw.f2, .slice H3 nw.f3.length j3, .slice H4 nw.f4.length j4, .slice H5 nw.f5.length j5] 26))); replace BY := Aside0.mk ((BY.out.below g).below (up1 w7 (.cells #[.int .i64 nw.f0, .string nw.f1, .int .i64 nw.f2, .slice H3 nw.f3.length j3, .slice H4 nw.f4.length j4, .slice H5 nw.f5.length j5] 26))); replace BZ := Aside0.mk ((BZ.out.below g).below (up1 w7 (.cells #[.int .i64 nw.f0, .string nw.f1, .int .i64 nw.f2, .slice H3 nw.f3.length j3, .slice H4 nw.f4.length j4, .slice H5 nw.f5.length j5] 26))); clear g hx; clear s0 s1 s2 s3 s4 s5; obtain ⟨p0, p1, p2, p3, p4, p5⟩ := T7.out.two.bx.six)
    | (go_at_call 40; (with_reducible refine (C40.out _ T7.out.two.bx.at_).mono ?_); rintro e w8 ⟨a8, rfl, g, h8⟩; have T8 := Aside0.mk (T7.out.below g); replace BX := Aside0.mk (BX.out.below g); replace BY := Aside0.mk (BY.out.below g); replace BZ := Aside0.mk (BZ.out.below g); replace BW := Aside0.mk (BW.out.below g); replace h8 := Aside0.mk h8; replace g := Aside0.mk g; clear p0 p1 p2 p3 p4 p5; obtain ⟨p0, p1, p2, p3, p4, p5⟩ := T8.out.two.bx.six)
    | (go_at_call 32; (with_reducible refine (N32.out _ T8.out.two.b _ h8.out).mono ?_); rintro e w9 ⟨K3, k3, K4, k4, K5, k5, rfl, g, hx⟩; have BT := Aside0.mk (⟨heap_new w9 _, hx.below (up1 w9 _)⟩ : BoxF (w9.alloc (.cells #[.int .i64 nt.f0, .string nt.f1, .int .i64 nt.f2, .slice K3 nt.f3.length k3, .slice K4 nt.f4.length k4, .slice K5 nt.f5.length k5] 26)) w9.heap.size nt K3 k3 K4 k4 K5 k5); have T9 := Aside0.mk ((T8.out.below g).below (up1 w9 (.cells #[.int .i64 nt.f0, .string nt.f1, .int .i64 nt.f2, .slice K3 nt.f3.length k3, .slice K4 nt.f4.length k4, .slice K5 nt.f5.length k5] 26))); replace BX := Aside0.mk ((BX.out.below g).below (up1 w9 (.cells #[.int .i64 nt.f0, .string nt.f1, .int .i64 nt.f2, .slice K3 nt.f3.length k3, .slice K4 nt.f4.length k4, .slice K5 nt.f5.length k5] 26))); replace BY := Aside0.mk ((BY.out.below g).below (up1 w9 (.cells #[.int .i64 nt.f0, .string nt.f1, .int .i64 nt.f2, .slice K3 nt.f3.length k3, .slice K4 nt.f4.length k4, .slice K5 nt.f5.length k5] 26))); replace BZ := Aside0.mk ((BZ.out.below g).below (up1 w9 (.cells #[.int .i64 nt.f0, .string nt.f1, .int .i64 nt.f2, .slice K3 nt.f3.length k3, .slice K4 nt.f4.length k4, .slice K5 nt.f5.length k5] 26))); replace BW := Aside0.mk ((BW.out.below g).below (up1 w9 (.cells #[.int .i64 nt.f0, .string nt.f1, .int .i64 nt.f2, .slice K3 nt.f3.length k3, .slice K4 nt.f4.length k4, .slice K5 nt.f5.length k5] 26))); clear g hx; clear p0 p1 p2 p3 p4 p5; obtain ⟨r0, r1, r2, r3, r4, r5⟩ := six_pair T9.out.and_)
    | (go_at_call 28; (with_reducible refine (P28.out _ T9.out.two.b _ T9.out.and_.at_).mono ?_); rintro e w10 ⟨L, cl, rfl, g, hl⟩; have T10 := Aside0.mk (T9.out.below g); replace BX := Aside0.mk (BX.out.below g); replace BY := Aside0.mk (BY.out.below g); replace BZ := Aside0.mk (BZ.out.below g); replace BW := Aside0.mk (BW.out.below g); replace BT := Aside0.mk (BT.out.below g); have HL := Aside0.mk hl; clear hl; replace g := Aside0.mk g; clear r0 r1 r2 r3 r4 r5; obtain ⟨p0, p1, p2, p3, p4, p5⟩ := T10.out.two.bx.six)
    | (go_at_call 28; (with_reducible refine (C28.out _ T10.out.two.b T10.out.two.bx.at_).mono ?_); rintro e w11 ⟨M, cm, rfl, g, hm⟩; have T11 := Aside0.mk (T10.out.below g); replace BX := Aside0.mk (BX.out.below g); replace BY := Aside0.mk (BY.out.below g); replace BZ := Aside0.mk (BZ.out.below g); replace BW := Aside0.mk (BW.out.below g); replace BT := Aside0.mk (BT.out.below g); have HM := Aside0.mk hm; clear hm; replace HL := Aside0.mk (HL.out.below g); replace g := Aside0.mk g; clear p0 p1 p2 p3 p4 p5))
  go_wp2_with fail
  have HX := Aside0.mk (⟨T11.out, BX.out, BY.out, BZ.out, BW.out, BT.out, HL.out, HM.out⟩ : St4 w _ w.heap.size x A3 c3 A4 c4 A5 c5 (w.heap.size + 1) y B3 d3 B4 d4 B5 d5 (w3.heap.size + 1) ⟨w3.heap.size, 0, none⟩ (w3.heap.size + 1 + 1 + 1) ⟨w3.heap.size + 1 + 1, 0, none⟩ ∧ BoxF _ w4.heap.size nx D3 f3 D4 f4 D5 f5 ∧ BoxF _ w5.heap.size ny E3 h3 E4 h4 E5 h5 ∧ BoxF _ w6.heap.size nz G3 i3 G4 i4 G5 i5 ∧ BoxF _ w7.heap.size nw H3 j3 H4 j4 H5 j5 ∧ BoxF _ w9.heap.size nt K3 k3 K4 k4 K5 k5 ∧ Strs _ L l ∧ Strs _ M fx)
  clear T11 BX BY BZ BW BT HL HM C20 C21 D21 C32 D32 P32 Q32 N32 C40 P28 C28
  go_loopg [19] fx.length (fun gg s19 wr => ∃ j : Nat, j ≤ fx.length ∧ fx.length - j ≤ gg ∧ s19 = .int .i64 j ∧ Aside0 (St4 w wr w.heap.size x A3 c3 A4 c4 A5 c5 (w.heap.size + 1) y B3 d3 B4 d4 B5 d5 (w3.heap.size + 1) ⟨w3.heap.size, 0, none⟩ (w3.heap.size + 1 + 1 + 1) ⟨w3.heap.size + 1 + 1, 0, none⟩ ∧ BoxF wr w4.heap.size nx D3 f3 D4 f4 D5 f5 ∧ BoxF wr w5.heap.size ny E3 h3 E4 h4 E5 h5 ∧ BoxF wr w6.heap.size nz G3 i3 G4 i4 G5 i5 ∧ BoxF wr w7.heap.size nw H3 j3 H4 j4 H5 j5 ∧ BoxF wr w9.heap.size nt K3 k3 K4 k4 K5 k5 ∧ Strs wr L l ∧ Strs wr M fx))
  case atStart => exact ⟨0, Nat.zero_le _, by omega, rfl, HX⟩
  case round =>
    obtain ⟨j, hj, hg, rfl, HK⟩ := hrel
    clear HX
    by_cases hlt : j < fx.length
    · have hltz : (j : Int) < (fx.length : Int) := by omega
      have hgb : decide (l.length ≤ j) = false := decide_eq_false (by omega)
      obtain ⟨xd, rfl, x0⟩ := strAt HK.out.2.2.2.2.2.2.2 j hlt
      obtain ⟨yd, rfl, y0⟩ := strAt HK.out.2.2.2.2.2.2.1 j (by omega)
      rw [hl3.out j hlt] at y0
      obtain ⟨s, hs⟩ : ∃ s, fx.getD j ByteArray.empty = s := ⟨_, rfl⟩
      rw [hs] at x0 y0
      clear hs
      have hnl : (j : Int) < (l.length : Int) := by omega
      go_wp2_with fail
      go_quiet (fail)
      go_wp2_with fail
      go_roundg (fx.length - (j + 1))
      case measure => omega
      case rel => exact ⟨j + 1, by omega, by omega, by go_num, ⟨⟨HK.out.1.below (drewN_below _ _), HK.out.2.1.below (drewN_below _ _), HK.out.2.2.1.below (drewN_below _ _), HK.out.2.2.2.1.below (drewN_below _ _), HK.out.2.2.2.2.1.below (drewN_below _ _), HK.out.2.2.2.2.2.1.below (drewN_below _ _), HK.out.2.2.2.2.2.2.1.below (drewN_below _ _), HK.out.2.2.2.2.2.2.2.below (drewN_below _ _)⟩⟩⟩
    · have hltz : ¬ (j : Int) < (fx.length : Int) := by omega
      obtain ⟨z0, z1, z2, z3, z4, z5⟩ := HK.out.2.2.2.1.six
      obtain ⟨u0, u1, u2, u3, u4, u5⟩ := HK.out.2.1.six
      obtain ⟨v0, v1, v2, v3, v4, v5⟩ := HK.out.2.2.1.six
      go_upto_region 22 with (first
        | (go_at_call 30; (with_reducible refine (sameP 11 nz nx ny HZ.out G3 i3 G4 i4 G5 i5 _ _ (HK.out.2.2.2.1.below (up1 _ (.cells #[.int .i64 nx.f0, .string nx.f1, .int .i64 nx.f2, .slice D3 nx.f3.length f3, .slice D4 nx.f4.length f4, .slice D5 nx.f5.length f5, .int .i64 ny.f0, .string ny.f1, .int .i64 ny.f2, .slice E3 ny.f3.length h3, .slice E4 ny.f4.length h4, .slice E5 ny.f5.length h5] 26))).at_ (at_pair 11 (heap_new _ (.cells #[.int .i64 nx.f0, .string nx.f1, .int .i64 nx.f2, .slice D3 nx.f3.length f3, .slice D4 nx.f4.length f4, .slice D5 nx.f5.length f5, .int .i64 ny.f0, .string ny.f1, .int .i64 ny.f2, .slice E3 ny.f3.length h3, .slice E4 ny.f4.length h4, .slice E5 ny.f5.length h5] 26)) (HK.out.2.1.below (up1 _ (.cells #[.int .i64 nx.f0, .string nx.f1, .int .i64 nx.f2, .slice D3 nx.f3.length f3, .slice D4 nx.f4.length f4, .slice D5 nx.f5.length f5, .int .i64 ny.f0, .string ny.f1, .int .i64 ny.f2, .slice E3 ny.f3.length h3, .slice E4 ny.f4.length h4, .slice E5 ny.f5.length h5] 26))).at_ (HK.out.2.2.1.below (up1 _ (.cells #[.int .i64 nx.f0, .string nx.f1, .int .i64 nx.f2, .slice D3 nx.f3.length f3, .slice D4 nx.f4.length f4, .slice D5 nx.f5.length f5, .int .i64 ny.f0, .string ny.f1, .int .i64 ny.f2, .slice E3 ny.f3.length h3, .slice E4 ny.f4.length h4, .slice E5 ny.f5.length h5] 26))).at_)).mono ?_); rintro e wa ⟨rfl, g⟩; replace HK := Aside0.mk (⟨(HK.out.1.below (up1 _ (.cells #[.int .i64 nx.f0, .string nx.f1, .int .i64 nx.f2, .slice D3 nx.f3.length f3, .slice D4 nx.f4.length f4, .slice D5 nx.f5.length f5, .int .i64 ny.f0, .string ny.f1, .int .i64 ny.f2, .slice E3 ny.f3.length h3, .slice E4 ny.f4.length h4, .slice E5 ny.f5.length h5] 26))).below g, (HK.out.2.1.below (up1 _ (.cells #[.int .i64 nx.f0, .string nx.f1, .int .i64 nx.f2, .slice D3 nx.f3.length f3, .slice D4 nx.f4.length f4, .slice D5 nx.f5.length f5, .int .i64 ny.f0, .string ny.f1, .int .i64 ny.f2, .slice E3 ny.f3.length h3, .slice E4 ny.f4.length h4, .slice E5 ny.f5.length h5] 26))).below g, (HK.out.2.2.1.below (up1 _ (.cells #[.int .i64 nx.f0, .string nx.f1, .int .i64 nx.f2, .slice D3 nx.f3.length f3, .slice D4 nx.f4.length f4, .slice D5 nx.f5.length f5, .int .i64 ny.f0, .string ny.f1, .int .i64 ny.f2, .slice E3 ny.f3.length h3, .slice E4 ny.f4.length h4, .slice E5 ny.f5.length h5] 26))).below g, (HK.out.2.2.2.1.below (up1 _ (.cells #[.int .i64 nx.f0, .string nx.f1, .int .i64 nx.f2, .slice D3 nx.f3.length f3, .slice D4 nx.f4.length f4, .slice D5 nx.f5.length f5, .int .i64 ny.f0, .string ny.f1, .int .i64 ny.f2, .slice E3 ny.f3.length h3, .slice E4 ny.f4.length h4, .slice E5 ny.f5.length h5] 26))).below g, (HK.out.2.2.2.2.1.below (up1 _ (.cells #[.int .i64 nx.f0, .string nx.f1, .int .i64 nx.f2, .slice D3 nx.f3.length f3, .slice D4 nx.f4.length f4, .slice D5 nx.f5.length f5, .int .i64 ny.f0, .string ny.f1, .int .i64 ny.f2, .slice E3 ny.f3.length h3, .slice E4 ny.f4.length h4, .slice E5 ny.f5.length h5] 26))).below g, (HK.out.2.2.2.2.2.1.below (up1 _ (.cells #[.int .i64 nx.f0, .string nx.f1, .int .i64 nx.f2, .slice D3 nx.f3.length f3, .slice D4 nx.f4.length f4, .slice D5 nx.f5.length f5, .int .i64 ny.f0, .string ny.f1, .int .i64 ny.f2, .slice E3 ny.f3.length h3, .slice E4 ny.f4.length h4, .slice E5 ny.f5.length h5] 26))).below g, (HK.out.2.2.2.2.2.2.1.below (up1 _ (.cells #[.int .i64 nx.f0, .string nx.f1, .int .i64 nx.f2, .slice D3 nx.f3.length f3, .slice D4 nx.f4.length f4, .slice D5 nx.f5.length f5, .int .i64 ny.f0, .string ny.f1, .int .i64 ny.f2, .slice E3 ny.f3.length h3, .slice E4 ny.f4.length h4, .slice E5 ny.f5.length h5] 26))).below g, (HK.out.2.2.2.2.2.2.2.below (up1 _ (.cells #[.int .i64 nx.f0, .string nx.f1, .int .i64 nx.f2, .slice D3 nx.f3.length f3, .slice D4 nx.f4.length f4, .slice D5 nx.f5.length f5, .int .i64 ny.f0, .string ny.f1, .int .i64 ny.f2, .slice E3 ny.f3.length h3, .slice E4 ny.f4.length h4, .slice E5 ny.f5.length h5] 26))).below g⟩ : St4 w wa w.heap.size x A3 c3 A4 c4 A5 c5 (w.heap.size + 1) y B3 d3 B4 d4 B5 d5 (w3.heap.size + 1) ⟨w3.heap.size, 0, none⟩ (w3.heap.size + 1 + 1 + 1) ⟨w3.heap.size + 1 + 1, 0, none⟩ ∧ BoxF wa w4.heap.size nx D3 f3 D4 f4 D5 f5 ∧ BoxF wa w5.heap.size ny E3 h3 E4 h4 E5 h5 ∧ BoxF wa w6.heap.size nz G3 i3 G4 i4 G5 i5 ∧ BoxF wa w7.heap.size nw H3 j3 H4 j4 H5 j5 ∧ BoxF wa w9.heap.size nt K3 k3 K4 k4 K5 k5 ∧ Strs wa L l ∧ Strs wa M fx); clear g z0 z1 z2 z3 z4 z5 u0 u1 u2 u3 u4 u5 v0 v1 v2 v3 v4 v5; obtain ⟨z0, z1, z2, z3, z4, z5⟩ := HK.out.2.2.2.2.1.six; obtain ⟨u0, u1, u2, u3, u4, u5⟩ := HK.out.2.2.2.2.2.1.six; obtain ⟨v0, v1, v2, v3, v4, v5⟩ := HK.out.2.2.1.six)
        | (go_at_call 30; (with_reducible refine (sameP 12 nw nt ny HW.out H3 j3 H4 j4 H5 j5 _ _ (HK.out.2.2.2.2.1.below (up1 _ (.cells #[.int .i64 nt.f0, .string nt.f1, .int .i64 nt.f2, .slice K3 nt.f3.length k3, .slice K4 nt.f4.length k4, .slice K5 nt.f5.length k5, .int .i64 ny.f0, .string ny.f1, .int .i64 ny.f2, .slice E3 ny.f3.length h3, .slice E4 ny.f4.length h4, .slice E5 ny.f5.length h5] 26))).at_ (at_pair 12 (heap_new _ (.cells #[.int .i64 nt.f0, .string nt.f1, .int .i64 nt.f2, .slice K3 nt.f3.length k3, .slice K4 nt.f4.length k4, .slice K5 nt.f5.length k5, .int .i64 ny.f0, .string ny.f1, .int .i64 ny.f2, .slice E3 ny.f3.length h3, .slice E4 ny.f4.length h4, .slice E5 ny.f5.length h5] 26)) (HK.out.2.2.2.2.2.1.below (up1 _ (.cells #[.int .i64 nt.f0, .string nt.f1, .int .i64 nt.f2, .slice K3 nt.f3.length k3, .slice K4 nt.f4.length k4, .slice K5 nt.f5.length k5, .int .i64 ny.f0, .string ny.f1, .int .i64 ny.f2, .slice E3 ny.f3.length h3, .slice E4 ny.f4.length h4, .slice E5 ny.f5.length h5] 26))).at_ (HK.out.2.2.1.below (up1 _ (.cells #[.int .i64 nt.f0, .string nt.f1, .int .i64 nt.f2, .slice K3 nt.f3.length k3, .slice K4 nt.f4.length k4, .slice K5 nt.f5.length k5, .int .i64 ny.f0, .string ny.f1, .int .i64 ny.f2, .slice E3 ny.f3.length h3, .slice E4 ny.f4.length h4, .slice E5 ny.f5.length h5] 26))).at_)).mono ?_); rintro e wb ⟨rfl, g⟩; have TT := Aside0.mk ((HK.out.1.below (up1 _ (.cells #[.int .i64 nt.f0, .string nt.f1, .int .i64 nt.f2, .slice K3 nt.f3.length k3, .slice K4 nt.f4.length k4, .slice K5 nt.f5.length k5, .int .i64 ny.f0, .string ny.f1, .int .i64 ny.f2, .slice E3 ny.f3.length h3, .slice E4 ny.f4.length h4, .slice E5 ny.f5.length h5] 26))).below g); clear g HK z0 z1 z2 z3 z4 z5 u0 u1 u2 u3 u4 u5 v0 v1 v2 v3 v4 v5; obtain ⟨p0, p1, p2, p3, p4, p5⟩ := TT.out.two.bx.six; obtain ⟨q0, q1, q2, q3, q4, q5⟩ := TT.out.two.byy.six; obtain ⟨r0, r1, r2, r3, r4, r5⟩ := six_pair TT.out.and_))
      have w1 : IntKind.i64.wrap (1 + (sx : Int)) = 1 + (sx : Int) := IntWalk.i64_in _ (by omega)
      have w2 : IntKind.i64.wrap (1 + (sx : Int) + (sy : Int)) = 1 + (sx : Int) + (sy : Int) := IntWalk.i64_in _ (by omega)
      have w3' : IntKind.i64.wrap (1 + max (dx : Int) (dy : Int)) = 1 + max (dx : Int) (dy : Int) := IntWalk.i64_in _ (by rw [Int.max_def]; split <;> omega)
      have w4' : IntKind.i64.wrap ((fx.length : Int) + (fy.length : Int)) = (fx.length : Int) + (fy.length : Int) := IntWalk.i64_in _ (by omega)
      have w6' : ((1 : Int) + ((max dx dy : Nat) : Int) == 1 + max (dx : Int) (dy : Int)) = true := by rw [beq_iff_eq]; omega
      have w5' : (l.length : Int) ≤ (fx.length : Int) + (fy.length : Int) := by exact_mod_cast hl2
      go_region_held3 (fun w' => w'.cell? ⟨w3.heap.size + 1, 0, none⟩ = some (.int .i64 11) ∧ w'.cell? ⟨w3.heap.size + 1, 1, none⟩ = some (.string ⟨#[]⟩) ∧ w'.cell? ⟨w3.heap.size + 1, 2, none⟩ = some (.int .i64 0) ∧ w'.cell? ⟨w3.heap.size + 1, 3, none⟩ = some (.slice none 0 0) ∧ w'.cell? ⟨w3.heap.size + 1, 4, none⟩ = some (.slice none 0 0) ∧ w'.cell? ⟨w3.heap.size + 1, 5, none⟩ = some (.slice (some ⟨w3.heap.size, 0, none⟩) 2 2) ∧ w'.cell? ⟨w.heap.size, 0, none⟩ = some (.int .i64 x.f0) ∧ w'.cell? ⟨w.heap.size, 1, none⟩ = some (.string x.f1) ∧ w'.cell? ⟨w.heap.size, 2, none⟩ = some (.int .i64 x.f2) ∧ w'.cell? ⟨w.heap.size, 3, none⟩ = some (.slice A3 x.f3.length c3) ∧ w'.cell? ⟨w.heap.size, 4, none⟩ = some (.slice A4 x.f4.length c4) ∧ w'.cell? ⟨w.heap.size, 5, none⟩ = some (.slice A5 x.f5.length c5) ∧ w'.cell? ⟨w.heap.size + 1, 0, none⟩ = some (.int .i64 y.f0) ∧ w'.cell? ⟨w.heap.size + 1, 1, none⟩ = some (.string y.f1) ∧ w'.cell? ⟨w.heap.size + 1, 2, none⟩ = some (.int .i64 y.f2) ∧ w'.cell? ⟨w.heap.size + 1, 3, none⟩ = some (.slice B3 y.f3.length d3) ∧ w'.cell? ⟨w.heap.size + 1, 4, none⟩ = some (.slice B4 y.f4.length d4) ∧ w'.cell? ⟨w.heap.size + 1, 5, none⟩ = some (.slice B5 y.f5.length d5)) (go_keep)
        (first
          | (go_at_call 24; (with_reducible refine (P24.out _ TT.out.two.b _ TT.out.and_.at_).mono ?_); rintro e wn ⟨rfl, g⟩; replace TT := Aside0.mk (TT.out.below g); clear p0 p1 p2 p3 p4 p5 q0 q1 q2 q3 q4 q5 r0 r1 r2 r3 r4 r5 g; obtain ⟨p0, p1, p2, p3, p4, p5⟩ := TT.out.two.bx.six; obtain ⟨q0, q1, q2, q3, q4, q5⟩ := TT.out.two.byy.six; obtain ⟨r0, r1, r2, r3, r4, r5⟩ := six_pair TT.out.and_)
          | (go_at_call 24; (with_reducible refine (P24.out _ TT.out.drew.two.b _ TT.out.drew.and_.at_).mono ?_); rintro e wn ⟨rfl, g⟩; replace TT := Aside0.mk (TT.out.drew.below g); clear p0 p1 p2 p3 p4 p5 q0 q1 q2 q3 q4 q5 r0 r1 r2 r3 r4 r5 g; obtain ⟨p0, p1, p2, p3, p4, p5⟩ := TT.out.two.bx.six; obtain ⟨q0, q1, q2, q3, q4, q5⟩ := TT.out.two.byy.six; obtain ⟨r0, r1, r2, r3, r4, r5⟩ := six_pair TT.out.and_)
          | (go_at_call 24; (with_reducible refine (C24.out _ TT.out.two.b TT.out.two.bx.at_).mono ?_); rintro e wn ⟨rfl, g⟩; replace TT := Aside0.mk (TT.out.below g); clear p0 p1 p2 p3 p4 p5 q0 q1 q2 q3 q4 q5 r0 r1 r2 r3 r4 r5 g; obtain ⟨p0, p1, p2, p3, p4, p5⟩ := TT.out.two.bx.six; obtain ⟨q0, q1, q2, q3, q4, q5⟩ := TT.out.two.byy.six; obtain ⟨r0, r1, r2, r3, r4, r5⟩ := six_pair TT.out.and_)
          | (go_at_call 24; (with_reducible refine (C24.out _ TT.out.drew.two.b TT.out.drew.two.bx.at_).mono ?_); rintro e wn ⟨rfl, g⟩; replace TT := Aside0.mk (TT.out.drew.below g); clear p0 p1 p2 p3 p4 p5 q0 q1 q2 q3 q4 q5 r0 r1 r2 r3 r4 r5 g; obtain ⟨p0, p1, p2, p3, p4, p5⟩ := TT.out.two.bx.six; obtain ⟨q0, q1, q2, q3, q4, q5⟩ := TT.out.two.byy.six; obtain ⟨r0, r1, r2, r3, r4, r5⟩ := six_pair TT.out.and_)
          | (go_at_call 24; (with_reducible refine (D24.out _ TT.out.two.b TT.out.two.byy.at_).mono ?_); rintro e wn ⟨rfl, g⟩; replace TT := Aside0.mk (TT.out.below g); clear p0 p1 p2 p3 p4 p5 q0 q1 q2 q3 q4 q5 r0 r1 r2 r3 r4 r5 g; obtain ⟨p0, p1, p2, p3, p4, p5⟩ := TT.out.two.bx.six; obtain ⟨q0, q1, q2, q3, q4, q5⟩ := TT.out.two.byy.six; obtain ⟨r0, r1, r2, r3, r4, r5⟩ := six_pair TT.out.and_)
          | (go_at_call 24; (with_reducible refine (D24.out _ TT.out.drew.two.b TT.out.drew.two.byy.at_).mono ?_); rintro e wn ⟨rfl, g⟩; replace TT := Aside0.mk (TT.out.drew.below g); clear p0 p1 p2 p3 p4 p5 q0 q1 q2 q3 q4 q5 r0 r1 r2 r3 r4 r5 g; obtain ⟨p0, p1, p2, p3, p4, p5⟩ := TT.out.two.bx.six; obtain ⟨q0, q1, q2, q3, q4, q5⟩ := TT.out.two.byy.six; obtain ⟨r0, r1, r2, r3, r4, r5⟩ := six_pair TT.out.and_)
          | (go_at_call 26; (with_reducible refine (P26.out _ TT.out.two.b _ TT.out.and_.at_).mono ?_); rintro e wn ⟨rfl, g⟩; replace TT := Aside0.mk (TT.out.below g); clear p0 p1 p2 p3 p4 p5 q0 q1 q2 q3 q4 q5 r0 r1 r2 r3 r4 r5 g; obtain ⟨p0, p1, p2, p3, p4, p5⟩ := TT.out.two.bx.six; obtain ⟨q0, q1, q2, q3, q4, q5⟩ := TT.out.two.byy.six; obtain ⟨r0, r1, r2, r3, r4, r5⟩ := six_pair TT.out.and_)
          | (go_at_call 26; (with_reducible refine (P26.out _ TT.out.drew.two.b _ TT.out.drew.and_.at_).mono ?_); rintro e wn ⟨rfl, g⟩; replace TT := Aside0.mk (TT.out.drew.below g); clear p0 p1 p2 p3 p4 p5 q0 q1 q2 q3 q4 q5 r0 r1 r2 r3 r4 r5 g; obtain ⟨p0, p1, p2, p3, p4, p5⟩ := TT.out.two.bx.six; obtain ⟨q0, q1, q2, q3, q4, q5⟩ := TT.out.two.byy.six; obtain ⟨r0, r1, r2, r3, r4, r5⟩ := six_pair TT.out.and_)
          | (go_at_call 26; (with_reducible refine (C26.out _ TT.out.two.b TT.out.two.bx.at_).mono ?_); rintro e wn ⟨rfl, g⟩; replace TT := Aside0.mk (TT.out.below g); clear p0 p1 p2 p3 p4 p5 q0 q1 q2 q3 q4 q5 r0 r1 r2 r3 r4 r5 g; obtain ⟨p0, p1, p2, p3, p4, p5⟩ := TT.out.two.bx.six; obtain ⟨q0, q1, q2, q3, q4, q5⟩ := TT.out.two.byy.six; obtain ⟨r0, r1, r2, r3, r4, r5⟩ := six_pair TT.out.and_)
          | (go_at_call 26; (with_reducible refine (C26.out _ TT.out.drew.two.b TT.out.drew.two.bx.at_).mono ?_); rintro e wn ⟨rfl, g⟩; replace TT := Aside0.mk (TT.out.drew.below g); clear p0 p1 p2 p3 p4 p5 q0 q1 q2 q3 q4 q5 r0 r1 r2 r3 r4 r5 g; obtain ⟨p0, p1, p2, p3, p4, p5⟩ := TT.out.two.bx.six; obtain ⟨q0, q1, q2, q3, q4, q5⟩ := TT.out.two.byy.six; obtain ⟨r0, r1, r2, r3, r4, r5⟩ := six_pair TT.out.and_)
          | (go_at_call 26; (with_reducible refine (D26.out _ TT.out.two.b TT.out.two.byy.at_).mono ?_); rintro e wn ⟨rfl, g⟩; replace TT := Aside0.mk (TT.out.below g); clear p0 p1 p2 p3 p4 p5 q0 q1 q2 q3 q4 q5 r0 r1 r2 r3 r4 r5 g; obtain ⟨p0, p1, p2, p3, p4, p5⟩ := TT.out.two.bx.six; obtain ⟨q0, q1, q2, q3, q4, q5⟩ := TT.out.two.byy.six; obtain ⟨r0, r1, r2, r3, r4, r5⟩ := six_pair TT.out.and_)
          | (go_at_call 26; (with_reducible refine (D26.out _ TT.out.drew.two.b TT.out.drew.two.byy.at_).mono ?_); rintro e wn ⟨rfl, g⟩; replace TT := Aside0.mk (TT.out.drew.below g); clear p0 p1 p2 p3 p4 p5 q0 q1 q2 q3 q4 q5 r0 r1 r2 r3 r4 r5 g; obtain ⟨p0, p1, p2, p3, p4, p5⟩ := TT.out.two.bx.six; obtain ⟨q0, q1, q2, q3, q4, q5⟩ := TT.out.two.byy.six; obtain ⟨r0, r1, r2, r3, r4, r5⟩ := six_pair TT.out.and_)
          | (go_at_call 28; (with_reducible refine (D28.out _ TT.out.two.b TT.out.two.byy.at_).mono ?_); rintro e wn ⟨N, cn, rfl, g, -⟩; replace TT := Aside0.mk (TT.out.below g); clear p0 p1 p2 p3 p4 p5 q0 q1 q2 q3 q4 q5 r0 r1 r2 r3 r4 r5 g; obtain ⟨p0, p1, p2, p3, p4, p5⟩ := TT.out.two.bx.six; obtain ⟨q0, q1, q2, q3, q4, q5⟩ := TT.out.two.byy.six; obtain ⟨r0, r1, r2, r3, r4, r5⟩ := six_pair TT.out.and_)
          | (go_at_call 28; (with_reducible refine (D28.out _ TT.out.drew.two.b TT.out.drew.two.byy.at_).mono ?_); rintro e wn ⟨N, cn, rfl, g, -⟩; replace TT := Aside0.mk (TT.out.drew.below g); clear p0 p1 p2 p3 p4 p5 q0 q1 q2 q3 q4 q5 r0 r1 r2 r3 r4 r5 g; obtain ⟨p0, p1, p2, p3, p4, p5⟩ := TT.out.two.bx.six; obtain ⟨q0, q1, q2, q3, q4, q5⟩ := TT.out.two.byy.six; obtain ⟨r0, r1, r2, r3, r4, r5⟩ := six_pair TT.out.and_))
      all_goals
        go_wp2_with fail
        go_ret
        exact ⟨rfl, TT.out.two.b⟩
end Go.Proofs.YtmlcaecknocpoaaDoor.It
namespace Go.Proofs.YtmlcaecknocpoaaDoor.It
set_option linter.unusedVariables false
set_option linter.unusedSimpArgs false
open Go Go.RowKit Go.Shelf Go.Proofs.YtmlcaecknocpoaaDoorW.PrintWords Go.Proofs.YtmlcaecknocpoaaDoorW.PrintLast Go.Proofs.YtmlcaecknocpoaaDoor.Pr Go.Proofs.YtmlcaecknocpoaaDoor.Sp
attribute [local go_sem ↓] Go.wp_at_zero Go.wp_at_succ
theorem law10 (x y : S26) (A3 : Option Addr) (c3 : Nat) (A4 : Option Addr) (c4 : Nat) (A5 : Option Addr) (c5 : Nat) (B3 : Option Addr) (d3 : Nat) (B4 : Option Addr) (d4 : Nat) (B5 : Option Addr) (d5 : Nat) (w : World) (ha : Arg w x A3 c3 A4 c4 A5 c5) (hb : Arg w y B3 d3 B4 d4 B5 d5) (ht : Tabs w) (hd : Duals w) (hw : wt26 x + wt26 y ≤ 1048576) :
    Calls Tryd.prog 10 #[.agg #[.int .i64 x.f0, .string x.f1, .int .i64 x.f2, .slice A3 x.f3.length c3, .slice A4 x.f4.length c4, .slice A5 x.f5.length c5], .agg #[.int .i64 y.f0, .string y.f1, .int .i64 y.f2, .slice B3 y.f3.length d3, .slice B4 y.f4.length d4, .slice B5 y.f5.length d5]] w fun e w' => e = .returned (.bool true) ∧ Below w.heap.size w w' := by
  obtain ⟨fa, hfa⟩ := ha.few
  obtain ⟨fb, hfb⟩ := hb.few
  cases fa
  · exact law10_few1 x y A3 c3 A4 c4 A5 c5 B3 d3 B4 d4 B5 d5 w ha hb ht hd hfa
  · cases fb
    · exact law10_few2 x y A3 c3 A4 c4 A5 c5 B3 d3 B4 d4 B5 d5 w ha hb ht hd hfa hfb
    · by_cases hg : check (pair 11 x y) = 0
      · exact law10_good x y A3 c3 A4 c4 A5 c5 B3 d3 B4 d4 B5 d5 w ha hb ht hd hw hfa hfb hg
      · exact law10_bad x y A3 c3 A4 c4 A5 c5 B3 d3 B4 d4 B5 d5 w ha hb ht hd hw hfa hfb hg
end Go.Proofs.YtmlcaecknocpoaaDoor.It
namespace Go.Proofs.YtmlcaecknocpoaaDoor.C10
set_option linter.unusedVariables false
set_option linter.unusedSimpArgs false
open Go Go.ChangeShapes Go.WideShapes Go.ChangeAt Go.RowKit Go.Proofs.YtmlcaecknocpoaaDoor.It
open Go.ChangeMaps (open_string shut_string)
set_option maxRecDepth 100000 in
theorem contract (H : Type) (enc : TypeId × Value → H) (W : World) (base : Nat) (args : Array Value) (ds gs : List (DataW H)) (before : List MemPlace)
    (hval0 : ∀ (j : Nat) t v, Tryd.f10.params[j]? = some t → args[j]? = some v → Value.okWide Tryd.prog W .any base t v)
    (hW : DataW.Whole enc Tryd.prog Tryd.f10.params.toList Rows.formCompositionalSpec.vars false W args.toList ds gs before) (hk : Rows.uptoSmall H (ds ++ gs) = true) (hL : laidMetH Tryd.prog Rows.formCompositionalUptoRow.laid W) :
    Calls Tryd.prog 10 args W fun e W' => ∃ v, e = .returned v ∧ Rows.formCompositionalSpec.post enc Tryd.prog Tryd.f10 false true false false W args v W' := by
  have hval : ∀ (j : Nat) t v, Tryd.f10.params[j]? = some t → args[j]? = some v → Value.okWide Tryd.prog W .any base t v := hval0
  have hW' := hW
  obtain ⟨p, q, hA0, hV, rfl, hfz, hnd⟩ := hW
  have hA : DataW.TrodAll enc Tryd.prog W 0 (fun _ => true) true Tryd.f10.params.toList args.toList ds p := hA0
  rw [Tryd.params10] at hA hval
  obtain ⟨v0, vs0, d0, ds0, p0, q0, hargs, rfl, rfl, h0, r0⟩ := trodAll_cons hA
  obtain ⟨v1, vs1, d1, ds1, p1, q1, rfl, rfl, rfl, h1, r1⟩ := trodAll_cons r0
  obtain ⟨rfl, rfl, rfl⟩ := trodAll_nil r1
  obtain rfl : args = #[v0, v1] := by cases args; simp_all
  obtain ⟨rfl, rfl⟩ := trodVars_none hV
  have hk2 := of_decide_eq_true hk
  simp only [List.append_nil, Rows.uptoBulkAll] at hk2
  obtain ⟨x0, A30, c30, A40, c40, A50, c50, rfl, ha0, hq0⟩ := trod_val2 (hval 0 26 v0 rfl rfl) h0 (by omega)
  have lt0 : ∀ y ∈ p0, y.block < W.heap.size := by
    obtain ⟨m, hm⟩ := h0
    exact DataW.trod_lt m _ _ _ hm
  obtain ⟨x1, A31, c31, A41, c41, A51, c51, rfl, ha1, hq1⟩ := trod_val2 (hval 1 26 v1 rfl rfl) h1 (by omega)
  have lt1 : ∀ y ∈ p1, y.block < W.heap.size := by
    obtain ⟨m, hm⟩ := h1
    exact DataW.trod_lt m _ _ _ hm
  have hl := hL
  rw [MakeChecks.laidMetH_plain _ _ _ (by kernel_rfl)] at hl
  have ht : Tabs W := tabs_laid hl (by simp [Rows.formCompositionalUptoRow]) (by simp [Rows.formCompositionalUptoRow]) (by simp [Rows.formCompositionalUptoRow])
  have hd : Duals W := duals_laid hl (by simp [Rows.formCompositionalUptoRow])
  refine (law10 x0 x1 A30 c30 A40 c40 A50 c50 A31 c31 A41 c41 A51 c51 W ha0 ha1 ht hd (by omega)).mono fun e W' ⟨he, bel⟩ => ?_
  subst he
  exact ⟨_, rfl, _, _, _, [], _, [], hW', trodAll_mk1 (shut_bool Tryd.underlying4 _), (trodAll_cons_mk (Below.trod laidOut (by kernel_rfl) (of_decide_eq_true (by kernel_rfl)) h0 bel lt0) (trodAll_cons_mk (Below.trod laidOut (by kernel_rfl) (of_decide_eq_true (by kernel_rfl)) h1 bel lt1) trodAll_mk0)), rfl, bel.frame _, fun h => by cases h⟩
theorem met (os : Os) : laidMetH Tryd.prog Rows.formCompositionalUptoRow.laid ((Wt.world os).forCall (fun _ _ => 0) ⟨#[], #[Wt.zero26, Wt.zero26], []⟩).memory :=
  laidMetH_of_parts3 (fuel := 8) (laidMet_of_run' 8 (by kernel_rfl) (by kernel_rfl)) (by kernel_rfl) (by kernel_rfl)
set_option maxRecDepth 100000 in
theorem lifted (os : Os) (started : os.Started) (H : Type) (enc : TypeId × Value → H) (F : Stop.Interp) :
    ReturnsInHanded {} Tryd.checked os 10 .any ((Rows.OpenSpec.upto Rows.formCompositionalSpec).preRow enc Tryd.prog Tryd.f10 Rows.formCompositionalUptoRow.domain false Rows.formCompositionalUptoRow.laid) (((Rows.OpenSpec.upto Rows.formCompositionalSpec).at F).post enc Tryd.prog Tryd.f10 false true false false) := by
  have hx : DataW.whole enc Tryd.prog ((Wt.world os).forCall (fun _ _ => 0) ⟨#[], #[Wt.zero26, Wt.zero26], []⟩).memory Tryd.f10.params.toList Rows.formCompositionalSpec.vars false (#[Wt.zero26, Wt.zero26] : Array Value).toList 8 = some ([.agg [.lit (.int .i64 0), .lit (.string []), .lit (.int .i64 0), .nil, .nil, .nil], .agg [.lit (.int .i64 0), .lit (.string []), .lit (.int .i64 0), .nil, .nil, .nil]], [], []) := by kernel_rfl
  refine returnsInHanded_of_row (C := Tryd.checked) (s := Rows.OpenSpec.upto Rows.formCompositionalSpec) own started (by kernel_rfl) Tryd.func10
    (witness_row_atRef (enc := enc) (C := Tryd.checked) false (Wt.world os) #[Wt.zero26, Wt.zero26] rfl (by kernel_rfl) (by kernel_rfl) (by kernel_rfl)
      (OpenSpec.preRow_of_cond 8 hx (by kernel_rfl) (fun k hk => by cases hk; kernel_rfl) (by kernel_rfl) (met os))) ?_
  intro W base args ds gs before hval hW _ hcond _ hL _ _
  exact contract H enc W base args ds gs before hval hW (hcond _ rfl) hL
end Go.Proofs.YtmlcaecknocpoaaDoor.C10
namespace Go.Proofs.YtmlcaecknocpoaaDoor.C10
set_option linter.unusedVariables false
open Go Go.ChangeShapes Go.WideShapes Go.ChangeAt Go.RowKit
theorem isInst : Func.isInstance Tryd.pinned.checked.prog Tryd.f10 Rows.formCompositionalUptoRow.origin Rows.formCompositionalUptoRow.targs := of_decide_eq_true (by kernel_rfl)
theorem isWrap : Func.isWrapper Tryd.pinned.checked.prog Tryd.f10 Rows.formCompositionalUptoRow.wrapper Rows.formCompositionalUptoRow.mainSum := by
  unfold Func.isWrapper; first | (rw [if_pos (by decide +kernel)]; kernel_rfl) | (rw [if_neg (by decide +kernel)]; exact ⟨rfl, rfl⟩)
theorem isName : Tryd.pinned.checked.prog.funcNamed Rows.formCompositionalUptoRow.func = some 10 := by kernel_rfl
theorem saidUpto : Rows.FormCompositionalUptoSaid :=
  OpenClaim.holds_of_cond 10 Tryd.f10 rfl rfl rfl rfl rfl rfl rfl ⟨rfl, rfl, rfl, rfl, rfl⟩ rfl rfl rfl rfl rfl isName Tryd.func10 F10.closed isInst isWrap
    (fun os started H enc _ F => by rw [OpenClaim.pre_eq_preRow]; exact lifted os started H enc F)
theorem plain (f : FuncId) (fn : Func) (hf : Tryd.pinned.checked.prog.funcNamed "chalkline/chalklinelaw06.FormCompositional" = some f) (hfn : Tryd.pinned.checked.prog.funcs[f]? = some fn) :
    false = Tryd.pinned.checked.prog.looks [] ∧ ∀ (j : Nat) t, fn.params[j]? = some t → Tryd.pinned.checked.prog.wantsStandIn t = false := by
  obtain rfl : f = 10 := Option.some.inj ((show Tryd.prog.funcNamed "chalkline/chalklinelaw06.FormCompositional" = some 10 by kernel_rfl).symm.trans hf) |>.symm
  obtain rfl : fn = Tryd.f10 := (Option.some.inj (Tryd.func10.symm.trans hfn)).symm
  refine ⟨by kernel_rfl, fun j t ht => ?_⟩
  rw [Tryd.params10] at ht
  have hm := Array.mem_of_getElem? ht
  simp only [List.mem_toArray, List.mem_cons, List.not_mem_nil, or_false] at hm
  rcases hm with rfl | rfl
  · exact (show Tryd.prog.wantsStandIn 26 = false by kernel_rfl)
  · exact (show Tryd.prog.wantsStandIn 26 = false by kernel_rfl)
theorem wfText : Rows.formCompositionalUptoRow.wfByText (Rows.OpenSpec.upto Rows.formCompositionalSpec) = true := by kernel_rfl
theorem goes : false = Rows.formCompositionalUptoRow.goesBy Tryd.pinned.checked.prog := by kernel_rfl
theorem cardUpto : Rows.FormCompositionalUptoCardSaid :=
  Claim7.holds_tied_plain_at .later [] _ _ _ _ saidUpto (fun _ h => by cases h) wfText (fun _ h => by cases h) formCompositionalUpto_row_tie rfl ⟨rfl, rfl⟩ HH.mainIs rfl plain goes
end Go.Proofs.YtmlcaecknocpoaaDoor.C10
namespace Go.Proofs.YtmlcaecknocpoaaDoor
theorem formCompositionalUpto_holds : Rows.FormCompositionalUptoCardSaid := C10.cardUpto
#print axioms formCompositionalUpto_holds
end Go.Proofs.YtmlcaecknocpoaaDoor
