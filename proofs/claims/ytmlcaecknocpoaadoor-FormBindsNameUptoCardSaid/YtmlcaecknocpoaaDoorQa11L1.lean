/-
  chalklinelaw06.FormBindsName answers true, for every input that reads as data and is of bulk at most 1048576; what it reads stands as it stood.
  Conditions: the listed package-level variables hold what the program's text lays (tied by the card); the arguments' bulk is at most 1048576.
-/
import Derived.Test.YtmlcaecknocpoaaDoorQaK6
import Derived.BigQuiet
import Derived.SevenTiedAt
import Derived.Test.YtmlcaecknocpoaaDoorH25
import Derived.Test.YtmlcaecknocpoaaDoorH26
import Derived.Test.YtmlcaecknocpoaaDoorH27
import Derived.Test.YtmlcaecknocpoaaDoorF11
import Derived.Test.YtmlcaecknocpoaaDoorH28
namespace Go.Proofs.YtmlcaecknocpoaaDoor.Sp
open Go.Proofs.YtmlcaecknocpoaaDoor.Pr
def under (k n : Int) (b : S42) (a : S26) : S26 := ⟨k, e0, n, [], [b], [a]⟩
theorem under_free (k n : Int) (b : S42) (a : S26) : free (under k n b a) = (free a).filter fun s => decide (s ≠ b.f0) := free_bound k n b a
theorem all_good {b : S42} {a : S26} (h : check (neg (under 14 0 b a)) = 0) : nnf (neg (under 14 0 b a)) = under 15 0 b (right a true) := by
  rw [nnf_zero h, right_neg]
  exact right_q 14 [b] a true (.inl rfl)
theorem all_bad {b : S42} {a : S26} (h : check (neg (under 14 0 b a)) ≠ 0) : nnf (neg (under 14 0 b a)) = leaf 0 := nnf_other h
theorem least_zero {b : S42} {a : S26} (h : check (neg (under 16 0 b a)) = 0) : nnf (neg (under 16 0 b a)) = leaf 2 := by
  rw [nnf_zero h, right_neg]
  exact right_al 16 0 [b] a true rfl
theorem least_form {n : Int} {b : S42} {a : S26} (h : check (neg (under 16 n b a)) = 0) : 0 ≤ n ∧ n ≤ most := by
  have h1 := (check_zero.1 h).1
  rw [form_neg] at h1
  have h2 := fm_of h1
  unfold under at h2
  cases h2 with
  | quant hk hb hy => omega
  | count hk h0 hm hb hy => exact ⟨h0, hm⟩
theorem least_pos {n : Int} {b : S42} {a : S26} (hn : n ≠ 0) (h : check (neg (under 16 n b a)) = 0) : nnf (neg (under 16 n b a)) = under 17 (n - 1) b (right a false) := by
  rw [nnf_zero h, right_neg]
  exact right_ct 16 n [b] a true (.inl rfl) (by simp [always, hn])
theorem take_filter (p : ByteArray → Bool) (l : List ByteArray) (i : Nat) (h : i < l.length) :
    ((l.take (i + 1)).filter p) = (l.take i).filter p ++ (if p (l.getD i ByteArray.empty) then [l.getD i ByteArray.empty] else []) := by
  rw [List.take_add_one, List.filter_append]
  congr 1
  have e : l[i]? = some (l.getD i ByteArray.empty) := by simp [List.getD, List.getElem?_eq_getElem h]
  rw [e]
  generalize l.getD i ByteArray.empty = s
  cases hp : p s <;> simp [hp]
theorem filter_at (p : ByteArray → Bool) (l : List ByteArray) (i : Nat) (h : i < l.length) (hp : p (l.getD i ByteArray.empty) = true) :
    ((l.take i).filter p).length < (l.filter p).length ∧ (l.filter p).getD ((l.take i).filter p).length ByteArray.empty = l.getD i ByteArray.empty := by
  have h1 := take_filter p l i h
  rw [if_pos hp] at h1
  have h2 : l.filter p = (l.take (i + 1)).filter p ++ (l.drop (i + 1)).filter p := by rw [← List.filter_append, List.take_append_drop]
  rw [h2, h1]
  constructor
  · simp
  · simp [List.getD]
end Go.Proofs.YtmlcaecknocpoaaDoor.Sp
namespace Go.Proofs.YtmlcaecknocpoaaDoor.It
set_option linter.unusedVariables false
set_option linter.unusedSimpArgs false
open Go Go.RowKit Go.Shelf Go.Proofs.YtmlcaecknocpoaaDoorW.PrintWords Go.Proofs.YtmlcaecknocpoaaDoorW.PrintLast Go.Proofs.YtmlcaecknocpoaaDoor.Pr Go.Proofs.YtmlcaecknocpoaaDoor.Sp
structure St5 (w0 w : World) (B : Nat) (x : S26) (A3 : Option Addr) (c3 : Nat) (A4 : Option Addr) (c4 : Nat) (A5 : Option Addr) (c5 : Nat) (nm : ByteArray) (srt n : Int) (bd : Addr) (D : Nat) (a : Addr) (E : Nat) (b : Addr) : Prop where
  st : St w0 w B x A3 c3 A4 c4 A5 c5
  bs : Kd.C k42 w (some bd) 1 [⟨nm, srt⟩]
  all : BoxF w D (under 14 0 ⟨nm, srt⟩ x) none 0 (some bd) 1 (some a) 1
  least : BoxF w E (under 16 n ⟨nm, srt⟩ x) none 0 (some bd) 1 (some b) 1
section
variable {w0 w : World} {B D E : Nat} {a b bd : Addr} {nm : ByteArray} {srt n k : Int} {x : S26} {A3 : Option Addr} {c3 : Nat} {A4 : Option Addr} {c4 : Nat} {A5 : Option Addr} {c5 : Nat}
theorem St5.below (h : St5 w0 w B x A3 c3 A4 c4 A5 c5 nm srt n bd D a E b) {w1 : World} (g : Below w.heap.size w w1) : St5 w0 w1 B x A3 c3 A4 c4 A5 c5 nm srt n bd D a E b := ⟨h.st.below g, Kd.C_below h.bs g, h.all.below g, h.least.below g⟩
theorem St5.drew (h : St5 w0 w B x A3 c3 A4 c4 A5 c5 nm srt n bd D a E b) : St5 w0 w.drew B x A3 c3 A4 c4 A5 c5 nm srt n bd D a E b := h.below (below_drew (Below.refl _ _))
theorem six_under (h : BoxF w D (under k n ⟨nm, srt⟩ x) none 0 (some bd) 1 (some a) 1) :
    w.cell? ⟨D, 0, none⟩ = some (.int .i64 k) ∧ w.cell? ⟨D, 1, none⟩ = some (.string ⟨#[]⟩) ∧ w.cell? ⟨D, 2, none⟩ = some (.int .i64 n) ∧ w.cell? ⟨D, 3, none⟩ = some (.slice none 0 0) ∧ w.cell? ⟨D, 4, none⟩ = some (.slice (some bd) 1 1) ∧ w.cell? ⟨D, 5, none⟩ = some (.slice (some a) 1 1) := h.six
theorem at_under {G : Nat} (k n : Int) (hb : Kd.C k42 w (some bd) 1 [⟨nm, srt⟩]) (hG : w.heap[G]? = some (.cells #[.int .i64 x.f0, .string x.f1, .int .i64 x.f2, .slice A3 x.f3.length c3, .slice A4 x.f4.length c4, .slice A5 x.f5.length c5] 26 (0, 0))) (hx : At w x A3 c3 A4 c4 A5 c5) : At w (under k n ⟨nm, srt⟩ x) none 0 (some bd) 1 (some ⟨G, 0, none⟩) 1 :=
  ⟨Nat.le_refl _, Kd.C_nil _ _, Nat.le_refl _, hb, Nat.le_refl _, row_one hG hx⟩
theorem St5.make (h : St w0 w B x A3 c3 A4 c4 A5 c5) (nm : ByteArray) (srt n : Int) {w5 : World} (e : ((((w.alloc (.cells #[.string nm, .int .i64 srt] 42)).alloc (.cells #[.int .i64 x.f0, .string x.f1, .int .i64 x.f2, .slice A3 x.f3.length c3, .slice A4 x.f4.length c4, .slice A5 x.f5.length c5] 26)).alloc (.cells #[.int .i64 14, .string ⟨#[]⟩, .int .i64 0, .slice none 0 0, .slice (some ⟨w.heap.size, 0, none⟩) 1 1, .slice (some ⟨w.heap.size + 1, 0, none⟩) 1 1] 26)).alloc (.cells #[.int .i64 x.f0, .string x.f1, .int .i64 x.f2, .slice A3 x.f3.length c3, .slice A4 x.f4.length c4, .slice A5 x.f5.length c5] 26)).alloc (.cells #[.int .i64 16, .string ⟨#[]⟩, .int .i64 n, .slice none 0 0, .slice (some ⟨w.heap.size, 0, none⟩) 1 1, .slice (some ⟨w.heap.size + 1 + 1 + 1, 0, none⟩) 1 1] 26) = w5) :
    St5 w0 w5 B x A3 c3 A4 c4 A5 c5 nm srt n ⟨w.heap.size, 0, none⟩ (w.heap.size + 1 + 1) ⟨w.heap.size + 1, 0, none⟩ (w.heap.size + 1 + 1 + 1 + 1) ⟨w.heap.size + 1 + 1 + 1, 0, none⟩ := by
  obtain ⟨h1, h2, h3, h4, h5, hb, _⟩ := five_blocks w _ _ _ _ _ w5 e
  have h' := h.below hb
  have hbs : Kd.C k42 w5 (some ⟨w.heap.size, 0, none⟩) 1 [⟨nm, srt⟩] := row_bind1 (t := ⟨nm, srt⟩) h1
  exact ⟨h', hbs, ⟨h3, at_under 14 0 hbs h2 h'.box.at_⟩, ⟨h5, at_under 16 n hbs h4 h'.box.at_⟩⟩
end
theorem under_slim (k n : Int) (nm : ByteArray) (srt : Int) (x : S26) (hk : I64 k) (hn : I64 n) (hnm : nm.size ≤ 100) (hsr : I64 srt) (hx : Deep x) (hw : wt26 x ≤ 1048576) : Slim (under k n ⟨nm, srt⟩ x) ∧ Slim (neg (under k n ⟨nm, srt⟩ x)) := by
  unfold wt26 at hw
  have e1 : Sp.size (under k n ⟨nm, srt⟩ x) = 1 + Sp.size x := by simp [under, Sp.size, sizes]
  have h : Slim (under k n ⟨nm, srt⟩ x) := ⟨deep_of (own_bare [⟨nm, srt⟩] _ hk hn (by simp; omega) (by simp; exact hsr)) (fun y hy => by obtain rfl := List.mem_singleton.1 hy; exact hx), by rw [e1]; omega, by simp [under, It.nb, nbs]; omega, by simp [under, It.nt, nts]; omega⟩
  exact ⟨h, h.neg (by rw [e1]; omega)⟩
theorem freeU (k n : Int) (nm : ByteArray) (srt : Int) (x : S26) (bd ad : Addr) (W : World) (hs : Slim (under k n ⟨nm, srt⟩ x)) (hat : At W (under k n ⟨nm, srt⟩ x) none 0 (some bd) 1 (some ad) 1) :
    Calls Tryd.prog 28 #[.agg #[.int .i64 k, .string ⟨#[]⟩, .int .i64 n, .slice none 0 0, .slice (some bd) 1 1, .slice (some ad) 1 1]] W fun e w' => ∃ A c, e = .returned (.slice A (free (under k n ⟨nm, srt⟩ x)).length c) ∧ Below W.heap.size W w' ∧ Strs w' A (free (under k n ⟨nm, srt⟩ x)) :=
  free_at (under k n ⟨nm, srt⟩ x) none 0 (some bd) 1 (some ad) 1 W hat hs.deep hs.nb hs.nt
theorem notU (k n : Int) (nm : ByteArray) (srt : Int) (x : S26) (bd ad : Addr) (W : World) (hat : At W (under k n ⟨nm, srt⟩ x) none 0 (some bd) 1 (some ad) 1) :
    Calls Tryd.prog 40 #[.agg #[.int .i64 k, .string ⟨#[]⟩, .int .i64 n, .slice none 0 0, .slice (some bd) 1 1, .slice (some ad) 1 1]] W fun e w' => ∃ d, e = .returned (.agg #[.int .i64 10, .string ⟨#[]⟩, .int .i64 0, .slice none 0 0, .slice none 0 0, .slice (some d) 1 1]) ∧ Below W.heap.size W w' ∧ At w' (neg (under k n ⟨nm, srt⟩ x)) none 0 none 0 (some d) 1 :=
  not1 (under k n ⟨nm, srt⟩ x) none 0 (some bd) 1 (some ad) 1 W hat
end Go.Proofs.YtmlcaecknocpoaaDoor.It
namespace Go.Proofs.YtmlcaecknocpoaaDoor.It
set_option linter.unusedVariables false
set_option linter.unusedSimpArgs false
open Go Go.RowKit Go.Shelf Go.Proofs.YtmlcaecknocpoaaDoorW.PrintWords Go.Proofs.YtmlcaecknocpoaaDoorW.PrintLast Go.Proofs.YtmlcaecknocpoaaDoor.Pr Go.Proofs.YtmlcaecknocpoaaDoor.Sp
attribute [local go_sem ↓] Go.wp_at_zero Go.wp_at_succ
set_option maxRecDepth 100000 in
set_option maxHeartbeats 8000000 in
theorem law11_few (x : S26) (A3 : Option Addr) (c3 : Nat) (A4 : Option Addr) (c4 : Nat) (A5 : Option Addr) (c5 : Nat) (nm : ByteArray) (srt n : Int) (w : World) (ha : Arg w x A3 c3 A4 c4 A5 c5) (ht : Tabs w) (hd : Duals w) (hfew : ∀ W, Below w.heap.size w W → Calls Tryd.prog 21 #[.agg #[.int .i64 x.f0, .string x.f1, .int .i64 x.f2, .slice A3 x.f3.length c3, .slice A4 x.f4.length c4, .slice A5 x.f5.length c5]] W fun e w' => e = .returned (.bool false) ∧ Below W.heap.size W w') :
    Calls Tryd.prog 11 #[.agg #[.int .i64 x.f0, .string x.f1, .int .i64 x.f2, .slice A3 x.f3.length c3, .slice A4 x.f4.length c4, .slice A5 x.f5.length c5], .string nm, .int .i64 srt, .int .i64 n] w fun e w' => e = .returned (.bool true) ∧ Below w.heap.size w w' := by
  have hu26 := Tryd.underlying26
  have C20 := Aside0.mk (fun W (h : St w W w.heap.size x A3 c3 A4 c4 A5 c5) => live_calls W (ht.below h.b) (hd.below h.b))
  have C21 := Aside0.mk (fun W (h : St w W w.heap.size x A3 c3 A4 c4 A5 c5) => hfew W h.b)
  have T0 := Aside0.mk (St.start ha.at_)
  clear ha ht hd hfew
  go_enter Tryd.func11, Tryd.ntmps11
  go_wp2_with (first
    | (go_at_call 20; (with_reducible refine (C20.out _ T0.out).mono ?_); rintro e w1 ⟨rfl, g⟩; have T1 := Aside0.mk (T0.out.below g); clear g; obtain ⟨p0, p1, p2, p3, p4, p5⟩ := T1.out.box.six)
    | (go_at_call 21; (with_reducible refine (C21.out _ T1.out).mono ?_); rintro e w2 ⟨rfl, g⟩; have T2 := Aside0.mk (T1.out.below g); clear g p0 p1 p2 p3 p4 p5; obtain ⟨p0, p1, p2, p3, p4, p5⟩ := T2.out.box.six))
  go_ret
  exact ⟨rfl, T2.out.b⟩
set_option maxRecDepth 100000 in
set_option maxHeartbeats 8000000 in
theorem law11_long (x : S26) (A3 : Option Addr) (c3 : Nat) (A4 : Option Addr) (c4 : Nat) (A5 : Option Addr) (c5 : Nat) (nm : ByteArray) (srt n : Int) (w : World) (ha : Arg w x A3 c3 A4 c4 A5 c5) (ht : Tabs w) (hd : Duals w) (hfew : ∀ W, Below w.heap.size w W → Calls Tryd.prog 21 #[.agg #[.int .i64 x.f0, .string x.f1, .int .i64 x.f2, .slice A3 x.f3.length c3, .slice A4 x.f4.length c4, .slice A5 x.f5.length c5]] W fun e w' => e = .returned (.bool true) ∧ Below W.heap.size W w') (hnm : ¬ nm.size ≤ 100) :
    Calls Tryd.prog 11 #[.agg #[.int .i64 x.f0, .string x.f1, .int .i64 x.f2, .slice A3 x.f3.length c3, .slice A4 x.f4.length c4, .slice A5 x.f5.length c5], .string nm, .int .i64 srt, .int .i64 n] w fun e w' => e = .returned (.bool true) ∧ Below w.heap.size w w' := by
  have hu26 := Tryd.underlying26
  have C20 := Aside0.mk (fun W (h : St w W w.heap.size x A3 c3 A4 c4 A5 c5) => live_calls W (ht.below h.b) (hd.below h.b))
  have C21 := Aside0.mk (fun W (h : St w W w.heap.size x A3 c3 A4 c4 A5 c5) => hfew W h.b)
  have T0 := Aside0.mk (St.start ha.at_)
  have hn1 : (nm.size : Int) > 100 := by omega
  clear ha ht hd hfew hnm
  go_enter Tryd.func11, Tryd.ntmps11
  go_wp2_with (first
    | (go_at_call 20; (with_reducible refine (C20.out _ T0.out).mono ?_); rintro e w1 ⟨rfl, g⟩; have T1 := Aside0.mk (T0.out.below g); clear g; obtain ⟨p0, p1, p2, p3, p4, p5⟩ := T1.out.box.six)
    | (go_at_call 21; (with_reducible refine (C21.out _ T1.out).mono ?_); rintro e w2 ⟨rfl, g⟩; have T2 := Aside0.mk (T1.out.below g); clear g p0 p1 p2 p3 p4 p5; obtain ⟨p0, p1, p2, p3, p4, p5⟩ := T2.out.box.six))
  go_ret
  exact ⟨rfl, T2.out.b⟩
end Go.Proofs.YtmlcaecknocpoaaDoor.It
namespace Go.Proofs.YtmlcaecknocpoaaDoor.It
set_option linter.unusedVariables false
set_option linter.unusedSimpArgs false
open Go Go.RowKit Go.Shelf Go.Proofs.YtmlcaecknocpoaaDoorW.PrintWords Go.Proofs.YtmlcaecknocpoaaDoorW.PrintLast Go.Proofs.YtmlcaecknocpoaaDoor.Pr Go.Proofs.YtmlcaecknocpoaaDoor.Sp
attribute [local go_sem ↓] Go.wp_at_zero Go.wp_at_succ
theorem drewN_below (w : World) (n : Nat) : Below w.heap.size w (w.drewN n) := pw_below_drewN (Below.refl _ _) n
theorem str_eq {a b : ByteArray} (h : a.toList = b.toList) : a = b := by
  rw [ByteArray.toList_eq, ByteArray.toList_eq] at h
  obtain ⟨⟨l⟩⟩ := a
  obtain ⟨⟨m⟩⟩ := b
  have : l = m := h
  rw [this]
set_option maxRecDepth 100000 in
set_option maxHeartbeats 8000000 in
theorem law11_main (x : S26) (A3 : Option Addr) (c3 : Nat) (A4 : Option Addr) (c4 : Nat) (A5 : Option Addr) (c5 : Nat) (nm : ByteArray) (srt n : Int) (w : World) (ha : Arg w x A3 c3 A4 c4 A5 c5) (ht : Tabs w) (hd : Duals w) (hs1 : I64 srt) (hn1 : I64 n) (hfew : ∀ W, Below w.heap.size w W → Calls Tryd.prog 21 #[.agg #[.int .i64 x.f0, .string x.f1, .int .i64 x.f2, .slice A3 x.f3.length c3, .slice A4 x.f4.length c4, .slice A5 x.f5.length c5]] W fun e w' => e = .returned (.bool true) ∧ Below W.heap.size W w') (hnm : nm.size ≤ 100) :
    Calls Tryd.prog 11 #[.agg #[.int .i64 x.f0, .string x.f1, .int .i64 x.f2, .slice A3 x.f3.length c3, .slice A4 x.f4.length c4, .slice A5 x.f5.length c5], .string nm, .int .i64 srt, .int .i64 n] w fun e w' => e = .returned (.bool true) ∧ Below w.heap.size w w' := by
  have hu26 := Tryd.underlying26
  have hu42 := Tryd.underlying42
  have C20 := Aside0.mk (fun W (h : St w W w.heap.size x A3 c3 A4 c4 A5 c5) => live_calls W (ht.below h.b) (hd.below h.b))
  have C21 := Aside0.mk (fun W (h : St w W w.heap.size x A3 c3 A4 c4 A5 c5) => hfew W h.b)
  have hx1 : ¬ (nm.size : Int) > 100 := by omega
  obtain ⟨hsA, hsA'⟩ := under_slim 14 0 nm srt x rfl rfl hnm hs1 ha.deep ha.wt
  obtain ⟨hsB, hsB'⟩ := under_slim 16 n nm srt x rfl hn1 hnm hs1 ha.deep ha.wt
  have C28 := Aside0.mk (fun W (hb' : Below w.heap.size w W) (h : At W x A3 c3 A4 c4 A5 c5) => free_at x A3 c3 A4 c4 A5 c5 W h ha.deep ha.nb ha.nt)
  have U28 := Aside0.mk (fun W (hb' : Below w.heap.size w W) bd a (h : At W (under 14 0 ⟨nm, srt⟩ x) none 0 (some bd) 1 (some a) 1) => freeU 14 0 nm srt x bd a W hsA h)
  have U40 := Aside0.mk (fun W (hb' : Below w.heap.size w W) bd a (h : At W (under 14 0 ⟨nm, srt⟩ x) none 0 (some bd) 1 (some a) 1) => notU 14 0 nm srt x bd a W h)
  have V40 := Aside0.mk (fun W (hb' : Below w.heap.size w W) bd a (h : At W (under 16 n ⟨nm, srt⟩ x) none 0 (some bd) 1 (some a) 1) => notU 16 n nm srt x bd a W h)
  have N32 := Aside0.mk (fun W (hb' : Below w.heap.size w W) a (h : At W (neg (under 14 0 ⟨nm, srt⟩ x)) none 0 none 0 (some a) 1) => nnfN (under 14 0 ⟨nm, srt⟩ x) a W hsA' h (ht.below hb') (hd.below hb'))
  have M32 := Aside0.mk (fun W (hb' : Below w.heap.size w W) a (h : At W (neg (under 16 n ⟨nm, srt⟩ x)) none 0 none 0 (some a) 1) => nnfN (under 16 n ⟨nm, srt⟩ x) a W hsB' h (ht.below hb') (hd.below hb'))
  have hfl : (free x).length ≤ 1000000 := Nat.le_trans (free_length x) ha.nt
  rw [under_free] at U28
  have HE : Aside0 ((check (neg (under 14 0 ⟨nm, srt⟩ x)) = 0 ∧ (nnf (neg (under 14 0 ⟨nm, srt⟩ x))).f0 = 15 ∧ (nnf (neg (under 14 0 ⟨nm, srt⟩ x))).f4 = [⟨nm, srt⟩]) ∨ (check (neg (under 14 0 ⟨nm, srt⟩ x)) ≠ 0 ∧ (nnf (neg (under 14 0 ⟨nm, srt⟩ x))).f0 = 0)) := by
    by_cases h : check (neg (under 14 0 ⟨nm, srt⟩ x)) = 0
    · exact ⟨.inl ⟨h, by rw [all_good h]; rfl, by rw [all_good h]; rfl⟩⟩
    · exact ⟨.inr ⟨h, by rw [all_bad h]; rfl⟩⟩
  have HG : Aside0 (check (neg (under 16 n ⟨nm, srt⟩ x)) ≠ 0 ∨ (check (neg (under 16 n ⟨nm, srt⟩ x)) = 0 ∧ n = 0 ∧ (nnf (neg (under 16 n ⟨nm, srt⟩ x))).f0 = 2) ∨ (check (neg (under 16 n ⟨nm, srt⟩ x)) = 0 ∧ 0 < n ∧ n ≤ most ∧ (nnf (neg (under 16 n ⟨nm, srt⟩ x))).f0 = 17 ∧ (nnf (neg (under 16 n ⟨nm, srt⟩ x))).f2 = n - 1)) := by
    by_cases h : check (neg (under 16 n ⟨nm, srt⟩ x)) = 0
    · by_cases hz : n = 0
      · exact ⟨.inr (.inl ⟨h, hz, by subst hz; rw [least_zero h]; rfl⟩)⟩
      · have := least_form h
        exact ⟨.inr (.inr ⟨h, by omega, this.2, by rw [least_pos hz h]; rfl, by rw [least_pos hz h]; rfl⟩)⟩
    · exact ⟨.inl h⟩
  obtain ⟨nx, e_nx⟩ : ∃ v, nnf (neg (under 14 0 ⟨nm, srt⟩ x)) = v := ⟨_, rfl⟩
  rw [e_nx] at N32 HE
  obtain ⟨ny, e_ny⟩ : ∃ v, nnf (neg (under 16 n ⟨nm, srt⟩ x)) = v := ⟨_, rfl⟩
  rw [e_ny] at M32 HG
  obtain ⟨ve, e_ve⟩ : ∃ v, check (neg (under 14 0 ⟨nm, srt⟩ x)) = v := ⟨_, rfl⟩
  rw [e_ve] at N32 HE
  obtain ⟨vg, e_vg⟩ : ∃ v, check (neg (under 16 n ⟨nm, srt⟩ x)) = v := ⟨_, rfl⟩
  rw [e_vg] at M32 HG
  obtain ⟨l, e_l⟩ : ∃ v, free x = v := ⟨_, rfl⟩
  rw [e_l] at C28 U28 hfl
  have hml : (l.filter fun s => decide (s ≠ nm)).length ≤ l.length := List.length_filter_le _ _
  obtain ⟨m, e_m⟩ : ∃ v, (l.filter fun s => decide (s ≠ nm)) = v := ⟨_, rfl⟩
  replace e_m := Aside0.mk e_m
  rw [e_m.out] at U28 hml
  have T0 := Aside0.mk (St.start ha.at_)
  clear ha ht hd hfew hnm hsA hsB hsA' hsB' hs1 hn1 e_nx e_ny e_ve e_vg e_l
  go_enter Tryd.func11, Tryd.ntmps11
  go_upto_region 10 with (first
    | (go_at_call 20; (with_reducible refine (C20.out _ T0.out).mono ?_); rintro e w1 ⟨rfl, g⟩; have T1 := Aside0.mk (T0.out.below g); clear g; obtain ⟨p0, p1, p2, p3, p4, p5⟩ := T1.out.box.six)
    | (go_at_call 21; (with_reducible refine (C21.out _ T1.out).mono ?_); rintro e w2 ⟨rfl, g⟩; have T2 := Aside0.mk (T1.out.below g); clear g p0 p1 p2 p3 p4 p5; obtain ⟨p0, p1, p2, p3, p4, p5⟩ := T2.out.box.six; have U1 := Aside0.mk (T2.out.below (up1 w2 (.cells #[.string nm, .int .i64 srt] 42))); obtain ⟨u0, u1, u2, u3, u4, u5⟩ := U1.out.box.six; have U3 := Aside0.mk (T2.out.below ((up2 w2 (.cells #[.string nm, .int .i64 srt] 42) (.cells #[.int .i64 x.f0, .string x.f1, .int .i64 x.f2, .slice A3 x.f3.length c3, .slice A4 x.f4.length c4, .slice A5 x.f5.length c5] 26)).alloc (by simp; omega) (.cells #[.int .i64 14, .string ⟨#[]⟩, .int .i64 0, .slice none 0 0, .slice (some ⟨w2.heap.size, 0, none⟩) 1 1, .slice (some ⟨w2.heap.size + 1, 0, none⟩) 1 1] 26))); obtain ⟨v0, v1, v2, v3, v4, v5⟩ := U3.out.box.six; have T3 := Aside0.mk (St5.make T2.out nm srt n rfl); obtain ⟨z0, z1, z2, z3, z4, z5⟩ := T3.out.st.box.six)
    | (go_at_call 28; (with_reducible refine (C28.out _ T3.out.st.b T3.out.st.box.at_).mono ?_); rintro e w4 ⟨L, cl, rfl, g, hl⟩; have T4 := Aside0.mk (T3.out.below g); have HL := Aside0.mk hl; clear hl g; clear p0 p1 p2 p3 p4 p5 u0 u1 u2 u3 u4 u5 v0 v1 v2 v3 v4 v5 z0 z1 z2 z3 z4 z5; obtain ⟨r0, r1, r2, r3, r4, r5⟩ := six_under T4.out.all)
    | (go_at_call 28; (with_reducible refine (U28.out _ T4.out.st.b _ _ T4.out.all.at_).mono ?_); rintro e w5 ⟨M, cm, rfl, g, hm⟩; have T5 := Aside0.mk (T4.out.below g); have HM := Aside0.mk hm; replace HL := Aside0.mk (HL.out.below g); clear hm g r0 r1 r2 r3 r4 r5))
  go_wp2_with fail
  have HX := Aside0.mk (⟨T5.out, HL.out, HM.out⟩ : St5 w _ w.heap.size x A3 c3 A4 c4 A5 c5 nm srt n ⟨w2.heap.size, 0, none⟩ (w2.heap.size + 1 + 1) ⟨w2.heap.size + 1, 0, none⟩ (w2.heap.size + 1 + 1 + 1 + 1) ⟨w2.heap.size + 1 + 1 + 1, 0, none⟩ ∧ Strs _ L l ∧ Strs _ M m)
  clear T5 HL HM C20 C21 C28 U28
  go_loopg [14, 15] l.length (fun gg s14 s15 wr => ∃ j : Nat, j ≤ l.length ∧ l.length - j ≤ gg ∧ s14 = .int .i64 (((l.take j).filter fun s => decide (s ≠ nm)).length : Nat) ∧ s15 = .int .i64 j ∧ Aside0 (St5 w wr w.heap.size x A3 c3 A4 c4 A5 c5 nm srt n ⟨w2.heap.size, 0, none⟩ (w2.heap.size + 1 + 1) ⟨w2.heap.size + 1, 0, none⟩ (w2.heap.size + 1 + 1 + 1 + 1) ⟨w2.heap.size + 1 + 1 + 1, 0, none⟩ ∧ Strs wr L l ∧ Strs wr M m))
  case atStart => exact ⟨0, Nat.zero_le _, by omega, rfl, rfl, HX⟩
  case round =>
    obtain ⟨j, hj, hg, rfl, rfl, HK⟩ := hrel
    clear HX
    by_cases hlt : j < l.length
    · have hltz : (j : Int) < (l.length : Int) := by omega
      obtain ⟨xd, rfl, x0⟩ := strAt HK.out.2.1 j hlt
      have htk := take_filter (fun s => decide (s ≠ nm)) l j hlt
      by_cases hs : l.getD j ByteArray.empty = nm
      · rw [hs] at x0
        rw [hs] at htk
        simp only [ne_eq, not_true_eq_false, decide_false, Bool.false_eq_true, if_false, List.append_nil] at htk
        replace htk := Aside0.mk htk
        clear hs
        go_wp2_with fail
        go_roundg (l.length - (j + 1))
        case measure => omega
        case rel => exact ⟨j + 1, by omega, by omega, by rw [htk.out], by go_num, HK⟩
      · have hf := filter_at (fun s => decide (s ≠ nm)) l j hlt (by simpa using hs)
        rw [e_m.out] at hf
        rw [if_pos (by simpa using hs)] at htk
        obtain ⟨k, hk⟩ : ∃ k, ((l.take j).filter fun s => decide (s ≠ nm)).length = k := ⟨_, rfl⟩
        rw [hk] at hf
        have htk2 : ((l.take (j + 1)).filter fun s => decide (s ≠ nm)).length = k + 1 := by rw [htk, List.length_append, hk]; rfl
        replace htk2 := Aside0.mk htk2
        rw [hk]
        obtain ⟨hkm, hke⟩ := hf
        obtain ⟨yd, rfl, y0⟩ := strAt HK.out.2.2 k hkm
        rw [hke] at y0
        obtain ⟨s, e_s⟩ : ∃ s, l.getD j ByteArray.empty = s := ⟨_, rfl⟩
        rw [e_s] at x0 y0 hs
        have hgb : decide (m.length ≤ k) = false := decide_eq_false (by omega)
        have hkz : (k : Int) < (m.length : Int) := by omega
        have w1 : IntKind.i64.wrap ((k : Int) + 1) = (k : Int) + 1 := IntWalk.i64_in _ (by omega)
        have hsb : (s.toList == nm.toList) = false := by rw [Bool.eq_false_iff]; intro e; exact hs (str_eq (beq_iff_eq.1 e))
        clear hk hke htk e_s hs
        go_wp2_with fail
        go_quiet (fail)
        go_wp2_with fail
        go_roundg (l.length - (j + 1))
        case measure => omega
        case rel => exact ⟨j + 1, by omega, by omega, by rw [htk2.out]; go_num, by go_num, ⟨HK.out.1.below (drewN_below _ _), HK.out.2.1.below (drewN_below _ _), HK.out.2.2.below (drewN_below _ _)⟩⟩
    · have hltz : ¬ (j : Int) < (l.length : Int) := by omega
      obtain rfl : j = l.length := by omega
      rw [List.take_length, e_m.out]
      have T5 := Aside0.mk HK.out.1
      clear HK
      obtain ⟨r0, r1, r2, r3, r4, r5⟩ := six_under T5.out.all
      go_upto_region 20 with (first
        | (go_at_call 40; (with_reducible refine (U40.out _ T5.out.st.b _ _ T5.out.all.at_).mono ?_); rintro e w6 ⟨a6, rfl, g, h6⟩; have T6 := Aside0.mk (T5.out.below g); replace h6 := Aside0.mk h6; clear g r0 r1 r2 r3 r4 r5)
        | (go_at_call 32; (with_reducible refine (N32.out _ T6.out.st.b _ h6.out).mono ?_); rintro e w7 ⟨D3, f3, D4, f4, D5, f5, rfl, g, hx⟩; have BX := Aside0.mk (⟨heap_new w7 _, hx.below (up1 w7 _)⟩ : BoxF (w7.alloc (.cells #[.int .i64 nx.f0, .string nx.f1, .int .i64 nx.f2, .slice D3 nx.f3.length f3, .slice D4 nx.f4.length f4, .slice D5 nx.f5.length f5] 26)) w7.heap.size nx D3 f3 D4 f4 D5 f5); have T7 := Aside0.mk ((T6.out.below g).below (up1 w7 (.cells #[.int .i64 nx.f0, .string nx.f1, .int .i64 nx.f2, .slice D3 nx.f3.length f3, .slice D4 nx.f4.length f4, .slice D5 nx.f5.length f5] 26))); clear g hx; obtain ⟨r0, r1, r2, r3, r4, r5⟩ := six_under T7.out.least)
        | (go_at_call 40; (with_reducible refine (V40.out _ T7.out.st.b _ _ T7.out.least.at_).mono ?_); rintro e w8 ⟨a8, rfl, g, h8⟩; have T8 := Aside0.mk (T7.out.below g); replace h8 := Aside0.mk h8; replace BX := Aside0.mk (BX.out.below g); clear g r0 r1 r2 r3 r4 r5)
        | (go_at_call 32; (with_reducible refine (M32.out _ T8.out.st.b _ h8.out).mono ?_); rintro e w9 ⟨G3, i3, G4, i4, G5, i5, rfl, g, hy⟩; have BY := Aside0.mk (⟨heap_new w9 _, hy.below (up1 w9 _)⟩ : BoxF (w9.alloc (.cells #[.int .i64 ny.f0, .string ny.f1, .int .i64 ny.f2, .slice G3 ny.f3.length i3, .slice G4 ny.f4.length i4, .slice G5 ny.f5.length i5] 26)) w9.heap.size ny G3 i3 G4 i4 G5 i5); have T9 := Aside0.mk ((T8.out.below g).below (up1 w9 (.cells #[.int .i64 ny.f0, .string ny.f1, .int .i64 ny.f2, .slice G3 ny.f3.length i3, .slice G4 ny.f4.length i4, .slice G5 ny.f5.length i5] 26))); replace BX := Aside0.mk ((BX.out.below g).below (up1 w9 (.cells #[.int .i64 ny.f0, .string ny.f1, .int .i64 ny.f2, .slice G3 ny.f3.length i3, .slice G4 ny.f4.length i4, .slice G5 ny.f5.length i5] 26))); clear g hy; obtain ⟨r0, r1, r2, r3, r4, r5⟩ := BX.out.six; obtain ⟨s0, s1, s2, s3, s4, s5⟩ := BY.out.six))
      have hbs := Aside0.mk T9.out.bs
      have hxx := Aside0.mk BX.out.at_.g4
      have HB9 := Aside0.mk T9.out.st.b
      clear T9 BX BY h6 h8 e_m hml hfl U40 V40 N32 M32
      generalize w9.alloc (.cells #[.int .i64 ny.f0, .string ny.f1, .int .i64 ny.f2, .slice G3 ny.f3.length i3, .slice G4 ny.f4.length i4, .slice G5 ny.f5.length i5] 26) = W9 at *
      rcases HE.out with ⟨he, hx0, hx4⟩ | ⟨he, hx0⟩
      · rw [hx0] at r0
        rw [show nx.f4.length = 1 by rw [hx4]; rfl] at r4
        have hy := hxx.out
        rw [hx4] at hy
        clear hxx hx0 hx4 HE
        obtain ⟨xd, rfl, x0, x1⟩ := bindAt (bs := [⟨nm, srt⟩]) hy (Below.refl _ _) 0 (by simp)
        obtain ⟨bd, e_bd, b0, b1⟩ := bindAt (bs := [⟨nm, srt⟩]) hbs.out (Below.refl _ _) 0 (by simp)
        obtain rfl := Option.some.inj e_bd
        simp [rd_T42, Addr.add] at x0 x1 b0 b1
        subst he
        clear hy hbs e_bd
        · rcases HG.out with hg0 | ⟨hg0, hn0, hy0⟩ | ⟨hg0, hn0, hnm, hy0, hy2⟩
          · have g1 : (vg != 0) = true := by simpa using hg0
            clear hg0 HG
            go_wp2_with fail
            go_quiet (fail)
            go_wp2_with fail
            go_ret
            exact ⟨rfl, HB9.out.trans ((drewN_below _ _).mono HB9.out.size)⟩
          · subst hg0 hn0
            rw [hy0] at s0
            clear hy0 HG
            go_wp2_with fail
            go_quiet (fail)
            go_wp2_with fail
            go_ret
            exact ⟨rfl, HB9.out.trans ((drewN_below _ _).mono HB9.out.size)⟩
          · subst hg0
            rw [hy0] at s0
            rw [hy2] at s2
            have g1 : (n == 0) = false := by simp; omega
            have g2 : ¬ n ≤ 0 := by omega
            have g3 : IntKind.i64.wrap (n - 1) = n - 1 := IntWalk.i64_in _ (by unfold most at hnm; omega)
            have g4 : (n ≤ 0) = False := by simp; omega
            clear hy0 hy2 hn0 hnm HG
            go_wp2_with fail
            go_quiet (fail)
            go_wp2_with fail
            go_ret
            exact ⟨rfl, HB9.out.trans ((drewN_below _ _).mono HB9.out.size)⟩
      · rw [hx0] at r0
        have e1 : (ve != 0) = true := by simpa using he
        have e2 : (ve == 0) = false := by simpa using he
        clear he hx0 HE hxx hbs
        · rcases HG.out with hg0 | ⟨hg0, hn0, hy0⟩ | ⟨hg0, hn0, hnm, hy0, hy2⟩
          · have g1 : (vg != 0) = true := by simpa using hg0
            clear hg0 HG
            go_wp2_with fail
            try (go_quiet (fail))
            try (go_wp2_with fail)
            go_ret
            exact ⟨rfl, HB9.out.trans ((drewN_below _ _).mono HB9.out.size)⟩
          · subst hg0 hn0
            rw [hy0] at s0
            clear hy0 HG
            go_wp2_with fail
            try (go_quiet (fail))
            try (go_wp2_with fail)
            go_ret
            exact ⟨rfl, HB9.out.trans ((drewN_below _ _).mono HB9.out.size)⟩
          · subst hg0
            rw [hy0] at s0
            rw [hy2] at s2
            have g1 : (n == 0) = false := by simp; omega
            have g2 : ¬ n ≤ 0 := by omega
            have g3 : IntKind.i64.wrap (n - 1) = n - 1 := IntWalk.i64_in _ (by unfold most at hnm; omega)
            have g4 : (n ≤ 0) = False := by simp; omega
            clear hy0 hy2 hn0 hnm HG
            go_wp2_with fail
            try (go_quiet (fail))
            try (go_wp2_with fail)
            go_ret
            exact ⟨rfl, HB9.out.trans ((drewN_below _ _).mono HB9.out.size)⟩
end Go.Proofs.YtmlcaecknocpoaaDoor.It
namespace Go.Proofs.YtmlcaecknocpoaaDoor.It
set_option linter.unusedVariables false
open Go Go.RowKit Go.Shelf Go.Proofs.YtmlcaecknocpoaaDoorW.PrintWords Go.Proofs.YtmlcaecknocpoaaDoorW.PrintLast Go.Proofs.YtmlcaecknocpoaaDoor.Pr Go.Proofs.YtmlcaecknocpoaaDoor.Sp
theorem law11 (x : S26) (nm : ByteArray) (srt n : Int) (A3 : Option Addr) (c3 : Nat) (A4 : Option Addr) (c4 : Nat) (A5 : Option Addr) (c5 : Nat) (w : World) (ha : Arg w x A3 c3 A4 c4 A5 c5) (h9 : nm.size ≤ maxLen) (hs1 : I64 srt) (hn1 : I64 n) (ht : Tabs w) (hd : Duals w) :
    Calls Tryd.prog 11 #[.agg #[.int .i64 x.f0, .string x.f1, .int .i64 x.f2, .slice A3 x.f3.length c3, .slice A4 x.f4.length c4, .slice A5 x.f5.length c5], .string nm, .int .i64 srt, .int .i64 n] w fun e w' => e = .returned (.bool true) ∧ Below w.heap.size w w' := by
  obtain ⟨few, hfew⟩ := ha.few
  cases few
  · exact law11_few x A3 c3 A4 c4 A5 c5 nm srt n w ha ht hd hfew
  · by_cases hnm : nm.size ≤ 100
    · exact law11_main x A3 c3 A4 c4 A5 c5 nm srt n w ha ht hd hs1 hn1 hfew hnm
    · exact law11_long x A3 c3 A4 c4 A5 c5 nm srt n w ha ht hd hfew hnm
end Go.Proofs.YtmlcaecknocpoaaDoor.It
namespace Go.Proofs.YtmlcaecknocpoaaDoor.C11
set_option linter.unusedVariables false
set_option linter.unusedSimpArgs false
open Go Go.ChangeShapes Go.WideShapes Go.ChangeAt Go.RowKit Go.Proofs.YtmlcaecknocpoaaDoor.It
open Go.ChangeMaps (open_string shut_string)
set_option maxRecDepth 100000 in
theorem contract (H : Type) (enc : TypeId × Value → H) (W : World) (base : Nat) (args : Array Value) (ds gs : List (DataW H)) (before : List MemPlace)
    (hval0 : ∀ (j : Nat) t v, Tryd.f11.params[j]? = some t → args[j]? = some v → Value.okWide Tryd.prog W .any base t v)
    (hW : DataW.Whole enc Tryd.prog Tryd.f11.params.toList Rows.formBindsNameSpec.vars false W args.toList ds gs before) (hk : Rows.uptoSmall H (ds ++ gs) = true) (hL : laidMetH Tryd.prog Rows.formBindsNameUptoRow.laid W) :
    Calls Tryd.prog 11 args W fun e W' => ∃ v, e = .returned v ∧ Rows.formBindsNameSpec.post enc Tryd.prog Tryd.f11 false true false false W args v W' := by
  have hval : ∀ (j : Nat) t v, Tryd.f11.params[j]? = some t → args[j]? = some v → Value.okWide Tryd.prog W .any base t v := hval0
  have hW' := hW
  obtain ⟨p, q, hA0, hV, rfl, hfz, hnd⟩ := hW
  have hA : DataW.TrodAll enc Tryd.prog W 0 (fun _ => true) true Tryd.f11.params.toList args.toList ds p := hA0
  rw [Tryd.params11] at hA hval
  obtain ⟨v0, vs0, d0, ds0, p0, q0, hargs, rfl, rfl, h0, r0⟩ := trodAll_cons hA
  obtain ⟨v1, vs1, d1, ds1, p1, q1, rfl, rfl, rfl, h1, r1⟩ := trodAll_cons r0
  obtain ⟨v2, vs2, d2, ds2, p2, q2, rfl, rfl, rfl, h2, r2⟩ := trodAll_cons r1
  obtain ⟨v3, vs3, d3, ds3, p3, q3, rfl, rfl, rfl, h3, r3⟩ := trodAll_cons r2
  obtain ⟨rfl, rfl, rfl⟩ := trodAll_nil r3
  obtain rfl : args = #[v0, v1, v2, v3] := by cases args; simp_all
  obtain ⟨rfl, rfl⟩ := trodVars_none hV
  have hk2 := of_decide_eq_true hk
  simp only [List.append_nil, Rows.uptoBulkAll] at hk2
  obtain ⟨x0, A30, c30, A40, c40, A50, c50, rfl, ha0⟩ := trod_val (hval 0 26 v0 rfl rfl) h0 (by omega)
  have lt0 : ∀ y ∈ p0, y.block < W.heap.size := by
    obtain ⟨m, hm⟩ := h0
    exact DataW.trod_lt m _ _ _ hm
  obtain ⟨x1, rfl, rfl, rfl, ha1⟩ := open_string Tryd.underlying9 (hval 1 9 v1 rfl rfl) h1
  obtain ⟨x2, rfl, rfl, rfl, ha2⟩ := open_int Tryd.underlying3 (hval 2 3 v2 rfl rfl) h2
  obtain ⟨x3, rfl, rfl, rfl, ha3⟩ := open_int Tryd.underlying3 (hval 3 3 v3 rfl rfl) h3
  have hl := hL
  rw [MakeChecks.laidMetH_plain _ _ _ (by kernel_rfl)] at hl
  have ht : Tabs W := tabs_laid hl (by simp [Rows.formBindsNameUptoRow]) (by simp [Rows.formBindsNameUptoRow]) (by simp [Rows.formBindsNameUptoRow])
  have hd : Duals W := duals_laid hl (by simp [Rows.formBindsNameUptoRow])
  refine (law11 x0 x1 x2 x3 A30 c30 A40 c40 A50 c50 W ha0 ha1 ha2 ha3 ht hd).mono fun e W' ⟨he, bel⟩ => ?_
  subst he
  exact ⟨_, rfl, _, _, _, [], _, [], hW', trodAll_mk1 (shut_bool Tryd.underlying4 _), (trodAll_cons_mk (Below.trod laidOut (by kernel_rfl) (of_decide_eq_true (by kernel_rfl)) h0 bel lt0) (trodAll_cons_mk (shut_string Tryd.underlying9 ha1) (trodAll_cons_mk (shut_int Tryd.underlying3 ha2) (trodAll_cons_mk (shut_int Tryd.underlying3 ha3) trodAll_mk0)))), rfl, bel.frame _, fun h => by cases h⟩
theorem met (os : Os) : laidMetH Tryd.prog Rows.formBindsNameUptoRow.laid ((Wt.world os).forCall (fun _ _ => 0) ⟨#[], #[Wt.zero26, .string ByteArray.empty, .int .i64 0, .int .i64 0], []⟩).memory :=
  laidMetH_of_parts3 (fuel := 8) (laidMet_of_run' 8 (by kernel_rfl) (by kernel_rfl)) (by kernel_rfl) (by kernel_rfl)
set_option maxRecDepth 100000 in
theorem lifted (os : Os) (started : os.Started) (H : Type) (enc : TypeId × Value → H) (F : Stop.Interp) :
    ReturnsInHanded {} Tryd.checked os 11 .any ((Rows.OpenSpec.upto Rows.formBindsNameSpec).preRow enc Tryd.prog Tryd.f11 Rows.formBindsNameUptoRow.domain false Rows.formBindsNameUptoRow.laid) (((Rows.OpenSpec.upto Rows.formBindsNameSpec).at F).post enc Tryd.prog Tryd.f11 false true false false) := by
  have hx : DataW.whole enc Tryd.prog ((Wt.world os).forCall (fun _ _ => 0) ⟨#[], #[Wt.zero26, .string ByteArray.empty, .int .i64 0, .int .i64 0], []⟩).memory Tryd.f11.params.toList Rows.formBindsNameSpec.vars false (#[Wt.zero26, .string ByteArray.empty, .int .i64 0, .int .i64 0] : Array Value).toList 8 = some ([.agg [.lit (.int .i64 0), .lit (.string []), .lit (.int .i64 0), .nil, .nil, .nil], .lit (.string []), .lit (.int .i64 0), .lit (.int .i64 0)], [], []) := by kernel_rfl
  refine returnsInHanded_of_row (C := Tryd.checked) (s := Rows.OpenSpec.upto Rows.formBindsNameSpec) own started (by kernel_rfl) Tryd.func11
    (witness_row_atRef (enc := enc) (C := Tryd.checked) false (Wt.world os) #[Wt.zero26, .string ByteArray.empty, .int .i64 0, .int .i64 0] rfl (by kernel_rfl) (by kernel_rfl) (by kernel_rfl)
      (OpenSpec.preRow_of_cond 8 hx (by kernel_rfl) (fun k hk => by cases hk; kernel_rfl) (by kernel_rfl) (met os))) ?_
  intro W base args ds gs before hval hW _ hcond _ hL _ _
  exact contract H enc W base args ds gs before hval hW (hcond _ rfl) hL
end Go.Proofs.YtmlcaecknocpoaaDoor.C11
namespace Go.Proofs.YtmlcaecknocpoaaDoor.C11
set_option linter.unusedVariables false
open Go Go.ChangeShapes Go.WideShapes Go.ChangeAt Go.RowKit
theorem isInst : Func.isInstance Tryd.pinned.checked.prog Tryd.f11 Rows.formBindsNameUptoRow.origin Rows.formBindsNameUptoRow.targs := of_decide_eq_true (by kernel_rfl)
theorem isWrap : Func.isWrapper Tryd.pinned.checked.prog Tryd.f11 Rows.formBindsNameUptoRow.wrapper Rows.formBindsNameUptoRow.mainSum := by
  unfold Func.isWrapper; first | (rw [if_pos (by decide +kernel)]; kernel_rfl) | (rw [if_neg (by decide +kernel)]; exact ⟨rfl, rfl⟩)
theorem isName : Tryd.pinned.checked.prog.funcNamed Rows.formBindsNameUptoRow.func = some 11 := by kernel_rfl
theorem saidUpto : Rows.FormBindsNameUptoSaid :=
  OpenClaim.holds_of_cond 11 Tryd.f11 rfl rfl rfl rfl rfl rfl rfl ⟨rfl, rfl, rfl, rfl, rfl⟩ rfl rfl rfl rfl rfl isName Tryd.func11 F11.closed isInst isWrap
    (fun os started H enc _ F => by rw [OpenClaim.pre_eq_preRow]; exact lifted os started H enc F)
theorem plain (f : FuncId) (fn : Func) (hf : Tryd.pinned.checked.prog.funcNamed "chalkline/chalklinelaw06.FormBindsName" = some f) (hfn : Tryd.pinned.checked.prog.funcs[f]? = some fn) :
    false = Tryd.pinned.checked.prog.looks [] ∧ ∀ (j : Nat) t, fn.params[j]? = some t → Tryd.pinned.checked.prog.wantsStandIn t = false := by
  obtain rfl : f = 11 := Option.some.inj ((show Tryd.prog.funcNamed "chalkline/chalklinelaw06.FormBindsName" = some 11 by kernel_rfl).symm.trans hf) |>.symm
  obtain rfl : fn = Tryd.f11 := (Option.some.inj (Tryd.func11.symm.trans hfn)).symm
  refine ⟨by kernel_rfl, fun j t ht => ?_⟩
  rw [Tryd.params11] at ht
  have hm := Array.mem_of_getElem? ht
  simp only [List.mem_toArray, List.mem_cons, List.not_mem_nil, or_false] at hm
  rcases hm with rfl | rfl | rfl | rfl
  · exact (show Tryd.prog.wantsStandIn 26 = false by kernel_rfl)
  · exact (show Tryd.prog.wantsStandIn 9 = false by kernel_rfl)
  · exact (show Tryd.prog.wantsStandIn 3 = false by kernel_rfl)
  · exact (show Tryd.prog.wantsStandIn 3 = false by kernel_rfl)
theorem wfText : Rows.formBindsNameUptoRow.wfByText (Rows.OpenSpec.upto Rows.formBindsNameSpec) = true := by kernel_rfl
theorem goes : false = Rows.formBindsNameUptoRow.goesBy Tryd.pinned.checked.prog := by kernel_rfl
theorem cardUpto : Rows.FormBindsNameUptoCardSaid :=
  Claim7.holds_tied_plain_at .later [] _ _ _ _ saidUpto (fun _ h => by cases h) wfText (fun _ h => by cases h) formBindsNameUpto_row_tie rfl ⟨rfl, rfl⟩ HH.mainIs rfl plain goes
end Go.Proofs.YtmlcaecknocpoaaDoor.C11
namespace Go.Proofs.YtmlcaecknocpoaaDoor
theorem formBindsNameUpto_holds : Rows.FormBindsNameUptoCardSaid := C11.cardUpto
#print axioms formBindsNameUpto_holds
end Go.Proofs.YtmlcaecknocpoaaDoor
