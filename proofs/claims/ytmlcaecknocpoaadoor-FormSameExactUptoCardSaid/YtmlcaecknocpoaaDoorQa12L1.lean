/-
  chalklinelaw06.FormSameExact answers true, for every input that reads as data and is of bulk at most 1048576; what it reads stands as it stood.
  Conditions: the listed package-level variables hold what the program's text lays (tied by the card); the arguments' bulk is at most 1048576.
-/
import Derived.Test.YtmlcaecknocpoaaDoorQaK6
import Derived.ArgAppend
import Derived.BigQuiet
import Derived.SevenTiedAt
import Derived.Test.YtmlcaecknocpoaaDoorH25
import Derived.Test.YtmlcaecknocpoaaDoorH26
import Derived.Test.YtmlcaecknocpoaaDoorH27
import Derived.Test.YtmlcaecknocpoaaDoorF12
import Derived.Test.YtmlcaecknocpoaaDoorH28
namespace Go.Proofs.YtmlcaecknocpoaaDoor.It
set_option linter.unusedVariables false
open Go Go.RowKit Go.Shelf Go.Proofs.YtmlcaecknocpoaaDoorW.PrintWords Go.Proofs.YtmlcaecknocpoaaDoorW.PrintLast
section
variable {P : Program} {ops : Array Oper} {rest : List Oper} {o : Oper} {a : Act} {Q : Exit → Act → World → Prop} {α : Type} {R : α → List Value → Prop}
theorem own_append_rows {w0 W : World} (base : Nat) (hgd : o.guard = none) (s x : Operand) (t e : TypeId) (z : Value) (size bytes : Nat)
    (ho : o.op = .call { callee := .builtin .append, args := #[s, x], argTypes := #[t, t] })
    (ht : P.underlying t = some (.slice e)) (hinfo : (P.info? e).map (fun i => (i.zero, i.size, i.bytes)) = some (some z, size, bytes)) (hz : z.cells.size = size) (hs0 : 0 < size) (hb0 : 0 < bytes)
    (v : Value) (xs ys : List α) (A : Option Addr) (m c : Nat) (hs : a.eval s = v) (hx : a.eval x = .slice A m c)
    (HO : OwnRow R e size W base v xs) (HR : ReadsRow R size W A m ys) (h1c : ∀ p cs, R p cs → ∀ u ∈ cs, u.oneCell' = true)
    (HB : Below base w0 W) (hbase : base ≤ W.heap.size) (hl : (xs.length + m) * bytes ≤ 140737488355328)
    (h : ∀ v1 w1, OwnRow R e size w1 base v1 (xs ++ ys) → Below base w0 w1 → W.grownBy w1 v.ownBlock → wpList P ops Q rest (a.put o.dst v1) w1) :
    wpList P ops Q (o :: rest) a W := by
  obtain ⟨i0, hi, hzz⟩ := Option.map_eq_some_iff.1 hinfo
  simp only [Prod.mk.injEq] at hzz
  obtain ⟨hz0, hz1, hz2⟩ := hzz
  have hm : ys.length = m := HR.1
  have hlen : xs.length + m ≤ 140737488355328 := Nat.le_trans (Nat.le_mul_of_pos_right _ hb0) hl
  obtain ⟨inner, hown, hr⟩ := HO
  have hrun : ∃ v1 w1, (Builtin.append_ #[t, t] o.type #[v, .slice A m c]).run P W = .ok v1 w1 ∧ OwnRow R e size w1 base v1 (xs ++ ys) ∧ W.grownBy w1 v.ownBlock := by
    rcases A with _ | ad
    · have h0 : m = 0 := by
        rcases Nat.eq_zero_or_pos m with h0 | h0
        · exact h0
        · obtain ⟨ad, h, _⟩ := HR.2.2 h0
          cases h
      subst h0
      obtain rfl : ys = [] := List.eq_nil_of_length_eq_zero hm
      refine ⟨v, W, ?_, by rw [List.append_nil]; exact ⟨inner, hown, hr⟩, World.grownBy.refl W _⟩
      rcases hown.2 with ⟨rfl, hn⟩ | ⟨g, cap, cur, rfl, _, _, hnc, _⟩
      · simp [Builtin.append_, run_underlying ht, sizeOf, typeInfo, hi, Builtin.lenOf, Builtin.firstCells]
      · simp [Builtin.append_, run_underlying ht, sizeOf, typeInfo, hi, Builtin.lenOf, Builtin.firstCells, hnc, storeCells]
    · obtain ⟨news, hnr, hnc⟩ := ReadsRow.inner_ HR
      have hone : ∀ u ∈ news, u.oneCell' = true := by
        intro u hu
        obtain ⟨q, hq, rfl⟩ := List.mem_iff_getElem.1 hu
        have hql : q / size < ys.length := by
          rw [Nat.div_lt_iff_lt_mul hs0]
          rw [← hnr.1]
          exact hq
        have hc := hnr.2 (q / size) _ (List.getElem?_eq_getElem hql)
        refine h1c _ _ hc _ ?_
        rw [List.mem_iff_getElem?]
        refine ⟨q % size, ?_⟩
        rw [List.getElem?_take, if_pos (Nat.mod_lt _ hs0), List.getElem?_drop, Nat.mul_comm, Nat.div_add_mod, List.getElem?_eq_getElem hq]
      obtain ⟨v1, w1, hrun, h2, hg, _, hat⟩ := run_append_own_at (P := P) W base t o.type e i0 z size bytes ht hi hz0 hz1 hz2 hz hs0 v xs.length inner hown ad m c news (by rw [hnr.1, hm]) hnc hone (by simp only [maxLen]; omega) hl hbase
      exact ⟨v1, w1, hrun, ⟨inner ++ news, by rw [List.length_append, hm]; exact h2, Kd.reps_append hr hnr⟩, hg⟩
  obtain ⟨v1, w1, hr1, h1, hg⟩ := hrun
  refine wpList_plain hgd fun K hK => ?_
  unfold Oper.wp execOp
  simp only [ho, resolve, invoke, builtin, Sem.run_bind, Sem.run_pure, Result.andThen_ok, List.map_toArray, List.map_cons, List.map_nil, hs, hx, hr1]
  exact hK _ _ (h v1 w1 h1 (HB.grown hg hbase (own_base hown)) hg)
def Spared (e : TypeId) (W w1 : World) : Prop := W.heap.size ≤ w1.heap.size ∧ ∀ (g : Nat) (cells : Array Value) (t : TypeId), W.heap[g]? = some (Obj.cells cells t (0, 0)) → e ≠ t → w1.heap[g]? = some (Obj.cells cells t (0, 0))
theorem any_append {w0 W : World} (base : Nat) (hgd : o.guard = none) (s x : Operand) (t e : TypeId) (z : Value) (size bytes : Nat)
    (ho : o.op = .call { callee := .builtin .append, args := #[s, x], argTypes := #[t, t] })
    (ht : P.underlying t = some (.slice e)) (hinfo : (P.info? e).map (fun i => (i.zero, i.size, i.bytes)) = some (some z, size, bytes)) (hz : z.cells.size = size) (hs0 : 0 < size) (hb0 : 0 < bytes)
    (v : Value) (ps : List α) (p : α) (cs : List Value) (hs : a.eval s = v) (hx : a.eval x = .slice (some ⟨W.heap.size, 0, none⟩) 1 1) (hp : R p cs) (hcs : cs.length = size) (h1 : ∀ u ∈ cs, u.oneCell' = true)
    (HO : OwnRow R e size W base v ps ∨ ∃ A, v = .slice A ps.length ps.length ∧ ReadsRow R size W A ps.length ps) (HB : Below base w0 W) (hbase : base ≤ W.heap.size) (hl : (ps.length + 1) * bytes ≤ 140737488355328)
    (h : ∀ v1 w1, OwnRow R e size w1 base v1 (ps ++ [p]) → Below base w0 w1 → Spared e W w1 → wpList P ops Q rest (a.put o.dst v1) w1) :
    wpList P ops Q (o :: rest) a (W.alloc (.cells cs.toArray e)) := by
  rcases HO with HO | ⟨A, rfl, HR⟩
  · refine OwnRow.append base hgd s x t e z size bytes ho ht hinfo hz hs0 hb0 v ps p cs hs hx hp hcs h1 HO HB hbase hl fun v1 w1 h1 h2 h3 _ => h v1 w1 h1 h2 ⟨h3.size, fun g cells t hg hne => ?_⟩
    rw [h3.block g (Array.getElem?_eq_some_iff.1 hg).1 (HO.ne_block hg hne), hg]
  · obtain ⟨i0, hi, hzz⟩ := Option.map_eq_some_iff.1 hinfo
    simp only [Prod.mk.injEq] at hzz
    obtain ⟨hz0, hz1, hz2⟩ := hzz
    have hlen : ps.length + 1 ≤ 140737488355328 := Nat.le_trans (Nat.le_mul_of_pos_right _ hb0) hl
    have hA : Below W.heap.size W (W.alloc (.cells cs.toArray e)) := (Below.refl _ _).alloc (Nat.le_refl _) _
    obtain ⟨olds, hro, hco⟩ : ∃ olds, Reps R size ps olds ∧ ∀ b, A = some b → ∀ j u, olds[j]? = some u → W.cell? (b.add j) = some u := by
      rcases A with _ | ad
      · have h0 : ps.length = 0 := by
          rcases Nat.eq_zero_or_pos ps.length with h0 | h0
          · exact h0
          · obtain ⟨ad, h, _⟩ := HR.2.2 h0
            cases h
        obtain rfl : ps = [] := List.eq_nil_of_length_eq_zero h0
        exact ⟨[], Reps.none _ _, fun b hb => by cases hb⟩
      · obtain ⟨olds, hr, hc⟩ := ReadsRow.inner_ HR
        exact ⟨olds, hr, fun b hb j u hj => by cases hb; exact hc j u hj⟩
    refine wpList_append_grows (W.alloc (.cells cs.toArray e)) hgd s x t ho e i0 z size bytes ht hi hz0 hz1 hz2 hz hs0 A ps.length ps.length olds hs (fun hn => ?_) hro.1 (fun b hb j u hj => up_cell hA (hco b hb j u hj)) ⟨W.heap.size, 0, none⟩ 1 1 cs hx (by rw [hcs]; simp)
      (by simpa using World.news_of_block (cs := cs.toArray) (t := e) (fr := (0, 0)) (heap_alloc_new W (.cells cs.toArray e))) h1 (by omega) (by simp only [maxLen]; omega) hl fun v1 w1 hown hg => ?_
    · subst hn
      rcases Nat.eq_zero_or_pos ps.length with h0 | h0
      · exact ⟨h0, h0⟩
      · obtain ⟨ad, h, _⟩ := HR.2.2 h0
        cases h
    · refine h v1 w1 ⟨olds ++ cs, ?_, hro.snoc hp hcs⟩ ((HB.alloc hbase _).grown hg (by simp; omega) (fun k hk => by cases hk)) ⟨?_, fun g cells t hgc hne => ?_⟩
      · rw [List.length_append, List.length_singleton]
        exact own_weaken hown (by simp; omega)
      · have := hg.size; simp at this; omega
      · have hlt := (Array.getElem?_eq_some_iff.1 hgc).1
        rw [hg.block g (by simp; omega) (by simp), hA.block g hlt, hgc]
end
theorem own_C {α : Type} {d : Kd α} {w0 w : World} {e base : Nat} {v : Value} {xs : List α} (h : OwnRow (d.K w0) e d.sz w base v xs) (hb : Below w0.heap.size w0 w) : ∃ A c, v = .slice A xs.length c ∧ xs.length ≤ c ∧ d.C w A xs.length xs := by
  obtain ⟨A, c, hv, hc, hr⟩ := h.reads
  exact ⟨A, c, hv, hc, hr.imp_ (Below.refl _ _) (fun p cs hp => d.K_below hb hp)⟩
end Go.Proofs.YtmlcaecknocpoaaDoor.It
namespace Go.Proofs.YtmlcaecknocpoaaDoor.It
set_option linter.unusedVariables false
set_option linter.unusedSimpArgs false
open Go Go.RowKit Go.Shelf Go.Proofs.YtmlcaecknocpoaaDoorW.PrintWords Go.Proofs.YtmlcaecknocpoaaDoorW.PrintLast Go.Proofs.YtmlcaecknocpoaaDoor.Pr Go.Proofs.YtmlcaecknocpoaaDoor.Sp
attribute [local go_sem ↓] Go.wp_at_zero Go.wp_at_succ
theorem wp_at {P : Program} {code : Code} {a : Act} {W : World} {Q : Exit → Act → World → Prop} (S : World → Prop) (h : S W) (k : ∀ W', S W' → Code.wp P code Q a W') : Code.wp P code Q a W := k W h
theorem At.own {w : World} {x : S26} {A3 : Option Addr} {c3 : Nat} {A4 : Option Addr} {c4 : Nat} {A5 : Option Addr} {c5 : Nat} (h : At w x A3 c3 A4 c4 A5 c5) (k : Int) (nm : ByteArray) (n : Int) : At w ⟨k, nm, n, x.f3, x.f4, x.f5⟩ A3 c3 A4 c4 A5 c5 := ⟨h.l3, h.g3, h.l4, h.g4, h.l5, h.g5⟩
theorem At.terms {w : World} {x : S26} {A3 : Option Addr} {c3 : Nat} {A4 : Option Addr} {c4 : Nat} {A5 : Option Addr} {c5 : Nat} (h : At w x A3 c3 A4 c4 A5 c5) {ts : List S47} {A : Option Addr} {c : Nat} (hl : ts.length ≤ c) (hr : Kd.C k47 w A ts.length ts) : At w ⟨x.f0, x.f1, x.f2, ts, x.f4, x.f5⟩ A c A4 c4 A5 c5 := ⟨hl, hr, h.l4, h.g4, h.l5, h.g5⟩
theorem At.forms {w : World} {x : S26} {A3 : Option Addr} {c3 : Nat} {A4 : Option Addr} {c4 : Nat} {A5 : Option Addr} {c5 : Nat} (h : At w x A3 c3 A4 c4 A5 c5) {l : List S26} {A : Option Addr} {c : Nat} (hl : l.length ≤ c) (hr : Kd.C k26 w A l.length l) : At w ⟨x.f0, x.f1, x.f2, x.f3, x.f4, l⟩ A3 c3 A4 c4 A c := ⟨h.l3, h.g3, h.l4, h.g4, hl, hr⟩
structure S12 (w W : World) (x : S26) (A3 : Option Addr) (c3 : Nat) (A4 : Option Addr) (c4 : Nat) (A5 : Option Addr) (c5 : Nat) (y : S26) (B3 : Option Addr) (d3 : Nat) (B4 : Option Addr) (d4 : Nat) (B5 : Option Addr) (d5 : Nat) (t : S47) : Prop where
  two : St2 w W w.heap.size x A3 c3 A4 c4 A5 c5 (w.heap.size + 1) y B3 d3 B4 d4 B5 d5
  tb : W.heap[w.heap.size + 1 + 1]? = some (.cells #[.int .i64 t.f0, .string t.f1, .int .i64 t.f2] 47 (0, 0))
section
variable {w W : World} {x : S26} {A3 : Option Addr} {c3 : Nat} {A4 : Option Addr} {c4 : Nat} {A5 : Option Addr} {c5 : Nat} {y : S26} {B3 : Option Addr} {d3 : Nat} {B4 : Option Addr} {d4 : Nat} {B5 : Option Addr} {d5 : Nat} {t : S47}
theorem S12.below (h : S12 w W x A3 c3 A4 c4 A5 c5 y B3 d3 B4 d4 B5 d5 t) {w1 : World} (g : Below W.heap.size W w1) : S12 w w1 x A3 c3 A4 c4 A5 c5 y B3 d3 B4 d4 B5 d5 t := ⟨h.two.below g, blk_below g h.tb⟩
theorem S12.drew (h : S12 w W x A3 c3 A4 c4 A5 c5 y B3 d3 B4 d4 B5 d5 t) : S12 w W.drew x A3 c3 A4 c4 A5 c5 y B3 d3 B4 d4 B5 d5 t := h.below (below_drew (Below.refl _ _))
theorem S12.tt (h : S12 w W x A3 c3 A4 c4 A5 c5 y B3 d3 B4 d4 B5 d5 t) : W.cell? ⟨w.heap.size + 1 + 1, 0, none⟩ = some (.int .i64 t.f0) ∧ W.cell? ⟨w.heap.size + 1 + 1, 1, none⟩ = some (.string t.f1) ∧ W.cell? ⟨w.heap.size + 1 + 1, 2, none⟩ = some (.int .i64 t.f2) :=
  ⟨(blk_cell h.tb 0).trans rfl, (blk_cell h.tb 1).trans rfl, (blk_cell h.tb 2).trans rfl⟩
theorem S12.start (h : At w x A3 c3 A4 c4 A5 c5) (h' : At w y B3 d3 B4 d4 B5 d5) : S12 w (((w.alloc (.cells #[.int .i64 x.f0, .string x.f1, .int .i64 x.f2, .slice A3 x.f3.length c3, .slice A4 x.f4.length c4, .slice A5 x.f5.length c5] 26)).alloc (.cells #[.int .i64 y.f0, .string y.f1, .int .i64 y.f2, .slice B3 y.f3.length d3, .slice B4 y.f4.length d4, .slice B5 y.f5.length d5] 26)).alloc (.cells #[.int .i64 t.f0, .string t.f1, .int .i64 t.f2] 47)) x A3 c3 A4 c4 A5 c5 y B3 d3 B4 d4 B5 d5 t :=
  ⟨(St2.start h h').below (up1 _ _), by have := heap_new ((w.alloc (.cells #[.int .i64 x.f0, .string x.f1, .int .i64 x.f2, .slice A3 x.f3.length c3, .slice A4 x.f4.length c4, .slice A5 x.f5.length c5] 26)).alloc (.cells #[.int .i64 y.f0, .string y.f1, .int .i64 y.f2, .slice B3 y.f3.length d3, .slice B4 y.f4.length d4, .slice B5 y.f5.length d5] 26)) (.cells #[.int .i64 t.f0, .string t.f1, .int .i64 t.f2] 47); simpa using this⟩
end
theorem differ_kind (x : S26) {k : Int} (h : k ≠ x.f0) : same x ⟨k, x.f1, x.f2, x.f3, x.f4, x.f5⟩ = false := same_ne fun e => h (by rw [e])
theorem differ_name (x : S26) {s : ByteArray} (h : s ≠ x.f1) : same x ⟨x.f0, s, x.f2, x.f3, x.f4, x.f5⟩ = false := same_ne fun e => h (by rw [e])
theorem differ_num (x : S26) {n : Int} (h : n ≠ x.f2) : same ⟨x.f0, x.f1, n, x.f3, x.f4, x.f5⟩ x = false := same_ne fun e => h (by rw [← e])
theorem differ_terms (x : S26) (t : S47) : same x ⟨x.f0, x.f1, x.f2, x.f3 ++ [t], x.f4, x.f5⟩ = false := same_ne fun e => by
  have := congrArg (fun z : S26 => z.f3.length) e
  simp at this
theorem differ_forms (x y : S26) : same ⟨x.f0, x.f1, x.f2, x.f3, x.f4, x.f5 ++ [y]⟩ x = false := same_ne fun e => by
  have := congrArg (fun z : S26 => z.f5.length) e
  simp at this
theorem wrap_ne (k : Int) (h : I64 k) : IntKind.i64.wrap (k + 1) ≠ k := by
  have h1 : IntKind.i64.min = -9223372036854775808 := rfl
  have h2 : IntKind.i64.max = 9223372036854775807 := rfl
  unfold I64 Lit.wf at h
  simp [h1, h2] at h
  by_cases hm : k = 9223372036854775807
  · subst hm; decide
  · rw [IntWalk.i64_in _ (by omega)]; omega
theorem name_ne (s : ByteArray) : s ++ ⟨#[120]⟩ ≠ s := fun e => by
  have := congrArg ByteArray.size e
  rw [ByteArray.size_append] at this
  have h1 : (⟨#[120]⟩ : ByteArray).size = 1 := rfl
  omega
theorem sameK (x : S26) (A3 : Option Addr) (c3 : Nat) (A4 : Option Addr) (c4 : Nat) (A5 : Option Addr) (c5 : Nat) (ka : Int) (h : ka ≠ x.f0) (W : World) (hx : At W x A3 c3 A4 c4 A5 c5) (hx2 : At W ⟨ka, x.f1, x.f2, x.f3, x.f4, x.f5⟩ A3 c3 A4 c4 A5 c5) :
    Calls Tryd.prog 30 #[.agg #[.int .i64 x.f0, .string x.f1, .int .i64 x.f2, .slice A3 x.f3.length c3, .slice A4 x.f4.length c4, .slice A5 x.f5.length c5], .agg #[.int .i64 ka, .string x.f1, .int .i64 x.f2, .slice A3 x.f3.length c3, .slice A4 x.f4.length c4, .slice A5 x.f5.length c5]] W fun e w' => e = .returned (.bool false) ∧ Below W.heap.size W w' := by
  have := same_calls x ⟨ka, x.f1, x.f2, x.f3, x.f4, x.f5⟩ A3 c3 A4 c4 A5 c5 A3 c3 A4 c4 A5 c5 W hx hx2
  rw [differ_kind x h] at this
  exact this
theorem sameS (x : S26) (A3 : Option Addr) (c3 : Nat) (A4 : Option Addr) (c4 : Nat) (A5 : Option Addr) (c5 : Nat) (sb : ByteArray) (h : sb ≠ x.f1) (W : World) (hx : At W x A3 c3 A4 c4 A5 c5) (hx2 : At W ⟨x.f0, sb, x.f2, x.f3, x.f4, x.f5⟩ A3 c3 A4 c4 A5 c5) :
    Calls Tryd.prog 30 #[.agg #[.int .i64 x.f0, .string x.f1, .int .i64 x.f2, .slice A3 x.f3.length c3, .slice A4 x.f4.length c4, .slice A5 x.f5.length c5], .agg #[.int .i64 x.f0, .string sb, .int .i64 x.f2, .slice A3 x.f3.length c3, .slice A4 x.f4.length c4, .slice A5 x.f5.length c5]] W fun e w' => e = .returned (.bool false) ∧ Below W.heap.size W w' := by
  have := same_calls x ⟨x.f0, sb, x.f2, x.f3, x.f4, x.f5⟩ A3 c3 A4 c4 A5 c5 A3 c3 A4 c4 A5 c5 W hx hx2
  rw [differ_name x h] at this
  exact this
theorem sameM (x : S26) (A3 : Option Addr) (c3 : Nat) (A4 : Option Addr) (c4 : Nat) (A5 : Option Addr) (c5 : Nat) (nc : Int) (h : nc ≠ x.f2) (W : World) (hx : At W x A3 c3 A4 c4 A5 c5) (hx2 : At W ⟨x.f0, x.f1, nc, x.f3, x.f4, x.f5⟩ A3 c3 A4 c4 A5 c5) :
    Calls Tryd.prog 30 #[.agg #[.int .i64 x.f0, .string x.f1, .int .i64 nc, .slice A3 x.f3.length c3, .slice A4 x.f4.length c4, .slice A5 x.f5.length c5], .agg #[.int .i64 x.f0, .string x.f1, .int .i64 x.f2, .slice A3 x.f3.length c3, .slice A4 x.f4.length c4, .slice A5 x.f5.length c5]] W fun e w' => e = .returned (.bool false) ∧ Below W.heap.size W w' := by
  have := same_calls ⟨x.f0, x.f1, nc, x.f3, x.f4, x.f5⟩ x A3 c3 A4 c4 A5 c5 A3 c3 A4 c4 A5 c5 W hx2 hx
  rw [differ_num x h] at this
  exact this
theorem sameT (x : S26) (A3 : Option Addr) (c3 : Nat) (A4 : Option Addr) (c4 : Nat) (A5 : Option Addr) (c5 : Nat) (t : S47) (ts : List S47) (h : [] ++ x.f3 ++ [t] = ts) (TA : Option Addr) (tc : Nat) (W : World) (hx : At W x A3 c3 A4 c4 A5 c5) (hx2 : At W ⟨x.f0, x.f1, x.f2, ts, x.f4, x.f5⟩ TA tc A4 c4 A5 c5) :
    Calls Tryd.prog 30 #[.agg #[.int .i64 x.f0, .string x.f1, .int .i64 x.f2, .slice A3 x.f3.length c3, .slice A4 x.f4.length c4, .slice A5 x.f5.length c5], .agg #[.int .i64 x.f0, .string x.f1, .int .i64 x.f2, .slice TA ts.length tc, .slice A4 x.f4.length c4, .slice A5 x.f5.length c5]] W fun e w' => e = .returned (.bool false) ∧ Below W.heap.size W w' := by
  have := same_calls x ⟨x.f0, x.f1, x.f2, ts, x.f4, x.f5⟩ A3 c3 A4 c4 A5 c5 TA tc A4 c4 A5 c5 W hx hx2
  rw [← h, List.nil_append, differ_terms x t] at this
  rw [← h, List.nil_append]
  exact this
theorem sameL (x : S26) (A3 : Option Addr) (c3 : Nat) (A4 : Option Addr) (c4 : Nat) (A5 : Option Addr) (c5 : Nat) (y : S26) (ls : List S26) (h : [] ++ x.f5 ++ [y] = ls) (LA : Option Addr) (lc : Nat) (W : World) (hx : At W x A3 c3 A4 c4 A5 c5) (hx2 : At W ⟨x.f0, x.f1, x.f2, x.f3, x.f4, ls⟩ A3 c3 A4 c4 LA lc) :
    Calls Tryd.prog 30 #[.agg #[.int .i64 x.f0, .string x.f1, .int .i64 x.f2, .slice A3 x.f3.length c3, .slice A4 x.f4.length c4, .slice LA ls.length lc], .agg #[.int .i64 x.f0, .string x.f1, .int .i64 x.f2, .slice A3 x.f3.length c3, .slice A4 x.f4.length c4, .slice A5 x.f5.length c5]] W fun e w' => e = .returned (.bool false) ∧ Below W.heap.size W w' := by
  have := same_calls ⟨x.f0, x.f1, x.f2, x.f3, x.f4, ls⟩ x A3 c3 A4 c4 LA lc A3 c3 A4 c4 A5 c5 W hx2 hx
  rw [← h, List.nil_append, differ_forms x y] at this
  rw [← h, List.nil_append]
  exact this
end Go.Proofs.YtmlcaecknocpoaaDoor.It
namespace Go.Proofs.YtmlcaecknocpoaaDoor.It
set_option linter.unusedVariables false
set_option linter.unusedSimpArgs false
open Go Go.RowKit Go.Shelf Go.Proofs.YtmlcaecknocpoaaDoorW.PrintWords Go.Proofs.YtmlcaecknocpoaaDoorW.PrintLast Go.Proofs.YtmlcaecknocpoaaDoor.Pr Go.Proofs.YtmlcaecknocpoaaDoor.Sp
attribute [local go_sem ↓] Go.wp_at_zero Go.wp_at_succ
set_option maxRecDepth 100000 in
set_option maxHeartbeats 8000000 in
theorem law12_few1 (x y : S26) (t : S47) (A3 : Option Addr) (c3 : Nat) (A4 : Option Addr) (c4 : Nat) (A5 : Option Addr) (c5 : Nat) (B3 : Option Addr) (d3 : Nat) (B4 : Option Addr) (d4 : Nat) (B5 : Option Addr) (d5 : Nat) (w : World) (ha : Arg w x A3 c3 A4 c4 A5 c5) (hb : Arg w y B3 d3 B4 d4 B5 d5) (ht : Tabs w) (hd : Duals w) (hfa : ∀ W, Below w.heap.size w W → Calls Tryd.prog 21 #[.agg #[.int .i64 x.f0, .string x.f1, .int .i64 x.f2, .slice A3 x.f3.length c3, .slice A4 x.f4.length c4, .slice A5 x.f5.length c5]] W fun e w' => e = .returned (.bool false) ∧ Below W.heap.size W w') :
    Calls Tryd.prog 12 #[.agg #[.int .i64 x.f0, .string x.f1, .int .i64 x.f2, .slice A3 x.f3.length c3, .slice A4 x.f4.length c4, .slice A5 x.f5.length c5], .agg #[.int .i64 y.f0, .string y.f1, .int .i64 y.f2, .slice B3 y.f3.length d3, .slice B4 y.f4.length d4, .slice B5 y.f5.length d5], .agg #[.int .i64 t.f0, .string t.f1, .int .i64 t.f2]] w fun e w' => e = .returned (.bool true) ∧ Below w.heap.size w w' := by
  have hu26 := Tryd.underlying26
  have C20 := Aside0.mk (fun W (h : S12 w W x A3 c3 A4 c4 A5 c5 y B3 d3 B4 d4 B5 d5 t) => live_calls W (ht.below h.two.b) (hd.below h.two.b))
  have C21 := Aside0.mk (fun W (h : S12 w W x A3 c3 A4 c4 A5 c5 y B3 d3 B4 d4 B5 d5 t) => hfa W h.two.b)
  have T0 := Aside0.mk (S12.start (t := t) ha.at_ hb.at_)
  clear ha hb ht hd hfa
  go_enter Tryd.func12, Tryd.ntmps12
  go_wp2_with (first
    | (go_at_call 20; (with_reducible refine (C20.out _ T0.out).mono ?_); rintro e w1 ⟨rfl, g⟩; have T1 := Aside0.mk (T0.out.below g); clear g; obtain ⟨p0, p1, p2, p3, p4, p5⟩ := T1.out.two.bx.six; obtain ⟨q0, q1, q2, q3, q4, q5⟩ := T1.out.two.byy.six)
    | (go_at_call 21; (with_reducible refine (C21.out _ T1.out).mono ?_); rintro e w2 ⟨rfl, g⟩; have T2 := Aside0.mk (T1.out.below g); clear g p0 p1 p2 p3 p4 p5 q0 q1 q2 q3 q4 q5; obtain ⟨p0, p1, p2, p3, p4, p5⟩ := T2.out.two.bx.six; obtain ⟨q0, q1, q2, q3, q4, q5⟩ := T2.out.two.byy.six))
  go_ret
  exact ⟨rfl, T2.out.two.b⟩
set_option maxRecDepth 100000 in
set_option maxHeartbeats 8000000 in
theorem law12_few2 (x y : S26) (t : S47) (A3 : Option Addr) (c3 : Nat) (A4 : Option Addr) (c4 : Nat) (A5 : Option Addr) (c5 : Nat) (B3 : Option Addr) (d3 : Nat) (B4 : Option Addr) (d4 : Nat) (B5 : Option Addr) (d5 : Nat) (w : World) (ha : Arg w x A3 c3 A4 c4 A5 c5) (hb : Arg w y B3 d3 B4 d4 B5 d5) (ht : Tabs w) (hd : Duals w) (hfa : ∀ W, Below w.heap.size w W → Calls Tryd.prog 21 #[.agg #[.int .i64 x.f0, .string x.f1, .int .i64 x.f2, .slice A3 x.f3.length c3, .slice A4 x.f4.length c4, .slice A5 x.f5.length c5]] W fun e w' => e = .returned (.bool true) ∧ Below W.heap.size W w') (hfb : ∀ W, Below w.heap.size w W → Calls Tryd.prog 21 #[.agg #[.int .i64 y.f0, .string y.f1, .int .i64 y.f2, .slice B3 y.f3.length d3, .slice B4 y.f4.length d4, .slice B5 y.f5.length d5]] W fun e w' => e = .returned (.bool false) ∧ Below W.heap.size W w') :
    Calls Tryd.prog 12 #[.agg #[.int .i64 x.f0, .string x.f1, .int .i64 x.f2, .slice A3 x.f3.length c3, .slice A4 x.f4.length c4, .slice A5 x.f5.length c5], .agg #[.int .i64 y.f0, .string y.f1, .int .i64 y.f2, .slice B3 y.f3.length d3, .slice B4 y.f4.length d4, .slice B5 y.f5.length d5], .agg #[.int .i64 t.f0, .string t.f1, .int .i64 t.f2]] w fun e w' => e = .returned (.bool true) ∧ Below w.heap.size w w' := by
  have hu26 := Tryd.underlying26
  have C20 := Aside0.mk (fun W (h : S12 w W x A3 c3 A4 c4 A5 c5 y B3 d3 B4 d4 B5 d5 t) => live_calls W (ht.below h.two.b) (hd.below h.two.b))
  have C21 := Aside0.mk (fun W (h : S12 w W x A3 c3 A4 c4 A5 c5 y B3 d3 B4 d4 B5 d5 t) => hfa W h.two.b)
  have D21 := Aside0.mk (fun W (h : S12 w W x A3 c3 A4 c4 A5 c5 y B3 d3 B4 d4 B5 d5 t) => hfb W h.two.b)
  have T0 := Aside0.mk (S12.start (t := t) ha.at_ hb.at_)
  clear ha hb ht hd hfa hfb
  go_enter Tryd.func12, Tryd.ntmps12
  go_wp2_with (first
    | (go_at_call 20; (with_reducible refine (C20.out _ T0.out).mono ?_); rintro e w1 ⟨rfl, g⟩; have T1 := Aside0.mk (T0.out.below g); clear g; obtain ⟨p0, p1, p2, p3, p4, p5⟩ := T1.out.two.bx.six; obtain ⟨q0, q1, q2, q3, q4, q5⟩ := T1.out.two.byy.six)
    | (go_at_call 21; (with_reducible refine (C21.out _ T1.out).mono ?_); rintro e w2 ⟨rfl, g⟩; have T2 := Aside0.mk (T1.out.below g); clear g p0 p1 p2 p3 p4 p5 q0 q1 q2 q3 q4 q5; obtain ⟨p0, p1, p2, p3, p4, p5⟩ := T2.out.two.bx.six; obtain ⟨q0, q1, q2, q3, q4, q5⟩ := T2.out.two.byy.six)
    | (go_at_call 21; (with_reducible refine (D21.out _ T2.out).mono ?_); rintro e w3 ⟨rfl, g⟩; have T3 := Aside0.mk (T2.out.below g); clear g p0 p1 p2 p3 p4 p5 q0 q1 q2 q3 q4 q5))
  go_ret
  exact ⟨rfl, T3.out.two.b⟩
end Go.Proofs.YtmlcaecknocpoaaDoor.It
namespace Go.Proofs.YtmlcaecknocpoaaDoor.It
set_option linter.unusedVariables false
set_option linter.unusedSimpArgs false
open Go Go.RowKit Go.Shelf Go.Proofs.YtmlcaecknocpoaaDoorW.PrintWords Go.Proofs.YtmlcaecknocpoaaDoorW.PrintLast Go.Proofs.YtmlcaecknocpoaaDoor.Pr Go.Proofs.YtmlcaecknocpoaaDoor.Sp
attribute [local go_sem ↓] Go.wp_at_zero Go.wp_at_succ
set_option maxRecDepth 100000 in
set_option maxHeartbeats 8000000 in
theorem law12_main (x y : S26) (t : S47) (A3 : Option Addr) (c3 : Nat) (A4 : Option Addr) (c4 : Nat) (A5 : Option Addr) (c5 : Nat) (B3 : Option Addr) (d3 : Nat) (B4 : Option Addr) (d4 : Nat) (B5 : Option Addr) (d5 : Nat) (w : World) (ha : Arg w x A3 c3 A4 c4 A5 c5) (hb : Arg w y B3 d3 B4 d4 B5 d5) (ht : Tabs w) (hd : Duals w) (hw : wt26 x + wt26 y ≤ 1048576) (hnm : x.f1.size ≤ 1048576) (hfa : ∀ W, Below w.heap.size w W → Calls Tryd.prog 21 #[.agg #[.int .i64 x.f0, .string x.f1, .int .i64 x.f2, .slice A3 x.f3.length c3, .slice A4 x.f4.length c4, .slice A5 x.f5.length c5]] W fun e w' => e = .returned (.bool true) ∧ Below W.heap.size W w') (hfb : ∀ W, Below w.heap.size w W → Calls Tryd.prog 21 #[.agg #[.int .i64 y.f0, .string y.f1, .int .i64 y.f2, .slice B3 y.f3.length d3, .slice B4 y.f4.length d4, .slice B5 y.f5.length d5]] W fun e w' => e = .returned (.bool true) ∧ Below W.heap.size W w') :
    Calls Tryd.prog 12 #[.agg #[.int .i64 x.f0, .string x.f1, .int .i64 x.f2, .slice A3 x.f3.length c3, .slice A4 x.f4.length c4, .slice A5 x.f5.length c5], .agg #[.int .i64 y.f0, .string y.f1, .int .i64 y.f2, .slice B3 y.f3.length d3, .slice B4 y.f4.length d4, .slice B5 y.f5.length d5], .agg #[.int .i64 t.f0, .string t.f1, .int .i64 t.f2]] w fun e w' => e = .returned (.bool true) ∧ Below w.heap.size w w' := by
  have hu26 := Tryd.underlying26
  have hu47 := Tryd.underlying47
  have C20 := Aside0.mk (fun W (h : S12 w W x A3 c3 A4 c4 A5 c5 y B3 d3 B4 d4 B5 d5 t) => live_calls W (ht.below h.two.b) (hd.below h.two.b))
  have C21 := Aside0.mk (fun W (h : S12 w W x A3 c3 A4 c4 A5 c5 y B3 d3 B4 d4 B5 d5 t) => hfa W h.two.b)
  have D21 := Aside0.mk (fun W (h : S12 w W x A3 c3 A4 c4 A5 c5 y B3 d3 B4 d4 B5 d5 t) => hfb W h.two.b)
  obtain ⟨ka, hka⟩ : ∃ v, IntKind.i64.wrap (x.f0 + 1) = v := ⟨_, rfl⟩
  have HKA := Aside0.mk (hka ▸ wrap_ne x.f0 ha.deep.self.k)
  obtain ⟨nc, hnc⟩ : ∃ v, IntKind.i64.wrap (x.f2 + 1) = v := ⟨_, rfl⟩
  have HNC := Aside0.mk (hnc ▸ wrap_ne x.f2 ha.deep.self.n)
  obtain ⟨sb, hsb⟩ : ∃ v, x.f1 ++ ⟨#[120]⟩ = v := ⟨_, rfl⟩
  have HSB := Aside0.mk (hsb ▸ name_ne x.f1)
  have HEQ : Aside0 (same x y = true → size y = size x ∧ depth y = depth x ∧ check y = check x ∧ free y = free x) := ⟨fun h => by obtain rfl := (same_iff x y).1 h; exact ⟨rfl, rfl, rfl, rfl⟩⟩
  have C30 := Aside0.mk (fun W (h : S12 w W x A3 c3 A4 c4 A5 c5 y B3 d3 B4 d4 B5 d5 t) => same_calls x y A3 c3 A4 c4 A5 c5 B3 d3 B4 d4 B5 d5 W h.two.bx.at_ h.two.byy.at_)
  have D30 := Aside0.mk (fun W (h : S12 w W x A3 c3 A4 c4 A5 c5 y B3 d3 B4 d4 B5 d5 t) => same_calls y x B3 d3 B4 d4 B5 d5 A3 c3 A4 c4 A5 c5 W h.two.byy.at_ h.two.bx.at_)
  have C24 := Aside0.mk (fun W (h : S12 w W x A3 c3 A4 c4 A5 c5 y B3 d3 B4 d4 B5 d5 t) => size_calls x A3 c3 A4 c4 A5 c5 W h.two.bx.at_ ha.size ha.deep)
  have D24 := Aside0.mk (fun W (h : S12 w W x A3 c3 A4 c4 A5 c5 y B3 d3 B4 d4 B5 d5 t) => size_calls y B3 d3 B4 d4 B5 d5 W h.two.byy.at_ hb.size hb.deep)
  have C26 := Aside0.mk (fun W (h : S12 w W x A3 c3 A4 c4 A5 c5 y B3 d3 B4 d4 B5 d5 t) => depth_calls x A3 c3 A4 c4 A5 c5 W h.two.bx.at_ ha.size)
  have D26 := Aside0.mk (fun W (h : S12 w W x A3 c3 A4 c4 A5 c5 y B3 d3 B4 d4 B5 d5 t) => depth_calls y B3 d3 B4 d4 B5 d5 W h.two.byy.at_ hb.size)
  have C22 := Aside0.mk (fun W (h : S12 w W x A3 c3 A4 c4 A5 c5 y B3 d3 B4 d4 B5 d5 t) => check_calls x A3 c3 A4 c4 A5 c5 W h.two.bx.at_ ha.size ha.deep (ht.below h.two.b))
  have D22 := Aside0.mk (fun W (h : S12 w W x A3 c3 A4 c4 A5 c5 y B3 d3 B4 d4 B5 d5 t) => check_calls y B3 d3 B4 d4 B5 d5 W h.two.byy.at_ hb.size hb.deep (ht.below h.two.b))
  have C28 := Aside0.mk (fun W (h : S12 w W x A3 c3 A4 c4 A5 c5 y B3 d3 B4 d4 B5 d5 t) => free_at x A3 c3 A4 c4 A5 c5 W h.two.bx.at_ ha.deep ha.nb ha.nt)
  have D28 := Aside0.mk (fun W (h : S12 w W x A3 c3 A4 c4 A5 c5 y B3 d3 B4 d4 B5 d5 t) => free_at y B3 d3 B4 d4 B5 d5 W h.two.byy.at_ hb.deep hb.nb hb.nt)
  rw [same_symm y x] at D30
  obtain ⟨sm, e_sm⟩ : ∃ v, same x y = v := ⟨_, rfl⟩
  rw [e_sm] at C30 D30 HEQ
  obtain ⟨sx, e_sx⟩ : ∃ v, size x = v := ⟨_, rfl⟩
  obtain ⟨sy, e_sy⟩ : ∃ v, size y = v := ⟨_, rfl⟩
  rw [e_sx] at C24
  rw [e_sy] at D24
  rw [e_sx, e_sy] at HEQ
  obtain ⟨dx, e_dx⟩ : ∃ v, depth x = v := ⟨_, rfl⟩
  obtain ⟨dy, e_dy⟩ : ∃ v, depth y = v := ⟨_, rfl⟩
  rw [e_dx] at C26
  rw [e_dy] at D26
  rw [e_dx, e_dy] at HEQ
  obtain ⟨kx, e_kx⟩ : ∃ v, check x = v := ⟨_, rfl⟩
  obtain ⟨ky, e_ky⟩ : ∃ v, check y = v := ⟨_, rfl⟩
  rw [e_kx] at C22
  rw [e_ky] at D22
  rw [e_kx, e_ky] at HEQ
  obtain ⟨fx, e_fx⟩ : ∃ v, free x = v := ⟨_, rfl⟩
  obtain ⟨fy, e_fy⟩ : ∃ v, free y = v := ⟨_, rfl⟩
  rw [e_fx] at C28
  rw [e_fy] at D28
  rw [e_fx, e_fy] at HEQ
  have HR3 := Aside0.mk ha.at_.g3
  have HY := Aside0.mk hb.at_.K
  have HR5 := Aside0.mk ha.at_.g5
  have l3 : x.f3.length ≤ 1000000 := Nat.le_trans (nodes_le x x (by rw [nodes_eq]; exact .head _)).1 ha.nt
  have l5 : x.f5.length ≤ 1048576 := by have := len_sizes x.f5; have := size_eq x; unfold wt26 at hw; omega
  have T0 := Aside0.mk (S12.start (t := t) ha.at_ hb.at_)
  clear ha hb ht hd hfa hfb e_sm e_sx e_sy e_dx e_dy e_kx e_ky e_fx e_fy
  go_enter Tryd.func12, Tryd.ntmps12
  go_upto_region 5 with (first
    | (go_at_call 20; (with_reducible refine (C20.out _ T0.out).mono ?_); rintro e w1 ⟨rfl, g⟩; have T1 := Aside0.mk (T0.out.below g); clear g; obtain ⟨p0, p1, p2, p3, p4, p5⟩ := T1.out.two.bx.six; obtain ⟨q0, q1, q2, q3, q4, q5⟩ := T1.out.two.byy.six)
    | (go_at_call 21; (with_reducible refine (C21.out _ T1.out).mono ?_); rintro e w2 ⟨rfl, g⟩; have T2 := Aside0.mk (T1.out.below g); clear g p0 p1 p2 p3 p4 p5 q0 q1 q2 q3 q4 q5; obtain ⟨p0, p1, p2, p3, p4, p5⟩ := T2.out.two.bx.six; obtain ⟨q0, q1, q2, q3, q4, q5⟩ := T2.out.two.byy.six)
    | (go_at_call 21; (with_reducible refine (D21.out _ T2.out).mono ?_); rintro e w3 ⟨rfl, g⟩; have T3 := Aside0.mk (T2.out.below g); clear g p0 p1 p2 p3 p4 p5 q0 q1 q2 q3 q4 q5))
  have T := T3
  clear T0 T1 T2 T3 C20 C21 D21
  have U := Aside0.mk (T.out.below (up1 w3 (.cells #[.int .i64 x.f0, .string x.f1, .int .i64 x.f2, .slice A3 x.f3.length c3, .slice A4 x.f4.length c4, .slice A5 x.f5.length c5] 26)))
  obtain ⟨p0, p1, p2, p3, p4, p5⟩ := T.out.two.bx.six
  obtain ⟨u0, u1, u2, u3, u4, u5⟩ := U.out.two.bx.six
  go_upto_region 7 with fail
  refine wp_at (fun W => S12 w W x A3 c3 A4 c4 A5 c5 y B3 d3 B4 d4 B5 d5 t ∧ BoxF W w3.heap.size ⟨ka, x.f1, x.f2, x.f3, x.f4, x.f5⟩ A3 c3 A4 c4 A5 c5) ?_ fun w4 hS => ?_
  · exact ⟨T.out.below (up1 w3 _), ⟨heap_new w3 _, (T.out.below (up1 w3 _)).two.bx.at_.own _ _ _⟩⟩
  clear T U  p0 p1 p2 p3 p4 p5 u0 u1 u2 u3 u4 u5
  obtain ⟨T, H0⟩ := hS
  replace T := Aside0.mk T; replace H0 := Aside0.mk H0
  have U := Aside0.mk (T.out.below (up1 w4 (.cells #[.int .i64 x.f0, .string x.f1, .int .i64 x.f2, .slice A3 x.f3.length c3, .slice A4 x.f4.length c4, .slice A5 x.f5.length c5] 26)))
  obtain ⟨p0, p1, p2, p3, p4, p5⟩ := T.out.two.bx.six
  obtain ⟨u0, u1, u2, u3, u4, u5⟩ := U.out.two.bx.six
  go_upto_region 9 with fail
  refine wp_at (fun W => S12 w W x A3 c3 A4 c4 A5 c5 y B3 d3 B4 d4 B5 d5 t ∧ BoxF W w3.heap.size ⟨ka, x.f1, x.f2, x.f3, x.f4, x.f5⟩ A3 c3 A4 c4 A5 c5 ∧ BoxF W w4.heap.size ⟨x.f0, sb, x.f2, x.f3, x.f4, x.f5⟩ A3 c3 A4 c4 A5 c5) ?_ fun w5 hS => ?_
  · exact ⟨T.out.below (up1 w4 _), H0.out.below (up1 w4 _), ⟨heap_new w4 _, (T.out.below (up1 w4 _)).two.bx.at_.own _ _ _⟩⟩
  clear T U H0 p0 p1 p2 p3 p4 p5 u0 u1 u2 u3 u4 u5
  obtain ⟨T, H0, H1⟩ := hS
  replace T := Aside0.mk T; replace H0 := Aside0.mk H0; replace H1 := Aside0.mk H1
  have U := Aside0.mk (T.out.below (up1 w5 (.cells #[.int .i64 x.f0, .string x.f1, .int .i64 x.f2, .slice A3 x.f3.length c3, .slice A4 x.f4.length c4, .slice A5 x.f5.length c5] 26)))
  obtain ⟨p0, p1, p2, p3, p4, p5⟩ := T.out.two.bx.six
  obtain ⟨u0, u1, u2, u3, u4, u5⟩ := U.out.two.bx.six
  go_upto_region 11 with fail
  refine wp_at (fun W => S12 w W x A3 c3 A4 c4 A5 c5 y B3 d3 B4 d4 B5 d5 t ∧ BoxF W w3.heap.size ⟨ka, x.f1, x.f2, x.f3, x.f4, x.f5⟩ A3 c3 A4 c4 A5 c5 ∧ BoxF W w4.heap.size ⟨x.f0, sb, x.f2, x.f3, x.f4, x.f5⟩ A3 c3 A4 c4 A5 c5 ∧ BoxF W w5.heap.size ⟨x.f0, x.f1, nc, x.f3, x.f4, x.f5⟩ A3 c3 A4 c4 A5 c5) ?_ fun w6 hS => ?_
  · exact ⟨T.out.below (up1 w5 _), H0.out.below (up1 w5 _), H1.out.below (up1 w5 _), ⟨heap_new w5 _, (T.out.below (up1 w5 _)).two.bx.at_.own _ _ _⟩⟩
  clear T U H0 H1 p0 p1 p2 p3 p4 p5 u0 u1 u2 u3 u4 u5
  obtain ⟨T, H0, H1, H2⟩ := hS
  replace T := Aside0.mk T; replace H0 := Aside0.mk H0; replace H1 := Aside0.mk H1; replace H2 := Aside0.mk H2
  have U := Aside0.mk (T.out.below (up1 w6 (.cells #[.int .i64 x.f0, .string x.f1, .int .i64 x.f2, .slice A3 x.f3.length c3, .slice A4 x.f4.length c4, .slice A5 x.f5.length c5] 26)))
  obtain ⟨p0, p1, p2, p3, p4, p5⟩ := T.out.two.bx.six
  obtain ⟨u0, u1, u2, u3, u4, u5⟩ := U.out.two.bx.six
  go_upto_region 12 with fail
  refine wp_at (fun W => S12 w W x A3 c3 A4 c4 A5 c5 y B3 d3 B4 d4 B5 d5 t ∧ Below w6.heap.size w6 W ∧ BoxF W w3.heap.size ⟨ka, x.f1, x.f2, x.f3, x.f4, x.f5⟩ A3 c3 A4 c4 A5 c5 ∧ BoxF W w4.heap.size ⟨x.f0, sb, x.f2, x.f3, x.f4, x.f5⟩ A3 c3 A4 c4 A5 c5 ∧ BoxF W w5.heap.size ⟨x.f0, x.f1, nc, x.f3, x.f4, x.f5⟩ A3 c3 A4 c4 A5 c5 ∧ BoxF W w6.heap.size x A3 c3 A4 c4 A5 c5) ?_ fun w7 hS => ?_
  · exact ⟨T.out.below (up1 w6 _), (up1 w6 _), H0.out.below (up1 w6 _), H1.out.below (up1 w6 _), H2.out.below (up1 w6 _), ⟨heap_new w6 _, (T.out.below (up1 w6 _)).two.bx.at_⟩⟩
  have K := T; have K0 := H0; have K1 := H1; have K2 := H2
  clear T U H0 H1 H2 p0 p1 p2 p3 p4 p5 u0 u1 u2 u3 u4 u5
  obtain ⟨T, G, H0, H1, H2, H3⟩ := hS
  replace T := Aside0.mk T; replace G := Aside0.mk G; replace H0 := Aside0.mk H0; replace H1 := Aside0.mk H1; replace H2 := Aside0.mk H2; replace H3 := Aside0.mk H3
  have U := Aside0.mk (T.out.below (up1 w7 (.cells #[] 47)))
  obtain ⟨u0, u1, u2, u3, u4, u5⟩ := U.out.two.bx.six
  go_upto_region 13 with ((with_reducible refine gate_builtin (b := .append) (xs := #[.tmp 40, .tmp 42]) rfl ?_); at_builtin; refine own_append_rows (R := k47.K w) (w0 := w7) w7.heap.size rfl (.tmp 40) (.tmp 42) 22 47 (.agg #[(.int .i64 0), (.string ⟨#[]⟩), (.int .i64 0)]) 3 32 rfl Tryd.underlying22 info47 rfl (by decide) (by decide) _ ([] : List S47) x.f3 _ _ _ rfl rfl ?aO ?aR ?a1 ?aB ?aS ?aL ?_; (case aO => exact OwnRow.lit w7 w7.heap.size (inner := []) (Reps.none _ _) (Nat.le_refl _) (by simp)); (case aR => exact HR3.out.imp_ U.out.two.b (fun _ _ h => h)); (case a1 => exact fun p cs h => k47.K_one h); (case aB => exact up1 w7 _); (case aS => simp); (case aL => simp; omega); intro v1 w8 ho hb hg; replace ho := Aside0.mk ho; replace hb := Aside0.mk hb; clear hg)
  clear U u0 u1 u2 u3 u4 u5
  have U := Aside0.mk (T.out.below hb.out)
  obtain ⟨t0, t1, t2⟩ := U.out.tt
  go_upto_region 14 with ((with_reducible refine gate_builtin (b := .append) (xs := #[.tmp 44, .tmp 46]) rfl ?_); at_builtin; refine OwnRow.append (R := k47.K w) (w0 := w7) w7.heap.size rfl (.tmp 44) (.tmp 46) 22 47 (.agg #[(.int .i64 0), (.string ⟨#[]⟩), (.int .i64 0)]) 3 32 rfl Tryd.underlying22 info47 rfl (by decide) (by decide) v1 ([] ++ x.f3) t [.int .i64 t.f0, .string t.f1, .int .i64 t.f2] rfl rfl ?aP rfl ?a1 ?aO ?aB ?aS ?aL ?_; (case aP => exact k47_mk w t); (case a1 => simp [Value.oneCell']); (case aO => exact ho.out); (case aB => exact hb.out); (case aS => exact hb.out.size); (case aL => simp; omega); intro v2 w9 ho2 hb2 hg2 hat2; replace ho2 := Aside0.mk ho2; replace hb2 := Aside0.mk hb2; clear hg2 hat2)
  obtain ⟨ts, hts⟩ : ∃ v, [] ++ x.f3 ++ [t] = v := ⟨_, rfl⟩
  replace ho2 := ho2.out
  rw [hts] at ho2
  obtain ⟨TA, tc, rfl, ltc⟩ := ho2.slice_
  have HTS := Aside0.mk hts
  clear hts ho hb U t0 t1 t2
  have bd := (H3.out.below hb2.out).blk
  obtain ⟨m0, m1, m2, m3, m4, m5⟩ := (H3.out.below hb2.out).six
  have fz := blk_frozen bd 3
  have g0 := (G.out.trans (hb2.out.mono G.out.size)).setCell (p := ⟨w6.heap.size, 3, none⟩) (Nat.le_refl _) (.slice TA ts.length tc)
  have hr : Kd.C k47 (w9.setCell ⟨w6.heap.size, 3, none⟩ (.slice TA ts.length tc)) TA ts.length ts := by
    obtain ⟨A2, c2, e2, _, hr⟩ := own_C (d := k47) (ho2.set_ bd (by decide) 3 (.slice TA ts.length tc)) ((K.out.two.b).trans (g0.mono K.out.two.b.size))
    injection e2 with e3 e4 e5
    subst e3; exact hr
  have bd2 := blk_put bd 3 (.slice TA ts.length tc) rfl
  replace bd := Aside0.mk bd; replace g0 := Aside0.mk g0; replace hr := Aside0.mk hr; replace bd2 := Aside0.mk bd2; replace ho2 := Aside0.mk ho2
  go_upto_region 15 with fail
  refine wp_at (fun W => S12 w W x A3 c3 A4 c4 A5 c5 y B3 d3 B4 d4 B5 d5 t ∧ BoxF W w3.heap.size ⟨ka, x.f1, x.f2, x.f3, x.f4, x.f5⟩ A3 c3 A4 c4 A5 c5 ∧ BoxF W w4.heap.size ⟨x.f0, sb, x.f2, x.f3, x.f4, x.f5⟩ A3 c3 A4 c4 A5 c5 ∧ BoxF W w5.heap.size ⟨x.f0, x.f1, nc, x.f3, x.f4, x.f5⟩ A3 c3 A4 c4 A5 c5 ∧ BoxF W w6.heap.size ⟨x.f0, x.f1, x.f2, ts, x.f4, x.f5⟩ TA tc A4 c4 A5 c5) ?_ fun wA hS => ?_
  · exact ⟨K.out.below g0.out, K0.out.below g0.out, K1.out.below g0.out, K2.out.below g0.out, ⟨bd2.out, (K.out.below g0.out).two.bx.at_.terms ltc hr.out⟩⟩
  clear T G H0 H1 H2 H3 K K0 K1 K2 bd g0 hr bd2 ho2 hb2 fz m0 m1 m2 m3 m4 m5
  obtain ⟨T, H0, H1, H2, H3⟩ := hS
  replace T := Aside0.mk T; replace H0 := Aside0.mk H0; replace H1 := Aside0.mk H1; replace H2 := Aside0.mk H2; replace H3 := Aside0.mk H3
  have U := Aside0.mk (T.out.below (up1 wA (.cells #[.int .i64 x.f0, .string x.f1, .int .i64 x.f2, .slice A3 x.f3.length c3, .slice A4 x.f4.length c4, .slice A5 x.f5.length c5] 26)))
  obtain ⟨p0, p1, p2, p3, p4, p5⟩ := T.out.two.bx.six
  obtain ⟨u0, u1, u2, u3, u4, u5⟩ := U.out.two.bx.six
  go_upto_region 16 with fail
  refine wp_at (fun W => S12 w W x A3 c3 A4 c4 A5 c5 y B3 d3 B4 d4 B5 d5 t ∧ Below wA.heap.size wA W ∧ BoxF W w3.heap.size ⟨ka, x.f1, x.f2, x.f3, x.f4, x.f5⟩ A3 c3 A4 c4 A5 c5 ∧ BoxF W w4.heap.size ⟨x.f0, sb, x.f2, x.f3, x.f4, x.f5⟩ A3 c3 A4 c4 A5 c5 ∧ BoxF W w5.heap.size ⟨x.f0, x.f1, nc, x.f3, x.f4, x.f5⟩ A3 c3 A4 c4 A5 c5 ∧ BoxF W w6.heap.size ⟨x.f0, x.f1, x.f2, ts, x.f4, x.f5⟩ TA tc A4 c4 A5 c5 ∧ BoxF W wA.heap.size x A3 c3 A4 c4 A5 c5) ?_ fun wB hS => ?_
  · exact ⟨T.out.below (up1 wA _), (up1 wA _), H0.out.below (up1 wA _), H1.out.below (up1 wA _), H2.out.below (up1 wA _), H3.out.below (up1 wA _), ⟨heap_new wA _, (T.out.below (up1 wA _)).two.bx.at_⟩⟩
  have K := T; have K0 := H0; have K1 := H1; have K2 := H2; have K3 := H3
  clear T U H0 H1 H2 H3 p0 p1 p2 p3 p4 p5 u0 u1 u2 u3 u4 u5
  obtain ⟨T, G, H0, H1, H2, H3, H4⟩ := hS
  replace T := Aside0.mk T; replace G := Aside0.mk G; replace H0 := Aside0.mk H0; replace H1 := Aside0.mk H1; replace H2 := Aside0.mk H2; replace H3 := Aside0.mk H3; replace H4 := Aside0.mk H4
  have U := Aside0.mk (T.out.below (up1 wB (.cells #[] 26)))
  obtain ⟨u0, u1, u2, u3, u4, u5⟩ := U.out.two.bx.six
  go_upto_region 17 with ((with_reducible refine gate_builtin (b := .append) (xs := #[.tmp 51, .tmp 53]) rfl ?_); at_builtin; refine own_append_rows (R := k26.K w) (w0 := wB) wB.heap.size rfl (.tmp 51) (.tmp 53) 24 26 (.agg #[.int .i64 0, .string ⟨#[]⟩, .int .i64 0, .slice none 0 0, .slice none 0 0, .slice none 0 0]) 6 104 rfl Tryd.underlying24 info26 rfl (by decide) (by decide) _ ([] : List S26) x.f5 _ _ _ rfl rfl ?aO ?aR ?a1 ?aB ?aS ?aL ?_; (case aO => exact OwnRow.lit wB wB.heap.size (inner := []) (Reps.none _ _) (Nat.le_refl _) (by simp)); (case aR => exact HR5.out.imp_ U.out.two.b (fun _ _ h => h)); (case a1 => exact fun p cs h => k26.K_one h); (case aB => exact up1 wB _); (case aS => simp); (case aL => simp; omega); intro v1 wC ho hb hg; replace ho := Aside0.mk ho; replace hb := Aside0.mk hb; clear hg)
  clear U u0 u1 u2 u3 u4 u5
  have U := Aside0.mk (T.out.below hb.out)
  obtain ⟨q0, q1, q2, q3, q4, q5⟩ := U.out.two.byy.six
  go_upto_region 18 with ((with_reducible refine gate_builtin (b := .append) (xs := #[.tmp 55, .tmp 57]) rfl ?_); at_builtin; refine OwnRow.append (R := k26.K w) (w0 := wB) wB.heap.size rfl (.tmp 55) (.tmp 57) 24 26 (.agg #[.int .i64 0, .string ⟨#[]⟩, .int .i64 0, .slice none 0 0, .slice none 0 0, .slice none 0 0]) 6 104 rfl Tryd.underlying24 info26 rfl (by decide) (by decide) v1 ([] ++ x.f5) y [.int .i64 y.f0, .string y.f1, .int .i64 y.f2, .slice B3 y.f3.length d3, .slice B4 y.f4.length d4, .slice B5 y.f5.length d5] rfl rfl ?aP rfl ?a1 ?aO ?aB ?aS ?aL ?_; (case aP => exact HY.out); (case a1 => simp [Value.oneCell']); (case aO => exact ho.out); (case aB => exact hb.out); (case aS => exact hb.out.size); (case aL => simp; omega); intro v2 wD ho2 hb2 hg2 hat2; replace ho2 := Aside0.mk ho2; replace hb2 := Aside0.mk hb2; clear hg2 hat2)
  obtain ⟨ls, hls⟩ : ∃ v, [] ++ x.f5 ++ [y] = v := ⟨_, rfl⟩
  replace ho2 := ho2.out
  rw [hls] at ho2
  obtain ⟨LA, lc, rfl, llc⟩ := ho2.slice_
  have HLS := Aside0.mk hls
  clear hls ho hb U q0 q1 q2 q3 q4 q5
  have bd := (H4.out.below hb2.out).blk
  obtain ⟨m0, m1, m2, m3, m4, m5⟩ := (H4.out.below hb2.out).six
  have fz := blk_frozen bd 5
  have g0 := (G.out.trans (hb2.out.mono G.out.size)).setCell (p := ⟨wA.heap.size, 5, none⟩) (Nat.le_refl _) (.slice LA ls.length lc)
  have hlt : wA.heap.size < wB.heap.size := (Array.getElem?_eq_some_iff.1 H4.out.blk).1
  have hr : Kd.C k26 (wD.setCell ⟨wA.heap.size, 5, none⟩ (.slice LA ls.length lc)) LA ls.length ls := by
    obtain ⟨inner, hw1, hr1⟩ := ho2
    have hne : some wA.heap.size ≠ (Value.slice LA ls.length lc).ownBlock := fun e => by have := own_base hw1 _ e.symm; omega
    have ho3 : OwnRow (k26.K w) 26 k26.sz (wD.setCell ⟨wA.heap.size, 5, none⟩ (.slice LA ls.length lc)) wB.heap.size (.slice LA ls.length lc) ls := ⟨inner, own_setCell hw1 (p := ⟨wA.heap.size, 5, none⟩) hne _, hr1⟩
    obtain ⟨A2, c2, e2, _, hr⟩ := own_C ho3 ((K.out.two.b).trans (g0.mono K.out.two.b.size))
    injection e2 with e3 e4 e5
    subst e3; exact hr
  have bd2 := blk_put bd 5 (.slice LA ls.length lc) rfl
  replace bd := Aside0.mk bd; replace g0 := Aside0.mk g0; replace hr := Aside0.mk hr; replace bd2 := Aside0.mk bd2; replace ho2 := Aside0.mk ho2
  go_upto_region 19 with fail
  refine wp_at (fun W => S12 w W x A3 c3 A4 c4 A5 c5 y B3 d3 B4 d4 B5 d5 t ∧ BoxF W w3.heap.size ⟨ka, x.f1, x.f2, x.f3, x.f4, x.f5⟩ A3 c3 A4 c4 A5 c5 ∧ BoxF W w4.heap.size ⟨x.f0, sb, x.f2, x.f3, x.f4, x.f5⟩ A3 c3 A4 c4 A5 c5 ∧ BoxF W w5.heap.size ⟨x.f0, x.f1, nc, x.f3, x.f4, x.f5⟩ A3 c3 A4 c4 A5 c5 ∧ BoxF W w6.heap.size ⟨x.f0, x.f1, x.f2, ts, x.f4, x.f5⟩ TA tc A4 c4 A5 c5 ∧ BoxF W wA.heap.size ⟨x.f0, x.f1, x.f2, x.f3, x.f4, ls⟩ A3 c3 A4 c4 LA lc) ?_ fun wE hS => ?_
  · exact ⟨K.out.below g0.out, K0.out.below g0.out, K1.out.below g0.out, K2.out.below g0.out, K3.out.below g0.out, ⟨bd2.out, (K.out.below g0.out).two.bx.at_.forms llc hr.out⟩⟩
  clear T G H0 H1 H2 H3 H4 K K0 K1 K2 K3 bd g0 hr bd2 ho2 hb2 fz hlt m0 m1 m2 m3 m4 m5
  have TT := Aside0.mk hS
  clear hS
  obtain ⟨p0, p1, p2, p3, p4, p5⟩ := TT.out.1.two.bx.six; obtain ⟨e0, e1, e2, e3, e4, e5⟩ := TT.out.2.1.six
  go_upto_region 21 with (first
    | (go_at_call 30; (with_reducible refine (sameK x A3 c3 A4 c4 A5 c5 ka HKA.out _ TT.out.1.two.bx.at_ TT.out.2.1.at_).mono ?_); rintro e wn ⟨rfl, g⟩; replace TT := Aside0.mk (⟨TT.out.1.below g, TT.out.2.1.below g, TT.out.2.2.1.below g, TT.out.2.2.2.1.below g, TT.out.2.2.2.2.1.below g, TT.out.2.2.2.2.2.below g⟩ : S12 w wn x A3 c3 A4 c4 A5 c5 y B3 d3 B4 d4 B5 d5 t ∧ BoxF wn w3.heap.size ⟨ka, x.f1, x.f2, x.f3, x.f4, x.f5⟩ A3 c3 A4 c4 A5 c5 ∧ BoxF wn w4.heap.size ⟨x.f0, sb, x.f2, x.f3, x.f4, x.f5⟩ A3 c3 A4 c4 A5 c5 ∧ BoxF wn w5.heap.size ⟨x.f0, x.f1, nc, x.f3, x.f4, x.f5⟩ A3 c3 A4 c4 A5 c5 ∧ BoxF wn w6.heap.size ⟨x.f0, x.f1, x.f2, ts, x.f4, x.f5⟩ TA tc A4 c4 A5 c5 ∧ BoxF wn wA.heap.size ⟨x.f0, x.f1, x.f2, x.f3, x.f4, ls⟩ A3 c3 A4 c4 LA lc); clear g; clear p0 p1 p2 p3 p4 p5 e0 e1 e2 e3 e4 e5; obtain ⟨p0, p1, p2, p3, p4, p5⟩ := TT.out.1.two.bx.six; obtain ⟨f0, f1, f2, f3, f4, f5⟩ := TT.out.2.2.1.six)
    | (go_at_call 30; (with_reducible refine (sameS x A3 c3 A4 c4 A5 c5 sb HSB.out _ TT.out.1.two.bx.at_ TT.out.2.2.1.at_).mono ?_); rintro e wn ⟨rfl, g⟩; replace TT := Aside0.mk (⟨TT.out.1.below g, TT.out.2.1.below g, TT.out.2.2.1.below g, TT.out.2.2.2.1.below g, TT.out.2.2.2.2.1.below g, TT.out.2.2.2.2.2.below g⟩ : S12 w wn x A3 c3 A4 c4 A5 c5 y B3 d3 B4 d4 B5 d5 t ∧ BoxF wn w3.heap.size ⟨ka, x.f1, x.f2, x.f3, x.f4, x.f5⟩ A3 c3 A4 c4 A5 c5 ∧ BoxF wn w4.heap.size ⟨x.f0, sb, x.f2, x.f3, x.f4, x.f5⟩ A3 c3 A4 c4 A5 c5 ∧ BoxF wn w5.heap.size ⟨x.f0, x.f1, nc, x.f3, x.f4, x.f5⟩ A3 c3 A4 c4 A5 c5 ∧ BoxF wn w6.heap.size ⟨x.f0, x.f1, x.f2, ts, x.f4, x.f5⟩ TA tc A4 c4 A5 c5 ∧ BoxF wn wA.heap.size ⟨x.f0, x.f1, x.f2, x.f3, x.f4, ls⟩ A3 c3 A4 c4 LA lc); clear g; clear p0 p1 p2 p3 p4 p5 f0 f1 f2 f3 f4 f5; obtain ⟨p0, p1, p2, p3, p4, p5⟩ := TT.out.1.two.bx.six; obtain ⟨k0, k1, k2, k3, k4, k5⟩ := TT.out.2.2.2.1.six)
    | (go_at_call 30; (with_reducible refine (sameM x A3 c3 A4 c4 A5 c5 nc HNC.out _ TT.out.1.two.bx.at_ TT.out.2.2.2.1.at_).mono ?_); rintro e wn ⟨rfl, g⟩; replace TT := Aside0.mk (⟨TT.out.1.below g, TT.out.2.1.below g, TT.out.2.2.1.below g, TT.out.2.2.2.1.below g, TT.out.2.2.2.2.1.below g, TT.out.2.2.2.2.2.below g⟩ : S12 w wn x A3 c3 A4 c4 A5 c5 y B3 d3 B4 d4 B5 d5 t ∧ BoxF wn w3.heap.size ⟨ka, x.f1, x.f2, x.f3, x.f4, x.f5⟩ A3 c3 A4 c4 A5 c5 ∧ BoxF wn w4.heap.size ⟨x.f0, sb, x.f2, x.f3, x.f4, x.f5⟩ A3 c3 A4 c4 A5 c5 ∧ BoxF wn w5.heap.size ⟨x.f0, x.f1, nc, x.f3, x.f4, x.f5⟩ A3 c3 A4 c4 A5 c5 ∧ BoxF wn w6.heap.size ⟨x.f0, x.f1, x.f2, ts, x.f4, x.f5⟩ TA tc A4 c4 A5 c5 ∧ BoxF wn wA.heap.size ⟨x.f0, x.f1, x.f2, x.f3, x.f4, ls⟩ A3 c3 A4 c4 LA lc); clear g; clear p0 p1 p2 p3 p4 p5 k0 k1 k2 k3 k4 k5; obtain ⟨p0, p1, p2, p3, p4, p5⟩ := TT.out.1.two.bx.six; obtain ⟨m0, m1, m2, m3, m4, m5⟩ := TT.out.2.2.2.2.1.six)
    | (go_at_call 30; (with_reducible refine (sameT x A3 c3 A4 c4 A5 c5 t ts HTS.out TA tc _ TT.out.1.two.bx.at_ TT.out.2.2.2.2.1.at_).mono ?_); rintro e wn ⟨rfl, g⟩; replace TT := Aside0.mk (⟨TT.out.1.below g, TT.out.2.1.below g, TT.out.2.2.1.below g, TT.out.2.2.2.1.below g, TT.out.2.2.2.2.1.below g, TT.out.2.2.2.2.2.below g⟩ : S12 w wn x A3 c3 A4 c4 A5 c5 y B3 d3 B4 d4 B5 d5 t ∧ BoxF wn w3.heap.size ⟨ka, x.f1, x.f2, x.f3, x.f4, x.f5⟩ A3 c3 A4 c4 A5 c5 ∧ BoxF wn w4.heap.size ⟨x.f0, sb, x.f2, x.f3, x.f4, x.f5⟩ A3 c3 A4 c4 A5 c5 ∧ BoxF wn w5.heap.size ⟨x.f0, x.f1, nc, x.f3, x.f4, x.f5⟩ A3 c3 A4 c4 A5 c5 ∧ BoxF wn w6.heap.size ⟨x.f0, x.f1, x.f2, ts, x.f4, x.f5⟩ TA tc A4 c4 A5 c5 ∧ BoxF wn wA.heap.size ⟨x.f0, x.f1, x.f2, x.f3, x.f4, ls⟩ A3 c3 A4 c4 LA lc); clear g; clear p0 p1 p2 p3 p4 p5 m0 m1 m2 m3 m4 m5; obtain ⟨p0, p1, p2, p3, p4, p5⟩ := TT.out.1.two.bx.six; obtain ⟨n0, n1, n2, n3, n4, n5⟩ := TT.out.2.2.2.2.2.six)
    | (go_at_call 30; (with_reducible refine (sameL x A3 c3 A4 c4 A5 c5 y ls HLS.out LA lc _ TT.out.1.two.bx.at_ TT.out.2.2.2.2.2.at_).mono ?_); rintro e wn ⟨rfl, g⟩; replace TT := Aside0.mk (⟨TT.out.1.below g, TT.out.2.1.below g, TT.out.2.2.1.below g, TT.out.2.2.2.1.below g, TT.out.2.2.2.2.1.below g, TT.out.2.2.2.2.2.below g⟩ : S12 w wn x A3 c3 A4 c4 A5 c5 y B3 d3 B4 d4 B5 d5 t ∧ BoxF wn w3.heap.size ⟨ka, x.f1, x.f2, x.f3, x.f4, x.f5⟩ A3 c3 A4 c4 A5 c5 ∧ BoxF wn w4.heap.size ⟨x.f0, sb, x.f2, x.f3, x.f4, x.f5⟩ A3 c3 A4 c4 A5 c5 ∧ BoxF wn w5.heap.size ⟨x.f0, x.f1, nc, x.f3, x.f4, x.f5⟩ A3 c3 A4 c4 A5 c5 ∧ BoxF wn w6.heap.size ⟨x.f0, x.f1, x.f2, ts, x.f4, x.f5⟩ TA tc A4 c4 A5 c5 ∧ BoxF wn wA.heap.size ⟨x.f0, x.f1, x.f2, x.f3, x.f4, ls⟩ A3 c3 A4 c4 LA lc); clear g; clear p0 p1 p2 p3 p4 p5 n0 n1 n2 n3 n4 n5; skip))
  have T := Aside0.mk TT.out.1
  clear TT HKA HNC HSB HTS HLS HR3 HR5 HY hka hnc hsb
  obtain ⟨p0, p1, p2, p3, p4, p5⟩ := T.out.two.bx.six; obtain ⟨q0, q1, q2, q3, q4, q5⟩ := T.out.two.byy.six
  cases sm
  · skip
    refine wp_region_noPanic ?_
    refine wp_region_held_drew (S := (fun w' => w'.cell? ⟨w.heap.size, 0, none⟩ = some (.int .i64 x.f0) ∧ w'.cell? ⟨w.heap.size, 1, none⟩ = some (.string x.f1) ∧ w'.cell? ⟨w.heap.size, 2, none⟩ = some (.int .i64 x.f2) ∧ w'.cell? ⟨w.heap.size, 3, none⟩ = some (.slice A3 x.f3.length c3) ∧ w'.cell? ⟨w.heap.size, 4, none⟩ = some (.slice A4 x.f4.length c4) ∧ w'.cell? ⟨w.heap.size, 5, none⟩ = some (.slice A5 x.f5.length c5) ∧ w'.cell? ⟨w.heap.size + 1, 0, none⟩ = some (.int .i64 y.f0) ∧ w'.cell? ⟨w.heap.size + 1, 1, none⟩ = some (.string y.f1) ∧ w'.cell? ⟨w.heap.size + 1, 2, none⟩ = some (.int .i64 y.f2) ∧ w'.cell? ⟨w.heap.size + 1, 3, none⟩ = some (.slice B3 y.f3.length d3) ∧ w'.cell? ⟨w.heap.size + 1, 4, none⟩ = some (.slice B4 y.f4.length d4) ∧ w'.cell? ⟨w.heap.size + 1, 5, none⟩ = some (.slice B5 y.f5.length d5))) (by kernel_rfl) ?hSR (fun hH0 => ?_)
    case hSR => (try dsimp only); go_keep
    refine wpAnyH_take (i := 0) (oi := { dst := some 84, op := Op.load 26 (Operand.tmp 3), type := 26, pos := "law.go:219", after := #[], guard := none }) (v := ?vvR1) rfl (by kernel_rfl) (by kernel_rfl) (by kernel_rfl) (fun _ _ _ h => h) (Or.inl ⟨by rfl, ?hyR1⟩) (by assumption) ?_
    case hyR1 =>
      intro w hSw
      (try dsimp only at hSw)
      go_simp
      all_goals (try with_reducible rfl)
    simp only [Act.put, List.setIfInBounds_toArray, List.set_cons_zero, List.set_cons_succ]
    refine wpAnyH_take (i := 1) (oi := { dst := some 85, op := Op.load 26 (Operand.tmp 4), type := 26, pos := "law.go:219", after := #[], guard := none }) (v := ?vvR2) rfl (by kernel_rfl) (by kernel_rfl) (by kernel_rfl) (fun _ _ _ h => h) (Or.inl ⟨by rfl, ?hyR2⟩) (by assumption) ?_
    case hyR2 =>
      intro w hSw
      (try dsimp only at hSw)
      go_simp
      all_goals (try with_reducible rfl)
    simp only [Act.put, List.setIfInBounds_toArray, List.set_cons_zero, List.set_cons_succ]
    refine wpAnyH_take (i := 3) (oi := { dst := some 87, op := Op.load 26 (Operand.tmp 4), type := 26, pos := "law.go:219", after := #[], guard := none }) (v := ?vvR3) rfl (by kernel_rfl) (by kernel_rfl) (by kernel_rfl) (fun _ _ _ h => h) (Or.inl ⟨by rfl, ?hyR3⟩) (by assumption) ?_
    case hyR3 =>
      intro w hSw
      (try dsimp only at hSw)
      go_simp
      all_goals (try with_reducible rfl)
    simp only [Act.put, List.setIfInBounds_toArray, List.set_cons_zero, List.set_cons_succ]
    refine wpAnyH_take (i := 4) (oi := { dst := some 88, op := Op.load 26 (Operand.tmp 3), type := 26, pos := "law.go:219", after := #[], guard := none }) (v := ?vvR4) rfl (by kernel_rfl) (by kernel_rfl) (by kernel_rfl) (fun _ _ _ h => h) (Or.inl ⟨by rfl, ?hyR4⟩) (by assumption) ?_
    case hyR4 =>
      intro w hSw
      (try dsimp only at hSw)
      go_simp
      all_goals (try with_reducible rfl)
    simp only [Act.put, List.setIfInBounds_toArray, List.set_cons_zero, List.set_cons_succ]
    refine wpAnyH_ready (rs := [2]) (by kernel_rfl) (by simp) ?_
    refine AllReadyH.cons (o := { dst := some 86, op := Op.call { callee := Callee.value (Operand.func 30), args := #[Operand.tmp 84, Operand.tmp 85], argTypes := #[26, 26] }, type := 4, pos := "law.go:219", after := #[{ on := 0, ground := Ground.data }, { on := 1, ground := Ground.data }], guard := none }) rfl (fun K hK => ?_) ?_
    · skip
      go_simp
      (first | (go_at_call 30; (with_reducible refine (C30.out _ T.out).mono ?_); rintro e wn ⟨rfl, g⟩; replace T := Aside0.mk (T.out.below g); clear p0 p1 p2 p3 p4 p5 q0 q1 q2 q3 q4 q5 g; obtain ⟨p0, p1, p2, p3, p4, p5⟩ := T.out.two.bx.six; obtain ⟨q0, q1, q2, q3, q4, q5⟩ := T.out.two.byy.six) | (go_at_call 30; (with_reducible refine (C30.out _ T.out.drew).mono ?_); rintro e wn ⟨rfl, g⟩; replace T := Aside0.mk (T.out.drew.below g); clear p0 p1 p2 p3 p4 p5 q0 q1 q2 q3 q4 q5 g; obtain ⟨p0, p1, p2, p3, p4, p5⟩ := T.out.two.bx.six; obtain ⟨q0, q1, q2, q3, q4, q5⟩ := T.out.two.byy.six) | (go_at_call 30; (with_reducible refine (D30.out _ T.out).mono ?_); rintro e wn ⟨rfl, g⟩; replace T := Aside0.mk (T.out.below g); clear p0 p1 p2 p3 p4 p5 q0 q1 q2 q3 q4 q5 g; obtain ⟨p0, p1, p2, p3, p4, p5⟩ := T.out.two.bx.six; obtain ⟨q0, q1, q2, q3, q4, q5⟩ := T.out.two.byy.six) | (go_at_call 30; (with_reducible refine (D30.out _ T.out.drew).mono ?_); rintro e wn ⟨rfl, g⟩; replace T := Aside0.mk (T.out.drew.below g); clear p0 p1 p2 p3 p4 p5 q0 q1 q2 q3 q4 q5 g; obtain ⟨p0, p1, p2, p3, p4, p5⟩ := T.out.two.bx.six; obtain ⟨q0, q1, q2, q3, q4, q5⟩ := T.out.two.byy.six))
      all_goals (try go_wp2_with fail)
      refine hK.out _ _ ?_ (fun hH2 => ?_)
      · (try dsimp only)
        go_keep
      clear hK K hH0
      have hH0 := hH2
      clear hH2
      try simp only [Act.put, List.setIfInBounds_toArray, List.set_cons_zero, List.set_cons_succ]
      refine wpAnyH_ready (rs := [5]) (by kernel_rfl) (by simp) ?_
      refine AllReadyH.cons (o := { dst := some 89, op := Op.call { callee := Callee.value (Operand.func 30), args := #[Operand.tmp 87, Operand.tmp 88], argTypes := #[26, 26] }, type := 4, pos := "law.go:219", after := #[{ on := 3, ground := Ground.data }, { on := 4, ground := Ground.data }, { on := 2, ground := Ground.chain }], guard := none }) rfl (fun K hK => ?_) ?_
      · skip
        go_simp
        (first | (go_at_call 30; (with_reducible refine (C30.out _ T.out).mono ?_); rintro e wn ⟨rfl, g⟩; replace T := Aside0.mk (T.out.below g); clear p0 p1 p2 p3 p4 p5 q0 q1 q2 q3 q4 q5 g; obtain ⟨p0, p1, p2, p3, p4, p5⟩ := T.out.two.bx.six; obtain ⟨q0, q1, q2, q3, q4, q5⟩ := T.out.two.byy.six) | (go_at_call 30; (with_reducible refine (C30.out _ T.out.drew).mono ?_); rintro e wn ⟨rfl, g⟩; replace T := Aside0.mk (T.out.drew.below g); clear p0 p1 p2 p3 p4 p5 q0 q1 q2 q3 q4 q5 g; obtain ⟨p0, p1, p2, p3, p4, p5⟩ := T.out.two.bx.six; obtain ⟨q0, q1, q2, q3, q4, q5⟩ := T.out.two.byy.six) | (go_at_call 30; (with_reducible refine (D30.out _ T.out).mono ?_); rintro e wn ⟨rfl, g⟩; replace T := Aside0.mk (T.out.below g); clear p0 p1 p2 p3 p4 p5 q0 q1 q2 q3 q4 q5 g; obtain ⟨p0, p1, p2, p3, p4, p5⟩ := T.out.two.bx.six; obtain ⟨q0, q1, q2, q3, q4, q5⟩ := T.out.two.byy.six) | (go_at_call 30; (with_reducible refine (D30.out _ T.out.drew).mono ?_); rintro e wn ⟨rfl, g⟩; replace T := Aside0.mk (T.out.drew.below g); clear p0 p1 p2 p3 p4 p5 q0 q1 q2 q3 q4 q5 g; obtain ⟨p0, p1, p2, p3, p4, p5⟩ := T.out.two.bx.six; obtain ⟨q0, q1, q2, q3, q4, q5⟩ := T.out.two.byy.six))
        all_goals (try go_wp2_with fail)
        refine hK.out _ _ ?_ (fun hH2 => ?_)
        · (try dsimp only)
          go_keep
        clear hK K hH0
        have hH0 := hH2
        clear hH2
        try simp only [Act.put, List.setIfInBounds_toArray, List.set_cons_zero, List.set_cons_succ]
        refine wpAnyH_take (i := 6) (oi := { dst := some 90, op := Op.binOp BinOp.eql 4 (Operand.tmp 86) (Operand.tmp 89) 4, type := 4, pos := "law.go:219", after := #[{ on := 2, ground := Ground.data }, { on := 5, ground := Ground.data }], guard := none }) (v := ?vvR5) rfl (by kernel_rfl) (by kernel_rfl) (by kernel_rfl) (fun _ _ _ h => h) (Or.inl ⟨by rfl, ?hyR5⟩) (by assumption) ?_
        case hyR5 =>
          intro w hSw
          (try dsimp only at hSw)
          go_simp
          all_goals (try with_reducible rfl)
        simp only [Act.put, List.setIfInBounds_toArray, List.set_cons_zero, List.set_cons_succ]
        refine wpAnyH_take (i := 7) (oi := { dst := some 91, op := Op.move (Operand.tmp 90), type := 4, pos := "law.go:219", after := #[{ on := 6, ground := Ground.data }, { on := 5, ground := Ground.chain }], guard := none }) (v := ?vvR6) rfl (by kernel_rfl) (by kernel_rfl) (by kernel_rfl) (fun _ _ _ h => h) (Or.inl ⟨by rfl, ?hyR6⟩) (by assumption) ?_
        case hyR6 =>
          intro w hSw
          (try dsimp only at hSw)
          go_simp
          all_goals (try with_reducible rfl)
        simp only [Act.put, List.setIfInBounds_toArray, List.set_cons_zero, List.set_cons_succ]
        refine wpAnyH_take (i := 8) (oi := { dst := some 92, op := Op.load 26 (Operand.tmp 3), type := 26, pos := "law.go:219", after := #[{ on := 7, ground := Ground.guard }], guard := some (7, true) }) (v := ?vvR7) rfl (by kernel_rfl) (by kernel_rfl) (by kernel_rfl) (fun _ _ _ h => h) (Or.inl ⟨by rfl, ?hyR7⟩) (by assumption) ?_
        case hyR7 =>
          intro w hSw
          (try dsimp only at hSw)
          go_simp
          all_goals (try with_reducible rfl)
        simp only [Act.put, List.setIfInBounds_toArray, List.set_cons_zero, List.set_cons_succ]
        refine wpAnyH_take (i := 9) (oi := { dst := some 93, op := Op.load 26 (Operand.tmp 4), type := 26, pos := "law.go:219", after := #[{ on := 7, ground := Ground.guard }], guard := some (7, true) }) (v := ?vvR8) rfl (by kernel_rfl) (by kernel_rfl) (by kernel_rfl) (fun _ _ _ h => h) (Or.inl ⟨by rfl, ?hyR8⟩) (by assumption) ?_
        case hyR8 =>
          intro w hSw
          (try dsimp only at hSw)
          go_simp
          all_goals (try with_reducible rfl)
        simp only [Act.put, List.setIfInBounds_toArray, List.set_cons_zero, List.set_cons_succ]
        refine wpAnyH_ready (rs := [10]) (by kernel_rfl) (by simp) ?_
        refine AllReadyH.cons (o := { dst := some 94, op := Op.call { callee := Callee.value (Operand.func 30), args := #[Operand.tmp 92, Operand.tmp 93], argTypes := #[26, 26] }, type := 4, pos := "law.go:219", after := #[{ on := 8, ground := Ground.data }, { on := 9, ground := Ground.data }, { on := 7, ground := Ground.chain }, { on := 7, ground := Ground.guard }], guard := some (7, true) }) rfl (fun K hK => ?_) ?_
        · skip
          go_simp
          (first | (go_at_call 30; (with_reducible refine (C30.out _ T.out).mono ?_); rintro e wn ⟨rfl, g⟩; replace T := Aside0.mk (T.out.below g); clear p0 p1 p2 p3 p4 p5 q0 q1 q2 q3 q4 q5 g; obtain ⟨p0, p1, p2, p3, p4, p5⟩ := T.out.two.bx.six; obtain ⟨q0, q1, q2, q3, q4, q5⟩ := T.out.two.byy.six) | (go_at_call 30; (with_reducible refine (C30.out _ T.out.drew).mono ?_); rintro e wn ⟨rfl, g⟩; replace T := Aside0.mk (T.out.drew.below g); clear p0 p1 p2 p3 p4 p5 q0 q1 q2 q3 q4 q5 g; obtain ⟨p0, p1, p2, p3, p4, p5⟩ := T.out.two.bx.six; obtain ⟨q0, q1, q2, q3, q4, q5⟩ := T.out.two.byy.six) | (go_at_call 30; (with_reducible refine (D30.out _ T.out).mono ?_); rintro e wn ⟨rfl, g⟩; replace T := Aside0.mk (T.out.below g); clear p0 p1 p2 p3 p4 p5 q0 q1 q2 q3 q4 q5 g; obtain ⟨p0, p1, p2, p3, p4, p5⟩ := T.out.two.bx.six; obtain ⟨q0, q1, q2, q3, q4, q5⟩ := T.out.two.byy.six) | (go_at_call 30; (with_reducible refine (D30.out _ T.out.drew).mono ?_); rintro e wn ⟨rfl, g⟩; replace T := Aside0.mk (T.out.drew.below g); clear p0 p1 p2 p3 p4 p5 q0 q1 q2 q3 q4 q5 g; obtain ⟨p0, p1, p2, p3, p4, p5⟩ := T.out.two.bx.six; obtain ⟨q0, q1, q2, q3, q4, q5⟩ := T.out.two.byy.six))
          all_goals (try go_wp2_with fail)
          refine hK.out _ _ ?_ (fun hH2 => ?_)
          · (try dsimp only)
            go_keep
          clear hK K hH0
          have hH0 := hH2
          clear hH2
          try simp only [Act.put, List.setIfInBounds_toArray, List.set_cons_zero, List.set_cons_succ]
          refine wpAnyH_take (i := 11) (oi := { dst := some 95, op := Op.unOp UnOp.not 4 (Operand.tmp 94), type := 4, pos := "law.go:219", after := #[{ on := 10, ground := Ground.data }, { on := 7, ground := Ground.guard }], guard := some (7, true) }) (v := ?vvR9) rfl (by kernel_rfl) (by kernel_rfl) (by kernel_rfl) (fun _ _ _ h => h) (Or.inl ⟨by rfl, ?hyR9⟩) (by assumption) ?_
          case hyR9 =>
            intro w hSw
            (try dsimp only at hSw)
            go_simp
            all_goals (try with_reducible rfl)
          simp only [Act.put, List.setIfInBounds_toArray, List.set_cons_zero, List.set_cons_succ]
          refine wpAnyH_take (i := 12) (oi := { dst := some 96, op := Op.move (Operand.tmp 95), type := 4, pos := "law.go:219", after := #[{ on := 11, ground := Ground.data }, { on := 10, ground := Ground.chain }, { on := 7, ground := Ground.guard }], guard := some (7, true) }) (v := ?vvR10) rfl (by kernel_rfl) (by kernel_rfl) (by kernel_rfl) (fun _ _ _ h => h) (Or.inl ⟨by rfl, ?hyR10⟩) (by assumption) ?_
          case hyR10 =>
            intro w hSw
            (try dsimp only at hSw)
            go_simp
            all_goals (try with_reducible rfl)
          simp only [Act.put, List.setIfInBounds_toArray, List.set_cons_zero, List.set_cons_succ]
          refine wpAnyH_take (i := 13) (oi := { dst := some 97, op := Op.load 26 (Operand.tmp 3), type := 26, pos := "law.go:219", after := #[{ on := 12, ground := Ground.guard }], guard := some (12, false) }) (v := undef) rfl (by kernel_rfl) (by kernel_rfl) (by kernel_rfl) (fun _ _ _ h => h) (Or.inr ⟨by rfl, rfl⟩) (by assumption) ?_
          simp only [Act.put, List.setIfInBounds_toArray, List.set_cons_zero, List.set_cons_succ]
          refine wpAnyH_take (i := 14) (oi := { dst := some 98, op := Op.call { callee := Callee.value (Operand.func 24), args := #[Operand.tmp 97], argTypes := #[26] }, type := 3, pos := "law.go:219", after := #[{ on := 13, ground := Ground.data }, { on := 12, ground := Ground.chain }, { on := 12, ground := Ground.guard }], guard := some (12, false) }) (v := undef) rfl (by kernel_rfl) (by kernel_rfl) (by kernel_rfl) (fun _ _ _ h => h) (Or.inr ⟨by rfl, rfl⟩) (by assumption) ?_
          simp only [Act.put, List.setIfInBounds_toArray, List.set_cons_zero, List.set_cons_succ]
          refine wpAnyH_take (i := 15) (oi := { dst := some 99, op := Op.load 26 (Operand.tmp 4), type := 26, pos := "law.go:219", after := #[{ on := 12, ground := Ground.guard }], guard := some (12, false) }) (v := undef) rfl (by kernel_rfl) (by kernel_rfl) (by kernel_rfl) (fun _ _ _ h => h) (Or.inr ⟨by rfl, rfl⟩) (by assumption) ?_
          simp only [Act.put, List.setIfInBounds_toArray, List.set_cons_zero, List.set_cons_succ]
          refine wpAnyH_take (i := 16) (oi := { dst := some 100, op := Op.call { callee := Callee.value (Operand.func 24), args := #[Operand.tmp 99], argTypes := #[26] }, type := 3, pos := "law.go:219", after := #[{ on := 15, ground := Ground.data }, { on := 14, ground := Ground.chain }, { on := 12, ground := Ground.guard }], guard := some (12, false) }) (v := undef) rfl (by kernel_rfl) (by kernel_rfl) (by kernel_rfl) (fun _ _ _ h => h) (Or.inr ⟨by rfl, rfl⟩) (by assumption) ?_
          simp only [Act.put, List.setIfInBounds_toArray, List.set_cons_zero, List.set_cons_succ]
          refine wpAnyH_take (i := 17) (oi := { dst := some 101, op := Op.binOp BinOp.eql 3 (Operand.tmp 98) (Operand.tmp 100) 3, type := 4, pos := "law.go:219", after := #[{ on := 14, ground := Ground.data }, { on := 16, ground := Ground.data }, { on := 12, ground := Ground.guard }], guard := some (12, false) }) (v := undef) rfl (by kernel_rfl) (by kernel_rfl) (by kernel_rfl) (fun _ _ _ h => h) (Or.inr ⟨by rfl, rfl⟩) (by assumption) ?_
          simp only [Act.put, List.setIfInBounds_toArray, List.set_cons_zero, List.set_cons_succ]
          refine wpAnyH_take (i := 18) (oi := { dst := some 102, op := Op.move (Operand.tmp 101), type := 4, pos := "law.go:219", after := #[{ on := 17, ground := Ground.data }, { on := 16, ground := Ground.chain }, { on := 12, ground := Ground.guard }], guard := some (12, false) }) (v := undef) rfl (by kernel_rfl) (by kernel_rfl) (by kernel_rfl) (fun _ _ _ h => h) (Or.inr ⟨by rfl, rfl⟩) (by assumption) ?_
          simp only [Act.put, List.setIfInBounds_toArray, List.set_cons_zero, List.set_cons_succ]
          refine wpAnyH_take (i := 19) (oi := { dst := some 103, op := Op.load 26 (Operand.tmp 3), type := 26, pos := "law.go:219", after := #[{ on := 18, ground := Ground.guard }], guard := some (18, true) }) (v := undef) rfl (by kernel_rfl) (by kernel_rfl) (by kernel_rfl) (fun _ _ _ h => h) (Or.inr ⟨by rfl, rfl⟩) (by assumption) ?_
          simp only [Act.put, List.setIfInBounds_toArray, List.set_cons_zero, List.set_cons_succ]
          refine wpAnyH_take (i := 20) (oi := { dst := some 104, op := Op.call { callee := Callee.value (Operand.func 26), args := #[Operand.tmp 103], argTypes := #[26] }, type := 3, pos := "law.go:219", after := #[{ on := 19, ground := Ground.data }, { on := 18, ground := Ground.chain }, { on := 18, ground := Ground.guard }], guard := some (18, true) }) (v := undef) rfl (by kernel_rfl) (by kernel_rfl) (by kernel_rfl) (fun _ _ _ h => h) (Or.inr ⟨by rfl, rfl⟩) (by assumption) ?_
          simp only [Act.put, List.setIfInBounds_toArray, List.set_cons_zero, List.set_cons_succ]
          refine wpAnyH_take (i := 21) (oi := { dst := some 105, op := Op.load 26 (Operand.tmp 4), type := 26, pos := "law.go:219", after := #[{ on := 18, ground := Ground.guard }], guard := some (18, true) }) (v := undef) rfl (by kernel_rfl) (by kernel_rfl) (by kernel_rfl) (fun _ _ _ h => h) (Or.inr ⟨by rfl, rfl⟩) (by assumption) ?_
          simp only [Act.put, List.setIfInBounds_toArray, List.set_cons_zero, List.set_cons_succ]
          refine wpAnyH_take (i := 22) (oi := { dst := some 106, op := Op.call { callee := Callee.value (Operand.func 26), args := #[Operand.tmp 105], argTypes := #[26] }, type := 3, pos := "law.go:219", after := #[{ on := 21, ground := Ground.data }, { on := 20, ground := Ground.chain }, { on := 18, ground := Ground.guard }], guard := some (18, true) }) (v := undef) rfl (by kernel_rfl) (by kernel_rfl) (by kernel_rfl) (fun _ _ _ h => h) (Or.inr ⟨by rfl, rfl⟩) (by assumption) ?_
          simp only [Act.put, List.setIfInBounds_toArray, List.set_cons_zero, List.set_cons_succ]
          refine wpAnyH_take (i := 23) (oi := { dst := some 107, op := Op.binOp BinOp.eql 3 (Operand.tmp 104) (Operand.tmp 106) 3, type := 4, pos := "law.go:219", after := #[{ on := 20, ground := Ground.data }, { on := 22, ground := Ground.data }, { on := 18, ground := Ground.guard }], guard := some (18, true) }) (v := undef) rfl (by kernel_rfl) (by kernel_rfl) (by kernel_rfl) (fun _ _ _ h => h) (Or.inr ⟨by rfl, rfl⟩) (by assumption) ?_
          simp only [Act.put, List.setIfInBounds_toArray, List.set_cons_zero, List.set_cons_succ]
          refine wpAnyH_take (i := 24) (oi := { dst := some 108, op := Op.pick (Operand.tmp 102) (Operand.tmp 107) (Operand.const (Value.bool false)), type := 4, pos := "law.go:219", after := #[{ on := 18, ground := Ground.data }, { on := 23, ground := Ground.data }, { on := 12, ground := Ground.guard }], guard := some (12, false) }) (v := undef) rfl (by kernel_rfl) (by kernel_rfl) (by kernel_rfl) (fun _ _ _ h => h) (Or.inr ⟨by rfl, rfl⟩) (by assumption) ?_
          simp only [Act.put, List.setIfInBounds_toArray, List.set_cons_zero, List.set_cons_succ]
          refine wpAnyH_take (i := 25) (oi := { dst := some 109, op := Op.move (Operand.tmp 108), type := 4, pos := "law.go:219", after := #[{ on := 24, ground := Ground.data }, { on := 22, ground := Ground.chain }, { on := 12, ground := Ground.guard }], guard := some (12, false) }) (v := undef) rfl (by kernel_rfl) (by kernel_rfl) (by kernel_rfl) (fun _ _ _ h => h) (Or.inr ⟨by rfl, rfl⟩) (by assumption) ?_
          simp only [Act.put, List.setIfInBounds_toArray, List.set_cons_zero, List.set_cons_succ]
          refine wpAnyH_take (i := 26) (oi := { dst := some 110, op := Op.load 26 (Operand.tmp 3), type := 26, pos := "law.go:219", after := #[{ on := 25, ground := Ground.guard }], guard := some (25, true) }) (v := undef) rfl (by kernel_rfl) (by kernel_rfl) (by kernel_rfl) (fun _ _ _ h => h) (Or.inr ⟨by rfl, rfl⟩) (by assumption) ?_
          simp only [Act.put, List.setIfInBounds_toArray, List.set_cons_zero, List.set_cons_succ]
          refine wpAnyH_take (i := 27) (oi := { dst := some 111, op := Op.call { callee := Callee.value (Operand.func 22), args := #[Operand.tmp 110], argTypes := #[26] }, type := 29, pos := "law.go:219", after := #[{ on := 26, ground := Ground.data }, { on := 25, ground := Ground.chain }, { on := 25, ground := Ground.guard }], guard := some (25, true) }) (v := undef) rfl (by kernel_rfl) (by kernel_rfl) (by kernel_rfl) (fun _ _ _ h => h) (Or.inr ⟨by rfl, rfl⟩) (by assumption) ?_
          simp only [Act.put, List.setIfInBounds_toArray, List.set_cons_zero, List.set_cons_succ]
          refine wpAnyH_take (i := 28) (oi := { dst := some 112, op := Op.load 26 (Operand.tmp 4), type := 26, pos := "law.go:219", after := #[{ on := 25, ground := Ground.guard }], guard := some (25, true) }) (v := undef) rfl (by kernel_rfl) (by kernel_rfl) (by kernel_rfl) (fun _ _ _ h => h) (Or.inr ⟨by rfl, rfl⟩) (by assumption) ?_
          simp only [Act.put, List.setIfInBounds_toArray, List.set_cons_zero, List.set_cons_succ]
          refine wpAnyH_take (i := 29) (oi := { dst := some 113, op := Op.call { callee := Callee.value (Operand.func 22), args := #[Operand.tmp 112], argTypes := #[26] }, type := 29, pos := "law.go:219", after := #[{ on := 28, ground := Ground.data }, { on := 27, ground := Ground.chain }, { on := 25, ground := Ground.guard }], guard := some (25, true) }) (v := undef) rfl (by kernel_rfl) (by kernel_rfl) (by kernel_rfl) (fun _ _ _ h => h) (Or.inr ⟨by rfl, rfl⟩) (by assumption) ?_
          simp only [Act.put, List.setIfInBounds_toArray, List.set_cons_zero, List.set_cons_succ]
          refine wpAnyH_take (i := 30) (oi := { dst := some 114, op := Op.binOp BinOp.eql 29 (Operand.tmp 111) (Operand.tmp 113) 29, type := 4, pos := "law.go:219", after := #[{ on := 27, ground := Ground.data }, { on := 29, ground := Ground.data }, { on := 25, ground := Ground.guard }], guard := some (25, true) }) (v := undef) rfl (by kernel_rfl) (by kernel_rfl) (by kernel_rfl) (fun _ _ _ h => h) (Or.inr ⟨by rfl, rfl⟩) (by assumption) ?_
          simp only [Act.put, List.setIfInBounds_toArray, List.set_cons_zero, List.set_cons_succ]
          refine wpAnyH_take (i := 31) (oi := { dst := some 115, op := Op.pick (Operand.tmp 109) (Operand.tmp 114) (Operand.const (Value.bool false)), type := 4, pos := "law.go:219", after := #[{ on := 25, ground := Ground.data }, { on := 30, ground := Ground.data }, { on := 12, ground := Ground.guard }], guard := some (12, false) }) (v := undef) rfl (by kernel_rfl) (by kernel_rfl) (by kernel_rfl) (fun _ _ _ h => h) (Or.inr ⟨by rfl, rfl⟩) (by assumption) ?_
          simp only [Act.put, List.setIfInBounds_toArray, List.set_cons_zero, List.set_cons_succ]
          refine wpAnyH_take (i := 32) (oi := { dst := some 116, op := Op.move (Operand.tmp 115), type := 4, pos := "law.go:219", after := #[{ on := 31, ground := Ground.data }, { on := 29, ground := Ground.chain }, { on := 12, ground := Ground.guard }], guard := some (12, false) }) (v := undef) rfl (by kernel_rfl) (by kernel_rfl) (by kernel_rfl) (fun _ _ _ h => h) (Or.inr ⟨by rfl, rfl⟩) (by assumption) ?_
          simp only [Act.put, List.setIfInBounds_toArray, List.set_cons_zero, List.set_cons_succ]
          refine wpAnyH_take (i := 33) (oi := { dst := some 117, op := Op.load 26 (Operand.tmp 3), type := 26, pos := "law.go:219", after := #[{ on := 32, ground := Ground.guard }], guard := some (32, true) }) (v := undef) rfl (by kernel_rfl) (by kernel_rfl) (by kernel_rfl) (fun _ _ _ h => h) (Or.inr ⟨by rfl, rfl⟩) (by assumption) ?_
          simp only [Act.put, List.setIfInBounds_toArray, List.set_cons_zero, List.set_cons_succ]
          refine wpAnyH_take (i := 34) (oi := { dst := some 118, op := Op.call { callee := Callee.value (Operand.func 28), args := #[Operand.tmp 117], argTypes := #[26] }, type := 32, pos := "law.go:219", after := #[{ on := 33, ground := Ground.data }, { on := 32, ground := Ground.chain }, { on := 32, ground := Ground.guard }], guard := some (32, true) }) (v := undef) rfl (by kernel_rfl) (by kernel_rfl) (by kernel_rfl) (fun _ _ _ h => h) (Or.inr ⟨by rfl, rfl⟩) (by assumption) ?_
          simp only [Act.put, List.setIfInBounds_toArray, List.set_cons_zero, List.set_cons_succ]
          refine wpAnyH_take (i := 35) (oi := { dst := some 119, op := Op.call { callee := Callee.builtin Builtin.len, args := #[Operand.tmp 118], argTypes := #[32] }, type := 3, pos := "law.go:219", after := #[{ on := 34, ground := Ground.data }, { on := 32, ground := Ground.guard }], guard := some (32, true) }) (v := undef) rfl (by kernel_rfl) (by kernel_rfl) (by kernel_rfl) (fun _ _ _ h => h) (Or.inr ⟨by rfl, rfl⟩) (by assumption) ?_
          simp only [Act.put, List.setIfInBounds_toArray, List.set_cons_zero, List.set_cons_succ]
          refine wpAnyH_take (i := 36) (oi := { dst := some 120, op := Op.load 26 (Operand.tmp 4), type := 26, pos := "law.go:219", after := #[{ on := 32, ground := Ground.guard }], guard := some (32, true) }) (v := undef) rfl (by kernel_rfl) (by kernel_rfl) (by kernel_rfl) (fun _ _ _ h => h) (Or.inr ⟨by rfl, rfl⟩) (by assumption) ?_
          simp only [Act.put, List.setIfInBounds_toArray, List.set_cons_zero, List.set_cons_succ]
          refine wpAnyH_take (i := 37) (oi := { dst := some 121, op := Op.call { callee := Callee.value (Operand.func 28), args := #[Operand.tmp 120], argTypes := #[26] }, type := 32, pos := "law.go:219", after := #[{ on := 36, ground := Ground.data }, { on := 34, ground := Ground.chain }, { on := 32, ground := Ground.guard }], guard := some (32, true) }) (v := undef) rfl (by kernel_rfl) (by kernel_rfl) (by kernel_rfl) (fun _ _ _ h => h) (Or.inr ⟨by rfl, rfl⟩) (by assumption) ?_
          simp only [Act.put, List.setIfInBounds_toArray, List.set_cons_zero, List.set_cons_succ]
          refine wpAnyH_take (i := 38) (oi := { dst := some 122, op := Op.call { callee := Callee.builtin Builtin.len, args := #[Operand.tmp 121], argTypes := #[32] }, type := 3, pos := "law.go:219", after := #[{ on := 37, ground := Ground.data }, { on := 32, ground := Ground.guard }], guard := some (32, true) }) (v := undef) rfl (by kernel_rfl) (by kernel_rfl) (by kernel_rfl) (fun _ _ _ h => h) (Or.inr ⟨by rfl, rfl⟩) (by assumption) ?_
          simp only [Act.put, List.setIfInBounds_toArray, List.set_cons_zero, List.set_cons_succ]
          refine wpAnyH_take (i := 39) (oi := { dst := some 123, op := Op.binOp BinOp.eql 3 (Operand.tmp 119) (Operand.tmp 122) 3, type := 4, pos := "law.go:219", after := #[{ on := 35, ground := Ground.data }, { on := 38, ground := Ground.data }, { on := 32, ground := Ground.guard }], guard := some (32, true) }) (v := undef) rfl (by kernel_rfl) (by kernel_rfl) (by kernel_rfl) (fun _ _ _ h => h) (Or.inr ⟨by rfl, rfl⟩) (by assumption) ?_
          simp only [Act.put, List.setIfInBounds_toArray, List.set_cons_zero, List.set_cons_succ]
          refine wpAnyH_take (i := 40) (oi := { dst := some 124, op := Op.pick (Operand.tmp 116) (Operand.tmp 123) (Operand.const (Value.bool false)), type := 4, pos := "law.go:219", after := #[{ on := 32, ground := Ground.data }, { on := 39, ground := Ground.data }, { on := 12, ground := Ground.guard }], guard := some (12, false) }) (v := undef) rfl (by kernel_rfl) (by kernel_rfl) (by kernel_rfl) (fun _ _ _ h => h) (Or.inr ⟨by rfl, rfl⟩) (by assumption) ?_
          simp only [Act.put, List.setIfInBounds_toArray, List.set_cons_zero, List.set_cons_succ]
          refine wpAnyH_take (i := 41) (oi := { dst := some 125, op := Op.pick (Operand.tmp 96) (Operand.const (Value.bool true)) (Operand.tmp 124), type := 4, pos := "law.go:219", after := #[{ on := 12, ground := Ground.data }, { on := 40, ground := Ground.data }, { on := 7, ground := Ground.guard }], guard := some (7, true) }) (v := ?vvR39) rfl (by kernel_rfl) (by kernel_rfl) (by kernel_rfl) (fun _ _ _ h => h) (Or.inl ⟨by rfl, ?hyR39⟩) (by assumption) ?_
          case hyR39 =>
            intro w hSw
            (try dsimp only at hSw)
            go_simp
            all_goals (try with_reducible rfl)
          simp only [Act.put, List.setIfInBounds_toArray, List.set_cons_zero, List.set_cons_succ]
          refine wpAnyH_take (i := 42) (oi := { dst := some 126, op := Op.pick (Operand.tmp 91) (Operand.tmp 125) (Operand.const (Value.bool false)), type := 4, pos := "law.go:219", after := #[{ on := 7, ground := Ground.data }, { on := 41, ground := Ground.data }], guard := none }) (v := ?vvR40) rfl (by kernel_rfl) (by kernel_rfl) (by kernel_rfl) (fun _ _ _ h => h) (Or.inl ⟨by rfl, ?hyR40⟩) (by assumption) ?_
          case hyR40 =>
            intro w hSw
            (try dsimp only at hSw)
            go_simp
            all_goals (try with_reducible rfl)
          simp only [Act.put, List.setIfInBounds_toArray, List.set_cons_zero, List.set_cons_succ]
          refine wpAnyH_take (i := 43) (oi := { dst := some 6, op := Op.assign (Operand.tmp 126), type := 4, pos := "law.go:219", after := #[{ on := 42, ground := Ground.data }, { on := 37, ground := Ground.chain }, { on := 0, ground := Ground.phase }, { on := 1, ground := Ground.phase }, { on := 2, ground := Ground.phase }, { on := 3, ground := Ground.phase }, { on := 4, ground := Ground.phase }, { on := 5, ground := Ground.phase }, { on := 6, ground := Ground.phase }, { on := 7, ground := Ground.phase }, { on := 8, ground := Ground.phase }, { on := 9, ground := Ground.phase }, { on := 10, ground := Ground.phase }, { on := 11, ground := Ground.phase }, { on := 12, ground := Ground.phase }, { on := 13, ground := Ground.phase }, { on := 14, ground := Ground.phase }, { on := 15, ground := Ground.phase }, { on := 16, ground := Ground.phase }, { on := 17, ground := Ground.phase }, { on := 18, ground := Ground.phase }, { on := 19, ground := Ground.phase }, { on := 20, ground := Ground.phase }, { on := 21, ground := Ground.phase }, { on := 22, ground := Ground.phase }, { on := 23, ground := Ground.phase }, { on := 24, ground := Ground.phase }, { on := 25, ground := Ground.phase }, { on := 26, ground := Ground.phase }, { on := 27, ground := Ground.phase }, { on := 28, ground := Ground.phase }, { on := 29, ground := Ground.phase }, { on := 30, ground := Ground.phase }, { on := 31, ground := Ground.phase }, { on := 32, ground := Ground.phase }, { on := 33, ground := Ground.phase }, { on := 34, ground := Ground.phase }, { on := 35, ground := Ground.phase }, { on := 36, ground := Ground.phase }, { on := 37, ground := Ground.phase }, { on := 38, ground := Ground.phase }, { on := 39, ground := Ground.phase }, { on := 40, ground := Ground.phase }, { on := 41, ground := Ground.phase }, { on := 42, ground := Ground.phase }], guard := none }) (v := ?vvR41) rfl (by kernel_rfl) (by kernel_rfl) (by kernel_rfl) (fun _ _ _ h => h) (Or.inl ⟨by rfl, ?hyR41⟩) (by assumption) ?_
          case hyR41 =>
            intro w hSw
            (try dsimp only at hSw)
            go_simp
            all_goals (try with_reducible rfl)
          simp only [Act.put, List.setIfInBounds_toArray, List.set_cons_zero, List.set_cons_succ]
          refine wpAnyH_done (by kernel_rfl) ?_ _
          refine NoPanic.normal ?_
          go_wp2_with fail
          go_ret
          exact ⟨rfl, T.out.two.b⟩
        exact AllReadyH.nil
      exact AllReadyH.nil
    exact AllReadyH.nil
  · obtain ⟨rfl, rfl, rfl, rfl⟩ := HEQ.out rfl
    clear HEQ
    go_region_held3 (fun w' => w'.cell? ⟨w.heap.size, 0, none⟩ = some (.int .i64 x.f0) ∧ w'.cell? ⟨w.heap.size, 1, none⟩ = some (.string x.f1) ∧ w'.cell? ⟨w.heap.size, 2, none⟩ = some (.int .i64 x.f2) ∧ w'.cell? ⟨w.heap.size, 3, none⟩ = some (.slice A3 x.f3.length c3) ∧ w'.cell? ⟨w.heap.size, 4, none⟩ = some (.slice A4 x.f4.length c4) ∧ w'.cell? ⟨w.heap.size, 5, none⟩ = some (.slice A5 x.f5.length c5) ∧ w'.cell? ⟨w.heap.size + 1, 0, none⟩ = some (.int .i64 y.f0) ∧ w'.cell? ⟨w.heap.size + 1, 1, none⟩ = some (.string y.f1) ∧ w'.cell? ⟨w.heap.size + 1, 2, none⟩ = some (.int .i64 y.f2) ∧ w'.cell? ⟨w.heap.size + 1, 3, none⟩ = some (.slice B3 y.f3.length d3) ∧ w'.cell? ⟨w.heap.size + 1, 4, none⟩ = some (.slice B4 y.f4.length d4) ∧ w'.cell? ⟨w.heap.size + 1, 5, none⟩ = some (.slice B5 y.f5.length d5)) (go_keep)
      (first
        | (go_at_call 30; (with_reducible refine (C30.out _ T.out).mono ?_); rintro e wn ⟨rfl, g⟩; replace T := Aside0.mk (T.out.below g); clear p0 p1 p2 p3 p4 p5 q0 q1 q2 q3 q4 q5 g; obtain ⟨p0, p1, p2, p3, p4, p5⟩ := T.out.two.bx.six; obtain ⟨q0, q1, q2, q3, q4, q5⟩ := T.out.two.byy.six)
        | (go_at_call 30; (with_reducible refine (C30.out _ T.out.drew).mono ?_); rintro e wn ⟨rfl, g⟩; replace T := Aside0.mk (T.out.drew.below g); clear p0 p1 p2 p3 p4 p5 q0 q1 q2 q3 q4 q5 g; obtain ⟨p0, p1, p2, p3, p4, p5⟩ := T.out.two.bx.six; obtain ⟨q0, q1, q2, q3, q4, q5⟩ := T.out.two.byy.six)
        | (go_at_call 30; (with_reducible refine (D30.out _ T.out).mono ?_); rintro e wn ⟨rfl, g⟩; replace T := Aside0.mk (T.out.below g); clear p0 p1 p2 p3 p4 p5 q0 q1 q2 q3 q4 q5 g; obtain ⟨p0, p1, p2, p3, p4, p5⟩ := T.out.two.bx.six; obtain ⟨q0, q1, q2, q3, q4, q5⟩ := T.out.two.byy.six)
        | (go_at_call 30; (with_reducible refine (D30.out _ T.out.drew).mono ?_); rintro e wn ⟨rfl, g⟩; replace T := Aside0.mk (T.out.drew.below g); clear p0 p1 p2 p3 p4 p5 q0 q1 q2 q3 q4 q5 g; obtain ⟨p0, p1, p2, p3, p4, p5⟩ := T.out.two.bx.six; obtain ⟨q0, q1, q2, q3, q4, q5⟩ := T.out.two.byy.six)
        | (go_at_call 24; (with_reducible refine (C24.out _ T.out).mono ?_); rintro e wn ⟨rfl, g⟩; replace T := Aside0.mk (T.out.below g); clear p0 p1 p2 p3 p4 p5 q0 q1 q2 q3 q4 q5 g; obtain ⟨p0, p1, p2, p3, p4, p5⟩ := T.out.two.bx.six; obtain ⟨q0, q1, q2, q3, q4, q5⟩ := T.out.two.byy.six)
        | (go_at_call 24; (with_reducible refine (C24.out _ T.out.drew).mono ?_); rintro e wn ⟨rfl, g⟩; replace T := Aside0.mk (T.out.drew.below g); clear p0 p1 p2 p3 p4 p5 q0 q1 q2 q3 q4 q5 g; obtain ⟨p0, p1, p2, p3, p4, p5⟩ := T.out.two.bx.six; obtain ⟨q0, q1, q2, q3, q4, q5⟩ := T.out.two.byy.six)
        | (go_at_call 24; (with_reducible refine (D24.out _ T.out).mono ?_); rintro e wn ⟨rfl, g⟩; replace T := Aside0.mk (T.out.below g); clear p0 p1 p2 p3 p4 p5 q0 q1 q2 q3 q4 q5 g; obtain ⟨p0, p1, p2, p3, p4, p5⟩ := T.out.two.bx.six; obtain ⟨q0, q1, q2, q3, q4, q5⟩ := T.out.two.byy.six)
        | (go_at_call 24; (with_reducible refine (D24.out _ T.out.drew).mono ?_); rintro e wn ⟨rfl, g⟩; replace T := Aside0.mk (T.out.drew.below g); clear p0 p1 p2 p3 p4 p5 q0 q1 q2 q3 q4 q5 g; obtain ⟨p0, p1, p2, p3, p4, p5⟩ := T.out.two.bx.six; obtain ⟨q0, q1, q2, q3, q4, q5⟩ := T.out.two.byy.six)
        | (go_at_call 26; (with_reducible refine (C26.out _ T.out).mono ?_); rintro e wn ⟨rfl, g⟩; replace T := Aside0.mk (T.out.below g); clear p0 p1 p2 p3 p4 p5 q0 q1 q2 q3 q4 q5 g; obtain ⟨p0, p1, p2, p3, p4, p5⟩ := T.out.two.bx.six; obtain ⟨q0, q1, q2, q3, q4, q5⟩ := T.out.two.byy.six)
        | (go_at_call 26; (with_reducible refine (C26.out _ T.out.drew).mono ?_); rintro e wn ⟨rfl, g⟩; replace T := Aside0.mk (T.out.drew.below g); clear p0 p1 p2 p3 p4 p5 q0 q1 q2 q3 q4 q5 g; obtain ⟨p0, p1, p2, p3, p4, p5⟩ := T.out.two.bx.six; obtain ⟨q0, q1, q2, q3, q4, q5⟩ := T.out.two.byy.six)
        | (go_at_call 26; (with_reducible refine (D26.out _ T.out).mono ?_); rintro e wn ⟨rfl, g⟩; replace T := Aside0.mk (T.out.below g); clear p0 p1 p2 p3 p4 p5 q0 q1 q2 q3 q4 q5 g; obtain ⟨p0, p1, p2, p3, p4, p5⟩ := T.out.two.bx.six; obtain ⟨q0, q1, q2, q3, q4, q5⟩ := T.out.two.byy.six)
        | (go_at_call 26; (with_reducible refine (D26.out _ T.out.drew).mono ?_); rintro e wn ⟨rfl, g⟩; replace T := Aside0.mk (T.out.drew.below g); clear p0 p1 p2 p3 p4 p5 q0 q1 q2 q3 q4 q5 g; obtain ⟨p0, p1, p2, p3, p4, p5⟩ := T.out.two.bx.six; obtain ⟨q0, q1, q2, q3, q4, q5⟩ := T.out.two.byy.six)
        | (go_at_call 22; (with_reducible refine (C22.out _ T.out).mono ?_); rintro e wn ⟨rfl, g⟩; replace T := Aside0.mk (T.out.below g); clear p0 p1 p2 p3 p4 p5 q0 q1 q2 q3 q4 q5 g; obtain ⟨p0, p1, p2, p3, p4, p5⟩ := T.out.two.bx.six; obtain ⟨q0, q1, q2, q3, q4, q5⟩ := T.out.two.byy.six)
        | (go_at_call 22; (with_reducible refine (C22.out _ T.out.drew).mono ?_); rintro e wn ⟨rfl, g⟩; replace T := Aside0.mk (T.out.drew.below g); clear p0 p1 p2 p3 p4 p5 q0 q1 q2 q3 q4 q5 g; obtain ⟨p0, p1, p2, p3, p4, p5⟩ := T.out.two.bx.six; obtain ⟨q0, q1, q2, q3, q4, q5⟩ := T.out.two.byy.six)
        | (go_at_call 22; (with_reducible refine (D22.out _ T.out).mono ?_); rintro e wn ⟨rfl, g⟩; replace T := Aside0.mk (T.out.below g); clear p0 p1 p2 p3 p4 p5 q0 q1 q2 q3 q4 q5 g; obtain ⟨p0, p1, p2, p3, p4, p5⟩ := T.out.two.bx.six; obtain ⟨q0, q1, q2, q3, q4, q5⟩ := T.out.two.byy.six)
        | (go_at_call 22; (with_reducible refine (D22.out _ T.out.drew).mono ?_); rintro e wn ⟨rfl, g⟩; replace T := Aside0.mk (T.out.drew.below g); clear p0 p1 p2 p3 p4 p5 q0 q1 q2 q3 q4 q5 g; obtain ⟨p0, p1, p2, p3, p4, p5⟩ := T.out.two.bx.six; obtain ⟨q0, q1, q2, q3, q4, q5⟩ := T.out.two.byy.six)
        | (go_at_call 28; (with_reducible refine (C28.out _ T.out).mono ?_); rintro e wn ⟨N, cn, rfl, g, -⟩; replace T := Aside0.mk (T.out.below g); clear p0 p1 p2 p3 p4 p5 q0 q1 q2 q3 q4 q5 g; obtain ⟨p0, p1, p2, p3, p4, p5⟩ := T.out.two.bx.six; obtain ⟨q0, q1, q2, q3, q4, q5⟩ := T.out.two.byy.six)
        | (go_at_call 28; (with_reducible refine (C28.out _ T.out.drew).mono ?_); rintro e wn ⟨N, cn, rfl, g, -⟩; replace T := Aside0.mk (T.out.drew.below g); clear p0 p1 p2 p3 p4 p5 q0 q1 q2 q3 q4 q5 g; obtain ⟨p0, p1, p2, p3, p4, p5⟩ := T.out.two.bx.six; obtain ⟨q0, q1, q2, q3, q4, q5⟩ := T.out.two.byy.six)
        | (go_at_call 28; (with_reducible refine (D28.out _ T.out).mono ?_); rintro e wn ⟨N, cn, rfl, g, -⟩; replace T := Aside0.mk (T.out.below g); clear p0 p1 p2 p3 p4 p5 q0 q1 q2 q3 q4 q5 g; obtain ⟨p0, p1, p2, p3, p4, p5⟩ := T.out.two.bx.six; obtain ⟨q0, q1, q2, q3, q4, q5⟩ := T.out.two.byy.six)
        | (go_at_call 28; (with_reducible refine (D28.out _ T.out.drew).mono ?_); rintro e wn ⟨N, cn, rfl, g, -⟩; replace T := Aside0.mk (T.out.drew.below g); clear p0 p1 p2 p3 p4 p5 q0 q1 q2 q3 q4 q5 g; obtain ⟨p0, p1, p2, p3, p4, p5⟩ := T.out.two.bx.six; obtain ⟨q0, q1, q2, q3, q4, q5⟩ := T.out.two.byy.six))
    all_goals
      go_wp2_with fail
      go_ret
      exact ⟨rfl, T.out.two.b⟩
end Go.Proofs.YtmlcaecknocpoaaDoor.It
namespace Go.Proofs.YtmlcaecknocpoaaDoor.It
set_option linter.unusedVariables false
open Go Go.RowKit Go.Shelf Go.Proofs.YtmlcaecknocpoaaDoorW.PrintWords Go.Proofs.YtmlcaecknocpoaaDoorW.PrintLast Go.Proofs.YtmlcaecknocpoaaDoor.Pr Go.Proofs.YtmlcaecknocpoaaDoor.Sp
theorem law12 (x y : S26) (t : S47) (A3 : Option Addr) (c3 : Nat) (A4 : Option Addr) (c4 : Nat) (A5 : Option Addr) (c5 : Nat) (B3 : Option Addr) (d3 : Nat) (B4 : Option Addr) (d4 : Nat) (B5 : Option Addr) (d5 : Nat) (w : World) (ha : Arg w x A3 c3 A4 c4 A5 c5) (hb : Arg w y B3 d3 B4 d4 B5 d5) (hT : ArgT t) (ht : Tabs w) (hd : Duals w) (hw : wt26 x + wt26 y ≤ 1048576) (hnm : x.f1.size ≤ 1048576) :
    Calls Tryd.prog 12 #[.agg #[.int .i64 x.f0, .string x.f1, .int .i64 x.f2, .slice A3 x.f3.length c3, .slice A4 x.f4.length c4, .slice A5 x.f5.length c5], .agg #[.int .i64 y.f0, .string y.f1, .int .i64 y.f2, .slice B3 y.f3.length d3, .slice B4 y.f4.length d4, .slice B5 y.f5.length d5], .agg #[.int .i64 t.f0, .string t.f1, .int .i64 t.f2]] w fun e w' => e = .returned (.bool true) ∧ Below w.heap.size w w' := by
  obtain ⟨fa, hfa⟩ := ha.few
  obtain ⟨fb, hfb⟩ := hb.few
  cases fa
  · exact law12_few1 x y t A3 c3 A4 c4 A5 c5 B3 d3 B4 d4 B5 d5 w ha hb ht hd hfa
  · cases fb
    · exact law12_few2 x y t A3 c3 A4 c4 A5 c5 B3 d3 B4 d4 B5 d5 w ha hb ht hd hfa hfb
    · exact law12_main x y t A3 c3 A4 c4 A5 c5 B3 d3 B4 d4 B5 d5 w ha hb ht hd hw hnm hfa hfb
end Go.Proofs.YtmlcaecknocpoaaDoor.It
namespace Go.Proofs.YtmlcaecknocpoaaDoor.It
set_option linter.unusedVariables false
set_option linter.unusedSimpArgs false
open Go Go.ChangeShapes Go.WideShapes Go.ChangeAt Go.RowKit
set_option maxRecDepth 100000 in
theorem trod_nm {H : Type} {enc : TypeId × Value → H} {W : World} {k n : Int} {nm : ByteArray} {v3 v4 v5 : Value} {d : DataW H} {p : List MemPlace} (h : DataW.Trod enc Tryd.prog W 0 (fun _ => true) true 26 (.agg #[.int .i64 k, .string nm, .int .i64 n, v3, v4, v5]) d p) : nm.size ≤ Rows.uptoBulk d := by
  obtain ⟨fuel, h⟩ := h
  obtain ⟨ys, n', hn', hy, hlen, hyl, hf⟩ := DataW.trod_struct Tryd.underlying26 h
  match ys, hyl with
  | [y0, y1, y2, y3, y4, y5], _ =>
    have h1 := hf 1 _ rfl
    simp only [Value.cells, cells3, cells9, cells22, cells23, cells24, List.drop_zero, List.drop_succ_cons, List.take_succ_cons, List.take_zero, List.getElem?_cons_zero, List.getElem?_cons_succ] at h1
    obtain ⟨s, e1, ws, b1⟩ := one9 h1
    have e2 := List.singleton_inj.1 e1
    injection e2 with e2
    subst e2
    simp only [Prod.mk.injEq] at hy
    obtain ⟨rfl, _⟩ := hy
    simp only [List.map_cons, List.map_nil, Rows.uptoBulk, Rows.uptoBulkAll, b1]
    omega
end Go.Proofs.YtmlcaecknocpoaaDoor.It
namespace Go.Proofs.YtmlcaecknocpoaaDoor.Wt
open Go
def zero47 : Value := .agg #[.int .i64 0, .string ByteArray.empty, .int .i64 0]
end Go.Proofs.YtmlcaecknocpoaaDoor.Wt
namespace Go.Proofs.YtmlcaecknocpoaaDoor.C12
set_option linter.unusedVariables false
set_option linter.unusedSimpArgs false
open Go Go.ChangeShapes Go.WideShapes Go.ChangeAt Go.RowKit Go.Proofs.YtmlcaecknocpoaaDoor.It
open Go.ChangeMaps (open_string shut_string)
set_option maxRecDepth 100000 in
theorem contract (H : Type) (enc : TypeId × Value → H) (W : World) (base : Nat) (args : Array Value) (ds gs : List (DataW H)) (before : List MemPlace)
    (hval0 : ∀ (j : Nat) t v, Tryd.f12.params[j]? = some t → args[j]? = some v → Value.okWide Tryd.prog W .any base t v)
    (hW : DataW.Whole enc Tryd.prog Tryd.f12.params.toList Rows.formSameExactSpec.vars false W args.toList ds gs before) (hk : Rows.uptoSmall H (ds ++ gs) = true) (hL : laidMetH Tryd.prog Rows.formSameExactUptoRow.laid W) :
    Calls Tryd.prog 12 args W fun e W' => ∃ v, e = .returned v ∧ Rows.formSameExactSpec.post enc Tryd.prog Tryd.f12 false true false false W args v W' := by
  have hval : ∀ (j : Nat) t v, Tryd.f12.params[j]? = some t → args[j]? = some v → Value.okWide Tryd.prog W .any base t v := hval0
  have hW' := hW
  obtain ⟨p, q, hA0, hV, rfl, hfz, hnd⟩ := hW
  have hA : DataW.TrodAll enc Tryd.prog W 0 (fun _ => true) true Tryd.f12.params.toList args.toList ds p := hA0
  rw [Tryd.params12] at hA hval
  obtain ⟨v0, vs0, d0, ds0, p0, q0, hargs, rfl, rfl, h0, r0⟩ := trodAll_cons hA
  obtain ⟨v1, vs1, d1, ds1, p1, q1, rfl, rfl, rfl, h1, r1⟩ := trodAll_cons r0
  obtain ⟨v2, vs2, d2, ds2, p2, q2, rfl, rfl, rfl, h2, r2⟩ := trodAll_cons r1
  obtain ⟨rfl, rfl, rfl⟩ := trodAll_nil r2
  obtain rfl : args = #[v0, v1, v2] := by cases args; simp_all
  obtain ⟨rfl, rfl⟩ := trodVars_none hV
  have hk2 := of_decide_eq_true hk
  simp only [List.append_nil, Rows.uptoBulkAll] at hk2
  obtain ⟨x0, A30, c30, A40, c40, A50, c50, rfl, ha0, hq0⟩ := trod_val2 (hval 0 26 v0 rfl rfl) h0 (by omega)
  have lt0 : ∀ y ∈ p0, y.block < W.heap.size := by
    obtain ⟨m, hm⟩ := h0
    exact DataW.trod_lt m _ _ _ hm
  obtain ⟨x1, A31, c31, A41, c41, A51, c51, rfl, ha1, hq1⟩ := trod_val2 (hval 1 26 v1 rfl rfl) h1 (by omega)
  have lt1 : ∀ y ∈ p1, y.block < W.heap.size := by
    obtain ⟨m, hm⟩ := h1
    exact DataW.trod_lt m _ _ _ hm
  obtain ⟨x2, rfl, ha2⟩ := trod_val47 (hval 2 47 v2 rfl rfl) h2 (by omega)
  have lt2 : ∀ y ∈ p2, y.block < W.heap.size := by
    obtain ⟨m, hm⟩ := h2
    exact DataW.trod_lt m _ _ _ hm
  have hl := hL
  rw [MakeChecks.laidMetH_plain _ _ _ (by kernel_rfl)] at hl
  have ht : Tabs W := tabs_laid hl (by simp [Rows.formSameExactUptoRow]) (by simp [Rows.formSameExactUptoRow]) (by simp [Rows.formSameExactUptoRow])
  have hd : Duals W := duals_laid hl (by simp [Rows.formSameExactUptoRow])
  refine (law12 x0 x1 x2 A30 c30 A40 c40 A50 c50 A31 c31 A41 c41 A51 c51 W ha0 ha1 ha2 ht hd (by omega) (by have := trod_nm h0; omega)).mono fun e W' ⟨he, bel⟩ => ?_
  subst he
  exact ⟨_, rfl, _, _, _, [], _, [], hW', trodAll_mk1 (shut_bool Tryd.underlying4 _), (trodAll_cons_mk (Below.trod laidOut (by kernel_rfl) (of_decide_eq_true (by kernel_rfl)) h0 bel lt0) (trodAll_cons_mk (Below.trod laidOut (by kernel_rfl) (of_decide_eq_true (by kernel_rfl)) h1 bel lt1) (trodAll_cons_mk (Below.trod laidOut (by kernel_rfl) (of_decide_eq_true (by kernel_rfl)) h2 bel lt2) trodAll_mk0))), rfl, bel.frame _, fun h => by cases h⟩
theorem met (os : Os) : laidMetH Tryd.prog Rows.formSameExactUptoRow.laid ((Wt.world os).forCall (fun _ _ => 0) ⟨#[], #[Wt.zero26, Wt.zero26, Wt.zero47], []⟩).memory :=
  laidMetH_of_parts3 (fuel := 8) (laidMet_of_run' 8 (by kernel_rfl) (by kernel_rfl)) (by kernel_rfl) (by kernel_rfl)
set_option maxRecDepth 100000 in
theorem lifted (os : Os) (started : os.Started) (H : Type) (enc : TypeId × Value → H) (F : Stop.Interp) :
    ReturnsInHanded {} Tryd.checked os 12 .any ((Rows.OpenSpec.upto Rows.formSameExactSpec).preRow enc Tryd.prog Tryd.f12 Rows.formSameExactUptoRow.domain false Rows.formSameExactUptoRow.laid) (((Rows.OpenSpec.upto Rows.formSameExactSpec).at F).post enc Tryd.prog Tryd.f12 false true false false) := by
  have hx : DataW.whole enc Tryd.prog ((Wt.world os).forCall (fun _ _ => 0) ⟨#[], #[Wt.zero26, Wt.zero26, Wt.zero47], []⟩).memory Tryd.f12.params.toList Rows.formSameExactSpec.vars false (#[Wt.zero26, Wt.zero26, Wt.zero47] : Array Value).toList 8 = some ([.agg [.lit (.int .i64 0), .lit (.string []), .lit (.int .i64 0), .nil, .nil, .nil], .agg [.lit (.int .i64 0), .lit (.string []), .lit (.int .i64 0), .nil, .nil, .nil], .agg [.lit (.int .i64 0), .lit (.string []), .lit (.int .i64 0)]], [], []) := by kernel_rfl
  refine returnsInHanded_of_row (C := Tryd.checked) (s := Rows.OpenSpec.upto Rows.formSameExactSpec) own started (by kernel_rfl) Tryd.func12
    (witness_row_atRef (enc := enc) (C := Tryd.checked) false (Wt.world os) #[Wt.zero26, Wt.zero26, Wt.zero47] rfl (by kernel_rfl) (by kernel_rfl) (by kernel_rfl)
      (OpenSpec.preRow_of_cond 8 hx (by kernel_rfl) (fun k hk => by cases hk; kernel_rfl) (by kernel_rfl) (met os))) ?_
  intro W base args ds gs before hval hW _ hcond _ hL _ _
  exact contract H enc W base args ds gs before hval hW (hcond _ rfl) hL
end Go.Proofs.YtmlcaecknocpoaaDoor.C12
namespace Go.Proofs.YtmlcaecknocpoaaDoor.C12
set_option linter.unusedVariables false
open Go Go.ChangeShapes Go.WideShapes Go.ChangeAt Go.RowKit
theorem isInst : Func.isInstance Tryd.pinned.checked.prog Tryd.f12 Rows.formSameExactUptoRow.origin Rows.formSameExactUptoRow.targs := of_decide_eq_true (by kernel_rfl)
theorem isWrap : Func.isWrapper Tryd.pinned.checked.prog Tryd.f12 Rows.formSameExactUptoRow.wrapper Rows.formSameExactUptoRow.mainSum := by
  unfold Func.isWrapper; first | (rw [if_pos (by decide +kernel)]; kernel_rfl) | (rw [if_neg (by decide +kernel)]; exact ⟨rfl, rfl⟩)
theorem isName : Tryd.pinned.checked.prog.funcNamed Rows.formSameExactUptoRow.func = some 12 := by kernel_rfl
theorem saidUpto : Rows.FormSameExactUptoSaid :=
  OpenClaim.holds_of_cond 12 Tryd.f12 rfl rfl rfl rfl rfl rfl rfl ⟨rfl, rfl, rfl, rfl, rfl⟩ rfl rfl rfl rfl rfl isName Tryd.func12 F12.closed isInst isWrap
    (fun os started H enc _ F => by rw [OpenClaim.pre_eq_preRow]; exact lifted os started H enc F)
theorem plain (f : FuncId) (fn : Func) (hf : Tryd.pinned.checked.prog.funcNamed "chalkline/chalklinelaw06.FormSameExact" = some f) (hfn : Tryd.pinned.checked.prog.funcs[f]? = some fn) :
    false = Tryd.pinned.checked.prog.looks [] ∧ ∀ (j : Nat) t, fn.params[j]? = some t → Tryd.pinned.checked.prog.wantsStandIn t = false := by
  obtain rfl : f = 12 := Option.some.inj ((show Tryd.prog.funcNamed "chalkline/chalklinelaw06.FormSameExact" = some 12 by kernel_rfl).symm.trans hf) |>.symm
  obtain rfl : fn = Tryd.f12 := (Option.some.inj (Tryd.func12.symm.trans hfn)).symm
  refine ⟨by kernel_rfl, fun j t ht => ?_⟩
  rw [Tryd.params12] at ht
  have hm := Array.mem_of_getElem? ht
  simp only [List.mem_toArray, List.mem_cons, List.not_mem_nil, or_false] at hm
  rcases hm with rfl | rfl | rfl
  · exact (show Tryd.prog.wantsStandIn 26 = false by kernel_rfl)
  · exact (show Tryd.prog.wantsStandIn 26 = false by kernel_rfl)
  · exact (show Tryd.prog.wantsStandIn 47 = false by kernel_rfl)
theorem wfText : Rows.formSameExactUptoRow.wfByText (Rows.OpenSpec.upto Rows.formSameExactSpec) = true := by kernel_rfl
theorem goes : false = Rows.formSameExactUptoRow.goesBy Tryd.pinned.checked.prog := by kernel_rfl
theorem cardUpto : Rows.FormSameExactUptoCardSaid :=
  Claim7.holds_tied_plain_at .later [] _ _ _ _ saidUpto (fun _ h => by cases h) wfText (fun _ h => by cases h) formSameExactUpto_row_tie rfl ⟨rfl, rfl⟩ HH.mainIs rfl plain goes
end Go.Proofs.YtmlcaecknocpoaaDoor.C12
namespace Go.Proofs.YtmlcaecknocpoaaDoor
theorem formSameExactUpto_holds : Rows.FormSameExactUptoCardSaid := C12.cardUpto
#print axioms formSameExactUpto_holds
end Go.Proofs.YtmlcaecknocpoaaDoor
