/- Lemmas and walks for the claim below. -/
import Derived.Test.YtmlcaecknocpoaaDoorQ5K8
import Derived.Deep.RegionHeld3
namespace Go.Proofs.YtmlcaecknocpoaaDoor.It
open Go Go.RowKit Go.Shelf Go.Proofs.YtmlcaecknocpoaaDoorW.PrintWords Go.Proofs.YtmlcaecknocpoaaDoorW.PrintLast Go.Proofs.YtmlcaecknocpoaaDoor.Pr Go.Proofs.YtmlcaecknocpoaaDoor.Sp
theorem here_facts {k : Int} {nm : ByteArray} {n : Int} {ts : List S47} {bs : List S42} {l : List S26} (h : here ⟨k, nm, n, ts, bs, l⟩ = true) :
    arity k = some (l.length : Int) ∧ ts.length ≤ 2 ∧ bs.length ≤ 6 ∧ (counts k = true → 0 ≤ n ∧ n ≤ most) := by
  simp only [here, Bool.and_eq_true, decide_eq_true_eq] at h
  obtain ⟨⟨h1, h2⟩, h3⟩ := h
  refine ⟨h1, ?_, ?_, ?_⟩
  · unfold termsOk at h2
    split at h2
    · simp only [Bool.and_eq_true, decide_eq_true_eq] at h2
      omega
    · simp only [Bool.and_eq_true, decide_eq_true_eq] at h2
      rw [h2.1]; simp
  · unfold bindsOk at h3
    split at h3
    · simp only [Bool.and_eq_true, decide_eq_true_eq] at h3
      omega
    · simp only [Bool.and_eq_true, decide_eq_true_eq] at h3
      rw [h3.1]; simp
  · intro hc
    unfold bindsOk at h3
    have hq : quant k = true := by
      simp only [counts, quant, Bool.or_eq_true, Bool.and_eq_true, decide_eq_true_eq] at *
      omega
    rw [hq, hc] at h3
    simp only [if_true, Bool.and_eq_true, decide_eq_true_eq, number] at h3
    exact h3.2
theorem arity_cases {k m : Int} (h : arity k = some m) : ((k = 1 ∨ k = 2 ∨ (3 ≤ k ∧ k ≤ 9)) ∧ m = 0) ∨ ((k = 10 ∨ (14 ≤ k ∧ k ≤ 17)) ∧ m = 1) ∨ ((11 ≤ k ∧ k ≤ 13) ∧ m = 2) := by
  unfold arity at h
  split at h
  · injection h with h; exact .inl ⟨by assumption, h.symm⟩
  · split at h
    · injection h with h; exact .inr (.inl ⟨by assumption, h.symm⟩)
    · split at h
      · injection h with h; exact .inr (.inr ⟨by assumption, h.symm⟩)
      · cases h
theorem right_gen_eq (k : Int) (nm : ByteArray) (n : Int) (ts : List S47) (bs : List S42) (l : List S26) (tn : Bool) (ha : always k n = false) (h2 : k ≠ 2) (h10 : k ≠ 10) (h13 : k ≠ 13) (h9 : atom k = true → tn = true → k = 9) (hl : atom k = true → l = []) (hk : 3 ≤ k ∧ k ≤ 17) :
    right ⟨k, nm, n, ts, bs, l⟩ tn = ⟨if tn = true ∧ k ≠ 9 then dualOf k else k, if tn = true ∧ k = 9 then sign nm else nm, if tn = true ∧ k = 16 then n - 1 else if tn = true ∧ k = 17 then n + 1 else n, ts, bs, rights l (tn && !counts k)⟩ := by
  rw [right.eq_def]
  simp only [ha, h2, h10, h13, Bool.false_eq_true, if_false]
  by_cases k9 : k = 9
  · subst k9
    have : l = [] := hl rfl
    subst this
    cases tn <;> simp [rights]
  · rw [if_neg k9]
    by_cases hat : atom k = true
    · rw [if_pos hat]
      have hl' := hl hat
      subst hl'
      cases tn
      · simp [rights]
      · exact absurd (h9 hat rfl) k9
    · rw [if_neg hat]
      have ha' : ¬ (3 ≤ k ∧ k ≤ 9) := by simpa [atom] using hat
      cases tn
      · simp
      · simp only [if_true, k9, true_and, ne_eq, not_false_eq_true, if_false]
        congr 1
        unfold dual dualOf
        by_cases a11 : k = 11
        · subst a11; rfl
        · by_cases a12 : k = 12
          · subst a12; rfl
          · by_cases a14 : k = 14
            · subst a14; rfl
            · by_cases a15 : k = 15
              · subst a15; rfl
              · by_cases a16 : k = 16
                · subst a16; rfl
                · have : k = 17 := by omega
                  subst this; rfl
theorem right_step (s : Nat) (hS : RightOk s) : RightOk (s + 1) := by
  rintro ⟨k, nm, n, ts, bs, l⟩ tn A3 c3 A4 c4 A5 c5 w0 W hs hat hdeep hf ht hd hb
  have hsz : sizes l ≤ s := by simp only [size] at hs; omega
  simp only [form, Bool.and_eq_true] at hf
  obtain ⟨hh, hfl⟩ := hf
  obtain ⟨har, hts, hbs, hcn⟩ := here_facts hh
  have hac := arity_cases har
  have hown := hdeep.self
  have hdp : ∀ y ∈ l, Deep y := fun y hy => by
    obtain ⟨j, hj, rfl⟩ := List.mem_iff_getElem.1 hy
    have := hdeep.child j hj
    simpa [rd_T26, List.getD, hj] using this
  by_cases ha : always k n = true
  · have he : right ⟨k, nm, n, ts, bs, l⟩ tn = leaf (if tn then 2 else 1) := by rw [right.eq_def]; simp only [ha, if_true]
    rw [he]
    refine (right_leaf k nm n ts bs l A3 c3 A4 c4 A5 c5 w0 W hat hb tn _ (.inl ⟨ha, rfl⟩)).mono ?_
    rintro e w' ⟨rfl, hbl⟩
    exact ⟨none, 0, none, 0, none, 0, rfl, hbl, fun w1 _ => leaf_at w1 _⟩
  · have ha' : always k n = false := by simpa using ha
    by_cases k2 : k = 2
    · subst k2
      have he : right ⟨2, nm, n, ts, bs, l⟩ tn = leaf (if tn then 1 else 2) := by rw [right.eq_def]; simp [ha']
      rw [he]
      refine (right_leaf 2 nm n ts bs l A3 c3 A4 c4 A5 c5 w0 W hat hb tn _ (.inr ⟨ha', rfl, rfl⟩)).mono ?_
      rintro e w' ⟨rfl, hbl⟩
      exact ⟨none, 0, none, 0, none, 0, rfl, hbl, fun w1 _ => leaf_at w1 _⟩
    · by_cases k10 : k = 10
      · subst k10
        have hl : l.length = 1 := by omega
        have he : right ⟨10, nm, n, ts, bs, l⟩ tn = right (rd_T26 l 0) (!tn) := by
          rw [right.eq_def]
          obtain ⟨x, rfl⟩ := List.length_eq_one_iff.1 hl
          simp [ha', rights, rd_T26]
        rw [he]
        exact right_not s hS nm n ts bs l A3 c3 A4 c4 A5 c5 w0 W hsz hat hfl hdp ht hd hb hl tn
      · by_cases k13 : k = 13
        · subst k13
          have hl : l.length = 2 := by omega
          have he : right ⟨13, nm, n, ts, bs, l⟩ tn = ⟨if tn then 11 else 12, e0, 0, [], [], [right (rd_T26 l 0) (!tn), right (rd_T26 l 1) tn]⟩ := by
            rw [right.eq_def]
            obtain ⟨x, y, rfl⟩ : ∃ x y, l = [x, y] := by
              match l, hl with
              | [x, y], _ => exact ⟨x, y, rfl⟩
            simp [ha', rights, rd_T26]
          rw [he]
          exact right_imp s hS nm n ts bs l A3 c3 A4 c4 A5 c5 w0 W hsz hat hfl hdp ht hd hb hl tn
        · have hla : atom k = true → l = [] := fun h => by
            have : 3 ≤ k ∧ k ≤ 9 := by simpa [atom] using h
            exact List.eq_nil_of_length_eq_zero (by omega)
          have k1 : k ≠ 1 := fun e => by subst e; simp [always] at ha'
          by_cases h9 : atom k = true → tn = true → k = 9
          · rw [right_gen_eq k nm n ts bs l tn ha' k2 k10 k13 h9 hla (by omega)]
            refine right_gen s hS k nm n ts bs l A3 c3 A4 c4 A5 c5 w0 W hsz hat hfl hdp ht hd hb hts hbs (by omega) ha' k2 k10 k13 tn h9 hown.k hown.nm (fun e => ?_) _ _ _ rfl rfl rfl (fun e => ?_)
            · subst e
              have h1 := hcn rfl
              have h2 : n ≠ 0 := fun e => by subst e; simp [always] at ha'
              unfold most at h1
              omega
            · subst e
              have h1 := hcn rfl
              have h2 : n ≠ most := fun e => by subst e; simp [always] at ha'
              unfold most at h1 h2
              omega
          · have h9' : atom k = true ∧ tn = true ∧ k ≠ 9 := by
              by_cases h1 : atom k = true
              · by_cases h2 : tn = true
                · exact ⟨h1, h2, fun e => h9 (fun _ _ => e)⟩
                · exact absurd (fun _ h => absurd h h2) h9
              · exact absurd (fun h => absurd h h1) h9
            obtain ⟨hk, rfl, k9⟩ := h9'
            have he : right ⟨k, nm, n, ts, bs, l⟩ true = ⟨10, e0, 0, [], [], [⟨k, nm, n, ts, bs, l⟩]⟩ := by
              rw [right.eq_def]
              simp [ha', k2, k10, k13, k9, hk]
            rw [he]
            exact right_atom k nm n ts bs l A3 c3 A4 c4 A5 c5 w0 W hat hb hk k9
theorem right_ok : ∀ s, RightOk s
  | 0 => fun x tn A3 c3 A4 c4 A5 c5 w0 W h => by rw [size_eq] at h; omega
  | s + 1 => right_step s (right_ok s)
theorem results_nnf {fn : Func} (h : fn.results = #[.cell 2 26, .tmp 3]) (tmps : Array Value) (w : World) (B : Nat) {v0 v1 v2 v3 v4 v5 : Value} (hB : w.heap[B]? = some (.cells #[v0, v1, v2, v3, v4, v5] 26 (0, 0))) (ht : tmps[2]?.getD undef = .pointer (some ⟨B, 0, none⟩)) :
    (results fn tmps).run Tryd.prog w = .ok (.tuple #[.agg #[v0, v1, v2, v3, v4, v5], tmps.getD 3 undef]) w := by
  obtain ⟨b0, b1, b2, b3, b4, b5⟩ := six hB
  have hu26 := Tryd.underlying26
  simp [results, h, ht, loadVar, asAddr, go_sem, b0, b1, b2, b3, b4, b5]
set_option maxRecDepth 100000 in
set_option maxHeartbeats 8000000 in
theorem nnf_calls (x : S26) (A3 : Option Addr) (c3 : Nat) (A4 : Option Addr) (c4 : Nat) (A5 : Option Addr) (c5 : Nat) (w0 W : World) (hat : At w0 x A3 c3 A4 c4 A5 c5) (hs : size x ≤ 4611686018427387904) (hdp : Deep x) (ht : Tabs w0) (hd : Duals w0) (hb : Below w0.heap.size w0 W) :
    Calls Tryd.prog 32 #[.agg #[.int .i64 x.f0, .string x.f1, .int .i64 x.f2, .slice A3 x.f3.length c3, .slice A4 x.f4.length c4, .slice A5 x.f5.length c5]] W fun e w' => ∃ B3 d3 B4 d4 B5 d5,
      e = .returned (.tuple #[.agg #[.int .i64 (nnf x).f0, .string (nnf x).f1, .int .i64 (nnf x).f2, .slice B3 (nnf x).f3.length d3, .slice B4 (nnf x).f4.length d4, .slice B5 (nnf x).f5.length d5], .int .i64 (check x)]) ∧
      Below W.heap.size W w' ∧ Lies (fun k => k < w0.heap.size ∨ W.heap.size ≤ k) w' (nnf x) B3 d3 B4 d4 B5 d5 := by
  have hu26 := Tryd.underlying26
  have hC := Aside0.mk (fun W1 (h1 : Below w0.heap.size w0 W1) => check_calls x A3 c3 A4 c4 A5 c5 W1 (hat.below h1) hs hdp (ht.below h1))
  have hR := Aside0.mk (fun (hf : form x = true) W1 (h1 : Below w0.heap.size w0 W1) => right_ok (size x) x false A3 c3 A4 c4 A5 c5 w0 W1 (Nat.le_refl _) hat hdp hf ht hd h1)
  have T0 := Aside0.mk (Two.start hb x.f0 x.f1 x.f2 x.f3 x.f4 x.f5 A3 c3 A4 c4 A5 c5)
  have hsW := Aside0.mk hb.size
  clear hat hs hdp ht hd hb
  by_cases h0 : check x = 0
  · have hf : form x = true := by
      unfold check at h0
      split at h0
      · assumption
      · cases h0
    have hn : nnf x = right x false := by simp [nnf, h0]
    replace hR := Aside0.mk (hR.out hf)
    rw [hn, h0]
    rw [h0] at hC
    clear hn hf h0
    go_enter Tryd.func32, Tryd.ntmps32
    go_wp2_with (first
      | (go_at_call 22; with_reducible refine (hC.out _ T0.out.h0).mono ?_; rintro e w1 ⟨rfl, g1⟩; have T1 := Aside0.mk (T0.out.below g1); clear T0 g1; obtain ⟨p0, p1, p2, p3, p4, p5⟩ := six T1.out.a; have ps := T1.out.s)
      | (go_at_call 60; with_reducible refine (hR.out _ T1.out.h0).mono ?_; rintro e w2 ⟨D3, f3, D4, f4, D5, f5, rfl, g2, hl2⟩; have T2 := Aside0.mk (T1.out.below g2); replace hl2 := Aside0.mk hl2; clear p0 p1 p2 p3 p4 p5; obtain ⟨r0, r1, r2, r3, r4, r5⟩ := six T2.out.b; have rf := blk_frozen T2.out.b; have qs := T2.out.s))
    refine bodyPost_ret (results_nnf rfl _ _ _ (set_six T2.out.b _ _ _ _ _ _) rfl) rfl ?_
    have hs0 := hsW.out
    exact ⟨D3, f3, D4, f4, D5, f5, rfl, T2.out.h.trans ((Agree.six _ _ _ _ _ _ _ _ (fun i => i < W.heap.size) (fun i hi => by omega)).low (fun _ h => h) (by omega)), hl2.out.move (Agree.six _ _ _ _ _ _ _ _ _ (fun i hi => by omega)) (fun i hi _ => by omega)⟩
  · have hn : nnf x = leaf 0 := by simp [nnf, h0]
    rw [hn]
    obtain ⟨cx, hcx⟩ : ∃ cx, check x = cx := ⟨_, rfl⟩
    rw [hcx] at h0 hC ⊢
    clear hn hcx hR
    go_enter Tryd.func32, Tryd.ntmps32
    go_wp2_with (first
      | (go_at_call 22; with_reducible refine (hC.out _ T0.out.h0).mono ?_; rintro e w1 ⟨rfl, g1⟩; have T1 := Aside0.mk (T0.out.below g1); clear T0 g1; obtain ⟨r0, r1, r2, r3, r4, r5⟩ := six T1.out.b; have rf := blk_frozen T1.out.b; have ps := T1.out.s))
    refine bodyPost_ret (results_nnf rfl _ _ _ (set_six T1.out.b _ _ _ _ _ _) rfl) rfl ?_
    exact ⟨none, 0, none, 0, none, 0, rfl, T1.out.h.trans ((Agree.six _ _ _ _ _ _ _ _ (fun i => i < W.heap.size) (fun i hi => by omega)).low (fun _ h => h) (by omega)), fun w1 _ => leaf_at w1 _⟩
end Go.Proofs.YtmlcaecknocpoaaDoor.It
namespace Go.Proofs.YtmlcaecknocpoaaDoor.It
open Go Go.RowKit Go.Shelf Go.Proofs.YtmlcaecknocpoaaDoorW.PrintWords Go.Proofs.YtmlcaecknocpoaaDoorW.PrintLast Go.Proofs.YtmlcaecknocpoaaDoor.Pr Go.Proofs.YtmlcaecknocpoaaDoor.Sp
theorem results_box26 {fn : Func} {t : Tmp} (h : fn.results = #[.cell t 26]) (tmps : Array Value) (w : World) (B : Nat) {v0 v1 v2 v3 v4 v5 : Value} (hB : w.heap[B]? = some (.cells #[v0, v1, v2, v3, v4, v5] 26 (0, 0))) (ht : tmps[t]?.getD undef = .pointer (some ⟨B, 0, none⟩)) :
    (results fn tmps).run Tryd.prog w = .ok (.agg #[v0, v1, v2, v3, v4, v5]) w := by
  obtain ⟨b0, b1, b2, b3, b4, b5⟩ := six hB
  have hu26 := Tryd.underlying26
  simp [results, h, ht, loadVar, asAddr, go_sem, b0, b1, b2, b3, b4, b5]
end Go.Proofs.YtmlcaecknocpoaaDoor.It
namespace Go.Proofs.YtmlcaecknocpoaaDoor.It
set_option linter.unusedVariables false
set_option linter.unusedSimpArgs false
open Go Go.RowKit Go.Shelf Go.Proofs.YtmlcaecknocpoaaDoorW.PrintWords Go.Proofs.YtmlcaecknocpoaaDoorW.PrintLast Go.Proofs.YtmlcaecknocpoaaDoor.Pr Go.Proofs.YtmlcaecknocpoaaDoor.Sp
attribute [local go_sem ↓] Go.wp_at_zero Go.wp_at_succ
theorem refAtom_calls (k : Int) (w : World) : Calls Tryd.prog 96 #[.int .i64 k] w fun e w' => e = .returned (.bool (atom k)) ∧ w = w' := by
  go_enter Tryd.func96, Tryd.ntmps96
  go_wp2_with fail
  all_goals
    go_ret
    exact ⟨ret_bool (by simp [atom]; try omega), rfl⟩
theorem refTurned_calls (s : ByteArray) (h : isSign s = true) (w : World) : Calls Tryd.prog 97 #[.string s] w fun e w' => e = .returned (.string (sign s)) ∧ Below w.heap.size w w' :=
  (chalklineref06_turned.calls s _ w (turned_f s h)).mono fun e w' h => ⟨h.1, h.2.below⟩
theorem four_blocks (W : World) (o1 o2 o3 o4 : Obj) (W4 : World) (h : (((W.alloc o1).alloc o2).alloc o3).alloc o4 = W4) :
    W4.heap[W.heap.size]? = some o1 ∧ W4.heap[W.heap.size + 1]? = some o2 ∧ W4.heap[W.heap.size + 1 + 1]? = some o3 ∧ W4.heap[W.heap.size + 1 + 1 + 1]? = some o4 ∧ Below W.heap.size W W4 ∧ W4.heap.size = W.heap.size + 4 := by
  subst h
  have up : ∀ (w : World) (o : Obj), Below w.heap.size w (w.alloc o) := fun w o => (Below.refl _ _).alloc (Nat.le_refl _) o
  have nw : ∀ (w : World) (o : Obj) (n : Nat), w.heap.size = n → (w.alloc o).heap[n]? = some o := fun w o n e => e ▸ heap_new w o
  refine ⟨?_, ?_, ?_, ?_, ?_, ?_⟩
  · exact blk_below (up _ _) (blk_below (up _ _) (blk_below (up _ _) (heap_new _ _)))
  · exact blk_below (up _ _) (blk_below (up _ _) (nw _ _ _ (by simp)))
  · exact blk_below (up _ _) (nw _ _ _ (by simp))
  · exact nw _ _ _ (by simp)
  · exact (((up _ _).alloc (by simp) _).alloc (by simp; omega) _).alloc (by simp; omega) _
  · simp
set_option maxRecDepth 100000 in
set_option maxHeartbeats 4000000 in
theorem two_calls (ok : Nat → Prop) (k : Int) (a b : S26) (A3 : Option Addr) (c3 : Nat) (A4 : Option Addr) (c4 : Nat) (A5 : Option Addr) (c5 : Nat) (B3 : Option Addr) (d3 : Nat) (B4 : Option Addr) (d4 : Nat) (B5 : Option Addr) (d5 : Nat) (W : World) (ha : Lies ok W a A3 c3 A4 c4 A5 c5) (hb : Lies ok W b B3 d3 B4 d4 B5 d5) :
    Calls Tryd.prog 98 #[.int .i64 k, .agg #[.int .i64 a.f0, .string a.f1, .int .i64 a.f2, .slice A3 a.f3.length c3, .slice A4 a.f4.length c4, .slice A5 a.f5.length c5], .agg #[.int .i64 b.f0, .string b.f1, .int .i64 b.f2, .slice B3 b.f3.length d3, .slice B4 b.f4.length d4, .slice B5 b.f5.length d5]] W fun e w' => ∃ ad,
      e = .returned (.agg #[.int .i64 k, .string ⟨#[]⟩, .int .i64 0, .slice none 0 0, .slice none 0 0, .slice (some ad) 2 2]) ∧ Below W.heap.size W w' ∧ Lies (fun i => (ok i ∧ i < W.heap.size) ∨ W.heap.size ≤ i) w' ⟨k, e0, 0, [], [], [a, b]⟩ none 0 none 0 (some ad) 2 := by
  have hu26 := Tryd.underlying26
  have H := Aside0.mk (And.intro ha hb)
  clear ha hb
  go_enter Tryd.func98, Tryd.ntmps98
  go_wp2_with fail
  obtain ⟨W4, hW4⟩ : ∃ W4, (((W.alloc (.cells #[.int .i64 a.f0, .string a.f1, .int .i64 a.f2, .slice A3 a.f3.length c3, .slice A4 a.f4.length c4, .slice A5 a.f5.length c5] 26)).alloc (.cells #[.int .i64 b.f0, .string b.f1, .int .i64 b.f2, .slice B3 b.f3.length d3, .slice B4 b.f4.length d4, .slice B5 b.f5.length d5] 26)).alloc (.cells #[.int .i64 k, .string ⟨#[]⟩, .int .i64 0, .slice none 0 0, .slice none 0 0, .slice (some ⟨W.heap.size + 1 + 1 + 1, 0, none⟩) 2 2] 26)).alloc (.cells #[.int .i64 a.f0, .string a.f1, .int .i64 a.f2, .slice A3 a.f3.length c3, .slice A4 a.f4.length c4, .slice A5 a.f5.length c5, .int .i64 b.f0, .string b.f1, .int .i64 b.f2, .slice B3 b.f3.length d3, .slice B4 b.f4.length d4, .slice B5 b.f5.length d5] 26) = W4 := ⟨_, rfl⟩
  have h4 := four_blocks _ _ _ _ _ _ hW4
  rw [hW4]
  clear hW4
  obtain ⟨b1, b2, b3, b4, hb, hsz⟩ := h4
  refine bodyPost_ret (results_box26 rfl _ _ (W.heap.size + 1 + 1) b3 rfl) rfl ⟨⟨W.heap.size + 1 + 1 + 1, 0, none⟩, rfl, hb, fun w1 h1 => ?_⟩
  have hg : Agree ok W w1 := ⟨hb.mono (Nat.zero_le _) |>.trans h1.1, fun i hi hl => (h1.2 i (.inl ⟨hi, hl⟩) (by omega)).trans (hb.block i hl)⟩
  exact ⟨Nat.le_refl _, Kd.C_nil _ _, Nat.le_refl _, Kd.C_nil _ _, Nat.le_refl _, row_two ((h1.2 _ (.inr (by omega)) (by omega)).trans b4) (H.out.1 w1 hg) (H.out.2 w1 hg)⟩
set_option maxRecDepth 100000 in
set_option maxHeartbeats 4000000 in
theorem one_calls (ok : Nat → Prop) (k n : Int) (a b : S26) (A3 : Option Addr) (c3 : Nat) (A4 : Option Addr) (c4 : Nat) (A5 : Option Addr) (c5 : Nat) (B3 : Option Addr) (d3 : Nat) (B4 : Option Addr) (d4 : Nat) (B5 : Option Addr) (d5 : Nat) (W : World) (ha : Lies ok W a A3 c3 A4 c4 A5 c5) (hb : Lies ok W b B3 d3 B4 d4 B5 d5) :
    Calls Tryd.prog 99 #[.int .i64 k, .agg #[.int .i64 a.f0, .string a.f1, .int .i64 a.f2, .slice A3 a.f3.length c3, .slice A4 a.f4.length c4, .slice A5 a.f5.length c5], .int .i64 n, .agg #[.int .i64 b.f0, .string b.f1, .int .i64 b.f2, .slice B3 b.f3.length d3, .slice B4 b.f4.length d4, .slice B5 b.f5.length d5]] W fun e w' => ∃ ad,
      e = .returned (.agg #[.int .i64 k, .string ⟨#[]⟩, .int .i64 n, .slice none 0 0, .slice A4 a.f4.length c4, .slice (some ad) 1 1]) ∧ Below W.heap.size W w' ∧ Lies (fun i => (ok i ∧ i < W.heap.size) ∨ W.heap.size ≤ i) w' ⟨k, e0, n, [], a.f4, [b]⟩ none 0 A4 c4 (some ad) 1 := by
  have hu26 := Tryd.underlying26
  have H := Aside0.mk (And.intro ha hb)
  clear ha hb
  go_enter Tryd.func99, Tryd.ntmps99
  go_wp2_with fail
  obtain ⟨W4, hW4⟩ : ∃ W4, (((W.alloc (.cells #[.int .i64 a.f0, .string a.f1, .int .i64 a.f2, .slice A3 a.f3.length c3, .slice A4 a.f4.length c4, .slice A5 a.f5.length c5] 26)).alloc (.cells #[.int .i64 b.f0, .string b.f1, .int .i64 b.f2, .slice B3 b.f3.length d3, .slice B4 b.f4.length d4, .slice B5 b.f5.length d5] 26)).alloc (.cells #[.int .i64 k, .string ⟨#[]⟩, .int .i64 n, .slice none 0 0, .slice A4 a.f4.length c4, .slice (some ⟨W.heap.size + 1 + 1 + 1, 0, none⟩) 1 1] 26)).alloc (.cells #[.int .i64 b.f0, .string b.f1, .int .i64 b.f2, .slice B3 b.f3.length d3, .slice B4 b.f4.length d4, .slice B5 b.f5.length d5] 26) = W4 := ⟨_, rfl⟩
  have h4 := four_blocks _ _ _ _ _ _ hW4
  rw [hW4]
  clear hW4
  obtain ⟨b1, b2, b3, b4, hb, hsz⟩ := h4
  refine bodyPost_ret (results_box26 rfl _ _ (W.heap.size + 1 + 1) b3 rfl) rfl ⟨⟨W.heap.size + 1 + 1 + 1, 0, none⟩, rfl, hb, fun w1 h1 => ?_⟩
  have hg : Agree ok W w1 := ⟨hb.mono (Nat.zero_le _) |>.trans h1.1, fun i hi hl => (h1.2 i (.inl ⟨hi, hl⟩) (by omega)).trans (hb.block i hl)⟩
  exact ⟨Nat.le_refl _, Kd.C_nil _ _, (H.out.1 w1 hg).l4, (H.out.1 w1 hg).g4, Nat.le_refl _, row_one ((h1.2 _ (.inr (by omega)) (by omega)).trans b4) (H.out.2 w1 hg)⟩
def Ans (w0 W : World) (R : S26) (e : Ending) (w' : World) : Prop := ∃ B3 d3 B4 d4 B5 d5,
    e = .returned (.agg #[.int .i64 R.f0, .string R.f1, .int .i64 R.f2, .slice B3 R.f3.length d3, .slice B4 R.f4.length d4, .slice B5 R.f5.length d5]) ∧ Below W.heap.size W w' ∧ Lies (fun k => k < w0.heap.size ∨ W.heap.size ≤ k) w' R B3 d3 B4 d4 B5 d5
def RefOk (s : Nat) : Prop := ∀ (x : S26) (turn : Bool) (A3 : Option Addr) (c3 : Nat) (A4 : Option Addr) (c4 : Nat) (A5 : Option Addr) (c5 : Nat) (w0 W : World), size x ≤ s → At w0 x A3 c3 A4 c4 A5 c5 → Fm x → Below w0.heap.size w0 W →
  Calls Tryd.prog 61 #[.agg #[.int .i64 x.f0, .string x.f1, .int .i64 x.f2, .slice A3 x.f3.length c3, .slice A4 x.f4.length c4, .slice A5 x.f5.length c5], .bool turn] W (Ans w0 W (right x turn))
theorem Ans.leaf {w0 W w : World} {B : Nat} {k1 : Int} (h : Below W.heap.size W w) (hB : W.heap.size ≤ B) (hsz : B < w.heap.size) : Ans w0 W (leaf k1) (.returned (.agg #[.int .i64 k1, .string ⟨#[]⟩, .int .i64 0, .slice none 0 0, .slice none 0 0, .slice none 0 0])) ((((((w.setCell ⟨B, 0, none⟩ (.int .i64 k1)).setCell ⟨B, 1, none⟩ (.string ⟨#[]⟩)).setCell ⟨B, 2, none⟩ (.int .i64 0)).setCell ⟨B, 3, none⟩ (.slice none 0 0)).setCell ⟨B, 4, none⟩ (.slice none 0 0)).setCell ⟨B, 5, none⟩ (.slice none 0 0)) :=
  ⟨none, 0, none, 0, none, 0, rfl, h.trans ((Agree.six _ _ _ _ _ _ _ _ (fun i => i < W.heap.size) (fun i hi => by omega)).low (fun _ h => h) (by have := h.size; omega)), fun w1 _ => leaf_at w1 _⟩
theorem Ans.laid {w0 W w : World} {B : Nat} {R : S26} (B3 : Option Addr) (d3 : Nat) (B4 : Option Addr) (d4 : Nat) (B5 : Option Addr) (d5 : Nat) (hw : w0.heap.size ≤ W.heap.size) (h : Below W.heap.size W w) (hB : W.heap.size ≤ B) (m : Nat) (hm : W.heap.size ≤ m) (hBm : B < m) (hl : Lies (fun i => i < w0.heap.size ∨ m ≤ i) w R B3 d3 B4 d4 B5 d5) :
    Ans w0 W R (.returned (.agg #[.int .i64 R.f0, .string R.f1, .int .i64 R.f2, .slice B3 R.f3.length d3, .slice B4 R.f4.length d4, .slice B5 R.f5.length d5])) ((((((w.setCell ⟨B, 0, none⟩ (.int .i64 R.f0)).setCell ⟨B, 1, none⟩ (.string R.f1)).setCell ⟨B, 2, none⟩ (.int .i64 R.f2)).setCell ⟨B, 3, none⟩ (.slice B3 R.f3.length d3)).setCell ⟨B, 4, none⟩ (.slice B4 R.f4.length d4)).setCell ⟨B, 5, none⟩ (.slice B5 R.f5.length d5)) :=
  ⟨B3, d3, B4, d4, B5, d5, rfl, h.trans ((Agree.six _ _ _ _ _ _ _ _ (fun i => i < W.heap.size) (fun i hi => by omega)).low (fun _ h => h) (by have := h.size; omega)), hl.move (Agree.six _ _ _ _ _ _ _ _ _ (fun i hi => by omega)) (fun i hi _ => by omega)⟩
theorem refAtom_below (k : Int) (b : Bool) (h : atom k = b) (w : World) : Calls Tryd.prog 96 #[.int .i64 k] w fun e w' => e = .returned (.bool b) ∧ Below w.heap.size w w' :=
  (refAtom_calls k w).mono fun e w' hh => ⟨h ▸ hh.1, hh.2 ▸ Below.refl _ _⟩
set_option maxRecDepth 100000 in
set_option maxHeartbeats 8000000 in
theorem ref_leaf (k : Int) (nm : ByteArray) (n : Int) (ts : List S47) (bs : List S42) (l : List S26) (t : Bool) (k1 : Int) (A3 : Option Addr) (c3 : Nat) (A4 : Option Addr) (c4 : Nat) (A5 : Option Addr) (c5 : Nat) (w0 W : World) (hb : Below w0.heap.size w0 W)
    (hx : always k n = true ∧ k1 = (if t then 2 else 1) ∨ always k n = false ∧ k = 2 ∧ k1 = (if t then 1 else 2)) :
    Calls Tryd.prog 61 #[.agg #[.int .i64 k, .string nm, .int .i64 n, .slice A3 ts.length c3, .slice A4 bs.length c4, .slice A5 l.length c5], .bool t] W (Ans w0 W (leaf k1)) := by
  have hu26 := Tryd.underlying26
  have T0 := Aside0.mk (Two.start hb k nm n ts bs l A3 c3 A4 c4 A5 c5)
  have hA := Aside0.mk (refAtom_below k false (by simp only [always, Bool.or_eq_true, Bool.and_eq_true, decide_eq_true_eq] at hx; simp [atom]; omega))
  clear hb
  have hk : (k = 1 ∧ k1 = (if t then 2 else 1)) ∨ ((k = 16 ∧ n = 0) ∧ k1 = (if t then 2 else 1)) ∨ ((k = 17 ∧ n = 1099511627776) ∧ k1 = (if t then 2 else 1)) ∨ (k = 2 ∧ k1 = (if t then 1 else 2)) := by
    rcases hx with ⟨h, h'⟩ | ⟨_, h, h'⟩
    · simp only [always, Bool.or_eq_true, Bool.and_eq_true, decide_eq_true_eq] at h
      unfold most at h
      rcases h with (h | h) | h
      · exact .inl ⟨h, h'⟩
      · exact .inr (.inl ⟨h, h'⟩)
      · exact .inr (.inr (.inl ⟨h, h'⟩))
    · exact .inr (.inr (.inr ⟨h, h'⟩))
  clear hx
  rcases hk with ⟨rfl, h1⟩ | ⟨⟨rfl, rfl⟩, h1⟩ | ⟨⟨rfl, rfl⟩, h1⟩ | ⟨rfl, h1⟩ <;> cases t
  any_goals
    simp only [if_true, Bool.false_eq_true, if_false] at h1
    subst h1
    go_enter Tryd.func61, Tryd.ntmps61
    go_wp2_with (go_at_call 96; with_reducible refine (hA.out _).mono ?_; rintro e w1 ⟨rfl, g1⟩; have T1 := Aside0.mk (T0.out.below g1); clear T0 g1; obtain ⟨p0, p1, p2, p3, p4, p5⟩ := six T1.out.a; obtain ⟨r0, r1, r2, r3, r4, r5⟩ := six T1.out.b; have rf := blk_frozen T1.out.b; have ps := T1.out.s)
    refine bodyPost_ret (results_cell26 rfl _ _ _ (set_six T1.out.b _ _ _ _ _ _) rfl) rfl ?_
    exact Ans.leaf T1.out.h (by omega) (by have := T1.out.s; omega)
end Go.Proofs.YtmlcaecknocpoaaDoor.It
namespace Go.Proofs.YtmlcaecknocpoaaDoor.It
set_option linter.unusedVariables false
set_option linter.unusedSimpArgs false
open Go Go.RowKit Go.Shelf Go.Proofs.YtmlcaecknocpoaaDoorW.PrintWords Go.Proofs.YtmlcaecknocpoaaDoorW.PrintLast Go.Proofs.YtmlcaecknocpoaaDoor.Pr Go.Proofs.YtmlcaecknocpoaaDoor.Sp
attribute [local go_sem ↓] Go.wp_at_zero Go.wp_at_succ
set_option maxRecDepth 100000 in
set_option maxHeartbeats 8000000 in
theorem ref_same (k : Int) (nm : ByteArray) (n : Int) (ts : List S47) (bs : List S42) (l : List S26) (A3 : Option Addr) (c3 : Nat) (A4 : Option Addr) (c4 : Nat) (A5 : Option Addr) (c5 : Nat) (w0 W : World) (t : Bool) (hat : At w0 ⟨k, nm, n, ts, bs, l⟩ A3 c3 A4 c4 A5 c5) (hb : Below w0.heap.size w0 W) (hk : atom k = true) (ht : t = false) :
    Calls Tryd.prog 61 #[.agg #[.int .i64 k, .string nm, .int .i64 n, .slice A3 ts.length c3, .slice A4 bs.length c4, .slice A5 l.length c5], .bool t] W (Ans w0 W ⟨k, nm, n, ts, bs, l⟩) := by
  subst ht
  have hu26 := Tryd.underlying26
  have T0 := Aside0.mk (Two.start hb k nm n ts bs l A3 c3 A4 c4 A5 c5)
  have hA := Aside0.mk (refAtom_below k true hk)
  have hk' : 3 ≤ k ∧ k ≤ 9 := by simpa [atom] using hk
  have k1 : k ≠ 1 := by omega
  have k2 : k ≠ 2 := by omega
  have k16 : k ≠ 16 := by omega
  have k17 : k ≠ 17 := by omega
  have H := Aside0.mk (And.intro hat hb)
  have K0 : Aside0 (atom k = true) := ⟨hk⟩
  clear hat hb hk hk'
  have hs0 := Aside0.mk H.out.2.size
  by_cases k9 : k = 9
  · subst k9
    clear k1 k2 k16 k17
    go_enter Tryd.func61, Tryd.ntmps61
    go_upto_region 10 with ((go_at_call 96; with_reducible refine (hA.out _).mono ?_; rintro e w1 ⟨rfl, g1⟩; have T1 := Aside0.mk (T0.out.below g1); clear T0 g1; obtain ⟨p0, p1, p2, p3, p4, p5⟩ := six T1.out.a; obtain ⟨r0, r1, r2, r3, r4, r5⟩ := six T1.out.b; have rf := blk_frozen T1.out.b; have ps := T1.out.s; have pt : W.heap.size + 1 < w1.heap.size := Nat.lt_of_lt_of_le (Nat.lt_succ_self _) T1.out.s))
    go_wp2_with ((go_at_call 96; with_reducible refine (hA.out _).mono ?_; rintro e w2 ⟨rfl, g2⟩; have T2 := Aside0.mk (T1.out.below g2); clear T1 g2 p0 p1 p2 p3 p4 p5 ps pt r0 r1 r2 r3 r4 r5 rf; obtain ⟨q0, q1, q2, q3, q4, q5⟩ := six T2.out.a; obtain ⟨r0, r1, r2, r3, r4, r5⟩ := six T2.out.b; have rf := blk_frozen T2.out.b; have qs := T2.out.s))
    refine bodyPost_ret (results_cell26 rfl _ _ _ (set_six T2.out.b _ _ _ _ _ _) rfl) rfl ?_
    exact Ans.laid (R := ⟨_, nm, n, ts, bs, l⟩) A3 c3 A4 c4 A5 c5 hs0.out T2.out.h (by omega) (W.heap.size + 2) (by omega) (by omega) ((H.out.1.lies T2.out.h0 (fun i => i < w0.heap.size) (fun _ h => h)).mono (fun i hi _ => .inl hi))
  · have b1 : (k == 1) = false := by simpa using k1
    have b2 : (k == 2) = false := by simpa using k2
    go_enter Tryd.func61, Tryd.ntmps61
    go_upto_region 10 with ((go_at_call 96; with_reducible refine (hA.out _).mono ?_; rintro e w1 ⟨rfl, g1⟩; have T1 := Aside0.mk (T0.out.below g1); clear T0 g1; obtain ⟨p0, p1, p2, p3, p4, p5⟩ := six T1.out.a; obtain ⟨r0, r1, r2, r3, r4, r5⟩ := six T1.out.b; have rf := blk_frozen T1.out.b; have ps := T1.out.s; have pt : W.heap.size + 1 < w1.heap.size := Nat.lt_of_lt_of_le (Nat.lt_succ_self _) T1.out.s))
    go_wp2_with ((go_at_call 96; with_reducible refine (hA.out _).mono ?_; rintro e w2 ⟨rfl, g2⟩; have T2 := Aside0.mk (T1.out.below g2); clear T1 g2 p0 p1 p2 p3 p4 p5 ps pt r0 r1 r2 r3 r4 r5 rf; obtain ⟨q0, q1, q2, q3, q4, q5⟩ := six T2.out.a; obtain ⟨r0, r1, r2, r3, r4, r5⟩ := six T2.out.b; have rf := blk_frozen T2.out.b; have qs := T2.out.s))
    refine bodyPost_ret (results_cell26 rfl _ _ _ (set_six T2.out.b _ _ _ _ _ _) rfl) rfl ?_
    exact Ans.laid (R := ⟨_, nm, n, ts, bs, l⟩) A3 c3 A4 c4 A5 c5 hs0.out T2.out.h (by omega) (W.heap.size + 2) (by omega) (by omega) ((H.out.1.lies T2.out.h0 (fun i => i < w0.heap.size) (fun _ h => h)).mono (fun i hi _ => .inl hi))
set_option maxRecDepth 100000 in
set_option maxHeartbeats 8000000 in
theorem ref_atom (k : Int) (nm : ByteArray) (n : Int) (ts : List S47) (bs : List S42) (l : List S26) (A3 : Option Addr) (c3 : Nat) (A4 : Option Addr) (c4 : Nat) (A5 : Option Addr) (c5 : Nat) (w0 W : World) (hat : At w0 ⟨k, nm, n, ts, bs, l⟩ A3 c3 A4 c4 A5 c5) (hb : Below w0.heap.size w0 W) (hk : atom k = true) (h9 : k ≠ 9) :
    Calls Tryd.prog 61 #[.agg #[.int .i64 k, .string nm, .int .i64 n, .slice A3 ts.length c3, .slice A4 bs.length c4, .slice A5 l.length c5], .bool true] W (Ans w0 W ⟨10, e0, 0, [], [], [⟨k, nm, n, ts, bs, l⟩]⟩) := by
  have hu26 := Tryd.underlying26
  have T0 := Aside0.mk (Two.start hb k nm n ts bs l A3 c3 A4 c4 A5 c5)
  have hA := Aside0.mk (refAtom_below k true hk)
  have H := Aside0.mk (And.intro hat hb)
  clear hat hb hk
  go_enter Tryd.func61, Tryd.ntmps61
  go_wp2_with (first | (go_at_call 96; with_reducible refine (hA.out _).mono ?_; rintro e w1 ⟨rfl, g1⟩; have T1 := Aside0.mk (T0.out.below g1); clear T0 g1; obtain ⟨p0, p1, p2, p3, p4, p5⟩ := six T1.out.a; obtain ⟨r0, r1, r2, r3, r4, r5⟩ := six T1.out.b; have rf := blk_frozen T1.out.b; have ps := T1.out.s; have pt : W.heap.size + 1 < w1.heap.size := Nat.lt_of_lt_of_le (Nat.lt_succ_self _) T1.out.s))
  have hs0 := H.out.2.size
  have sA := fun ok h => Agree.six w1 (W.heap.size + 1) (.int .i64 10) (.string ⟨#[]⟩) (.int .i64 0) (.slice none 0 0) (.slice none 0 0) (.slice (some ⟨w1.heap.size, 0, none⟩) 1 1) ok h
  have sB := set_six T1.out.b (.int .i64 10) (.string ⟨#[]⟩) (.int .i64 0) (.slice none 0 0) (.slice none 0 0) (.slice (some ⟨w1.heap.size, 0, none⟩) 1 1)
  obtain ⟨ws, hws⟩ : ∃ ws, ((((((w1.setCell ⟨W.heap.size + 1, 0, none⟩ (.int .i64 10)).setCell ⟨W.heap.size + 1, 1, none⟩ (.string ⟨#[]⟩)).setCell ⟨W.heap.size + 1, 2, none⟩ (.int .i64 0)).setCell ⟨W.heap.size + 1, 3, none⟩ (.slice none 0 0)).setCell ⟨W.heap.size + 1, 4, none⟩ (.slice none 0 0)).setCell ⟨W.heap.size + 1, 5, none⟩ (.slice (some ⟨w1.heap.size, 0, none⟩) 1 1)) = ws := ⟨_, rfl⟩
  have hsz : ws.heap.size = w1.heap.size := by rw [← hws]; simp
  rw [hws] at sA sB ⊢
  clear hws
  have hn := heap_new ws (.cells #[.int .i64 k, .string nm, .int .i64 n, .slice A3 ts.length c3, .slice A4 bs.length c4, .slice A5 l.length c5] 26)
  rw [hsz] at hn
  refine bodyPost_ret (results_cell26 rfl _ _ _ (blk_below ((Below.refl _ _).alloc (Nat.le_refl _) _) sB) rfl) rfl ?_
  refine ⟨none, 0, none, 0, some ⟨w1.heap.size, 0, none⟩, 1, rfl, T1.out.h.trans (((sA (fun i => i < W.heap.size) (fun i hi => by omega)).low (fun _ h => h) (by omega)).alloc (by omega) _), fun w3 h1 => ?_⟩
  have hx : Lies (fun i => i < w0.heap.size) w1 ⟨k, nm, n, ts, bs, l⟩ A3 c3 A4 c4 A5 c5 := H.out.1.lies T1.out.h0 _ (fun _ h => h)
  have a1 : Agree (fun i => i < w0.heap.size ∨ W.heap.size + 2 ≤ i) w1 w3 := ((sA _ (fun i hi => by omega)).trans (Agree.alloc ws _ (fun _ => True)) (fun _ _ _ => trivial)).trans h1 (fun i hi _ => by omega)
  exact ⟨Nat.le_refl _, Kd.C_nil _ _, Nat.le_refl _, Kd.C_nil _ _, Nat.le_refl _, row_one ((h1.2 w1.heap.size (by omega) (by simp; omega)).trans hn) (hx w3 (a1.mono (fun i hi _ => .inl hi)))⟩
set_option maxRecDepth 100000 in
set_option maxHeartbeats 8000000 in
theorem ref_cmp (nm : ByteArray) (ts : List S47) (A3 : Option Addr) (c3 : Nat) (A4 : Option Addr) (c4 : Nat) (A5 : Option Addr) (c5 : Nat) (w0 W : World) (hat : At w0 ⟨9, nm, 0, ts, [], []⟩ A3 c3 A4 c4 A5 c5) (hb : Below w0.heap.size w0 W) (hs : isSign nm = true) :
    Calls Tryd.prog 61 #[.agg #[.int .i64 9, .string nm, .int .i64 0, .slice A3 ts.length c3, .slice A4 0 c4, .slice A5 0 c5], .bool true] W (Ans w0 W ⟨9, sign nm, 0, ts, [], []⟩) := by
  have hu26 := Tryd.underlying26
  have T0 := Aside0.mk (Two.start hb 9 nm 0 ts [] [] A3 c3 A4 c4 A5 c5)
  have hA := Aside0.mk (refAtom_below 9 true rfl)
  have hC := Aside0.mk (refTurned_calls nm hs)
  have H := Aside0.mk (And.intro hat hb)
  clear hat hb hs
  simp only [List.length_nil] at T0
  obtain ⟨sg, hsg⟩ : ∃ sg, sign nm = sg := ⟨_, rfl⟩
  rw [hsg] at hC ⊢
  clear hsg
  go_enter Tryd.func61, Tryd.ntmps61
  go_upto_region 4 with (first | (go_at_call 96; with_reducible refine (hA.out _).mono ?_; rintro e w1 ⟨rfl, g1⟩; have T1 := Aside0.mk (T0.out.below g1); clear T0 g1; obtain ⟨p0, p1, p2, p3, p4, p5⟩ := six T1.out.a; obtain ⟨r0, r1, r2, r3, r4, r5⟩ := six T1.out.b; have rf := blk_frozen T1.out.b; have ps := T1.out.s; have pt : W.heap.size + 1 < w1.heap.size := Nat.lt_of_lt_of_le (Nat.lt_succ_self _) T1.out.s))
  go_region_held3 (fun w' => w'.cell? ⟨W.heap.size, 1, none⟩ = some (.string nm) ∧ w'.cell? ⟨W.heap.size, 3, none⟩ = some (.slice A3 ts.length c3)) (go_keep)
    (first | (go_at_call 97; with_reducible refine (hC.out _).mono ?_; rintro e w3 ⟨rfl, g3⟩; have T3 := Aside0.mk (T1.out.drew.below g3); clear g3; obtain ⟨s0, s1, s2, s3, s4, s5⟩ := six T3.out.a; obtain ⟨r0, r1, r2, r3, r4, r5⟩ := six T3.out.b; have rf := blk_frozen T3.out.b; have qs := T3.out.s))
  all_goals
    go_wp2_with fail
    refine bodyPost_ret (results_cell26 rfl _ _ _ (set_six T3.out.b _ _ _ _ _ _) rfl) rfl ?_
    have hs := H.out.2.size
    have hL := H.out.1.lies T3.out.h0 (fun i => i < w0.heap.size) (fun _ h => h)
    exact Ans.laid (R := ⟨9, sg, 0, ts, [], []⟩) A3 c3 none 0 none 0 hs T3.out.h (by omega) (W.heap.size + 2) (by omega) (by omega) (fun w5 h5 => ⟨(hL w5 (h5.mono (fun i hi _ => .inl hi))).l3, (hL w5 (h5.mono (fun i hi _ => .inl hi))).g3, Nat.le_refl _, Kd.C_nil _ _, Nat.le_refl _, Kd.C_nil _ _⟩)
end Go.Proofs.YtmlcaecknocpoaaDoor.It
namespace Go.Proofs.YtmlcaecknocpoaaDoor.It
set_option linter.unusedVariables false
set_option linter.unusedSimpArgs false
open Go Go.RowKit Go.Shelf Go.Proofs.YtmlcaecknocpoaaDoorW.PrintWords Go.Proofs.YtmlcaecknocpoaaDoorW.PrintLast Go.Proofs.YtmlcaecknocpoaaDoor.Pr Go.Proofs.YtmlcaecknocpoaaDoor.Sp
attribute [local go_sem ↓] Go.wp_at_zero Go.wp_at_succ
theorem Lies.step {w0 w3 w4 : World} {y : S26} {B3 : Option Addr} {d3 : Nat} {B4 : Option Addr} {d4 : Nat} {B5 : Option Addr} {d5 : Nat} {m n : Nat} (l : Lies (fun i => i < w0.heap.size ∨ m ≤ i) w3 y B3 d3 B4 d4 B5 d5) (g : Below w3.heap.size w3 w4) (hm : n ≤ m) :
    Lies (fun i => i < w0.heap.size ∨ n ≤ i) w4 y B3 d3 B4 d4 B5 d5 := l.move (Agree.of_below g (fun _ _ h => h)) (fun i hi _ => by omega)
set_option maxRecDepth 100000 in
set_option maxHeartbeats 8000000 in
theorem ref_two_13_t (s : Nat) (hS : RefOk s) (y z : S26) (A3 : Option Addr) (c3 : Nat) (A4 : Option Addr) (c4 : Nat) (A5 : Option Addr) (c5 : Nat) (w0 W : World) (hs : sizes [y, z] ≤ s) (hat : At w0 ⟨13, e0, 0, [], [], [y, z]⟩ A3 c3 A4 c4 A5 c5) (hy : Fm y) (hz : Fm z) (hb : Below w0.heap.size w0 W) :
    Calls Tryd.prog 61 #[.agg #[.int .i64 13, .string ⟨#[]⟩, .int .i64 0, .slice A3 0 c3, .slice A4 0 c4, .slice A5 2 c5], .bool true] W (Ans w0 W ⟨11, e0, 0, [], [], [right y false, right z true]⟩) := by
  have hu26 := Tryd.underlying26
  simp only [sizes] at hs
  obtain ⟨ad, B3, d3, B4, d4, B5, d5, hA5, hatj, x0, x1, x2, x3, x4, x5⟩ := formAt hat.g5 (Below.refl _ _) 0 (by simp)
  obtain ⟨ad', B6, d6, B7, d7, B8, d8, hA5', hatk, z0, z1, z2, z3, z4, z5⟩ := formAt hat.g5 (Below.refl _ _) 1 (by simp)
  subst hA5
  obtain rfl : ad = ad' := by injection hA5'
  clear hA5'
  have hy' : rd_T26 [y, z] ((0 : Nat) : Int) = y := rfl
  have hz' : rd_T26 [y, z] ((1 : Nat) : Int) = z := rfl
  dsimp only at hatj hatk x0 x1 x2 x3 x4 x5 z0 z1 z2 z3 z4 z5
  rw [hy'] at hatj x0 x1 x2 x3 x4 x5
  rw [hz'] at hatk z0 z1 z2 z3 z4 z5
  simp only [Nat.zero_mul, Nat.one_mul, Addr.add_zero'] at x0 x1 x2 x3 x4 x5 z0 z1 z2 z3 z4 z5
  have e6 : ad.add 6 = ⟨ad.block, ad.off + 6, none⟩ := rfl
  rw [e6] at z0 z1 z2 z3 z4 z5
  dsimp only at z0 z1 z2 z3 z4 z5
  clear e6
  have HC := Aside0.mk (fun W1 (h1 : Below w0.heap.size w0 W1) => hS y false B3 d3 B4 d4 B5 d5 w0 W1 (by omega) hatj hy h1)
  have HD := Aside0.mk (fun W1 (h1 : Below w0.heap.size w0 W1) => hS z true B6 d6 B7 d7 B8 d8 w0 W1 (by omega) hatk hz h1)
  have T0 := Aside0.mk (Two.start hb 13 e0 0 [] [] [y, z] A3 c3 A4 c4 (some ad) c5)
  simp only [List.length_nil, List.length_cons, Nat.zero_add, Nat.reduceAdd] at T0
  have hA := Aside0.mk (refAtom_below 13 false rfl)
  have hadl := Aside0.mk (show ad.block < w0.heap.size from World.block_lt_of_cell? w0 _ x0)
  have HX := Aside0.mk (And.intro x0 (And.intro x1 (And.intro x2 (And.intro x3 (And.intro x4 x5)))))
  have HY := Aside0.mk (And.intro z0 (And.intro z1 (And.intro z2 (And.intro z3 (And.intro z4 z5)))))
  have hsW := Aside0.mk hb.size
  have na : ¬ W.heap.size + 1 = ad.block := by have := hadl.out; have := hsW.out; omega
  have na' : ¬ ad.block = W.heap.size + 1 := fun e => na e.symm
  clear hS hs hat hy hz hatj hatk hy' hz' x0 x1 x2 x3 x4 x5 z0 z1 z2 z3 z4 z5 hb
  obtain ⟨ry, hry⟩ : ∃ ry, right y false = ry := ⟨_, rfl⟩
  obtain ⟨rz, hrz⟩ : ∃ rz, right z true = rz := ⟨_, rfl⟩
  rw [hry] at HC ⊢
  rw [hrz] at HD ⊢
  clear hry hrz
  go_enter Tryd.func61, Tryd.ntmps61
  go_upto_region 10 with ((go_at_call 96; (with_reducible refine (hA.out _).mono ?_); rintro e w1 ⟨rfl, g1⟩; have T1 := Aside0.mk (T0.out.below g1); clear T0 g1; obtain ⟨p0, p1, p2, p3, p4, p5⟩ := six T1.out.a; have ps := T1.out.s))
  go_upto_region 17 with ((go_at_call 96; (with_reducible refine (hA.out _).mono ?_); rintro e w2 ⟨rfl, g2⟩; have T2 := Aside0.mk (T1.out.below g2); clear T1 g2 p0 p1 p2 p3 p4 p5 ps; obtain ⟨q0, q1, q2, q3, q4, q5⟩ := six T2.out.a; have qs := T2.out.s))
  obtain ⟨u0, u1, u2, u3, u4, u5⟩ := up6 T2.out.h0 HX.out
  obtain ⟨v0, v1, v2, v3, v4, v5⟩ := up6 T2.out.h0 HY.out
  go_region_held3 (fun w' => w'.cell? ⟨W.heap.size, 5, none⟩ = some (.slice (some ad) 2 c5) ∧ w'.cell? ad = some (.int .i64 y.f0) ∧ w'.cell? ⟨ad.block, ad.off + 1, none⟩ = some (.string y.f1) ∧ w'.cell? ⟨ad.block, ad.off + 2, none⟩ = some (.int .i64 y.f2) ∧ w'.cell? ⟨ad.block, ad.off + 3, none⟩ = some (.slice B3 y.f3.length d3) ∧ w'.cell? ⟨ad.block, ad.off + 4, none⟩ = some (.slice B4 y.f4.length d4) ∧ w'.cell? ⟨ad.block, ad.off + 5, none⟩ = some (.slice B5 y.f5.length d5) ∧
      w'.cell? ⟨ad.block, ad.off + 6, none⟩ = some (.int .i64 z.f0) ∧ w'.cell? ⟨ad.block, ad.off + 6 + 1, none⟩ = some (.string z.f1) ∧ w'.cell? ⟨ad.block, ad.off + 6 + 2, none⟩ = some (.int .i64 z.f2) ∧ w'.cell? ⟨ad.block, ad.off + 6 + 3, none⟩ = some (.slice B6 z.f3.length d6) ∧ w'.cell? ⟨ad.block, ad.off + 6 + 4, none⟩ = some (.slice B7 z.f4.length d7) ∧ w'.cell? ⟨ad.block, ad.off + 6 + 5, none⟩ = some (.slice B8 z.f5.length d8)) (go_keep)
    (first
      | (go_at_call 98; (with_reducible refine (two_calls (fun i => i < w0.heap.size ∨ W.heap.size + 2 ≤ i) _ _ _ _ _ _ _ _ _ _ _ _ _ _ _ _ L3.out L4.out).mono ?_); rintro e w5 ⟨G, rfl, g5, l5⟩; have T5 := Aside0.mk (T4.out.below g5); replace l5 := Aside0.mk l5; obtain ⟨s0, s1, s2, s3, s4, s5⟩ := six T5.out.a; obtain ⟨u0, u1, u2, u3, u4, u5⟩ := up6 T5.out.h0 HX.out; obtain ⟨v0, v1, v2, v3, v4, v5⟩ := up6 T5.out.h0 HY.out; obtain ⟨r0, r1, r2, r3, r4, r5⟩ := six T5.out.b; have rf := blk_frozen T5.out.b; have ss := T5.out.s)
      | (go_at_call 61; (with_reducible refine (HD.out _ T3.out.h0).mono ?_); rintro e w4 ⟨E3, h3, E4, h4, E5, h5, rfl, g4, l4⟩; have T4 := Aside0.mk (T3.out.below g4); have L3 := Aside0.mk (l3.out.step g4 T2.out.drew.s); have L4 := Aside0.mk (l4.mono (ok' := fun i => i < w0.heap.size ∨ W.heap.size + 2 ≤ i) (fun i hi _ => by have := T3.out.s; omega)); clear l4; obtain ⟨s0, s1, s2, s3, s4, s5⟩ := six T4.out.a; obtain ⟨u0, u1, u2, u3, u4, u5⟩ := up6 T4.out.h0 HX.out; obtain ⟨v0, v1, v2, v3, v4, v5⟩ := up6 T4.out.h0 HY.out)
      | (go_at_call 61; (with_reducible refine (HC.out _ T3.out.h0).mono ?_); rintro e w4 ⟨E3, h3, E4, h4, E5, h5, rfl, g4, l4⟩; have T4 := Aside0.mk (T3.out.below g4); have L4 := Aside0.mk (l3.out.step g4 T2.out.drew.s); have L3 := Aside0.mk (l4.mono (ok' := fun i => i < w0.heap.size ∨ W.heap.size + 2 ≤ i) (fun i hi _ => by have := T3.out.s; omega)); clear l4; obtain ⟨s0, s1, s2, s3, s4, s5⟩ := six T4.out.a; obtain ⟨u0, u1, u2, u3, u4, u5⟩ := up6 T4.out.h0 HX.out; obtain ⟨v0, v1, v2, v3, v4, v5⟩ := up6 T4.out.h0 HY.out)
      | (go_at_call 61; (with_reducible refine (HC.out _ T2.out.drew.h0).mono ?_); rintro e w3 ⟨D3, f3, D4, f4, D5, f5, rfl, g3, l3⟩; have T3 := Aside0.mk (T2.out.drew.below g3); replace l3 := Aside0.mk l3; obtain ⟨s0, s1, s2, s3, s4, s5⟩ := six T3.out.a; obtain ⟨u0, u1, u2, u3, u4, u5⟩ := up6 T3.out.h0 HX.out; obtain ⟨v0, v1, v2, v3, v4, v5⟩ := up6 T3.out.h0 HY.out)
      | (go_at_call 61; (with_reducible refine (HD.out _ T2.out.drew.h0).mono ?_); rintro e w3 ⟨D3, f3, D4, f4, D5, f5, rfl, g3, l3⟩; have T3 := Aside0.mk (T2.out.drew.below g3); replace l3 := Aside0.mk l3; obtain ⟨s0, s1, s2, s3, s4, s5⟩ := six T3.out.a; obtain ⟨u0, u1, u2, u3, u4, u5⟩ := up6 T3.out.h0 HX.out; obtain ⟨v0, v1, v2, v3, v4, v5⟩ := up6 T3.out.h0 HY.out))
  all_goals
    go_wp2_with fail
    refine bodyPost_ret (results_cell26 rfl _ _ _ (set_six T5.out.b _ _ _ _ _ _) rfl) rfl ?_
    have hw := hsW.out
    exact Ans.laid (R := ⟨11, e0, 0, [], [], [ry, rz]⟩) none 0 none 0 (some G) 2 hw T5.out.h (by omega) (W.heap.size + 2) (by omega) (by omega) (l5.out.mono (fun i hi _ => by have := T4.out.s; omega))
set_option maxRecDepth 100000 in
set_option maxHeartbeats 8000000 in
theorem ref_two_13_f (s : Nat) (hS : RefOk s) (y z : S26) (A3 : Option Addr) (c3 : Nat) (A4 : Option Addr) (c4 : Nat) (A5 : Option Addr) (c5 : Nat) (w0 W : World) (hs : sizes [y, z] ≤ s) (hat : At w0 ⟨13, e0, 0, [], [], [y, z]⟩ A3 c3 A4 c4 A5 c5) (hy : Fm y) (hz : Fm z) (hb : Below w0.heap.size w0 W) :
    Calls Tryd.prog 61 #[.agg #[.int .i64 13, .string ⟨#[]⟩, .int .i64 0, .slice A3 0 c3, .slice A4 0 c4, .slice A5 2 c5], .bool false] W (Ans w0 W ⟨12, e0, 0, [], [], [right y true, right z false]⟩) := by
  have hu26 := Tryd.underlying26
  simp only [sizes] at hs
  obtain ⟨ad, B3, d3, B4, d4, B5, d5, hA5, hatj, x0, x1, x2, x3, x4, x5⟩ := formAt hat.g5 (Below.refl _ _) 0 (by simp)
  obtain ⟨ad', B6, d6, B7, d7, B8, d8, hA5', hatk, z0, z1, z2, z3, z4, z5⟩ := formAt hat.g5 (Below.refl _ _) 1 (by simp)
  subst hA5
  obtain rfl : ad = ad' := by injection hA5'
  clear hA5'
  have hy' : rd_T26 [y, z] ((0 : Nat) : Int) = y := rfl
  have hz' : rd_T26 [y, z] ((1 : Nat) : Int) = z := rfl
  dsimp only at hatj hatk x0 x1 x2 x3 x4 x5 z0 z1 z2 z3 z4 z5
  rw [hy'] at hatj x0 x1 x2 x3 x4 x5
  rw [hz'] at hatk z0 z1 z2 z3 z4 z5
  simp only [Nat.zero_mul, Nat.one_mul, Addr.add_zero'] at x0 x1 x2 x3 x4 x5 z0 z1 z2 z3 z4 z5
  have e6 : ad.add 6 = ⟨ad.block, ad.off + 6, none⟩ := rfl
  rw [e6] at z0 z1 z2 z3 z4 z5
  dsimp only at z0 z1 z2 z3 z4 z5
  clear e6
  have HC := Aside0.mk (fun W1 (h1 : Below w0.heap.size w0 W1) => hS y true B3 d3 B4 d4 B5 d5 w0 W1 (by omega) hatj hy h1)
  have HD := Aside0.mk (fun W1 (h1 : Below w0.heap.size w0 W1) => hS z false B6 d6 B7 d7 B8 d8 w0 W1 (by omega) hatk hz h1)
  have T0 := Aside0.mk (Two.start hb 13 e0 0 [] [] [y, z] A3 c3 A4 c4 (some ad) c5)
  simp only [List.length_nil, List.length_cons, Nat.zero_add, Nat.reduceAdd] at T0
  have hA := Aside0.mk (refAtom_below 13 false rfl)
  have hadl := Aside0.mk (show ad.block < w0.heap.size from World.block_lt_of_cell? w0 _ x0)
  have HX := Aside0.mk (And.intro x0 (And.intro x1 (And.intro x2 (And.intro x3 (And.intro x4 x5)))))
  have HY := Aside0.mk (And.intro z0 (And.intro z1 (And.intro z2 (And.intro z3 (And.intro z4 z5)))))
  have hsW := Aside0.mk hb.size
  have na : ¬ W.heap.size + 1 = ad.block := by have := hadl.out; have := hsW.out; omega
  have na' : ¬ ad.block = W.heap.size + 1 := fun e => na e.symm
  clear hS hs hat hy hz hatj hatk hy' hz' x0 x1 x2 x3 x4 x5 z0 z1 z2 z3 z4 z5 hb
  obtain ⟨ry, hry⟩ : ∃ ry, right y true = ry := ⟨_, rfl⟩
  obtain ⟨rz, hrz⟩ : ∃ rz, right z false = rz := ⟨_, rfl⟩
  rw [hry] at HC ⊢
  rw [hrz] at HD ⊢
  clear hry hrz
  go_enter Tryd.func61, Tryd.ntmps61
  go_upto_region 10 with ((go_at_call 96; (with_reducible refine (hA.out _).mono ?_); rintro e w1 ⟨rfl, g1⟩; have T1 := Aside0.mk (T0.out.below g1); clear T0 g1; obtain ⟨p0, p1, p2, p3, p4, p5⟩ := six T1.out.a; have ps := T1.out.s))
  go_upto_region 18 with ((go_at_call 96; (with_reducible refine (hA.out _).mono ?_); rintro e w2 ⟨rfl, g2⟩; have T2 := Aside0.mk (T1.out.below g2); clear T1 g2 p0 p1 p2 p3 p4 p5 ps; obtain ⟨q0, q1, q2, q3, q4, q5⟩ := six T2.out.a; have qs := T2.out.s))
  obtain ⟨u0, u1, u2, u3, u4, u5⟩ := up6 T2.out.h0 HX.out
  obtain ⟨v0, v1, v2, v3, v4, v5⟩ := up6 T2.out.h0 HY.out
  go_region_held3 (fun w' => w'.cell? ⟨W.heap.size, 5, none⟩ = some (.slice (some ad) 2 c5) ∧ w'.cell? ad = some (.int .i64 y.f0) ∧ w'.cell? ⟨ad.block, ad.off + 1, none⟩ = some (.string y.f1) ∧ w'.cell? ⟨ad.block, ad.off + 2, none⟩ = some (.int .i64 y.f2) ∧ w'.cell? ⟨ad.block, ad.off + 3, none⟩ = some (.slice B3 y.f3.length d3) ∧ w'.cell? ⟨ad.block, ad.off + 4, none⟩ = some (.slice B4 y.f4.length d4) ∧ w'.cell? ⟨ad.block, ad.off + 5, none⟩ = some (.slice B5 y.f5.length d5) ∧
      w'.cell? ⟨ad.block, ad.off + 6, none⟩ = some (.int .i64 z.f0) ∧ w'.cell? ⟨ad.block, ad.off + 6 + 1, none⟩ = some (.string z.f1) ∧ w'.cell? ⟨ad.block, ad.off + 6 + 2, none⟩ = some (.int .i64 z.f2) ∧ w'.cell? ⟨ad.block, ad.off + 6 + 3, none⟩ = some (.slice B6 z.f3.length d6) ∧ w'.cell? ⟨ad.block, ad.off + 6 + 4, none⟩ = some (.slice B7 z.f4.length d7) ∧ w'.cell? ⟨ad.block, ad.off + 6 + 5, none⟩ = some (.slice B8 z.f5.length d8)) (go_keep)
    (first
      | (go_at_call 98; (with_reducible refine (two_calls (fun i => i < w0.heap.size ∨ W.heap.size + 2 ≤ i) _ _ _ _ _ _ _ _ _ _ _ _ _ _ _ _ L3.out L4.out).mono ?_); rintro e w5 ⟨G, rfl, g5, l5⟩; have T5 := Aside0.mk (T4.out.below g5); replace l5 := Aside0.mk l5; obtain ⟨s0, s1, s2, s3, s4, s5⟩ := six T5.out.a; obtain ⟨u0, u1, u2, u3, u4, u5⟩ := up6 T5.out.h0 HX.out; obtain ⟨v0, v1, v2, v3, v4, v5⟩ := up6 T5.out.h0 HY.out; obtain ⟨r0, r1, r2, r3, r4, r5⟩ := six T5.out.b; have rf := blk_frozen T5.out.b; have ss := T5.out.s)
      | (go_at_call 61; (with_reducible refine (HD.out _ T3.out.h0).mono ?_); rintro e w4 ⟨E3, h3, E4, h4, E5, h5, rfl, g4, l4⟩; have T4 := Aside0.mk (T3.out.below g4); have L3 := Aside0.mk (l3.out.step g4 T2.out.drew.s); have L4 := Aside0.mk (l4.mono (ok' := fun i => i < w0.heap.size ∨ W.heap.size + 2 ≤ i) (fun i hi _ => by have := T3.out.s; omega)); clear l4; obtain ⟨s0, s1, s2, s3, s4, s5⟩ := six T4.out.a; obtain ⟨u0, u1, u2, u3, u4, u5⟩ := up6 T4.out.h0 HX.out; obtain ⟨v0, v1, v2, v3, v4, v5⟩ := up6 T4.out.h0 HY.out)
      | (go_at_call 61; (with_reducible refine (HC.out _ T3.out.h0).mono ?_); rintro e w4 ⟨E3, h3, E4, h4, E5, h5, rfl, g4, l4⟩; have T4 := Aside0.mk (T3.out.below g4); have L4 := Aside0.mk (l3.out.step g4 T2.out.drew.s); have L3 := Aside0.mk (l4.mono (ok' := fun i => i < w0.heap.size ∨ W.heap.size + 2 ≤ i) (fun i hi _ => by have := T3.out.s; omega)); clear l4; obtain ⟨s0, s1, s2, s3, s4, s5⟩ := six T4.out.a; obtain ⟨u0, u1, u2, u3, u4, u5⟩ := up6 T4.out.h0 HX.out; obtain ⟨v0, v1, v2, v3, v4, v5⟩ := up6 T4.out.h0 HY.out)
      | (go_at_call 61; (with_reducible refine (HC.out _ T2.out.drew.h0).mono ?_); rintro e w3 ⟨D3, f3, D4, f4, D5, f5, rfl, g3, l3⟩; have T3 := Aside0.mk (T2.out.drew.below g3); replace l3 := Aside0.mk l3; obtain ⟨s0, s1, s2, s3, s4, s5⟩ := six T3.out.a; obtain ⟨u0, u1, u2, u3, u4, u5⟩ := up6 T3.out.h0 HX.out; obtain ⟨v0, v1, v2, v3, v4, v5⟩ := up6 T3.out.h0 HY.out)
      | (go_at_call 61; (with_reducible refine (HD.out _ T2.out.drew.h0).mono ?_); rintro e w3 ⟨D3, f3, D4, f4, D5, f5, rfl, g3, l3⟩; have T3 := Aside0.mk (T2.out.drew.below g3); replace l3 := Aside0.mk l3; obtain ⟨s0, s1, s2, s3, s4, s5⟩ := six T3.out.a; obtain ⟨u0, u1, u2, u3, u4, u5⟩ := up6 T3.out.h0 HX.out; obtain ⟨v0, v1, v2, v3, v4, v5⟩ := up6 T3.out.h0 HY.out))
  all_goals
    go_wp2_with fail
    refine bodyPost_ret (results_cell26 rfl _ _ _ (set_six T5.out.b _ _ _ _ _ _) rfl) rfl ?_
    have hw := hsW.out
    exact Ans.laid (R := ⟨12, e0, 0, [], [], [ry, rz]⟩) none 0 none 0 (some G) 2 hw T5.out.h (by omega) (W.heap.size + 2) (by omega) (by omega) (l5.out.mono (fun i hi _ => by have := T4.out.s; omega))
set_option maxRecDepth 100000 in
set_option maxHeartbeats 8000000 in
theorem ref_two_11_t (s : Nat) (hS : RefOk s) (y z : S26) (A3 : Option Addr) (c3 : Nat) (A4 : Option Addr) (c4 : Nat) (A5 : Option Addr) (c5 : Nat) (w0 W : World) (hs : sizes [y, z] ≤ s) (hat : At w0 ⟨11, e0, 0, [], [], [y, z]⟩ A3 c3 A4 c4 A5 c5) (hy : Fm y) (hz : Fm z) (hb : Below w0.heap.size w0 W) :
    Calls Tryd.prog 61 #[.agg #[.int .i64 11, .string ⟨#[]⟩, .int .i64 0, .slice A3 0 c3, .slice A4 0 c4, .slice A5 2 c5], .bool true] W (Ans w0 W ⟨12, e0, 0, [], [], [right y true, right z true]⟩) := by
  have hu26 := Tryd.underlying26
  simp only [sizes] at hs
  obtain ⟨ad, B3, d3, B4, d4, B5, d5, hA5, hatj, x0, x1, x2, x3, x4, x5⟩ := formAt hat.g5 (Below.refl _ _) 0 (by simp)
  obtain ⟨ad', B6, d6, B7, d7, B8, d8, hA5', hatk, z0, z1, z2, z3, z4, z5⟩ := formAt hat.g5 (Below.refl _ _) 1 (by simp)
  subst hA5
  obtain rfl : ad = ad' := by injection hA5'
  clear hA5'
  have hy' : rd_T26 [y, z] ((0 : Nat) : Int) = y := rfl
  have hz' : rd_T26 [y, z] ((1 : Nat) : Int) = z := rfl
  dsimp only at hatj hatk x0 x1 x2 x3 x4 x5 z0 z1 z2 z3 z4 z5
  rw [hy'] at hatj x0 x1 x2 x3 x4 x5
  rw [hz'] at hatk z0 z1 z2 z3 z4 z5
  simp only [Nat.zero_mul, Nat.one_mul, Addr.add_zero'] at x0 x1 x2 x3 x4 x5 z0 z1 z2 z3 z4 z5
  have e6 : ad.add 6 = ⟨ad.block, ad.off + 6, none⟩ := rfl
  rw [e6] at z0 z1 z2 z3 z4 z5
  dsimp only at z0 z1 z2 z3 z4 z5
  clear e6
  have HC := Aside0.mk (fun W1 (h1 : Below w0.heap.size w0 W1) => hS y true B3 d3 B4 d4 B5 d5 w0 W1 (by omega) hatj hy h1)
  have HD := Aside0.mk (fun W1 (h1 : Below w0.heap.size w0 W1) => hS z true B6 d6 B7 d7 B8 d8 w0 W1 (by omega) hatk hz h1)
  have T0 := Aside0.mk (Two.start hb 11 e0 0 [] [] [y, z] A3 c3 A4 c4 (some ad) c5)
  simp only [List.length_nil, List.length_cons, Nat.zero_add, Nat.reduceAdd] at T0
  have hA := Aside0.mk (refAtom_below 11 false rfl)
  have hadl := Aside0.mk (show ad.block < w0.heap.size from World.block_lt_of_cell? w0 _ x0)
  have HX := Aside0.mk (And.intro x0 (And.intro x1 (And.intro x2 (And.intro x3 (And.intro x4 x5)))))
  have HY := Aside0.mk (And.intro z0 (And.intro z1 (And.intro z2 (And.intro z3 (And.intro z4 z5)))))
  have hsW := Aside0.mk hb.size
  have na : ¬ W.heap.size + 1 = ad.block := by have := hadl.out; have := hsW.out; omega
  have na' : ¬ ad.block = W.heap.size + 1 := fun e => na e.symm
  clear hS hs hat hy hz hatj hatk hy' hz' x0 x1 x2 x3 x4 x5 z0 z1 z2 z3 z4 z5 hb
  obtain ⟨ry, hry⟩ : ∃ ry, right y true = ry := ⟨_, rfl⟩
  obtain ⟨rz, hrz⟩ : ∃ rz, right z true = rz := ⟨_, rfl⟩
  rw [hry] at HC ⊢
  rw [hrz] at HD ⊢
  clear hry hrz
  go_enter Tryd.func61, Tryd.ntmps61
  go_upto_region 10 with ((go_at_call 96; (with_reducible refine (hA.out _).mono ?_); rintro e w1 ⟨rfl, g1⟩; have T1 := Aside0.mk (T0.out.below g1); clear T0 g1; obtain ⟨p0, p1, p2, p3, p4, p5⟩ := six T1.out.a; have ps := T1.out.s))
  go_upto_region 24 with ((go_at_call 96; (with_reducible refine (hA.out _).mono ?_); rintro e w2 ⟨rfl, g2⟩; have T2 := Aside0.mk (T1.out.below g2); clear T1 g2 p0 p1 p2 p3 p4 p5 ps; obtain ⟨q0, q1, q2, q3, q4, q5⟩ := six T2.out.a; have qs := T2.out.s))
  obtain ⟨u0, u1, u2, u3, u4, u5⟩ := up6 T2.out.h0 HX.out
  obtain ⟨v0, v1, v2, v3, v4, v5⟩ := up6 T2.out.h0 HY.out
  go_region_held3 (fun w' => w'.cell? ⟨W.heap.size, 5, none⟩ = some (.slice (some ad) 2 c5) ∧ w'.cell? ad = some (.int .i64 y.f0) ∧ w'.cell? ⟨ad.block, ad.off + 1, none⟩ = some (.string y.f1) ∧ w'.cell? ⟨ad.block, ad.off + 2, none⟩ = some (.int .i64 y.f2) ∧ w'.cell? ⟨ad.block, ad.off + 3, none⟩ = some (.slice B3 y.f3.length d3) ∧ w'.cell? ⟨ad.block, ad.off + 4, none⟩ = some (.slice B4 y.f4.length d4) ∧ w'.cell? ⟨ad.block, ad.off + 5, none⟩ = some (.slice B5 y.f5.length d5) ∧
      w'.cell? ⟨ad.block, ad.off + 6, none⟩ = some (.int .i64 z.f0) ∧ w'.cell? ⟨ad.block, ad.off + 6 + 1, none⟩ = some (.string z.f1) ∧ w'.cell? ⟨ad.block, ad.off + 6 + 2, none⟩ = some (.int .i64 z.f2) ∧ w'.cell? ⟨ad.block, ad.off + 6 + 3, none⟩ = some (.slice B6 z.f3.length d6) ∧ w'.cell? ⟨ad.block, ad.off + 6 + 4, none⟩ = some (.slice B7 z.f4.length d7) ∧ w'.cell? ⟨ad.block, ad.off + 6 + 5, none⟩ = some (.slice B8 z.f5.length d8)) (go_keep)
    (first
      | (go_at_call 98; (with_reducible refine (two_calls (fun i => i < w0.heap.size ∨ W.heap.size + 2 ≤ i) _ _ _ _ _ _ _ _ _ _ _ _ _ _ _ _ L3.out L4.out).mono ?_); rintro e w5 ⟨G, rfl, g5, l5⟩; have T5 := Aside0.mk (T4.out.below g5); replace l5 := Aside0.mk l5; obtain ⟨s0, s1, s2, s3, s4, s5⟩ := six T5.out.a; obtain ⟨u0, u1, u2, u3, u4, u5⟩ := up6 T5.out.h0 HX.out; obtain ⟨v0, v1, v2, v3, v4, v5⟩ := up6 T5.out.h0 HY.out; obtain ⟨r0, r1, r2, r3, r4, r5⟩ := six T5.out.b; have rf := blk_frozen T5.out.b; have ss := T5.out.s)
      | (go_at_call 61; (with_reducible refine (HD.out _ T3.out.h0).mono ?_); rintro e w4 ⟨E3, h3, E4, h4, E5, h5, rfl, g4, l4⟩; have T4 := Aside0.mk (T3.out.below g4); have L3 := Aside0.mk (l3.out.step g4 T2.out.drew.s); have L4 := Aside0.mk (l4.mono (ok' := fun i => i < w0.heap.size ∨ W.heap.size + 2 ≤ i) (fun i hi _ => by have := T3.out.s; omega)); clear l4; obtain ⟨s0, s1, s2, s3, s4, s5⟩ := six T4.out.a; obtain ⟨u0, u1, u2, u3, u4, u5⟩ := up6 T4.out.h0 HX.out; obtain ⟨v0, v1, v2, v3, v4, v5⟩ := up6 T4.out.h0 HY.out)
      | (go_at_call 61; (with_reducible refine (HC.out _ T3.out.h0).mono ?_); rintro e w4 ⟨E3, h3, E4, h4, E5, h5, rfl, g4, l4⟩; have T4 := Aside0.mk (T3.out.below g4); have L4 := Aside0.mk (l3.out.step g4 T2.out.drew.s); have L3 := Aside0.mk (l4.mono (ok' := fun i => i < w0.heap.size ∨ W.heap.size + 2 ≤ i) (fun i hi _ => by have := T3.out.s; omega)); clear l4; obtain ⟨s0, s1, s2, s3, s4, s5⟩ := six T4.out.a; obtain ⟨u0, u1, u2, u3, u4, u5⟩ := up6 T4.out.h0 HX.out; obtain ⟨v0, v1, v2, v3, v4, v5⟩ := up6 T4.out.h0 HY.out)
      | (go_at_call 61; (with_reducible refine (HC.out _ T2.out.drew.h0).mono ?_); rintro e w3 ⟨D3, f3, D4, f4, D5, f5, rfl, g3, l3⟩; have T3 := Aside0.mk (T2.out.drew.below g3); replace l3 := Aside0.mk l3; obtain ⟨s0, s1, s2, s3, s4, s5⟩ := six T3.out.a; obtain ⟨u0, u1, u2, u3, u4, u5⟩ := up6 T3.out.h0 HX.out; obtain ⟨v0, v1, v2, v3, v4, v5⟩ := up6 T3.out.h0 HY.out)
      | (go_at_call 61; (with_reducible refine (HD.out _ T2.out.drew.h0).mono ?_); rintro e w3 ⟨D3, f3, D4, f4, D5, f5, rfl, g3, l3⟩; have T3 := Aside0.mk (T2.out.drew.below g3); replace l3 := Aside0.mk l3; obtain ⟨s0, s1, s2, s3, s4, s5⟩ := six T3.out.a; obtain ⟨u0, u1, u2, u3, u4, u5⟩ := up6 T3.out.h0 HX.out; obtain ⟨v0, v1, v2, v3, v4, v5⟩ := up6 T3.out.h0 HY.out))
  all_goals
    go_wp2_with fail
    refine bodyPost_ret (results_cell26 rfl _ _ _ (set_six T5.out.b _ _ _ _ _ _) rfl) rfl ?_
    have hw := hsW.out
    exact Ans.laid (R := ⟨12, e0, 0, [], [], [ry, rz]⟩) none 0 none 0 (some G) 2 hw T5.out.h (by omega) (W.heap.size + 2) (by omega) (by omega) (l5.out.mono (fun i hi _ => by have := T4.out.s; omega))
set_option maxRecDepth 100000 in
set_option maxHeartbeats 8000000 in
theorem ref_two_11_f (s : Nat) (hS : RefOk s) (y z : S26) (A3 : Option Addr) (c3 : Nat) (A4 : Option Addr) (c4 : Nat) (A5 : Option Addr) (c5 : Nat) (w0 W : World) (hs : sizes [y, z] ≤ s) (hat : At w0 ⟨11, e0, 0, [], [], [y, z]⟩ A3 c3 A4 c4 A5 c5) (hy : Fm y) (hz : Fm z) (hb : Below w0.heap.size w0 W) :
    Calls Tryd.prog 61 #[.agg #[.int .i64 11, .string ⟨#[]⟩, .int .i64 0, .slice A3 0 c3, .slice A4 0 c4, .slice A5 2 c5], .bool false] W (Ans w0 W ⟨11, e0, 0, [], [], [right y false, right z false]⟩) := by
  have hu26 := Tryd.underlying26
  simp only [sizes] at hs
  obtain ⟨ad, B3, d3, B4, d4, B5, d5, hA5, hatj, x0, x1, x2, x3, x4, x5⟩ := formAt hat.g5 (Below.refl _ _) 0 (by simp)
  obtain ⟨ad', B6, d6, B7, d7, B8, d8, hA5', hatk, z0, z1, z2, z3, z4, z5⟩ := formAt hat.g5 (Below.refl _ _) 1 (by simp)
  subst hA5
  obtain rfl : ad = ad' := by injection hA5'
  clear hA5'
  have hy' : rd_T26 [y, z] ((0 : Nat) : Int) = y := rfl
  have hz' : rd_T26 [y, z] ((1 : Nat) : Int) = z := rfl
  dsimp only at hatj hatk x0 x1 x2 x3 x4 x5 z0 z1 z2 z3 z4 z5
  rw [hy'] at hatj x0 x1 x2 x3 x4 x5
  rw [hz'] at hatk z0 z1 z2 z3 z4 z5
  simp only [Nat.zero_mul, Nat.one_mul, Addr.add_zero'] at x0 x1 x2 x3 x4 x5 z0 z1 z2 z3 z4 z5
  have e6 : ad.add 6 = ⟨ad.block, ad.off + 6, none⟩ := rfl
  rw [e6] at z0 z1 z2 z3 z4 z5
  dsimp only at z0 z1 z2 z3 z4 z5
  clear e6
  have HC := Aside0.mk (fun W1 (h1 : Below w0.heap.size w0 W1) => hS y false B3 d3 B4 d4 B5 d5 w0 W1 (by omega) hatj hy h1)
  have HD := Aside0.mk (fun W1 (h1 : Below w0.heap.size w0 W1) => hS z false B6 d6 B7 d7 B8 d8 w0 W1 (by omega) hatk hz h1)
  have T0 := Aside0.mk (Two.start hb 11 e0 0 [] [] [y, z] A3 c3 A4 c4 (some ad) c5)
  simp only [List.length_nil, List.length_cons, Nat.zero_add, Nat.reduceAdd] at T0
  have hA := Aside0.mk (refAtom_below 11 false rfl)
  have hadl := Aside0.mk (show ad.block < w0.heap.size from World.block_lt_of_cell? w0 _ x0)
  have HX := Aside0.mk (And.intro x0 (And.intro x1 (And.intro x2 (And.intro x3 (And.intro x4 x5)))))
  have HY := Aside0.mk (And.intro z0 (And.intro z1 (And.intro z2 (And.intro z3 (And.intro z4 z5)))))
  have hsW := Aside0.mk hb.size
  have na : ¬ W.heap.size + 1 = ad.block := by have := hadl.out; have := hsW.out; omega
  have na' : ¬ ad.block = W.heap.size + 1 := fun e => na e.symm
  clear hS hs hat hy hz hatj hatk hy' hz' x0 x1 x2 x3 x4 x5 z0 z1 z2 z3 z4 z5 hb
  obtain ⟨ry, hry⟩ : ∃ ry, right y false = ry := ⟨_, rfl⟩
  obtain ⟨rz, hrz⟩ : ∃ rz, right z false = rz := ⟨_, rfl⟩
  rw [hry] at HC ⊢
  rw [hrz] at HD ⊢
  clear hry hrz
  go_enter Tryd.func61, Tryd.ntmps61
  go_upto_region 10 with ((go_at_call 96; (with_reducible refine (hA.out _).mono ?_); rintro e w1 ⟨rfl, g1⟩; have T1 := Aside0.mk (T0.out.below g1); clear T0 g1; obtain ⟨p0, p1, p2, p3, p4, p5⟩ := six T1.out.a; have ps := T1.out.s))
  go_upto_region 24 with ((go_at_call 96; (with_reducible refine (hA.out _).mono ?_); rintro e w2 ⟨rfl, g2⟩; have T2 := Aside0.mk (T1.out.below g2); clear T1 g2 p0 p1 p2 p3 p4 p5 ps; obtain ⟨q0, q1, q2, q3, q4, q5⟩ := six T2.out.a; have qs := T2.out.s))
  obtain ⟨u0, u1, u2, u3, u4, u5⟩ := up6 T2.out.h0 HX.out
  obtain ⟨v0, v1, v2, v3, v4, v5⟩ := up6 T2.out.h0 HY.out
  go_region_held3 (fun w' => w'.cell? ⟨W.heap.size, 5, none⟩ = some (.slice (some ad) 2 c5) ∧ w'.cell? ad = some (.int .i64 y.f0) ∧ w'.cell? ⟨ad.block, ad.off + 1, none⟩ = some (.string y.f1) ∧ w'.cell? ⟨ad.block, ad.off + 2, none⟩ = some (.int .i64 y.f2) ∧ w'.cell? ⟨ad.block, ad.off + 3, none⟩ = some (.slice B3 y.f3.length d3) ∧ w'.cell? ⟨ad.block, ad.off + 4, none⟩ = some (.slice B4 y.f4.length d4) ∧ w'.cell? ⟨ad.block, ad.off + 5, none⟩ = some (.slice B5 y.f5.length d5) ∧
      w'.cell? ⟨ad.block, ad.off + 6, none⟩ = some (.int .i64 z.f0) ∧ w'.cell? ⟨ad.block, ad.off + 6 + 1, none⟩ = some (.string z.f1) ∧ w'.cell? ⟨ad.block, ad.off + 6 + 2, none⟩ = some (.int .i64 z.f2) ∧ w'.cell? ⟨ad.block, ad.off + 6 + 3, none⟩ = some (.slice B6 z.f3.length d6) ∧ w'.cell? ⟨ad.block, ad.off + 6 + 4, none⟩ = some (.slice B7 z.f4.length d7) ∧ w'.cell? ⟨ad.block, ad.off + 6 + 5, none⟩ = some (.slice B8 z.f5.length d8)) (go_keep)
    (first
      | (go_at_call 98; (with_reducible refine (two_calls (fun i => i < w0.heap.size ∨ W.heap.size + 2 ≤ i) _ _ _ _ _ _ _ _ _ _ _ _ _ _ _ _ L3.out L4.out).mono ?_); rintro e w5 ⟨G, rfl, g5, l5⟩; have T5 := Aside0.mk (T4.out.below g5); replace l5 := Aside0.mk l5; obtain ⟨s0, s1, s2, s3, s4, s5⟩ := six T5.out.a; obtain ⟨u0, u1, u2, u3, u4, u5⟩ := up6 T5.out.h0 HX.out; obtain ⟨v0, v1, v2, v3, v4, v5⟩ := up6 T5.out.h0 HY.out; obtain ⟨r0, r1, r2, r3, r4, r5⟩ := six T5.out.b; have rf := blk_frozen T5.out.b; have ss := T5.out.s)
      | (go_at_call 61; (with_reducible refine (HD.out _ T3.out.h0).mono ?_); rintro e w4 ⟨E3, h3, E4, h4, E5, h5, rfl, g4, l4⟩; have T4 := Aside0.mk (T3.out.below g4); have L3 := Aside0.mk (l3.out.step g4 T2.out.drew.s); have L4 := Aside0.mk (l4.mono (ok' := fun i => i < w0.heap.size ∨ W.heap.size + 2 ≤ i) (fun i hi _ => by have := T3.out.s; omega)); clear l4; obtain ⟨s0, s1, s2, s3, s4, s5⟩ := six T4.out.a; obtain ⟨u0, u1, u2, u3, u4, u5⟩ := up6 T4.out.h0 HX.out; obtain ⟨v0, v1, v2, v3, v4, v5⟩ := up6 T4.out.h0 HY.out)
      | (go_at_call 61; (with_reducible refine (HC.out _ T3.out.h0).mono ?_); rintro e w4 ⟨E3, h3, E4, h4, E5, h5, rfl, g4, l4⟩; have T4 := Aside0.mk (T3.out.below g4); have L4 := Aside0.mk (l3.out.step g4 T2.out.drew.s); have L3 := Aside0.mk (l4.mono (ok' := fun i => i < w0.heap.size ∨ W.heap.size + 2 ≤ i) (fun i hi _ => by have := T3.out.s; omega)); clear l4; obtain ⟨s0, s1, s2, s3, s4, s5⟩ := six T4.out.a; obtain ⟨u0, u1, u2, u3, u4, u5⟩ := up6 T4.out.h0 HX.out; obtain ⟨v0, v1, v2, v3, v4, v5⟩ := up6 T4.out.h0 HY.out)
      | (go_at_call 61; (with_reducible refine (HC.out _ T2.out.drew.h0).mono ?_); rintro e w3 ⟨D3, f3, D4, f4, D5, f5, rfl, g3, l3⟩; have T3 := Aside0.mk (T2.out.drew.below g3); replace l3 := Aside0.mk l3; obtain ⟨s0, s1, s2, s3, s4, s5⟩ := six T3.out.a; obtain ⟨u0, u1, u2, u3, u4, u5⟩ := up6 T3.out.h0 HX.out; obtain ⟨v0, v1, v2, v3, v4, v5⟩ := up6 T3.out.h0 HY.out)
      | (go_at_call 61; (with_reducible refine (HD.out _ T2.out.drew.h0).mono ?_); rintro e w3 ⟨D3, f3, D4, f4, D5, f5, rfl, g3, l3⟩; have T3 := Aside0.mk (T2.out.drew.below g3); replace l3 := Aside0.mk l3; obtain ⟨s0, s1, s2, s3, s4, s5⟩ := six T3.out.a; obtain ⟨u0, u1, u2, u3, u4, u5⟩ := up6 T3.out.h0 HX.out; obtain ⟨v0, v1, v2, v3, v4, v5⟩ := up6 T3.out.h0 HY.out))
  all_goals
    go_wp2_with fail
    refine bodyPost_ret (results_cell26 rfl _ _ _ (set_six T5.out.b _ _ _ _ _ _) rfl) rfl ?_
    have hw := hsW.out
    exact Ans.laid (R := ⟨11, e0, 0, [], [], [ry, rz]⟩) none 0 none 0 (some G) 2 hw T5.out.h (by omega) (W.heap.size + 2) (by omega) (by omega) (l5.out.mono (fun i hi _ => by have := T4.out.s; omega))
set_option maxRecDepth 100000 in
set_option maxHeartbeats 8000000 in
theorem ref_two_12_t (s : Nat) (hS : RefOk s) (y z : S26) (A3 : Option Addr) (c3 : Nat) (A4 : Option Addr) (c4 : Nat) (A5 : Option Addr) (c5 : Nat) (w0 W : World) (hs : sizes [y, z] ≤ s) (hat : At w0 ⟨12, e0, 0, [], [], [y, z]⟩ A3 c3 A4 c4 A5 c5) (hy : Fm y) (hz : Fm z) (hb : Below w0.heap.size w0 W) :
    Calls Tryd.prog 61 #[.agg #[.int .i64 12, .string ⟨#[]⟩, .int .i64 0, .slice A3 0 c3, .slice A4 0 c4, .slice A5 2 c5], .bool true] W (Ans w0 W ⟨11, e0, 0, [], [], [right y true, right z true]⟩) := by
  have hu26 := Tryd.underlying26
  simp only [sizes] at hs
  obtain ⟨ad, B3, d3, B4, d4, B5, d5, hA5, hatj, x0, x1, x2, x3, x4, x5⟩ := formAt hat.g5 (Below.refl _ _) 0 (by simp)
  obtain ⟨ad', B6, d6, B7, d7, B8, d8, hA5', hatk, z0, z1, z2, z3, z4, z5⟩ := formAt hat.g5 (Below.refl _ _) 1 (by simp)
  subst hA5
  obtain rfl : ad = ad' := by injection hA5'
  clear hA5'
  have hy' : rd_T26 [y, z] ((0 : Nat) : Int) = y := rfl
  have hz' : rd_T26 [y, z] ((1 : Nat) : Int) = z := rfl
  dsimp only at hatj hatk x0 x1 x2 x3 x4 x5 z0 z1 z2 z3 z4 z5
  rw [hy'] at hatj x0 x1 x2 x3 x4 x5
  rw [hz'] at hatk z0 z1 z2 z3 z4 z5
  simp only [Nat.zero_mul, Nat.one_mul, Addr.add_zero'] at x0 x1 x2 x3 x4 x5 z0 z1 z2 z3 z4 z5
  have e6 : ad.add 6 = ⟨ad.block, ad.off + 6, none⟩ := rfl
  rw [e6] at z0 z1 z2 z3 z4 z5
  dsimp only at z0 z1 z2 z3 z4 z5
  clear e6
  have HC := Aside0.mk (fun W1 (h1 : Below w0.heap.size w0 W1) => hS y true B3 d3 B4 d4 B5 d5 w0 W1 (by omega) hatj hy h1)
  have HD := Aside0.mk (fun W1 (h1 : Below w0.heap.size w0 W1) => hS z true B6 d6 B7 d7 B8 d8 w0 W1 (by omega) hatk hz h1)
  have T0 := Aside0.mk (Two.start hb 12 e0 0 [] [] [y, z] A3 c3 A4 c4 (some ad) c5)
  simp only [List.length_nil, List.length_cons, Nat.zero_add, Nat.reduceAdd] at T0
  have hA := Aside0.mk (refAtom_below 12 false rfl)
  have hadl := Aside0.mk (show ad.block < w0.heap.size from World.block_lt_of_cell? w0 _ x0)
  have HX := Aside0.mk (And.intro x0 (And.intro x1 (And.intro x2 (And.intro x3 (And.intro x4 x5)))))
  have HY := Aside0.mk (And.intro z0 (And.intro z1 (And.intro z2 (And.intro z3 (And.intro z4 z5)))))
  have hsW := Aside0.mk hb.size
  have na : ¬ W.heap.size + 1 = ad.block := by have := hadl.out; have := hsW.out; omega
  have na' : ¬ ad.block = W.heap.size + 1 := fun e => na e.symm
  clear hS hs hat hy hz hatj hatk hy' hz' x0 x1 x2 x3 x4 x5 z0 z1 z2 z3 z4 z5 hb
  obtain ⟨ry, hry⟩ : ∃ ry, right y true = ry := ⟨_, rfl⟩
  obtain ⟨rz, hrz⟩ : ∃ rz, right z true = rz := ⟨_, rfl⟩
  rw [hry] at HC ⊢
  rw [hrz] at HD ⊢
  clear hry hrz
  go_enter Tryd.func61, Tryd.ntmps61
  go_upto_region 10 with ((go_at_call 96; (with_reducible refine (hA.out _).mono ?_); rintro e w1 ⟨rfl, g1⟩; have T1 := Aside0.mk (T0.out.below g1); clear T0 g1; obtain ⟨p0, p1, p2, p3, p4, p5⟩ := six T1.out.a; have ps := T1.out.s))
  go_upto_region 24 with ((go_at_call 96; (with_reducible refine (hA.out _).mono ?_); rintro e w2 ⟨rfl, g2⟩; have T2 := Aside0.mk (T1.out.below g2); clear T1 g2 p0 p1 p2 p3 p4 p5 ps; obtain ⟨q0, q1, q2, q3, q4, q5⟩ := six T2.out.a; have qs := T2.out.s))
  obtain ⟨u0, u1, u2, u3, u4, u5⟩ := up6 T2.out.h0 HX.out
  obtain ⟨v0, v1, v2, v3, v4, v5⟩ := up6 T2.out.h0 HY.out
  go_region_held3 (fun w' => w'.cell? ⟨W.heap.size, 5, none⟩ = some (.slice (some ad) 2 c5) ∧ w'.cell? ad = some (.int .i64 y.f0) ∧ w'.cell? ⟨ad.block, ad.off + 1, none⟩ = some (.string y.f1) ∧ w'.cell? ⟨ad.block, ad.off + 2, none⟩ = some (.int .i64 y.f2) ∧ w'.cell? ⟨ad.block, ad.off + 3, none⟩ = some (.slice B3 y.f3.length d3) ∧ w'.cell? ⟨ad.block, ad.off + 4, none⟩ = some (.slice B4 y.f4.length d4) ∧ w'.cell? ⟨ad.block, ad.off + 5, none⟩ = some (.slice B5 y.f5.length d5) ∧
      w'.cell? ⟨ad.block, ad.off + 6, none⟩ = some (.int .i64 z.f0) ∧ w'.cell? ⟨ad.block, ad.off + 6 + 1, none⟩ = some (.string z.f1) ∧ w'.cell? ⟨ad.block, ad.off + 6 + 2, none⟩ = some (.int .i64 z.f2) ∧ w'.cell? ⟨ad.block, ad.off + 6 + 3, none⟩ = some (.slice B6 z.f3.length d6) ∧ w'.cell? ⟨ad.block, ad.off + 6 + 4, none⟩ = some (.slice B7 z.f4.length d7) ∧ w'.cell? ⟨ad.block, ad.off + 6 + 5, none⟩ = some (.slice B8 z.f5.length d8)) (go_keep)
    (first
      | (go_at_call 98; (with_reducible refine (two_calls (fun i => i < w0.heap.size ∨ W.heap.size + 2 ≤ i) _ _ _ _ _ _ _ _ _ _ _ _ _ _ _ _ L3.out L4.out).mono ?_); rintro e w5 ⟨G, rfl, g5, l5⟩; have T5 := Aside0.mk (T4.out.below g5); replace l5 := Aside0.mk l5; obtain ⟨s0, s1, s2, s3, s4, s5⟩ := six T5.out.a; obtain ⟨u0, u1, u2, u3, u4, u5⟩ := up6 T5.out.h0 HX.out; obtain ⟨v0, v1, v2, v3, v4, v5⟩ := up6 T5.out.h0 HY.out; obtain ⟨r0, r1, r2, r3, r4, r5⟩ := six T5.out.b; have rf := blk_frozen T5.out.b; have ss := T5.out.s)
      | (go_at_call 61; (with_reducible refine (HD.out _ T3.out.h0).mono ?_); rintro e w4 ⟨E3, h3, E4, h4, E5, h5, rfl, g4, l4⟩; have T4 := Aside0.mk (T3.out.below g4); have L3 := Aside0.mk (l3.out.step g4 T2.out.drew.s); have L4 := Aside0.mk (l4.mono (ok' := fun i => i < w0.heap.size ∨ W.heap.size + 2 ≤ i) (fun i hi _ => by have := T3.out.s; omega)); clear l4; obtain ⟨s0, s1, s2, s3, s4, s5⟩ := six T4.out.a; obtain ⟨u0, u1, u2, u3, u4, u5⟩ := up6 T4.out.h0 HX.out; obtain ⟨v0, v1, v2, v3, v4, v5⟩ := up6 T4.out.h0 HY.out)
      | (go_at_call 61; (with_reducible refine (HC.out _ T3.out.h0).mono ?_); rintro e w4 ⟨E3, h3, E4, h4, E5, h5, rfl, g4, l4⟩; have T4 := Aside0.mk (T3.out.below g4); have L4 := Aside0.mk (l3.out.step g4 T2.out.drew.s); have L3 := Aside0.mk (l4.mono (ok' := fun i => i < w0.heap.size ∨ W.heap.size + 2 ≤ i) (fun i hi _ => by have := T3.out.s; omega)); clear l4; obtain ⟨s0, s1, s2, s3, s4, s5⟩ := six T4.out.a; obtain ⟨u0, u1, u2, u3, u4, u5⟩ := up6 T4.out.h0 HX.out; obtain ⟨v0, v1, v2, v3, v4, v5⟩ := up6 T4.out.h0 HY.out)
      | (go_at_call 61; (with_reducible refine (HC.out _ T2.out.drew.h0).mono ?_); rintro e w3 ⟨D3, f3, D4, f4, D5, f5, rfl, g3, l3⟩; have T3 := Aside0.mk (T2.out.drew.below g3); replace l3 := Aside0.mk l3; obtain ⟨s0, s1, s2, s3, s4, s5⟩ := six T3.out.a; obtain ⟨u0, u1, u2, u3, u4, u5⟩ := up6 T3.out.h0 HX.out; obtain ⟨v0, v1, v2, v3, v4, v5⟩ := up6 T3.out.h0 HY.out)
      | (go_at_call 61; (with_reducible refine (HD.out _ T2.out.drew.h0).mono ?_); rintro e w3 ⟨D3, f3, D4, f4, D5, f5, rfl, g3, l3⟩; have T3 := Aside0.mk (T2.out.drew.below g3); replace l3 := Aside0.mk l3; obtain ⟨s0, s1, s2, s3, s4, s5⟩ := six T3.out.a; obtain ⟨u0, u1, u2, u3, u4, u5⟩ := up6 T3.out.h0 HX.out; obtain ⟨v0, v1, v2, v3, v4, v5⟩ := up6 T3.out.h0 HY.out))
  all_goals
    go_wp2_with fail
    refine bodyPost_ret (results_cell26 rfl _ _ _ (set_six T5.out.b _ _ _ _ _ _) rfl) rfl ?_
    have hw := hsW.out
    exact Ans.laid (R := ⟨11, e0, 0, [], [], [ry, rz]⟩) none 0 none 0 (some G) 2 hw T5.out.h (by omega) (W.heap.size + 2) (by omega) (by omega) (l5.out.mono (fun i hi _ => by have := T4.out.s; omega))
set_option maxRecDepth 100000 in
set_option maxHeartbeats 8000000 in
theorem ref_two_12_f (s : Nat) (hS : RefOk s) (y z : S26) (A3 : Option Addr) (c3 : Nat) (A4 : Option Addr) (c4 : Nat) (A5 : Option Addr) (c5 : Nat) (w0 W : World) (hs : sizes [y, z] ≤ s) (hat : At w0 ⟨12, e0, 0, [], [], [y, z]⟩ A3 c3 A4 c4 A5 c5) (hy : Fm y) (hz : Fm z) (hb : Below w0.heap.size w0 W) :
    Calls Tryd.prog 61 #[.agg #[.int .i64 12, .string ⟨#[]⟩, .int .i64 0, .slice A3 0 c3, .slice A4 0 c4, .slice A5 2 c5], .bool false] W (Ans w0 W ⟨12, e0, 0, [], [], [right y false, right z false]⟩) := by
  have hu26 := Tryd.underlying26
  simp only [sizes] at hs
  obtain ⟨ad, B3, d3, B4, d4, B5, d5, hA5, hatj, x0, x1, x2, x3, x4, x5⟩ := formAt hat.g5 (Below.refl _ _) 0 (by simp)
  obtain ⟨ad', B6, d6, B7, d7, B8, d8, hA5', hatk, z0, z1, z2, z3, z4, z5⟩ := formAt hat.g5 (Below.refl _ _) 1 (by simp)
  subst hA5
  obtain rfl : ad = ad' := by injection hA5'
  clear hA5'
  have hy' : rd_T26 [y, z] ((0 : Nat) : Int) = y := rfl
  have hz' : rd_T26 [y, z] ((1 : Nat) : Int) = z := rfl
  dsimp only at hatj hatk x0 x1 x2 x3 x4 x5 z0 z1 z2 z3 z4 z5
  rw [hy'] at hatj x0 x1 x2 x3 x4 x5
  rw [hz'] at hatk z0 z1 z2 z3 z4 z5
  simp only [Nat.zero_mul, Nat.one_mul, Addr.add_zero'] at x0 x1 x2 x3 x4 x5 z0 z1 z2 z3 z4 z5
  have e6 : ad.add 6 = ⟨ad.block, ad.off + 6, none⟩ := rfl
  rw [e6] at z0 z1 z2 z3 z4 z5
  dsimp only at z0 z1 z2 z3 z4 z5
  clear e6
  have HC := Aside0.mk (fun W1 (h1 : Below w0.heap.size w0 W1) => hS y false B3 d3 B4 d4 B5 d5 w0 W1 (by omega) hatj hy h1)
  have HD := Aside0.mk (fun W1 (h1 : Below w0.heap.size w0 W1) => hS z false B6 d6 B7 d7 B8 d8 w0 W1 (by omega) hatk hz h1)
  have T0 := Aside0.mk (Two.start hb 12 e0 0 [] [] [y, z] A3 c3 A4 c4 (some ad) c5)
  simp only [List.length_nil, List.length_cons, Nat.zero_add, Nat.reduceAdd] at T0
  have hA := Aside0.mk (refAtom_below 12 false rfl)
  have hadl := Aside0.mk (show ad.block < w0.heap.size from World.block_lt_of_cell? w0 _ x0)
  have HX := Aside0.mk (And.intro x0 (And.intro x1 (And.intro x2 (And.intro x3 (And.intro x4 x5)))))
  have HY := Aside0.mk (And.intro z0 (And.intro z1 (And.intro z2 (And.intro z3 (And.intro z4 z5)))))
  have hsW := Aside0.mk hb.size
  have na : ¬ W.heap.size + 1 = ad.block := by have := hadl.out; have := hsW.out; omega
  have na' : ¬ ad.block = W.heap.size + 1 := fun e => na e.symm
  clear hS hs hat hy hz hatj hatk hy' hz' x0 x1 x2 x3 x4 x5 z0 z1 z2 z3 z4 z5 hb
  obtain ⟨ry, hry⟩ : ∃ ry, right y false = ry := ⟨_, rfl⟩
  obtain ⟨rz, hrz⟩ : ∃ rz, right z false = rz := ⟨_, rfl⟩
  rw [hry] at HC ⊢
  rw [hrz] at HD ⊢
  clear hry hrz
  go_enter Tryd.func61, Tryd.ntmps61
  go_upto_region 10 with ((go_at_call 96; (with_reducible refine (hA.out _).mono ?_); rintro e w1 ⟨rfl, g1⟩; have T1 := Aside0.mk (T0.out.below g1); clear T0 g1; obtain ⟨p0, p1, p2, p3, p4, p5⟩ := six T1.out.a; have ps := T1.out.s))
  go_upto_region 24 with ((go_at_call 96; (with_reducible refine (hA.out _).mono ?_); rintro e w2 ⟨rfl, g2⟩; have T2 := Aside0.mk (T1.out.below g2); clear T1 g2 p0 p1 p2 p3 p4 p5 ps; obtain ⟨q0, q1, q2, q3, q4, q5⟩ := six T2.out.a; have qs := T2.out.s))
  obtain ⟨u0, u1, u2, u3, u4, u5⟩ := up6 T2.out.h0 HX.out
  obtain ⟨v0, v1, v2, v3, v4, v5⟩ := up6 T2.out.h0 HY.out
  go_region_held3 (fun w' => w'.cell? ⟨W.heap.size, 5, none⟩ = some (.slice (some ad) 2 c5) ∧ w'.cell? ad = some (.int .i64 y.f0) ∧ w'.cell? ⟨ad.block, ad.off + 1, none⟩ = some (.string y.f1) ∧ w'.cell? ⟨ad.block, ad.off + 2, none⟩ = some (.int .i64 y.f2) ∧ w'.cell? ⟨ad.block, ad.off + 3, none⟩ = some (.slice B3 y.f3.length d3) ∧ w'.cell? ⟨ad.block, ad.off + 4, none⟩ = some (.slice B4 y.f4.length d4) ∧ w'.cell? ⟨ad.block, ad.off + 5, none⟩ = some (.slice B5 y.f5.length d5) ∧
      w'.cell? ⟨ad.block, ad.off + 6, none⟩ = some (.int .i64 z.f0) ∧ w'.cell? ⟨ad.block, ad.off + 6 + 1, none⟩ = some (.string z.f1) ∧ w'.cell? ⟨ad.block, ad.off + 6 + 2, none⟩ = some (.int .i64 z.f2) ∧ w'.cell? ⟨ad.block, ad.off + 6 + 3, none⟩ = some (.slice B6 z.f3.length d6) ∧ w'.cell? ⟨ad.block, ad.off + 6 + 4, none⟩ = some (.slice B7 z.f4.length d7) ∧ w'.cell? ⟨ad.block, ad.off + 6 + 5, none⟩ = some (.slice B8 z.f5.length d8)) (go_keep)
    (first
      | (go_at_call 98; (with_reducible refine (two_calls (fun i => i < w0.heap.size ∨ W.heap.size + 2 ≤ i) _ _ _ _ _ _ _ _ _ _ _ _ _ _ _ _ L3.out L4.out).mono ?_); rintro e w5 ⟨G, rfl, g5, l5⟩; have T5 := Aside0.mk (T4.out.below g5); replace l5 := Aside0.mk l5; obtain ⟨s0, s1, s2, s3, s4, s5⟩ := six T5.out.a; obtain ⟨u0, u1, u2, u3, u4, u5⟩ := up6 T5.out.h0 HX.out; obtain ⟨v0, v1, v2, v3, v4, v5⟩ := up6 T5.out.h0 HY.out; obtain ⟨r0, r1, r2, r3, r4, r5⟩ := six T5.out.b; have rf := blk_frozen T5.out.b; have ss := T5.out.s)
      | (go_at_call 61; (with_reducible refine (HD.out _ T3.out.h0).mono ?_); rintro e w4 ⟨E3, h3, E4, h4, E5, h5, rfl, g4, l4⟩; have T4 := Aside0.mk (T3.out.below g4); have L3 := Aside0.mk (l3.out.step g4 T2.out.drew.s); have L4 := Aside0.mk (l4.mono (ok' := fun i => i < w0.heap.size ∨ W.heap.size + 2 ≤ i) (fun i hi _ => by have := T3.out.s; omega)); clear l4; obtain ⟨s0, s1, s2, s3, s4, s5⟩ := six T4.out.a; obtain ⟨u0, u1, u2, u3, u4, u5⟩ := up6 T4.out.h0 HX.out; obtain ⟨v0, v1, v2, v3, v4, v5⟩ := up6 T4.out.h0 HY.out)
      | (go_at_call 61; (with_reducible refine (HC.out _ T3.out.h0).mono ?_); rintro e w4 ⟨E3, h3, E4, h4, E5, h5, rfl, g4, l4⟩; have T4 := Aside0.mk (T3.out.below g4); have L4 := Aside0.mk (l3.out.step g4 T2.out.drew.s); have L3 := Aside0.mk (l4.mono (ok' := fun i => i < w0.heap.size ∨ W.heap.size + 2 ≤ i) (fun i hi _ => by have := T3.out.s; omega)); clear l4; obtain ⟨s0, s1, s2, s3, s4, s5⟩ := six T4.out.a; obtain ⟨u0, u1, u2, u3, u4, u5⟩ := up6 T4.out.h0 HX.out; obtain ⟨v0, v1, v2, v3, v4, v5⟩ := up6 T4.out.h0 HY.out)
      | (go_at_call 61; (with_reducible refine (HC.out _ T2.out.drew.h0).mono ?_); rintro e w3 ⟨D3, f3, D4, f4, D5, f5, rfl, g3, l3⟩; have T3 := Aside0.mk (T2.out.drew.below g3); replace l3 := Aside0.mk l3; obtain ⟨s0, s1, s2, s3, s4, s5⟩ := six T3.out.a; obtain ⟨u0, u1, u2, u3, u4, u5⟩ := up6 T3.out.h0 HX.out; obtain ⟨v0, v1, v2, v3, v4, v5⟩ := up6 T3.out.h0 HY.out)
      | (go_at_call 61; (with_reducible refine (HD.out _ T2.out.drew.h0).mono ?_); rintro e w3 ⟨D3, f3, D4, f4, D5, f5, rfl, g3, l3⟩; have T3 := Aside0.mk (T2.out.drew.below g3); replace l3 := Aside0.mk l3; obtain ⟨s0, s1, s2, s3, s4, s5⟩ := six T3.out.a; obtain ⟨u0, u1, u2, u3, u4, u5⟩ := up6 T3.out.h0 HX.out; obtain ⟨v0, v1, v2, v3, v4, v5⟩ := up6 T3.out.h0 HY.out))
  all_goals
    go_wp2_with fail
    refine bodyPost_ret (results_cell26 rfl _ _ _ (set_six T5.out.b _ _ _ _ _ _) rfl) rfl ?_
    have hw := hsW.out
    exact Ans.laid (R := ⟨12, e0, 0, [], [], [ry, rz]⟩) none 0 none 0 (some G) 2 hw T5.out.h (by omega) (W.heap.size + 2) (by omega) (by omega) (l5.out.mono (fun i hi _ => by have := T4.out.s; omega))
end Go.Proofs.YtmlcaecknocpoaaDoor.It
namespace Go.Proofs.YtmlcaecknocpoaaDoor.It
set_option linter.unusedVariables false
set_option linter.unusedSimpArgs false
open Go Go.RowKit Go.Shelf Go.Proofs.YtmlcaecknocpoaaDoorW.PrintWords Go.Proofs.YtmlcaecknocpoaaDoorW.PrintLast Go.Proofs.YtmlcaecknocpoaaDoor.Pr Go.Proofs.YtmlcaecknocpoaaDoor.Sp
attribute [local go_sem ↓] Go.wp_at_zero Go.wp_at_succ
theorem one_calls' (ok : Nat → Prop) (K m k n : Int) (bs : List S42) (y b : S26) (A3 : Option Addr) (c3 : Nat) (A4 : Option Addr) (c4 : Nat) (A5 : Option Addr) (c5 : Nat) (B3 : Option Addr) (d3 : Nat) (B4 : Option Addr) (d4 : Nat) (B5 : Option Addr) (d5 : Nat) (W : World) (ha : Lies ok W ⟨K, ⟨#[]⟩, m, [], bs, [y]⟩ A3 c3 A4 c4 A5 c5) (hb : Lies ok W b B3 d3 B4 d4 B5 d5) :
    Calls Tryd.prog 99 #[.int .i64 k, .agg #[.int .i64 K, .string ⟨#[]⟩, .int .i64 m, .slice A3 0 c3, .slice A4 bs.length c4, .slice A5 1 c5], .int .i64 n, .agg #[.int .i64 b.f0, .string b.f1, .int .i64 b.f2, .slice B3 b.f3.length d3, .slice B4 b.f4.length d4, .slice B5 b.f5.length d5]] W fun e w' => ∃ ad,
      e = .returned (.agg #[.int .i64 k, .string ⟨#[]⟩, .int .i64 n, .slice none 0 0, .slice A4 bs.length c4, .slice (some ad) 1 1]) ∧ Below W.heap.size W w' ∧ Lies (fun i => (ok i ∧ i < W.heap.size) ∨ W.heap.size ≤ i) w' ⟨k, e0, n, [], bs, [b]⟩ none 0 A4 c4 (some ad) 1 :=
  one_calls ok k n ⟨K, ⟨#[]⟩, m, [], bs, [y]⟩ b A3 c3 A4 c4 A5 c5 B3 d3 B4 d4 B5 d5 W ha hb
set_option maxRecDepth 100000 in
set_option maxHeartbeats 8000000 in
theorem ref_not_t (s : Nat) (hS : RefOk s) (y : S26) (A3 : Option Addr) (c3 : Nat) (A4 : Option Addr) (c4 : Nat) (A5 : Option Addr) (c5 : Nat) (w0 W : World) (hs : sizes [y] ≤ s) (hat : At w0 ⟨10, e0, 0, [], [], [y]⟩ A3 c3 A4 c4 A5 c5) (hy : Fm y) (hb : Below w0.heap.size w0 W) :
    Calls Tryd.prog 61 #[.agg #[.int .i64 10, .string ⟨#[]⟩, .int .i64 0, .slice A3 0 c3, .slice A4 0 c4, .slice A5 1 c5], .bool true] W (Ans w0 W (right y false)) := by
  have hu26 := Tryd.underlying26
  simp only [sizes] at hs
  obtain ⟨ad, B3, d3, B4, d4, B5, d5, hA5, hatj, x0, x1, x2, x3, x4, x5⟩ := formAt hat.g5 (Below.refl _ _) 0 (by simp)
  subst hA5
  have hy' : rd_T26 [y] ((0 : Nat) : Int) = y := rfl
  dsimp only at hatj x0 x1 x2 x3 x4 x5
  rw [hy'] at hatj x0 x1 x2 x3 x4 x5
  simp only [Nat.zero_mul, Addr.add_zero'] at x0 x1 x2 x3 x4 x5
  have T0 := Aside0.mk (Two.start hb 10 ⟨#[]⟩ 0 [] [] [y] A3 c3 A4 c4 (some ad) c5)
  simp only [List.length_nil, List.length_cons, Nat.zero_add] at T0
  have hA := Aside0.mk (refAtom_below 10 false rfl)
  have hadl := Aside0.mk (show ad.block < w0.heap.size from World.block_lt_of_cell? w0 _ x0)
  have HX := Aside0.mk (And.intro x0 (And.intro x1 (And.intro x2 (And.intro x3 (And.intro x4 x5)))))
  have hsW := Aside0.mk hb.size
  have na : ¬ W.heap.size + 1 = ad.block := by have := hadl.out; have := hsW.out; omega
  have na' : ¬ ad.block = W.heap.size + 1 := fun e => na e.symm
  have HAT : Aside0 (At w0 ⟨10, ⟨#[]⟩, 0, [], [], [y]⟩ A3 c3 A4 c4 (some ad) c5) := ⟨hat⟩
  have HC := Aside0.mk (fun W1 (h1 : Below w0.heap.size w0 W1) => hS y false B3 d3 B4 d4 B5 d5 w0 W1 (by omega) hatj hy h1)
  clear hS hs hat hy hatj hy' x0 x1 x2 x3 x4 x5 hb
  obtain ⟨ry, hry⟩ : ∃ ry, right y false = ry := ⟨_, rfl⟩
  rw [hry] at HC ⊢
  clear hry
  go_enter Tryd.func61, Tryd.ntmps61
  go_upto_region 10 with ((go_at_call 96; (with_reducible refine (hA.out _).mono ?_); rintro e w1 ⟨rfl, g1⟩; have T1 := Aside0.mk (T0.out.below g1); clear T0 g1; obtain ⟨p0, p1, p2, p3, p4, p5⟩ := six T1.out.a; have ps := T1.out.s))
  go_upto_region 14 with ((go_at_call 96; (with_reducible refine (hA.out _).mono ?_); rintro e w2 ⟨rfl, g2⟩; have T2 := Aside0.mk (T1.out.below g2); clear T1 g2 p0 p1 p2 p3 p4 p5 ps; obtain ⟨q0, q1, q2, q3, q4, q5⟩ := six T2.out.a; have qs := T2.out.s))
  obtain ⟨u0, u1, u2, u3, u4, u5⟩ := up6 T2.out.h0 HX.out
  go_wp2_with (go_at_call 61; (with_reducible refine (HC.out _ T2.out.h0).mono ?_); rintro e w3 ⟨D3, f3, D4, f4, D5, f5, rfl, g3, l3⟩; have T3 := Aside0.mk (T2.out.below g3); replace l3 := Aside0.mk l3; clear q0 q1 q2 q3 q4 q5 u0 u1 u2 u3 u4 u5; obtain ⟨r0, r1, r2, r3, r4, r5⟩ := six T3.out.b; have rf := blk_frozen T3.out.b; have ss := T3.out.s)
  refine bodyPost_ret (results_cell26 rfl _ _ _ (set_six T3.out.b _ _ _ _ _ _) rfl) rfl ?_
  exact Ans.laid (R := ry) D3 f3 D4 f4 D5 f5 hsW.out T3.out.h (by omega) (W.heap.size + 2) (by omega) (by omega) (l3.out.mono (fun i hi _ => by have := T2.out.s; omega))
set_option maxRecDepth 100000 in
set_option maxHeartbeats 8000000 in
theorem ref_not_f (s : Nat) (hS : RefOk s) (y : S26) (A3 : Option Addr) (c3 : Nat) (A4 : Option Addr) (c4 : Nat) (A5 : Option Addr) (c5 : Nat) (w0 W : World) (hs : sizes [y] ≤ s) (hat : At w0 ⟨10, e0, 0, [], [], [y]⟩ A3 c3 A4 c4 A5 c5) (hy : Fm y) (hb : Below w0.heap.size w0 W) :
    Calls Tryd.prog 61 #[.agg #[.int .i64 10, .string ⟨#[]⟩, .int .i64 0, .slice A3 0 c3, .slice A4 0 c4, .slice A5 1 c5], .bool false] W (Ans w0 W (right y true)) := by
  have hu26 := Tryd.underlying26
  simp only [sizes] at hs
  obtain ⟨ad, B3, d3, B4, d4, B5, d5, hA5, hatj, x0, x1, x2, x3, x4, x5⟩ := formAt hat.g5 (Below.refl _ _) 0 (by simp)
  subst hA5
  have hy' : rd_T26 [y] ((0 : Nat) : Int) = y := rfl
  dsimp only at hatj x0 x1 x2 x3 x4 x5
  rw [hy'] at hatj x0 x1 x2 x3 x4 x5
  simp only [Nat.zero_mul, Addr.add_zero'] at x0 x1 x2 x3 x4 x5
  have T0 := Aside0.mk (Two.start hb 10 ⟨#[]⟩ 0 [] [] [y] A3 c3 A4 c4 (some ad) c5)
  simp only [List.length_nil, List.length_cons, Nat.zero_add] at T0
  have hA := Aside0.mk (refAtom_below 10 false rfl)
  have hadl := Aside0.mk (show ad.block < w0.heap.size from World.block_lt_of_cell? w0 _ x0)
  have HX := Aside0.mk (And.intro x0 (And.intro x1 (And.intro x2 (And.intro x3 (And.intro x4 x5)))))
  have hsW := Aside0.mk hb.size
  have na : ¬ W.heap.size + 1 = ad.block := by have := hadl.out; have := hsW.out; omega
  have na' : ¬ ad.block = W.heap.size + 1 := fun e => na e.symm
  have HAT : Aside0 (At w0 ⟨10, ⟨#[]⟩, 0, [], [], [y]⟩ A3 c3 A4 c4 (some ad) c5) := ⟨hat⟩
  have HC := Aside0.mk (fun W1 (h1 : Below w0.heap.size w0 W1) => hS y true B3 d3 B4 d4 B5 d5 w0 W1 (by omega) hatj hy h1)
  clear hS hs hat hy hatj hy' x0 x1 x2 x3 x4 x5 hb
  obtain ⟨ry, hry⟩ : ∃ ry, right y true = ry := ⟨_, rfl⟩
  rw [hry] at HC ⊢
  clear hry
  go_enter Tryd.func61, Tryd.ntmps61
  go_upto_region 10 with ((go_at_call 96; (with_reducible refine (hA.out _).mono ?_); rintro e w1 ⟨rfl, g1⟩; have T1 := Aside0.mk (T0.out.below g1); clear T0 g1; obtain ⟨p0, p1, p2, p3, p4, p5⟩ := six T1.out.a; have ps := T1.out.s))
  go_upto_region 14 with ((go_at_call 96; (with_reducible refine (hA.out _).mono ?_); rintro e w2 ⟨rfl, g2⟩; have T2 := Aside0.mk (T1.out.below g2); clear T1 g2 p0 p1 p2 p3 p4 p5 ps; obtain ⟨q0, q1, q2, q3, q4, q5⟩ := six T2.out.a; have qs := T2.out.s))
  obtain ⟨u0, u1, u2, u3, u4, u5⟩ := up6 T2.out.h0 HX.out
  go_wp2_with (go_at_call 61; (with_reducible refine (HC.out _ T2.out.h0).mono ?_); rintro e w3 ⟨D3, f3, D4, f4, D5, f5, rfl, g3, l3⟩; have T3 := Aside0.mk (T2.out.below g3); replace l3 := Aside0.mk l3; clear q0 q1 q2 q3 q4 q5 u0 u1 u2 u3 u4 u5; obtain ⟨r0, r1, r2, r3, r4, r5⟩ := six T3.out.b; have rf := blk_frozen T3.out.b; have ss := T3.out.s)
  refine bodyPost_ret (results_cell26 rfl _ _ _ (set_six T3.out.b _ _ _ _ _ _) rfl) rfl ?_
  exact Ans.laid (R := ry) D3 f3 D4 f4 D5 f5 hsW.out T3.out.h (by omega) (W.heap.size + 2) (by omega) (by omega) (l3.out.mono (fun i hi _ => by have := T2.out.s; omega))
set_option maxRecDepth 100000 in
set_option maxHeartbeats 8000000 in
theorem ref_quant_14_t (s : Nat) (hS : RefOk s) (y : S26) (bs : List S42) (A3 : Option Addr) (c3 : Nat) (A4 : Option Addr) (c4 : Nat) (A5 : Option Addr) (c5 : Nat) (w0 W : World) (hs : sizes [y] ≤ s) (hat : At w0 ⟨14, e0, 0, [], bs, [y]⟩ A3 c3 A4 c4 A5 c5) (hy : Fm y) (hb : Below w0.heap.size w0 W) :
    Calls Tryd.prog 61 #[.agg #[.int .i64 14, .string ⟨#[]⟩, .int .i64 0, .slice A3 0 c3, .slice A4 bs.length c4, .slice A5 1 c5], .bool true] W (Ans w0 W ⟨15, e0, 0, [], bs, [right y true]⟩) := by
  have hu26 := Tryd.underlying26
  simp only [sizes] at hs
  obtain ⟨ad, B3, d3, B4, d4, B5, d5, hA5, hatj, x0, x1, x2, x3, x4, x5⟩ := formAt hat.g5 (Below.refl _ _) 0 (by simp)
  subst hA5
  have hy' : rd_T26 [y] ((0 : Nat) : Int) = y := rfl
  dsimp only at hatj x0 x1 x2 x3 x4 x5
  rw [hy'] at hatj x0 x1 x2 x3 x4 x5
  simp only [Nat.zero_mul, Addr.add_zero'] at x0 x1 x2 x3 x4 x5
  have T0 := Aside0.mk (Two.start hb 14 ⟨#[]⟩ 0 [] bs [y] A3 c3 A4 c4 (some ad) c5)
  simp only [List.length_nil, List.length_cons, Nat.zero_add] at T0
  have hA := Aside0.mk (refAtom_below 14 false rfl)
  have hadl := Aside0.mk (show ad.block < w0.heap.size from World.block_lt_of_cell? w0 _ x0)
  have HX := Aside0.mk (And.intro x0 (And.intro x1 (And.intro x2 (And.intro x3 (And.intro x4 x5)))))
  have hsW := Aside0.mk hb.size
  have na : ¬ W.heap.size + 1 = ad.block := by have := hadl.out; have := hsW.out; omega
  have na' : ¬ ad.block = W.heap.size + 1 := fun e => na e.symm
  have HAT : Aside0 (At w0 ⟨14, ⟨#[]⟩, 0, [], bs, [y]⟩ A3 c3 A4 c4 (some ad) c5) := ⟨hat⟩
  have HC := Aside0.mk (fun W1 (h1 : Below w0.heap.size w0 W1) => hS y true B3 d3 B4 d4 B5 d5 w0 W1 (by omega) hatj hy h1)
  clear hS hs hat hy hatj hy' x0 x1 x2 x3 x4 x5 hb
  obtain ⟨ry, hry⟩ : ∃ ry, right y true = ry := ⟨_, rfl⟩
  rw [hry] at HC ⊢
  clear hry
  go_enter Tryd.func61, Tryd.ntmps61
  go_upto_region 10 with ((go_at_call 96; (with_reducible refine (hA.out _).mono ?_); rintro e w1 ⟨rfl, g1⟩; have T1 := Aside0.mk (T0.out.below g1); clear T0 g1; obtain ⟨p0, p1, p2, p3, p4, p5⟩ := six T1.out.a; have ps := T1.out.s))
  go_upto_region 30 with ((go_at_call 96; (with_reducible refine (hA.out _).mono ?_); rintro e w2 ⟨rfl, g2⟩; have T2 := Aside0.mk (T1.out.below g2); clear T1 g2 p0 p1 p2 p3 p4 p5 ps; obtain ⟨q0, q1, q2, q3, q4, q5⟩ := six T2.out.a; have qs := T2.out.s))
  obtain ⟨u0, u1, u2, u3, u4, u5⟩ := up6 T2.out.h0 HX.out
  go_region_held3 (fun w' => w'.cell? ⟨W.heap.size, 0, none⟩ = some (.int .i64 14) ∧ w'.cell? ⟨W.heap.size, 1, none⟩ = some (.string ⟨#[]⟩) ∧ w'.cell? ⟨W.heap.size, 2, none⟩ = some (.int .i64 0) ∧ w'.cell? ⟨W.heap.size, 3, none⟩ = some (.slice A3 0 c3) ∧ w'.cell? ⟨W.heap.size, 4, none⟩ = some (.slice A4 bs.length c4) ∧ w'.cell? ⟨W.heap.size, 5, none⟩ = some (.slice (some ad) 1 c5) ∧ w'.cell? ad = some (.int .i64 y.f0) ∧ w'.cell? ⟨ad.block, ad.off + 1, none⟩ = some (.string y.f1) ∧ w'.cell? ⟨ad.block, ad.off + 2, none⟩ = some (.int .i64 y.f2) ∧ w'.cell? ⟨ad.block, ad.off + 3, none⟩ = some (.slice B3 y.f3.length d3) ∧ w'.cell? ⟨ad.block, ad.off + 4, none⟩ = some (.slice B4 y.f4.length d4) ∧ w'.cell? ⟨ad.block, ad.off + 5, none⟩ = some (.slice B5 y.f5.length d5)) (go_keep)
    (first
      | (go_at_call 99; (with_reducible refine (one_calls' (fun i => i < w0.heap.size ∨ W.heap.size + 2 ≤ i) 14 0 _ _ bs y _ _ _ _ _ _ _ _ _ _ _ _ _ _ LF.out L3.out).mono ?_); rintro e w5 ⟨G, rfl, g5, l5⟩; have T5 := Aside0.mk (T3.out.below g5); replace l5 := Aside0.mk l5; obtain ⟨s0, s1, s2, s3, s4, s5⟩ := six T5.out.a; obtain ⟨u0, u1, u2, u3, u4, u5⟩ := up6 T5.out.h0 HX.out; obtain ⟨r0, r1, r2, r3, r4, r5⟩ := six T5.out.b; have rf := blk_frozen T5.out.b; have ss := T5.out.s)
      | (go_at_call 61; (with_reducible refine (HC.out _ T2.out.drew.h0).mono ?_); rintro e w3 ⟨D3, f3, D4, f4, D5, f5, rfl, g3, l3⟩; have T3 := Aside0.mk (T2.out.drew.below g3); have L3 := Aside0.mk (l3.mono (ok' := fun i => i < w0.heap.size ∨ W.heap.size + 2 ≤ i) (fun i hi _ => by have := T2.out.drew.s; omega)); have LF := Aside0.mk (HAT.out.lies T3.out.h0 (fun i => i < w0.heap.size ∨ W.heap.size + 2 ≤ i) (fun _ h => .inl h)); clear l3; obtain ⟨s0, s1, s2, s3, s4, s5⟩ := six T3.out.a; obtain ⟨u0, u1, u2, u3, u4, u5⟩ := up6 T3.out.h0 HX.out))
  all_goals
    go_wp2_with fail
    refine bodyPost_ret (results_cell26 rfl _ _ _ (set_six T5.out.b _ _ _ _ _ _) rfl) rfl ?_
    have hw := hsW.out
    exact Ans.laid (R := ⟨15, e0, 0, [], bs, [ry]⟩) none 0 A4 c4 (some G) 1 hw T5.out.h (by omega) (W.heap.size + 2) (by omega) (by omega) (l5.out.mono (fun i hi _ => by have := T3.out.s; omega))
set_option maxRecDepth 100000 in
set_option maxHeartbeats 8000000 in
theorem ref_quant_14_f (s : Nat) (hS : RefOk s) (y : S26) (bs : List S42) (A3 : Option Addr) (c3 : Nat) (A4 : Option Addr) (c4 : Nat) (A5 : Option Addr) (c5 : Nat) (w0 W : World) (hs : sizes [y] ≤ s) (hat : At w0 ⟨14, e0, 0, [], bs, [y]⟩ A3 c3 A4 c4 A5 c5) (hy : Fm y) (hb : Below w0.heap.size w0 W) :
    Calls Tryd.prog 61 #[.agg #[.int .i64 14, .string ⟨#[]⟩, .int .i64 0, .slice A3 0 c3, .slice A4 bs.length c4, .slice A5 1 c5], .bool false] W (Ans w0 W ⟨14, e0, 0, [], bs, [right y false]⟩) := by
  have hu26 := Tryd.underlying26
  simp only [sizes] at hs
  obtain ⟨ad, B3, d3, B4, d4, B5, d5, hA5, hatj, x0, x1, x2, x3, x4, x5⟩ := formAt hat.g5 (Below.refl _ _) 0 (by simp)
  subst hA5
  have hy' : rd_T26 [y] ((0 : Nat) : Int) = y := rfl
  dsimp only at hatj x0 x1 x2 x3 x4 x5
  rw [hy'] at hatj x0 x1 x2 x3 x4 x5
  simp only [Nat.zero_mul, Addr.add_zero'] at x0 x1 x2 x3 x4 x5
  have T0 := Aside0.mk (Two.start hb 14 ⟨#[]⟩ 0 [] bs [y] A3 c3 A4 c4 (some ad) c5)
  simp only [List.length_nil, List.length_cons, Nat.zero_add] at T0
  have hA := Aside0.mk (refAtom_below 14 false rfl)
  have hadl := Aside0.mk (show ad.block < w0.heap.size from World.block_lt_of_cell? w0 _ x0)
  have HX := Aside0.mk (And.intro x0 (And.intro x1 (And.intro x2 (And.intro x3 (And.intro x4 x5)))))
  have hsW := Aside0.mk hb.size
  have na : ¬ W.heap.size + 1 = ad.block := by have := hadl.out; have := hsW.out; omega
  have na' : ¬ ad.block = W.heap.size + 1 := fun e => na e.symm
  have HAT : Aside0 (At w0 ⟨14, ⟨#[]⟩, 0, [], bs, [y]⟩ A3 c3 A4 c4 (some ad) c5) := ⟨hat⟩
  have HC := Aside0.mk (fun W1 (h1 : Below w0.heap.size w0 W1) => hS y false B3 d3 B4 d4 B5 d5 w0 W1 (by omega) hatj hy h1)
  clear hS hs hat hy hatj hy' x0 x1 x2 x3 x4 x5 hb
  obtain ⟨ry, hry⟩ : ∃ ry, right y false = ry := ⟨_, rfl⟩
  rw [hry] at HC ⊢
  clear hry
  go_enter Tryd.func61, Tryd.ntmps61
  go_upto_region 10 with ((go_at_call 96; (with_reducible refine (hA.out _).mono ?_); rintro e w1 ⟨rfl, g1⟩; have T1 := Aside0.mk (T0.out.below g1); clear T0 g1; obtain ⟨p0, p1, p2, p3, p4, p5⟩ := six T1.out.a; have ps := T1.out.s))
  go_upto_region 30 with ((go_at_call 96; (with_reducible refine (hA.out _).mono ?_); rintro e w2 ⟨rfl, g2⟩; have T2 := Aside0.mk (T1.out.below g2); clear T1 g2 p0 p1 p2 p3 p4 p5 ps; obtain ⟨q0, q1, q2, q3, q4, q5⟩ := six T2.out.a; have qs := T2.out.s))
  obtain ⟨u0, u1, u2, u3, u4, u5⟩ := up6 T2.out.h0 HX.out
  go_region_held3 (fun w' => w'.cell? ⟨W.heap.size, 0, none⟩ = some (.int .i64 14) ∧ w'.cell? ⟨W.heap.size, 1, none⟩ = some (.string ⟨#[]⟩) ∧ w'.cell? ⟨W.heap.size, 2, none⟩ = some (.int .i64 0) ∧ w'.cell? ⟨W.heap.size, 3, none⟩ = some (.slice A3 0 c3) ∧ w'.cell? ⟨W.heap.size, 4, none⟩ = some (.slice A4 bs.length c4) ∧ w'.cell? ⟨W.heap.size, 5, none⟩ = some (.slice (some ad) 1 c5) ∧ w'.cell? ad = some (.int .i64 y.f0) ∧ w'.cell? ⟨ad.block, ad.off + 1, none⟩ = some (.string y.f1) ∧ w'.cell? ⟨ad.block, ad.off + 2, none⟩ = some (.int .i64 y.f2) ∧ w'.cell? ⟨ad.block, ad.off + 3, none⟩ = some (.slice B3 y.f3.length d3) ∧ w'.cell? ⟨ad.block, ad.off + 4, none⟩ = some (.slice B4 y.f4.length d4) ∧ w'.cell? ⟨ad.block, ad.off + 5, none⟩ = some (.slice B5 y.f5.length d5)) (go_keep)
    (first
      | (go_at_call 99; (with_reducible refine (one_calls' (fun i => i < w0.heap.size ∨ W.heap.size + 2 ≤ i) 14 0 _ _ bs y _ _ _ _ _ _ _ _ _ _ _ _ _ _ LF.out L3.out).mono ?_); rintro e w5 ⟨G, rfl, g5, l5⟩; have T5 := Aside0.mk (T3.out.below g5); replace l5 := Aside0.mk l5; obtain ⟨s0, s1, s2, s3, s4, s5⟩ := six T5.out.a; obtain ⟨u0, u1, u2, u3, u4, u5⟩ := up6 T5.out.h0 HX.out; obtain ⟨r0, r1, r2, r3, r4, r5⟩ := six T5.out.b; have rf := blk_frozen T5.out.b; have ss := T5.out.s)
      | (go_at_call 61; (with_reducible refine (HC.out _ T2.out.drew.h0).mono ?_); rintro e w3 ⟨D3, f3, D4, f4, D5, f5, rfl, g3, l3⟩; have T3 := Aside0.mk (T2.out.drew.below g3); have L3 := Aside0.mk (l3.mono (ok' := fun i => i < w0.heap.size ∨ W.heap.size + 2 ≤ i) (fun i hi _ => by have := T2.out.drew.s; omega)); have LF := Aside0.mk (HAT.out.lies T3.out.h0 (fun i => i < w0.heap.size ∨ W.heap.size + 2 ≤ i) (fun _ h => .inl h)); clear l3; obtain ⟨s0, s1, s2, s3, s4, s5⟩ := six T3.out.a; obtain ⟨u0, u1, u2, u3, u4, u5⟩ := up6 T3.out.h0 HX.out))
  all_goals
    go_wp2_with fail
    refine bodyPost_ret (results_cell26 rfl _ _ _ (set_six T5.out.b _ _ _ _ _ _) rfl) rfl ?_
    have hw := hsW.out
    exact Ans.laid (R := ⟨14, e0, 0, [], bs, [ry]⟩) none 0 A4 c4 (some G) 1 hw T5.out.h (by omega) (W.heap.size + 2) (by omega) (by omega) (l5.out.mono (fun i hi _ => by have := T3.out.s; omega))
set_option maxRecDepth 100000 in
set_option maxHeartbeats 8000000 in
theorem ref_quant_15_t (s : Nat) (hS : RefOk s) (y : S26) (bs : List S42) (A3 : Option Addr) (c3 : Nat) (A4 : Option Addr) (c4 : Nat) (A5 : Option Addr) (c5 : Nat) (w0 W : World) (hs : sizes [y] ≤ s) (hat : At w0 ⟨15, e0, 0, [], bs, [y]⟩ A3 c3 A4 c4 A5 c5) (hy : Fm y) (hb : Below w0.heap.size w0 W) :
    Calls Tryd.prog 61 #[.agg #[.int .i64 15, .string ⟨#[]⟩, .int .i64 0, .slice A3 0 c3, .slice A4 bs.length c4, .slice A5 1 c5], .bool true] W (Ans w0 W ⟨14, e0, 0, [], bs, [right y true]⟩) := by
  have hu26 := Tryd.underlying26
  simp only [sizes] at hs
  obtain ⟨ad, B3, d3, B4, d4, B5, d5, hA5, hatj, x0, x1, x2, x3, x4, x5⟩ := formAt hat.g5 (Below.refl _ _) 0 (by simp)
  subst hA5
  have hy' : rd_T26 [y] ((0 : Nat) : Int) = y := rfl
  dsimp only at hatj x0 x1 x2 x3 x4 x5
  rw [hy'] at hatj x0 x1 x2 x3 x4 x5
  simp only [Nat.zero_mul, Addr.add_zero'] at x0 x1 x2 x3 x4 x5
  have T0 := Aside0.mk (Two.start hb 15 ⟨#[]⟩ 0 [] bs [y] A3 c3 A4 c4 (some ad) c5)
  simp only [List.length_nil, List.length_cons, Nat.zero_add] at T0
  have hA := Aside0.mk (refAtom_below 15 false rfl)
  have hadl := Aside0.mk (show ad.block < w0.heap.size from World.block_lt_of_cell? w0 _ x0)
  have HX := Aside0.mk (And.intro x0 (And.intro x1 (And.intro x2 (And.intro x3 (And.intro x4 x5)))))
  have hsW := Aside0.mk hb.size
  have na : ¬ W.heap.size + 1 = ad.block := by have := hadl.out; have := hsW.out; omega
  have na' : ¬ ad.block = W.heap.size + 1 := fun e => na e.symm
  have HAT : Aside0 (At w0 ⟨15, ⟨#[]⟩, 0, [], bs, [y]⟩ A3 c3 A4 c4 (some ad) c5) := ⟨hat⟩
  have HC := Aside0.mk (fun W1 (h1 : Below w0.heap.size w0 W1) => hS y true B3 d3 B4 d4 B5 d5 w0 W1 (by omega) hatj hy h1)
  clear hS hs hat hy hatj hy' x0 x1 x2 x3 x4 x5 hb
  obtain ⟨ry, hry⟩ : ∃ ry, right y true = ry := ⟨_, rfl⟩
  rw [hry] at HC ⊢
  clear hry
  go_enter Tryd.func61, Tryd.ntmps61
  go_upto_region 10 with ((go_at_call 96; (with_reducible refine (hA.out _).mono ?_); rintro e w1 ⟨rfl, g1⟩; have T1 := Aside0.mk (T0.out.below g1); clear T0 g1; obtain ⟨p0, p1, p2, p3, p4, p5⟩ := six T1.out.a; have ps := T1.out.s))
  go_upto_region 30 with ((go_at_call 96; (with_reducible refine (hA.out _).mono ?_); rintro e w2 ⟨rfl, g2⟩; have T2 := Aside0.mk (T1.out.below g2); clear T1 g2 p0 p1 p2 p3 p4 p5 ps; obtain ⟨q0, q1, q2, q3, q4, q5⟩ := six T2.out.a; have qs := T2.out.s))
  obtain ⟨u0, u1, u2, u3, u4, u5⟩ := up6 T2.out.h0 HX.out
  go_region_held3 (fun w' => w'.cell? ⟨W.heap.size, 0, none⟩ = some (.int .i64 15) ∧ w'.cell? ⟨W.heap.size, 1, none⟩ = some (.string ⟨#[]⟩) ∧ w'.cell? ⟨W.heap.size, 2, none⟩ = some (.int .i64 0) ∧ w'.cell? ⟨W.heap.size, 3, none⟩ = some (.slice A3 0 c3) ∧ w'.cell? ⟨W.heap.size, 4, none⟩ = some (.slice A4 bs.length c4) ∧ w'.cell? ⟨W.heap.size, 5, none⟩ = some (.slice (some ad) 1 c5) ∧ w'.cell? ad = some (.int .i64 y.f0) ∧ w'.cell? ⟨ad.block, ad.off + 1, none⟩ = some (.string y.f1) ∧ w'.cell? ⟨ad.block, ad.off + 2, none⟩ = some (.int .i64 y.f2) ∧ w'.cell? ⟨ad.block, ad.off + 3, none⟩ = some (.slice B3 y.f3.length d3) ∧ w'.cell? ⟨ad.block, ad.off + 4, none⟩ = some (.slice B4 y.f4.length d4) ∧ w'.cell? ⟨ad.block, ad.off + 5, none⟩ = some (.slice B5 y.f5.length d5)) (go_keep)
    (first
      | (go_at_call 99; (with_reducible refine (one_calls' (fun i => i < w0.heap.size ∨ W.heap.size + 2 ≤ i) 15 0 _ _ bs y _ _ _ _ _ _ _ _ _ _ _ _ _ _ LF.out L3.out).mono ?_); rintro e w5 ⟨G, rfl, g5, l5⟩; have T5 := Aside0.mk (T3.out.below g5); replace l5 := Aside0.mk l5; obtain ⟨s0, s1, s2, s3, s4, s5⟩ := six T5.out.a; obtain ⟨u0, u1, u2, u3, u4, u5⟩ := up6 T5.out.h0 HX.out; obtain ⟨r0, r1, r2, r3, r4, r5⟩ := six T5.out.b; have rf := blk_frozen T5.out.b; have ss := T5.out.s)
      | (go_at_call 61; (with_reducible refine (HC.out _ T2.out.drew.h0).mono ?_); rintro e w3 ⟨D3, f3, D4, f4, D5, f5, rfl, g3, l3⟩; have T3 := Aside0.mk (T2.out.drew.below g3); have L3 := Aside0.mk (l3.mono (ok' := fun i => i < w0.heap.size ∨ W.heap.size + 2 ≤ i) (fun i hi _ => by have := T2.out.drew.s; omega)); have LF := Aside0.mk (HAT.out.lies T3.out.h0 (fun i => i < w0.heap.size ∨ W.heap.size + 2 ≤ i) (fun _ h => .inl h)); clear l3; obtain ⟨s0, s1, s2, s3, s4, s5⟩ := six T3.out.a; obtain ⟨u0, u1, u2, u3, u4, u5⟩ := up6 T3.out.h0 HX.out))
  all_goals
    go_wp2_with fail
    refine bodyPost_ret (results_cell26 rfl _ _ _ (set_six T5.out.b _ _ _ _ _ _) rfl) rfl ?_
    have hw := hsW.out
    exact Ans.laid (R := ⟨14, e0, 0, [], bs, [ry]⟩) none 0 A4 c4 (some G) 1 hw T5.out.h (by omega) (W.heap.size + 2) (by omega) (by omega) (l5.out.mono (fun i hi _ => by have := T3.out.s; omega))
set_option maxRecDepth 100000 in
set_option maxHeartbeats 8000000 in
theorem ref_quant_15_f (s : Nat) (hS : RefOk s) (y : S26) (bs : List S42) (A3 : Option Addr) (c3 : Nat) (A4 : Option Addr) (c4 : Nat) (A5 : Option Addr) (c5 : Nat) (w0 W : World) (hs : sizes [y] ≤ s) (hat : At w0 ⟨15, e0, 0, [], bs, [y]⟩ A3 c3 A4 c4 A5 c5) (hy : Fm y) (hb : Below w0.heap.size w0 W) :
    Calls Tryd.prog 61 #[.agg #[.int .i64 15, .string ⟨#[]⟩, .int .i64 0, .slice A3 0 c3, .slice A4 bs.length c4, .slice A5 1 c5], .bool false] W (Ans w0 W ⟨15, e0, 0, [], bs, [right y false]⟩) := by
  have hu26 := Tryd.underlying26
  simp only [sizes] at hs
  obtain ⟨ad, B3, d3, B4, d4, B5, d5, hA5, hatj, x0, x1, x2, x3, x4, x5⟩ := formAt hat.g5 (Below.refl _ _) 0 (by simp)
  subst hA5
  have hy' : rd_T26 [y] ((0 : Nat) : Int) = y := rfl
  dsimp only at hatj x0 x1 x2 x3 x4 x5
  rw [hy'] at hatj x0 x1 x2 x3 x4 x5
  simp only [Nat.zero_mul, Addr.add_zero'] at x0 x1 x2 x3 x4 x5
  have T0 := Aside0.mk (Two.start hb 15 ⟨#[]⟩ 0 [] bs [y] A3 c3 A4 c4 (some ad) c5)
  simp only [List.length_nil, List.length_cons, Nat.zero_add] at T0
  have hA := Aside0.mk (refAtom_below 15 false rfl)
  have hadl := Aside0.mk (show ad.block < w0.heap.size from World.block_lt_of_cell? w0 _ x0)
  have HX := Aside0.mk (And.intro x0 (And.intro x1 (And.intro x2 (And.intro x3 (And.intro x4 x5)))))
  have hsW := Aside0.mk hb.size
  have na : ¬ W.heap.size + 1 = ad.block := by have := hadl.out; have := hsW.out; omega
  have na' : ¬ ad.block = W.heap.size + 1 := fun e => na e.symm
  have HAT : Aside0 (At w0 ⟨15, ⟨#[]⟩, 0, [], bs, [y]⟩ A3 c3 A4 c4 (some ad) c5) := ⟨hat⟩
  have HC := Aside0.mk (fun W1 (h1 : Below w0.heap.size w0 W1) => hS y false B3 d3 B4 d4 B5 d5 w0 W1 (by omega) hatj hy h1)
  clear hS hs hat hy hatj hy' x0 x1 x2 x3 x4 x5 hb
  obtain ⟨ry, hry⟩ : ∃ ry, right y false = ry := ⟨_, rfl⟩
  rw [hry] at HC ⊢
  clear hry
  go_enter Tryd.func61, Tryd.ntmps61
  go_upto_region 10 with ((go_at_call 96; (with_reducible refine (hA.out _).mono ?_); rintro e w1 ⟨rfl, g1⟩; have T1 := Aside0.mk (T0.out.below g1); clear T0 g1; obtain ⟨p0, p1, p2, p3, p4, p5⟩ := six T1.out.a; have ps := T1.out.s))
  go_upto_region 30 with ((go_at_call 96; (with_reducible refine (hA.out _).mono ?_); rintro e w2 ⟨rfl, g2⟩; have T2 := Aside0.mk (T1.out.below g2); clear T1 g2 p0 p1 p2 p3 p4 p5 ps; obtain ⟨q0, q1, q2, q3, q4, q5⟩ := six T2.out.a; have qs := T2.out.s))
  obtain ⟨u0, u1, u2, u3, u4, u5⟩ := up6 T2.out.h0 HX.out
  go_region_held3 (fun w' => w'.cell? ⟨W.heap.size, 0, none⟩ = some (.int .i64 15) ∧ w'.cell? ⟨W.heap.size, 1, none⟩ = some (.string ⟨#[]⟩) ∧ w'.cell? ⟨W.heap.size, 2, none⟩ = some (.int .i64 0) ∧ w'.cell? ⟨W.heap.size, 3, none⟩ = some (.slice A3 0 c3) ∧ w'.cell? ⟨W.heap.size, 4, none⟩ = some (.slice A4 bs.length c4) ∧ w'.cell? ⟨W.heap.size, 5, none⟩ = some (.slice (some ad) 1 c5) ∧ w'.cell? ad = some (.int .i64 y.f0) ∧ w'.cell? ⟨ad.block, ad.off + 1, none⟩ = some (.string y.f1) ∧ w'.cell? ⟨ad.block, ad.off + 2, none⟩ = some (.int .i64 y.f2) ∧ w'.cell? ⟨ad.block, ad.off + 3, none⟩ = some (.slice B3 y.f3.length d3) ∧ w'.cell? ⟨ad.block, ad.off + 4, none⟩ = some (.slice B4 y.f4.length d4) ∧ w'.cell? ⟨ad.block, ad.off + 5, none⟩ = some (.slice B5 y.f5.length d5)) (go_keep)
    (first
      | (go_at_call 99; (with_reducible refine (one_calls' (fun i => i < w0.heap.size ∨ W.heap.size + 2 ≤ i) 15 0 _ _ bs y _ _ _ _ _ _ _ _ _ _ _ _ _ _ LF.out L3.out).mono ?_); rintro e w5 ⟨G, rfl, g5, l5⟩; have T5 := Aside0.mk (T3.out.below g5); replace l5 := Aside0.mk l5; obtain ⟨s0, s1, s2, s3, s4, s5⟩ := six T5.out.a; obtain ⟨u0, u1, u2, u3, u4, u5⟩ := up6 T5.out.h0 HX.out; obtain ⟨r0, r1, r2, r3, r4, r5⟩ := six T5.out.b; have rf := blk_frozen T5.out.b; have ss := T5.out.s)
      | (go_at_call 61; (with_reducible refine (HC.out _ T2.out.drew.h0).mono ?_); rintro e w3 ⟨D3, f3, D4, f4, D5, f5, rfl, g3, l3⟩; have T3 := Aside0.mk (T2.out.drew.below g3); have L3 := Aside0.mk (l3.mono (ok' := fun i => i < w0.heap.size ∨ W.heap.size + 2 ≤ i) (fun i hi _ => by have := T2.out.drew.s; omega)); have LF := Aside0.mk (HAT.out.lies T3.out.h0 (fun i => i < w0.heap.size ∨ W.heap.size + 2 ≤ i) (fun _ h => .inl h)); clear l3; obtain ⟨s0, s1, s2, s3, s4, s5⟩ := six T3.out.a; obtain ⟨u0, u1, u2, u3, u4, u5⟩ := up6 T3.out.h0 HX.out))
  all_goals
    go_wp2_with fail
    refine bodyPost_ret (results_cell26 rfl _ _ _ (set_six T5.out.b _ _ _ _ _ _) rfl) rfl ?_
    have hw := hsW.out
    exact Ans.laid (R := ⟨15, e0, 0, [], bs, [ry]⟩) none 0 A4 c4 (some G) 1 hw T5.out.h (by omega) (W.heap.size + 2) (by omega) (by omega) (l5.out.mono (fun i hi _ => by have := T3.out.s; omega))
set_option maxRecDepth 100000 in
set_option maxHeartbeats 8000000 in
theorem ref_count_16_t (s : Nat) (hS : RefOk s) (y : S26) (n : Int) (bs : List S42) (h0 : 0 ≤ n) (hm : n ≤ 1099511627776) (hne : ¬ n = 0) (A3 : Option Addr) (c3 : Nat) (A4 : Option Addr) (c4 : Nat) (A5 : Option Addr) (c5 : Nat) (w0 W : World) (hs : sizes [y] ≤ s) (hat : At w0 ⟨16, e0, n, [], bs, [y]⟩ A3 c3 A4 c4 A5 c5) (hy : Fm y) (hb : Below w0.heap.size w0 W) :
    Calls Tryd.prog 61 #[.agg #[.int .i64 16, .string ⟨#[]⟩, .int .i64 n, .slice A3 0 c3, .slice A4 bs.length c4, .slice A5 1 c5], .bool true] W (Ans w0 W ⟨17, e0, n - 1, [], bs, [right y false]⟩) := by
  have b0 : 0 ≤ n := h0
  have b1 : n ≤ 1099511627776 := hm
  have b2 : ¬ n = 0 := hne
  have b3 : (n == 0) = false := by simpa using hne
  have hu26 := Tryd.underlying26
  simp only [sizes] at hs
  obtain ⟨ad, B3, d3, B4, d4, B5, d5, hA5, hatj, x0, x1, x2, x3, x4, x5⟩ := formAt hat.g5 (Below.refl _ _) 0 (by simp)
  subst hA5
  have hy' : rd_T26 [y] ((0 : Nat) : Int) = y := rfl
  dsimp only at hatj x0 x1 x2 x3 x4 x5
  rw [hy'] at hatj x0 x1 x2 x3 x4 x5
  simp only [Nat.zero_mul, Addr.add_zero'] at x0 x1 x2 x3 x4 x5
  have T0 := Aside0.mk (Two.start hb 16 ⟨#[]⟩ n [] bs [y] A3 c3 A4 c4 (some ad) c5)
  simp only [List.length_nil, List.length_cons, Nat.zero_add] at T0
  have hA := Aside0.mk (refAtom_below 16 false rfl)
  have hadl := Aside0.mk (show ad.block < w0.heap.size from World.block_lt_of_cell? w0 _ x0)
  have HX := Aside0.mk (And.intro x0 (And.intro x1 (And.intro x2 (And.intro x3 (And.intro x4 x5)))))
  have hsW := Aside0.mk hb.size
  have na : ¬ W.heap.size + 1 = ad.block := by have := hadl.out; have := hsW.out; omega
  have na' : ¬ ad.block = W.heap.size + 1 := fun e => na e.symm
  have HAT : Aside0 (At w0 ⟨16, ⟨#[]⟩, n, [], bs, [y]⟩ A3 c3 A4 c4 (some ad) c5) := ⟨hat⟩
  have HC := Aside0.mk (fun W1 (h1 : Below w0.heap.size w0 W1) => hS y false B3 d3 B4 d4 B5 d5 w0 W1 (by omega) hatj hy h1)
  clear hS hs hat hy hatj hy' x0 x1 x2 x3 x4 x5 hb
  obtain ⟨ry, hry⟩ : ∃ ry, right y false = ry := ⟨_, rfl⟩
  rw [hry] at HC ⊢
  clear hry
  go_enter Tryd.func61, Tryd.ntmps61
  go_upto_region 10 with ((go_at_call 96; (with_reducible refine (hA.out _).mono ?_); rintro e w1 ⟨rfl, g1⟩; have T1 := Aside0.mk (T0.out.below g1); clear T0 g1; obtain ⟨p0, p1, p2, p3, p4, p5⟩ := six T1.out.a; have ps := T1.out.s))
  clear h0 hm hne
  go_upto_region 31 with ((go_at_call 96; (with_reducible refine (hA.out _).mono ?_); rintro e w2 ⟨rfl, g2⟩; have T2 := Aside0.mk (T1.out.below g2); clear T1 g2 p0 p1 p2 p3 p4 p5 ps; obtain ⟨q0, q1, q2, q3, q4, q5⟩ := six T2.out.a; have qs := T2.out.s))
  obtain ⟨u0, u1, u2, u3, u4, u5⟩ := up6 T2.out.h0 HX.out
  go_wp2_with (first
    | (go_at_call 61; (with_reducible refine (HC.out _ T2.out.h0).mono ?_); rintro e w3 ⟨D3, f3, D4, f4, D5, f5, rfl, g3, l3⟩; have T3 := Aside0.mk (T2.out.below g3); have T3b := Aside0.mk (T3.out.alloc (.cells #[.int .i64 ry.f0, .string ry.f1, .int .i64 ry.f2, .slice D3 ry.f3.length f3, .slice D4 ry.f4.length f4, .slice D5 ry.f5.length f5] 26)); have L3 := Aside0.mk (l3.step ((Below.refl w3.heap.size w3).alloc (Nat.le_refl _) (.cells #[.int .i64 ry.f0, .string ry.f1, .int .i64 ry.f2, .slice D3 ry.f3.length f3, .slice D4 ry.f4.length f4, .slice D5 ry.f5.length f5] 26)) T2.out.s); have LF := Aside0.mk (HAT.out.lies T3b.out.h0 (fun i => i < w0.heap.size ∨ W.heap.size + 2 ≤ i) (fun _ h => .inl h)); clear l3 q0 q1 q2 q3 q4 q5 u0 u1 u2 u3 u4 u5; obtain ⟨s0, s1, s2, s3, s4, s5⟩ := six T3b.out.a; have ss := T3b.out.s)
    | (go_at_call 99; (with_reducible refine (one_calls' (fun i => i < w0.heap.size ∨ W.heap.size + 2 ≤ i) 16 n _ _ bs y _ _ _ _ _ _ _ _ _ _ _ _ _ _ LF.out L3.out).mono ?_); rintro e w5 ⟨G, rfl, g5, l5⟩; have T5 := Aside0.mk (T3b.out.below g5); replace l5 := Aside0.mk l5; clear s0 s1 s2 s3 s4 s5; obtain ⟨r0, r1, r2, r3, r4, r5⟩ := six T5.out.b; have rf := blk_frozen T5.out.b; have st := T5.out.s))
  refine bodyPost_ret (results_cell26 rfl _ _ _ (set_six T5.out.b _ _ _ _ _ _) rfl) rfl ?_
  have hw := hsW.out
  exact Ans.laid (R := ⟨17, e0, n - 1, [], bs, [ry]⟩) none 0 A4 c4 (some G) 1 hw T5.out.h (by omega) (W.heap.size + 2) (by omega) (by omega) (l5.out.mono (fun i hi _ => by have := T3b.out.s; omega))
set_option maxRecDepth 100000 in
set_option maxHeartbeats 8000000 in
theorem ref_count_16_f (s : Nat) (hS : RefOk s) (y : S26) (n : Int) (bs : List S42) (h0 : 0 ≤ n) (hm : n ≤ 1099511627776) (hne : ¬ n = 0) (A3 : Option Addr) (c3 : Nat) (A4 : Option Addr) (c4 : Nat) (A5 : Option Addr) (c5 : Nat) (w0 W : World) (hs : sizes [y] ≤ s) (hat : At w0 ⟨16, e0, n, [], bs, [y]⟩ A3 c3 A4 c4 A5 c5) (hy : Fm y) (hb : Below w0.heap.size w0 W) :
    Calls Tryd.prog 61 #[.agg #[.int .i64 16, .string ⟨#[]⟩, .int .i64 n, .slice A3 0 c3, .slice A4 bs.length c4, .slice A5 1 c5], .bool false] W (Ans w0 W ⟨16, e0, n, [], bs, [right y false]⟩) := by
  have b0 : 0 ≤ n := h0
  have b1 : n ≤ 1099511627776 := hm
  have b2 : ¬ n = 0 := hne
  have b3 : (n == 0) = false := by simpa using hne
  have hu26 := Tryd.underlying26
  simp only [sizes] at hs
  obtain ⟨ad, B3, d3, B4, d4, B5, d5, hA5, hatj, x0, x1, x2, x3, x4, x5⟩ := formAt hat.g5 (Below.refl _ _) 0 (by simp)
  subst hA5
  have hy' : rd_T26 [y] ((0 : Nat) : Int) = y := rfl
  dsimp only at hatj x0 x1 x2 x3 x4 x5
  rw [hy'] at hatj x0 x1 x2 x3 x4 x5
  simp only [Nat.zero_mul, Addr.add_zero'] at x0 x1 x2 x3 x4 x5
  have T0 := Aside0.mk (Two.start hb 16 ⟨#[]⟩ n [] bs [y] A3 c3 A4 c4 (some ad) c5)
  simp only [List.length_nil, List.length_cons, Nat.zero_add] at T0
  have hA := Aside0.mk (refAtom_below 16 false rfl)
  have hadl := Aside0.mk (show ad.block < w0.heap.size from World.block_lt_of_cell? w0 _ x0)
  have HX := Aside0.mk (And.intro x0 (And.intro x1 (And.intro x2 (And.intro x3 (And.intro x4 x5)))))
  have hsW := Aside0.mk hb.size
  have na : ¬ W.heap.size + 1 = ad.block := by have := hadl.out; have := hsW.out; omega
  have na' : ¬ ad.block = W.heap.size + 1 := fun e => na e.symm
  have HAT : Aside0 (At w0 ⟨16, ⟨#[]⟩, n, [], bs, [y]⟩ A3 c3 A4 c4 (some ad) c5) := ⟨hat⟩
  have HC := Aside0.mk (fun W1 (h1 : Below w0.heap.size w0 W1) => hS y false B3 d3 B4 d4 B5 d5 w0 W1 (by omega) hatj hy h1)
  clear hS hs hat hy hatj hy' x0 x1 x2 x3 x4 x5 hb
  obtain ⟨ry, hry⟩ : ∃ ry, right y false = ry := ⟨_, rfl⟩
  rw [hry] at HC ⊢
  clear hry
  go_enter Tryd.func61, Tryd.ntmps61
  go_upto_region 10 with ((go_at_call 96; (with_reducible refine (hA.out _).mono ?_); rintro e w1 ⟨rfl, g1⟩; have T1 := Aside0.mk (T0.out.below g1); clear T0 g1; obtain ⟨p0, p1, p2, p3, p4, p5⟩ := six T1.out.a; have ps := T1.out.s))
  clear h0 hm hne
  go_upto_region 31 with ((go_at_call 96; (with_reducible refine (hA.out _).mono ?_); rintro e w2 ⟨rfl, g2⟩; have T2 := Aside0.mk (T1.out.below g2); clear T1 g2 p0 p1 p2 p3 p4 p5 ps; obtain ⟨q0, q1, q2, q3, q4, q5⟩ := six T2.out.a; have qs := T2.out.s))
  obtain ⟨u0, u1, u2, u3, u4, u5⟩ := up6 T2.out.h0 HX.out
  go_wp2_with (first
    | (go_at_call 61; (with_reducible refine (HC.out _ T2.out.h0).mono ?_); rintro e w3 ⟨D3, f3, D4, f4, D5, f5, rfl, g3, l3⟩; have T3 := Aside0.mk (T2.out.below g3); have T3b := Aside0.mk (T3.out.alloc (.cells #[.int .i64 ry.f0, .string ry.f1, .int .i64 ry.f2, .slice D3 ry.f3.length f3, .slice D4 ry.f4.length f4, .slice D5 ry.f5.length f5] 26)); have L3 := Aside0.mk (l3.step ((Below.refl w3.heap.size w3).alloc (Nat.le_refl _) (.cells #[.int .i64 ry.f0, .string ry.f1, .int .i64 ry.f2, .slice D3 ry.f3.length f3, .slice D4 ry.f4.length f4, .slice D5 ry.f5.length f5] 26)) T2.out.s); have LF := Aside0.mk (HAT.out.lies T3b.out.h0 (fun i => i < w0.heap.size ∨ W.heap.size + 2 ≤ i) (fun _ h => .inl h)); clear l3 q0 q1 q2 q3 q4 q5 u0 u1 u2 u3 u4 u5; obtain ⟨s0, s1, s2, s3, s4, s5⟩ := six T3b.out.a; have ss := T3b.out.s)
    | (go_at_call 99; (with_reducible refine (one_calls' (fun i => i < w0.heap.size ∨ W.heap.size + 2 ≤ i) 16 n _ _ bs y _ _ _ _ _ _ _ _ _ _ _ _ _ _ LF.out L3.out).mono ?_); rintro e w5 ⟨G, rfl, g5, l5⟩; have T5 := Aside0.mk (T3b.out.below g5); replace l5 := Aside0.mk l5; clear s0 s1 s2 s3 s4 s5; obtain ⟨r0, r1, r2, r3, r4, r5⟩ := six T5.out.b; have rf := blk_frozen T5.out.b; have st := T5.out.s))
  refine bodyPost_ret (results_cell26 rfl _ _ _ (set_six T5.out.b _ _ _ _ _ _) rfl) rfl ?_
  have hw := hsW.out
  exact Ans.laid (R := ⟨16, e0, n, [], bs, [ry]⟩) none 0 A4 c4 (some G) 1 hw T5.out.h (by omega) (W.heap.size + 2) (by omega) (by omega) (l5.out.mono (fun i hi _ => by have := T3b.out.s; omega))
set_option maxRecDepth 100000 in
set_option maxHeartbeats 8000000 in
theorem ref_count_17_t (s : Nat) (hS : RefOk s) (y : S26) (n : Int) (bs : List S42) (h0 : 0 ≤ n) (hm : n ≤ 1099511627776) (hne : ¬ n = 1099511627776) (A3 : Option Addr) (c3 : Nat) (A4 : Option Addr) (c4 : Nat) (A5 : Option Addr) (c5 : Nat) (w0 W : World) (hs : sizes [y] ≤ s) (hat : At w0 ⟨17, e0, n, [], bs, [y]⟩ A3 c3 A4 c4 A5 c5) (hy : Fm y) (hb : Below w0.heap.size w0 W) :
    Calls Tryd.prog 61 #[.agg #[.int .i64 17, .string ⟨#[]⟩, .int .i64 n, .slice A3 0 c3, .slice A4 bs.length c4, .slice A5 1 c5], .bool true] W (Ans w0 W ⟨16, e0, n + 1, [], bs, [right y false]⟩) := by
  have b0 : 0 ≤ n := h0
  have b1 : n ≤ 1099511627776 := hm
  have b2 : ¬ n = 1099511627776 := hne
  have b3 : (n == 1099511627776) = false := by simpa using hne
  have hu26 := Tryd.underlying26
  simp only [sizes] at hs
  obtain ⟨ad, B3, d3, B4, d4, B5, d5, hA5, hatj, x0, x1, x2, x3, x4, x5⟩ := formAt hat.g5 (Below.refl _ _) 0 (by simp)
  subst hA5
  have hy' : rd_T26 [y] ((0 : Nat) : Int) = y := rfl
  dsimp only at hatj x0 x1 x2 x3 x4 x5
  rw [hy'] at hatj x0 x1 x2 x3 x4 x5
  simp only [Nat.zero_mul, Addr.add_zero'] at x0 x1 x2 x3 x4 x5
  have T0 := Aside0.mk (Two.start hb 17 ⟨#[]⟩ n [] bs [y] A3 c3 A4 c4 (some ad) c5)
  simp only [List.length_nil, List.length_cons, Nat.zero_add] at T0
  have hA := Aside0.mk (refAtom_below 17 false rfl)
  have hadl := Aside0.mk (show ad.block < w0.heap.size from World.block_lt_of_cell? w0 _ x0)
  have HX := Aside0.mk (And.intro x0 (And.intro x1 (And.intro x2 (And.intro x3 (And.intro x4 x5)))))
  have hsW := Aside0.mk hb.size
  have na : ¬ W.heap.size + 1 = ad.block := by have := hadl.out; have := hsW.out; omega
  have na' : ¬ ad.block = W.heap.size + 1 := fun e => na e.symm
  have HAT : Aside0 (At w0 ⟨17, ⟨#[]⟩, n, [], bs, [y]⟩ A3 c3 A4 c4 (some ad) c5) := ⟨hat⟩
  have HC := Aside0.mk (fun W1 (h1 : Below w0.heap.size w0 W1) => hS y false B3 d3 B4 d4 B5 d5 w0 W1 (by omega) hatj hy h1)
  clear hS hs hat hy hatj hy' x0 x1 x2 x3 x4 x5 hb
  obtain ⟨ry, hry⟩ : ∃ ry, right y false = ry := ⟨_, rfl⟩
  rw [hry] at HC ⊢
  clear hry
  go_enter Tryd.func61, Tryd.ntmps61
  go_upto_region 10 with ((go_at_call 96; (with_reducible refine (hA.out _).mono ?_); rintro e w1 ⟨rfl, g1⟩; have T1 := Aside0.mk (T0.out.below g1); clear T0 g1; obtain ⟨p0, p1, p2, p3, p4, p5⟩ := six T1.out.a; have ps := T1.out.s))
  clear h0 hm hne
  go_upto_region 31 with ((go_at_call 96; (with_reducible refine (hA.out _).mono ?_); rintro e w2 ⟨rfl, g2⟩; have T2 := Aside0.mk (T1.out.below g2); clear T1 g2 p0 p1 p2 p3 p4 p5 ps; obtain ⟨q0, q1, q2, q3, q4, q5⟩ := six T2.out.a; have qs := T2.out.s))
  obtain ⟨u0, u1, u2, u3, u4, u5⟩ := up6 T2.out.h0 HX.out
  go_wp2_with (first
    | (go_at_call 61; (with_reducible refine (HC.out _ T2.out.h0).mono ?_); rintro e w3 ⟨D3, f3, D4, f4, D5, f5, rfl, g3, l3⟩; have T3 := Aside0.mk (T2.out.below g3); have T3b := Aside0.mk (T3.out.alloc (.cells #[.int .i64 ry.f0, .string ry.f1, .int .i64 ry.f2, .slice D3 ry.f3.length f3, .slice D4 ry.f4.length f4, .slice D5 ry.f5.length f5] 26)); have L3 := Aside0.mk (l3.step ((Below.refl w3.heap.size w3).alloc (Nat.le_refl _) (.cells #[.int .i64 ry.f0, .string ry.f1, .int .i64 ry.f2, .slice D3 ry.f3.length f3, .slice D4 ry.f4.length f4, .slice D5 ry.f5.length f5] 26)) T2.out.s); have LF := Aside0.mk (HAT.out.lies T3b.out.h0 (fun i => i < w0.heap.size ∨ W.heap.size + 2 ≤ i) (fun _ h => .inl h)); clear l3 q0 q1 q2 q3 q4 q5 u0 u1 u2 u3 u4 u5; obtain ⟨s0, s1, s2, s3, s4, s5⟩ := six T3b.out.a; have ss := T3b.out.s)
    | (go_at_call 99; (with_reducible refine (one_calls' (fun i => i < w0.heap.size ∨ W.heap.size + 2 ≤ i) 17 n _ _ bs y _ _ _ _ _ _ _ _ _ _ _ _ _ _ LF.out L3.out).mono ?_); rintro e w5 ⟨G, rfl, g5, l5⟩; have T5 := Aside0.mk (T3b.out.below g5); replace l5 := Aside0.mk l5; clear s0 s1 s2 s3 s4 s5; obtain ⟨r0, r1, r2, r3, r4, r5⟩ := six T5.out.b; have rf := blk_frozen T5.out.b; have st := T5.out.s))
  refine bodyPost_ret (results_cell26 rfl _ _ _ (set_six T5.out.b _ _ _ _ _ _) rfl) rfl ?_
  have hw := hsW.out
  exact Ans.laid (R := ⟨16, e0, n + 1, [], bs, [ry]⟩) none 0 A4 c4 (some G) 1 hw T5.out.h (by omega) (W.heap.size + 2) (by omega) (by omega) (l5.out.mono (fun i hi _ => by have := T3b.out.s; omega))
set_option maxRecDepth 100000 in
set_option maxHeartbeats 8000000 in
theorem ref_count_17_f (s : Nat) (hS : RefOk s) (y : S26) (n : Int) (bs : List S42) (h0 : 0 ≤ n) (hm : n ≤ 1099511627776) (hne : ¬ n = 1099511627776) (A3 : Option Addr) (c3 : Nat) (A4 : Option Addr) (c4 : Nat) (A5 : Option Addr) (c5 : Nat) (w0 W : World) (hs : sizes [y] ≤ s) (hat : At w0 ⟨17, e0, n, [], bs, [y]⟩ A3 c3 A4 c4 A5 c5) (hy : Fm y) (hb : Below w0.heap.size w0 W) :
    Calls Tryd.prog 61 #[.agg #[.int .i64 17, .string ⟨#[]⟩, .int .i64 n, .slice A3 0 c3, .slice A4 bs.length c4, .slice A5 1 c5], .bool false] W (Ans w0 W ⟨17, e0, n, [], bs, [right y false]⟩) := by
  have b0 : 0 ≤ n := h0
  have b1 : n ≤ 1099511627776 := hm
  have b2 : ¬ n = 1099511627776 := hne
  have b3 : (n == 1099511627776) = false := by simpa using hne
  have hu26 := Tryd.underlying26
  simp only [sizes] at hs
  obtain ⟨ad, B3, d3, B4, d4, B5, d5, hA5, hatj, x0, x1, x2, x3, x4, x5⟩ := formAt hat.g5 (Below.refl _ _) 0 (by simp)
  subst hA5
  have hy' : rd_T26 [y] ((0 : Nat) : Int) = y := rfl
  dsimp only at hatj x0 x1 x2 x3 x4 x5
  rw [hy'] at hatj x0 x1 x2 x3 x4 x5
  simp only [Nat.zero_mul, Addr.add_zero'] at x0 x1 x2 x3 x4 x5
  have T0 := Aside0.mk (Two.start hb 17 ⟨#[]⟩ n [] bs [y] A3 c3 A4 c4 (some ad) c5)
  simp only [List.length_nil, List.length_cons, Nat.zero_add] at T0
  have hA := Aside0.mk (refAtom_below 17 false rfl)
  have hadl := Aside0.mk (show ad.block < w0.heap.size from World.block_lt_of_cell? w0 _ x0)
  have HX := Aside0.mk (And.intro x0 (And.intro x1 (And.intro x2 (And.intro x3 (And.intro x4 x5)))))
  have hsW := Aside0.mk hb.size
  have na : ¬ W.heap.size + 1 = ad.block := by have := hadl.out; have := hsW.out; omega
  have na' : ¬ ad.block = W.heap.size + 1 := fun e => na e.symm
  have HAT : Aside0 (At w0 ⟨17, ⟨#[]⟩, n, [], bs, [y]⟩ A3 c3 A4 c4 (some ad) c5) := ⟨hat⟩
  have HC := Aside0.mk (fun W1 (h1 : Below w0.heap.size w0 W1) => hS y false B3 d3 B4 d4 B5 d5 w0 W1 (by omega) hatj hy h1)
  clear hS hs hat hy hatj hy' x0 x1 x2 x3 x4 x5 hb
  obtain ⟨ry, hry⟩ : ∃ ry, right y false = ry := ⟨_, rfl⟩
  rw [hry] at HC ⊢
  clear hry
  go_enter Tryd.func61, Tryd.ntmps61
  go_upto_region 10 with ((go_at_call 96; (with_reducible refine (hA.out _).mono ?_); rintro e w1 ⟨rfl, g1⟩; have T1 := Aside0.mk (T0.out.below g1); clear T0 g1; obtain ⟨p0, p1, p2, p3, p4, p5⟩ := six T1.out.a; have ps := T1.out.s))
  clear h0 hm hne
  go_upto_region 31 with ((go_at_call 96; (with_reducible refine (hA.out _).mono ?_); rintro e w2 ⟨rfl, g2⟩; have T2 := Aside0.mk (T1.out.below g2); clear T1 g2 p0 p1 p2 p3 p4 p5 ps; obtain ⟨q0, q1, q2, q3, q4, q5⟩ := six T2.out.a; have qs := T2.out.s))
  obtain ⟨u0, u1, u2, u3, u4, u5⟩ := up6 T2.out.h0 HX.out
  go_wp2_with (first
    | (go_at_call 61; (with_reducible refine (HC.out _ T2.out.h0).mono ?_); rintro e w3 ⟨D3, f3, D4, f4, D5, f5, rfl, g3, l3⟩; have T3 := Aside0.mk (T2.out.below g3); have T3b := Aside0.mk (T3.out.alloc (.cells #[.int .i64 ry.f0, .string ry.f1, .int .i64 ry.f2, .slice D3 ry.f3.length f3, .slice D4 ry.f4.length f4, .slice D5 ry.f5.length f5] 26)); have L3 := Aside0.mk (l3.step ((Below.refl w3.heap.size w3).alloc (Nat.le_refl _) (.cells #[.int .i64 ry.f0, .string ry.f1, .int .i64 ry.f2, .slice D3 ry.f3.length f3, .slice D4 ry.f4.length f4, .slice D5 ry.f5.length f5] 26)) T2.out.s); have LF := Aside0.mk (HAT.out.lies T3b.out.h0 (fun i => i < w0.heap.size ∨ W.heap.size + 2 ≤ i) (fun _ h => .inl h)); clear l3 q0 q1 q2 q3 q4 q5 u0 u1 u2 u3 u4 u5; obtain ⟨s0, s1, s2, s3, s4, s5⟩ := six T3b.out.a; have ss := T3b.out.s)
    | (go_at_call 99; (with_reducible refine (one_calls' (fun i => i < w0.heap.size ∨ W.heap.size + 2 ≤ i) 17 n _ _ bs y _ _ _ _ _ _ _ _ _ _ _ _ _ _ LF.out L3.out).mono ?_); rintro e w5 ⟨G, rfl, g5, l5⟩; have T5 := Aside0.mk (T3b.out.below g5); replace l5 := Aside0.mk l5; clear s0 s1 s2 s3 s4 s5; obtain ⟨r0, r1, r2, r3, r4, r5⟩ := six T5.out.b; have rf := blk_frozen T5.out.b; have st := T5.out.s))
  refine bodyPost_ret (results_cell26 rfl _ _ _ (set_six T5.out.b _ _ _ _ _ _) rfl) rfl ?_
  have hw := hsW.out
  exact Ans.laid (R := ⟨17, e0, n, [], bs, [ry]⟩) none 0 A4 c4 (some G) 1 hw T5.out.h (by omega) (W.heap.size + 2) (by omega) (by omega) (l5.out.mono (fun i hi _ => by have := T3b.out.s; omega))
end Go.Proofs.YtmlcaecknocpoaaDoor.It
namespace Go.Proofs.YtmlcaecknocpoaaDoor.It
set_option linter.unusedVariables false
set_option linter.unusedSimpArgs false
open Go Go.RowKit Go.Shelf Go.Proofs.YtmlcaecknocpoaaDoorW.PrintWords Go.Proofs.YtmlcaecknocpoaaDoorW.PrintLast Go.Proofs.YtmlcaecknocpoaaDoor.Pr Go.Proofs.YtmlcaecknocpoaaDoor.Sp
theorem ref_step (s : Nat) (hS : RefOk s) : RefOk (s + 1) := by
  rintro x t A3 c3 A4 c4 A5 c5 w0 W hs hat hf hb
  rw [size_eq] at hs
  cases hf with
  | @const k hk =>
    rcases hk with rfl | rfl
    · rw [right_c1]
      exact ref_leaf 1 ⟨#[]⟩ 0 [] [] [] t (if t then 2 else 1) A3 c3 A4 c4 A5 c5 w0 W hb (.inl ⟨rfl, rfl⟩)
    · rw [right_c2]
      exact ref_leaf 2 ⟨#[]⟩ 0 [] [] [] t (if t then 1 else 2) A3 c3 A4 c4 A5 c5 w0 W hb (.inr ⟨rfl, rfl, rfl⟩)
  | @atom k ts h1 h2 h3 =>
    have ha : atom k = true := by simp [atom]; omega
    rw [right_a _ _ _ h1 h2]
    cases t
    · exact ref_same k ⟨#[]⟩ 0 ts [] [] A3 c3 A4 c4 A5 c5 w0 W false hat hb ha rfl
    · exact ref_atom k ⟨#[]⟩ 0 ts [] [] A3 c3 A4 c4 A5 c5 w0 W hat hb ha (by omega)
  | @cmp nm ts h1 h2 =>
    rw [right_cmp]
    cases t
    · exact ref_same 9 nm 0 ts [] [] A3 c3 A4 c4 A5 c5 w0 W false hat hb rfl rfl
    · exact ref_cmp nm ts A3 c3 A4 c4 A5 c5 w0 W hat hb h1
  | @not y hy =>
    have hs' : sizes [y] ≤ s := by dsimp only at hs; omega
    rw [right_n]
    cases t
    · exact ref_not_f s hS y A3 c3 A4 c4 A5 c5 w0 W hs' hat hy hb
    · exact ref_not_t s hS y A3 c3 A4 c4 A5 c5 w0 W hs' hat hy hb
  | @two k y z hk hy hz =>
    have hs' : sizes [y, z] ≤ s := by dsimp only at hs; omega
    rw [right_two _ _ _ _ hk]
    rcases hk with rfl | rfl <;> cases t
    · exact ref_two_11_f s hS y z A3 c3 A4 c4 A5 c5 w0 W hs' hat hy hz hb
    · exact ref_two_11_t s hS y z A3 c3 A4 c4 A5 c5 w0 W hs' hat hy hz hb
    · exact ref_two_12_f s hS y z A3 c3 A4 c4 A5 c5 w0 W hs' hat hy hz hb
    · exact ref_two_12_t s hS y z A3 c3 A4 c4 A5 c5 w0 W hs' hat hy hz hb
  | @imp y z hy hz =>
    have hs' : sizes [y, z] ≤ s := by dsimp only at hs; omega
    rw [right_i]
    cases t
    · exact ref_two_13_f s hS y z A3 c3 A4 c4 A5 c5 w0 W hs' hat hy hz hb
    · exact ref_two_13_t s hS y z A3 c3 A4 c4 A5 c5 w0 W hs' hat hy hz hb
  | @quant k bs y hk hbs hy =>
    have hs' : sizes [y] ≤ s := by dsimp only at hs; omega
    rw [right_q _ _ _ _ hk]
    rcases hk with rfl | rfl <;> cases t
    · exact ref_quant_14_f s hS y bs A3 c3 A4 c4 A5 c5 w0 W hs' hat hy hb
    · exact ref_quant_14_t s hS y bs A3 c3 A4 c4 A5 c5 w0 W hs' hat hy hb
    · exact ref_quant_15_f s hS y bs A3 c3 A4 c4 A5 c5 w0 W hs' hat hy hb
    · exact ref_quant_15_t s hS y bs A3 c3 A4 c4 A5 c5 w0 W hs' hat hy hb
  | @count k n bs y hk h0 hm hbs hy =>
    have hs' : sizes [y] ≤ s := by dsimp only at hs; omega
    by_cases ha : always k n = true
    · rw [right_al _ _ _ _ _ ha]
      exact ref_leaf k ⟨#[]⟩ n [] bs [y] t (if t then 2 else 1) A3 c3 A4 c4 A5 c5 w0 W hb (.inl ⟨ha, rfl⟩)
    · have ha' : always k n = false := by simpa using ha
      rw [right_ct _ _ _ _ _ hk ha']
      rcases hk with rfl | rfl <;> cases t
      · exact ref_count_16_f s hS y n bs h0 hm (always16 ha') A3 c3 A4 c4 A5 c5 w0 W hs' hat hy hb
      · exact ref_count_16_t s hS y n bs h0 hm (always16 ha') A3 c3 A4 c4 A5 c5 w0 W hs' hat hy hb
      · exact ref_count_17_f s hS y n bs h0 hm (always17 ha') A3 c3 A4 c4 A5 c5 w0 W hs' hat hy hb
      · exact ref_count_17_t s hS y n bs h0 hm (always17 ha') A3 c3 A4 c4 A5 c5 w0 W hs' hat hy hb
theorem ref_ok : ∀ s, RefOk s
  | 0 => fun x t A3 c3 A4 c4 A5 c5 w0 W h => by rw [size_eq] at h; omega
  | s + 1 => ref_step s (ref_ok s)
theorem refCheck_calls (x : S26) (A3 : Option Addr) (c3 : Nat) (A4 : Option Addr) (c4 : Nat) (A5 : Option Addr) (c5 : Nat) (w : World) (hat : At w x A3 c3 A4 c4 A5 c5) (hs : size x ≤ 4611686018427387904) (hn : NmOk x) :
    Calls Tryd.prog 23 #[.agg #[.int .i64 x.f0, .string x.f1, .int .i64 x.f2, .slice A3 x.f3.length c3, .slice A4 x.f4.length c4, .slice A5 x.f5.length c5]] w fun e w' => e = .returned (.int .i64 (check x)) ∧ Below w.heap.size w w' := by
  obtain ⟨k, hk⟩ := (refCheck_ev x hs hn).rounds
  exact chalklineref06_Check.calls k _ _ _ _ _ _ _ _ _ _ _ _ _ _ hat.g3 hat.l3 hat.g4 hat.l4 hat.g5 hat.l5 hk
set_option maxRecDepth 100000 in
set_option maxHeartbeats 8000000 in
theorem refNnf_calls (x : S26) (A3 : Option Addr) (c3 : Nat) (A4 : Option Addr) (c4 : Nat) (A5 : Option Addr) (c5 : Nat) (w0 W : World) (hat : At w0 x A3 c3 A4 c4 A5 c5) (hs : size x ≤ 4611686018427387904) (hn : NmOk x) (hb : Below w0.heap.size w0 W) :
    Calls Tryd.prog 33 #[.agg #[.int .i64 x.f0, .string x.f1, .int .i64 x.f2, .slice A3 x.f3.length c3, .slice A4 x.f4.length c4, .slice A5 x.f5.length c5]] W fun e w' => ∃ B3 d3 B4 d4 B5 d5,
      e = .returned (.tuple #[.agg #[.int .i64 (nnf x).f0, .string (nnf x).f1, .int .i64 (nnf x).f2, .slice B3 (nnf x).f3.length d3, .slice B4 (nnf x).f4.length d4, .slice B5 (nnf x).f5.length d5], .int .i64 (check x)]) ∧
      Below W.heap.size W w' ∧ Lies (fun k => k < w0.heap.size ∨ W.heap.size ≤ k) w' (nnf x) B3 d3 B4 d4 B5 d5 := by
  have hu26 := Tryd.underlying26
  have hC := Aside0.mk (fun W1 (h1 : Below w0.heap.size w0 W1) => refCheck_calls x A3 c3 A4 c4 A5 c5 W1 (hat.below h1) hs hn)
  have hR := Aside0.mk (fun (hf : Fm x) W1 (h1 : Below w0.heap.size w0 W1) => ref_ok (size x) x false A3 c3 A4 c4 A5 c5 w0 W1 (Nat.le_refl _) hat hf h1)
  have T0 := Aside0.mk (Two.start hb x.f0 x.f1 x.f2 x.f3 x.f4 x.f5 A3 c3 A4 c4 A5 c5)
  have hsW := Aside0.mk hb.size
  clear hat hs hn hb
  by_cases h0 : check x = 0
  · have hf : Fm x := fm_of (check_zero.1 h0).1
    have hn : nnf x = right x false := by simp [nnf, h0]
    replace hR := Aside0.mk (hR.out hf)
    rw [hn, h0]
    rw [h0] at hC
    clear hn hf h0
    go_enter Tryd.func33, Tryd.ntmps33
    go_wp2_with (first
      | (go_at_call 23; (with_reducible refine (hC.out _ T0.out.h0).mono ?_); rintro e w1 ⟨rfl, g1⟩; have T1 := Aside0.mk (T0.out.below g1); clear T0 g1; obtain ⟨p0, p1, p2, p3, p4, p5⟩ := six T1.out.a; have ps := T1.out.s)
      | (go_at_call 61; (with_reducible refine (hR.out _ T1.out.h0).mono ?_); rintro e w2 ⟨D3, f3, D4, f4, D5, f5, rfl, g2, hl2⟩; have T2 := Aside0.mk (T1.out.below g2); replace hl2 := Aside0.mk hl2; clear p0 p1 p2 p3 p4 p5; obtain ⟨r0, r1, r2, r3, r4, r5⟩ := six T2.out.b; have rf := blk_frozen T2.out.b; have qs := T2.out.s))
    refine bodyPost_ret (results_nnf rfl _ _ _ (set_six T2.out.b _ _ _ _ _ _) rfl) rfl ?_
    have hs0 := hsW.out
    exact ⟨D3, f3, D4, f4, D5, f5, rfl, T2.out.h.trans ((Agree.six _ _ _ _ _ _ _ _ (fun i => i < W.heap.size) (fun i hi => by omega)).low (fun _ h => h) (by omega)), hl2.out.move (Agree.six _ _ _ _ _ _ _ _ _ (fun i hi => by omega)) (fun i hi _ => by omega)⟩
  · have hn : nnf x = leaf 0 := by simp [nnf, h0]
    rw [hn]
    obtain ⟨cx, hcx⟩ : ∃ cx, check x = cx := ⟨_, rfl⟩
    rw [hcx] at h0 hC ⊢
    clear hn hcx hR
    go_enter Tryd.func33, Tryd.ntmps33
    go_wp2_with (first
      | (go_at_call 23; (with_reducible refine (hC.out _ T0.out.h0).mono ?_); rintro e w1 ⟨rfl, g1⟩; have T1 := Aside0.mk (T0.out.below g1); clear T0 g1; obtain ⟨r0, r1, r2, r3, r4, r5⟩ := six T1.out.b; have rf := blk_frozen T1.out.b; have ps := T1.out.s))
    refine bodyPost_ret (results_nnf rfl _ _ _ (set_six T1.out.b _ _ _ _ _ _) rfl) rfl ?_
    exact ⟨none, 0, none, 0, none, 0, rfl, T1.out.h.trans ((Agree.six _ _ _ _ _ _ _ _ (fun i => i < W.heap.size) (fun i hi => by omega)).low (fun _ h => h) (by omega)), fun w1 _ => leaf_at w1 _⟩
end Go.Proofs.YtmlcaecknocpoaaDoor.It
namespace Go.Proofs.YtmlcaecknocpoaaDoor.Pr
open Go.RowKit Go.Proofs.YtmlcaecknocpoaaDoorW.PrintWords Go.Proofs.YtmlcaecknocpoaaDoorW.PrintLast Go.Proofs.YtmlcaecknocpoaaDoorW.PrintMore
attribute [local go_sem] max2_int min2_int max_two min_two max_three min_three max_four min_four   
set_option linter.unusedVariables false
set_option linter.unusedSimpArgs false
def chalklinelaw06_v.f (a0 : ByteArray) : Option (Int × ByteArray × Int) := some (2, a0, 0)
set_option maxHeartbeats 8000000 in
set_option maxRecDepth 100000 in
theorem chalklinelaw06_v.calls (a0 : ByteArray) (r1 : Int) (r2 : ByteArray) (r3 : Int) (w : World) (h : chalklinelaw06_v.f a0 = some (r1, r2, r3)) :
    Calls Tryd.prog 50 #[.string a0] w fun e w' => e = .returned (.agg #[.int .i64 r1, .string r2, .int .i64 r3]) ∧ Below w.heap.size w w' := by
  have hu47 := Tryd.underlying47
  have HB := Aside0.mk (Below.refl w.heap.size w)
  have H : (some (2, a0, 0)) = some (r1, r2, r3) := h
  clear h
  simp only [Option.some.injEq, Prod.mk.injEq] at H
  obtain ⟨rfl, rfl, rfl⟩ := H
  go_enter Tryd.func50, Tryd.ntmps50
  go_wp2_with (first | ((with_reducible refine gate_dst (N := 2) rfl ?_); refine box_event ?hg (N := 2) ?hd (cs := #[.int .i64 0, .string (⟨#[]⟩ : ByteArray), .int .i64 0]) (t := 47) ?hr ?_; (case hd => rfl); (case hg => rfl); (case hr => first | (go_simp; done) | (go_simp; rfl)); intro gb184 hg w2 hbox hb; have n0_ := Aside0.mk (below_step (by repeat (first | (with_reducible first | exact HB.out | apply below_alloc | apply pw_below_drewN | apply below_drew1) | exact HB.out)) hb); have n1_ := Aside0.mk (hbox); have n2_ := Aside0.mk ((by rw [hg]; exact (below_size (by repeat (first | (with_reducible first | exact HB.out | apply below_alloc | apply pw_below_drewN | apply below_drew1) | exact HB.out))) : w.heap.size ≤ gb184)); have n3_ := Aside0.mk ((by rw [hg]; exact (below_size (by repeat (first | (with_reducible first | exact HB.out | apply below_alloc | apply pw_below_drewN | apply below_drew1) | exact HB.out))) : w.heap.size ≤ gb184)); clear HB; have HB := n0_; have BK184 := n1_; have GW184 := n2_; have GE184 := n3_; clear n0_ n1_ n2_ n3_; clear hb hbox hg; have hcz3_0 : w2.cell? ⟨gb184, 0, none⟩ = some (.int .i64 0) := (blk_cell BK184.out 0).trans rfl; have hcz3_1 : w2.cell? ⟨gb184, 1, none⟩ = some (.string (⟨#[]⟩ : ByteArray)) := (blk_cell BK184.out 1).trans rfl; have hcz3_2 : w2.cell? ⟨gb184, 2, none⟩ = some (.int .i64 0) := (blk_cell BK184.out 2).trans rfl; have hfz3_0 := blk_frozen BK184.out 0; have hfz3_1 := blk_frozen BK184.out 1; have hfz3_2 := blk_frozen BK184.out 2))
  refine bodyPost_ret (results_cell_row rfl _ _ gb184 47 #[.int .i64 2, .string a0, .int .i64 0] (0, 0) _ rfl (by (with_reducible repeat (first | refine blk_drewN ?_ _ | refine blk_drew ?_ | refine blk_alloc ?_ _)); refine blk_put (cs := #[.int .i64 2, .string a0, .int .i64 0]) ?_ 2 _ rfl; (with_reducible repeat (first | refine blk_drewN ?_ _ | refine blk_drew ?_ | refine blk_alloc ?_ _)); refine blk_put (cs := #[.int .i64 2, .string (⟨#[]⟩ : ByteArray), .int .i64 0]) ?_ 1 _ rfl; (with_reducible repeat (first | refine blk_drewN ?_ _ | refine blk_drew ?_ | refine blk_alloc ?_ _)); refine blk_put (cs := #[.int .i64 0, .string (⟨#[]⟩ : ByteArray), .int .i64 0]) ?_ 0 _ rfl; (with_reducible repeat (first | refine blk_drewN ?_ _ | refine blk_drew ?_ | refine blk_alloc ?_ _)); exact BK184.out) Tryd.underlying47 rfl (by kernel_rfl)) rfl ?_
  exact ⟨by first | rfl | (simp [errW_none, errW_some] <;> rfl) | (simp [*, errW_none, errW_some] <;> rfl), by repeat (first | (with_reducible first | exact HB.out | apply below_alloc | apply pw_below_drewN | apply below_drew1 | refine below_set ?_ GE184.out) | exact HB.out)⟩
end Go.Proofs.YtmlcaecknocpoaaDoor.Pr
