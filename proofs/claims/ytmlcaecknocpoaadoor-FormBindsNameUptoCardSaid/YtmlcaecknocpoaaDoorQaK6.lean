/- Lemmas and walks for the claims. -/
import Derived.Test.YtmlcaecknocpoaaDoorQaK5
import Derived.Deep.RegionHeld3
import Derived.Deep.Slices
import Derived.Deep.Fields
import Derived.ChangeSame
import Derived.ProofKit
import Derived.LaidMore
import Derived.MakeChecks
import Derived.Maps.Keyed
import Derived.WideKeyElems2
import Derived.Maps.StringElems
import Derived.Deep.DeepHandedRow
import Derived.Deep.DeepWitnessRowRef
import Derived.WalkKit
import Derived.OpenShut
import Derived.ChangeOld
import Derived.Below
import Derived.SizedLaws
import Derived.Lib.SmallJoins
import Derived.Test.YtmlcaecknocpoaaDoorCards
import Derived.Test.YtmlcaecknocpoaaDoorRows
import Derived.Test.YtmlcaecknocpoaaDoorTie
namespace Go.Proofs.YtmlcaecknocpoaaDoor.It
open Go Go.RowKit Go.Shelf Go.Proofs.YtmlcaecknocpoaaDoorW.PrintWords Go.Proofs.YtmlcaecknocpoaaDoorW.PrintLast Go.Proofs.YtmlcaecknocpoaaDoor.Pr Go.Proofs.YtmlcaecknocpoaaDoor.Sp
theorem here_facts {k : Int} {nm : ByteArray} {n : Int} {ts : List S47} {bs : List S42} {l : List S26} (h : here ⟨k, nm, n, ts, bs, l⟩ = true) :
    arity k = some (l.length : Int) ∧ ts.length ≤ 2 ∧ bs.length ≤ 6 ∧ (counts k = true → 0 ≤ n ∧ n ≤ most) := by
  simp only [here, Bool.and_eq_true, decide_eq_true_eq] at h
  obtain ⟨⟨h1, h2⟩, h3⟩ := h
  refine ⟨h1, ?_, ?_, ?_⟩
  · unfold termsOk at h2
    split at h2
    · simp only [Bool.and_eq_true, decide_eq_true_eq] at h2
      omega
    · simp only [Bool.and_eq_true, decide_eq_true_eq] at h2
      rw [h2.1]; simp
  · unfold bindsOk at h3
    split at h3
    · simp only [Bool.and_eq_true, decide_eq_true_eq] at h3
      omega
    · simp only [Bool.and_eq_true, decide_eq_true_eq] at h3
      rw [h3.1]; simp
  · intro hc
    unfold bindsOk at h3
    have hq : quant k = true := by
      simp only [counts, quant, Bool.or_eq_true, Bool.and_eq_true, decide_eq_true_eq] at *
      omega
    rw [hq, hc] at h3
    simp only [if_true, Bool.and_eq_true, decide_eq_true_eq, number] at h3
    exact h3.2
theorem arity_cases {k m : Int} (h : arity k = some m) : ((k = 1 ∨ k = 2 ∨ (3 ≤ k ∧ k ≤ 9)) ∧ m = 0) ∨ ((k = 10 ∨ (14 ≤ k ∧ k ≤ 17)) ∧ m = 1) ∨ ((11 ≤ k ∧ k ≤ 13) ∧ m = 2) := by
  unfold arity at h
  split at h
  · injection h with h; exact .inl ⟨by assumption, h.symm⟩
  · split at h
    · injection h with h; exact .inr (.inl ⟨by assumption, h.symm⟩)
    · split at h
      · injection h with h; exact .inr (.inr ⟨by assumption, h.symm⟩)
      · cases h
theorem right_gen_eq (k : Int) (nm : ByteArray) (n : Int) (ts : List S47) (bs : List S42) (l : List S26) (tn : Bool) (ha : always k n = false) (h2 : k ≠ 2) (h10 : k ≠ 10) (h13 : k ≠ 13) (h9 : atom k = true → tn = true → k = 9) (hl : atom k = true → l = []) (hk : 3 ≤ k ∧ k ≤ 17) :
    right ⟨k, nm, n, ts, bs, l⟩ tn = ⟨if tn = true ∧ k ≠ 9 then dualOf k else k, if tn = true ∧ k = 9 then sign nm else nm, if tn = true ∧ k = 16 then n - 1 else if tn = true ∧ k = 17 then n + 1 else n, ts, bs, rights l (tn && !counts k)⟩ := by
  rw [right.eq_def]
  simp only [ha, h2, h10, h13, Bool.false_eq_true, if_false]
  by_cases k9 : k = 9
  · subst k9
    have : l = [] := hl rfl
    subst this
    cases tn <;> simp [rights]
  · rw [if_neg k9]
    by_cases hat : atom k = true
    · rw [if_pos hat]
      have hl' := hl hat
      subst hl'
      cases tn
      · simp [rights]
      · exact absurd (h9 hat rfl) k9
    · rw [if_neg hat]
      have ha' : ¬ (3 ≤ k ∧ k ≤ 9) := by simpa [atom] using hat
      cases tn
      · simp
      · simp only [if_true, k9, true_and, ne_eq, not_false_eq_true, if_false]
        congr 1
        unfold dual dualOf
        by_cases a11 : k = 11
        · subst a11; rfl
        · by_cases a12 : k = 12
          · subst a12; rfl
          · by_cases a14 : k = 14
            · subst a14; rfl
            · by_cases a15 : k = 15
              · subst a15; rfl
              · by_cases a16 : k = 16
                · subst a16; rfl
                · have : k = 17 := by omega
                  subst this; rfl
theorem right_step (s : Nat) (hS : RightOk s) : RightOk (s + 1) := by
  rintro ⟨k, nm, n, ts, bs, l⟩ tn A3 c3 A4 c4 A5 c5 w0 W hs hat hdeep hf ht hd hb
  have hsz : sizes l ≤ s := by simp only [size] at hs; omega
  simp only [form, Bool.and_eq_true] at hf
  obtain ⟨hh, hfl⟩ := hf
  obtain ⟨har, hts, hbs, hcn⟩ := here_facts hh
  have hac := arity_cases har
  have hown := hdeep.self
  have hdp : ∀ y ∈ l, Deep y := fun y hy => by
    obtain ⟨j, hj, rfl⟩ := List.mem_iff_getElem.1 hy
    have := hdeep.child j hj
    simpa [rd_T26, List.getD, hj] using this
  by_cases ha : always k n = true
  · have he : right ⟨k, nm, n, ts, bs, l⟩ tn = leaf (if tn then 2 else 1) := by rw [right.eq_def]; simp only [ha, if_true]
    rw [he]
    refine (right_leaf k nm n ts bs l A3 c3 A4 c4 A5 c5 w0 W hat hb tn _ (.inl ⟨ha, rfl⟩)).mono ?_
    rintro e w' ⟨rfl, hbl⟩
    exact ⟨none, 0, none, 0, none, 0, rfl, hbl, fun w1 _ => leaf_at w1 _⟩
  · have ha' : always k n = false := by simpa using ha
    by_cases k2 : k = 2
    · subst k2
      have he : right ⟨2, nm, n, ts, bs, l⟩ tn = leaf (if tn then 1 else 2) := by rw [right.eq_def]; simp [ha']
      rw [he]
      refine (right_leaf 2 nm n ts bs l A3 c3 A4 c4 A5 c5 w0 W hat hb tn _ (.inr ⟨ha', rfl, rfl⟩)).mono ?_
      rintro e w' ⟨rfl, hbl⟩
      exact ⟨none, 0, none, 0, none, 0, rfl, hbl, fun w1 _ => leaf_at w1 _⟩
    · by_cases k10 : k = 10
      · subst k10
        have hl : l.length = 1 := by omega
        have he : right ⟨10, nm, n, ts, bs, l⟩ tn = right (rd_T26 l 0) (!tn) := by
          rw [right.eq_def]
          obtain ⟨x, rfl⟩ := List.length_eq_one_iff.1 hl
          simp [ha', rights, rd_T26]
        rw [he]
        exact right_not s hS nm n ts bs l A3 c3 A4 c4 A5 c5 w0 W hsz hat hfl hdp ht hd hb hl tn
      · by_cases k13 : k = 13
        · subst k13
          have hl : l.length = 2 := by omega
          have he : right ⟨13, nm, n, ts, bs, l⟩ tn = ⟨if tn then 11 else 12, e0, 0, [], [], [right (rd_T26 l 0) (!tn), right (rd_T26 l 1) tn]⟩ := by
            rw [right.eq_def]
            obtain ⟨x, y, rfl⟩ : ∃ x y, l = [x, y] := by
              match l, hl with
              | [x, y], _ => exact ⟨x, y, rfl⟩
            simp [ha', rights, rd_T26]
          rw [he]
          exact right_imp s hS nm n ts bs l A3 c3 A4 c4 A5 c5 w0 W hsz hat hfl hdp ht hd hb hl tn
        · have hla : atom k = true → l = [] := fun h => by
            have : 3 ≤ k ∧ k ≤ 9 := by simpa [atom] using h
            exact List.eq_nil_of_length_eq_zero (by omega)
          have k1 : k ≠ 1 := fun e => by subst e; simp [always] at ha'
          by_cases h9 : atom k = true → tn = true → k = 9
          · rw [right_gen_eq k nm n ts bs l tn ha' k2 k10 k13 h9 hla (by omega)]
            refine right_gen s hS k nm n ts bs l A3 c3 A4 c4 A5 c5 w0 W hsz hat hfl hdp ht hd hb hts hbs (by omega) ha' k2 k10 k13 tn h9 hown.k hown.nm (fun e => ?_) _ _ _ rfl rfl rfl (fun e => ?_)
            · subst e
              have h1 := hcn rfl
              have h2 : n ≠ 0 := fun e => by subst e; simp [always] at ha'
              unfold most at h1
              omega
            · subst e
              have h1 := hcn rfl
              have h2 : n ≠ most := fun e => by subst e; simp [always] at ha'
              unfold most at h1 h2
              omega
          · have h9' : atom k = true ∧ tn = true ∧ k ≠ 9 := by
              by_cases h1 : atom k = true
              · by_cases h2 : tn = true
                · exact ⟨h1, h2, fun e => h9 (fun _ _ => e)⟩
                · exact absurd (fun _ h => absurd h h2) h9
              · exact absurd (fun h => absurd h h1) h9
            obtain ⟨hk, rfl, k9⟩ := h9'
            have he : right ⟨k, nm, n, ts, bs, l⟩ true = ⟨10, e0, 0, [], [], [⟨k, nm, n, ts, bs, l⟩]⟩ := by
              rw [right.eq_def]
              simp [ha', k2, k10, k13, k9, hk]
            rw [he]
            exact right_atom k nm n ts bs l A3 c3 A4 c4 A5 c5 w0 W hat hb hk k9
theorem right_ok : ∀ s, RightOk s
  | 0 => fun x tn A3 c3 A4 c4 A5 c5 w0 W h => by rw [size_eq] at h; omega
  | s + 1 => right_step s (right_ok s)
theorem results_nnf {fn : Func} (h : fn.results = #[.cell 2 26, .tmp 3]) (tmps : Array Value) (w : World) (B : Nat) {v0 v1 v2 v3 v4 v5 : Value} (hB : w.heap[B]? = some (.cells #[v0, v1, v2, v3, v4, v5] 26 (0, 0))) (ht : tmps[2]?.getD undef = .pointer (some ⟨B, 0, none⟩)) :
    (results fn tmps).run Tryd.prog w = .ok (.tuple #[.agg #[v0, v1, v2, v3, v4, v5], tmps.getD 3 undef]) w := by
  obtain ⟨b0, b1, b2, b3, b4, b5⟩ := six hB
  have hu26 := Tryd.underlying26
  simp [results, h, ht, loadVar, asAddr, go_sem, b0, b1, b2, b3, b4, b5]
set_option maxRecDepth 100000 in
set_option maxHeartbeats 8000000 in
theorem nnf_calls (x : S26) (A3 : Option Addr) (c3 : Nat) (A4 : Option Addr) (c4 : Nat) (A5 : Option Addr) (c5 : Nat) (w0 W : World) (hat : At w0 x A3 c3 A4 c4 A5 c5) (hs : size x ≤ 4611686018427387904) (hdp : Deep x) (ht : Tabs w0) (hd : Duals w0) (hb : Below w0.heap.size w0 W) :
    Calls Tryd.prog 32 #[.agg #[.int .i64 x.f0, .string x.f1, .int .i64 x.f2, .slice A3 x.f3.length c3, .slice A4 x.f4.length c4, .slice A5 x.f5.length c5]] W fun e w' => ∃ B3 d3 B4 d4 B5 d5,
      e = .returned (.tuple #[.agg #[.int .i64 (nnf x).f0, .string (nnf x).f1, .int .i64 (nnf x).f2, .slice B3 (nnf x).f3.length d3, .slice B4 (nnf x).f4.length d4, .slice B5 (nnf x).f5.length d5], .int .i64 (check x)]) ∧
      Below W.heap.size W w' ∧ Lies (fun k => k < w0.heap.size ∨ W.heap.size ≤ k) w' (nnf x) B3 d3 B4 d4 B5 d5 := by
  have hu26 := Tryd.underlying26
  have hC := Aside0.mk (fun W1 (h1 : Below w0.heap.size w0 W1) => check_calls x A3 c3 A4 c4 A5 c5 W1 (hat.below h1) hs hdp (ht.below h1))
  have hR := Aside0.mk (fun (hf : form x = true) W1 (h1 : Below w0.heap.size w0 W1) => right_ok (size x) x false A3 c3 A4 c4 A5 c5 w0 W1 (Nat.le_refl _) hat hdp hf ht hd h1)
  have T0 := Aside0.mk (Two.start hb x.f0 x.f1 x.f2 x.f3 x.f4 x.f5 A3 c3 A4 c4 A5 c5)
  have hsW := Aside0.mk hb.size
  clear hat hs hdp ht hd hb
  by_cases h0 : check x = 0
  · have hf : form x = true := by
      unfold check at h0
      split at h0
      · assumption
      · cases h0
    have hn : nnf x = right x false := by simp [nnf, h0]
    replace hR := Aside0.mk (hR.out hf)
    rw [hn, h0]
    rw [h0] at hC
    clear hn hf h0
    go_enter Tryd.func32, Tryd.ntmps32
    go_wp2_with (first
      | (go_at_call 22; with_reducible refine (hC.out _ T0.out.h0).mono ?_; rintro e w1 ⟨rfl, g1⟩; have T1 := Aside0.mk (T0.out.below g1); clear T0 g1; obtain ⟨p0, p1, p2, p3, p4, p5⟩ := six T1.out.a; have ps := T1.out.s)
      | (go_at_call 60; with_reducible refine (hR.out _ T1.out.h0).mono ?_; rintro e w2 ⟨D3, f3, D4, f4, D5, f5, rfl, g2, hl2⟩; have T2 := Aside0.mk (T1.out.below g2); replace hl2 := Aside0.mk hl2; clear p0 p1 p2 p3 p4 p5; obtain ⟨r0, r1, r2, r3, r4, r5⟩ := six T2.out.b; have rf := blk_frozen T2.out.b; have qs := T2.out.s))
    refine bodyPost_ret (results_nnf rfl _ _ _ (set_six T2.out.b _ _ _ _ _ _) rfl) rfl ?_
    have hs0 := hsW.out
    exact ⟨D3, f3, D4, f4, D5, f5, rfl, T2.out.h.trans ((Agree.six _ _ _ _ _ _ _ _ (fun i => i < W.heap.size) (fun i hi => by omega)).low (fun _ h => h) (by omega)), hl2.out.move (Agree.six _ _ _ _ _ _ _ _ _ (fun i hi => by omega)) (fun i hi _ => by omega)⟩
  · have hn : nnf x = leaf 0 := by simp [nnf, h0]
    rw [hn]
    obtain ⟨cx, hcx⟩ : ∃ cx, check x = cx := ⟨_, rfl⟩
    rw [hcx] at h0 hC ⊢
    clear hn hcx hR
    go_enter Tryd.func32, Tryd.ntmps32
    go_wp2_with (first
      | (go_at_call 22; with_reducible refine (hC.out _ T0.out.h0).mono ?_; rintro e w1 ⟨rfl, g1⟩; have T1 := Aside0.mk (T0.out.below g1); clear T0 g1; obtain ⟨r0, r1, r2, r3, r4, r5⟩ := six T1.out.b; have rf := blk_frozen T1.out.b; have ps := T1.out.s))
    refine bodyPost_ret (results_nnf rfl _ _ _ (set_six T1.out.b _ _ _ _ _ _) rfl) rfl ?_
    exact ⟨none, 0, none, 0, none, 0, rfl, T1.out.h.trans ((Agree.six _ _ _ _ _ _ _ _ (fun i => i < W.heap.size) (fun i hi => by omega)).low (fun _ h => h) (by omega)), fun w1 _ => leaf_at w1 _⟩
end Go.Proofs.YtmlcaecknocpoaaDoor.It
namespace Go.Proofs.YtmlcaecknocpoaaDoor.It
open Go Go.RowKit Go.Shelf Go.Proofs.YtmlcaecknocpoaaDoorW.PrintWords Go.Proofs.YtmlcaecknocpoaaDoorW.PrintLast Go.Proofs.YtmlcaecknocpoaaDoor.Pr Go.Proofs.YtmlcaecknocpoaaDoor.Sp
theorem results_box26 {fn : Func} {t : Tmp} (h : fn.results = #[.cell t 26]) (tmps : Array Value) (w : World) (B : Nat) {v0 v1 v2 v3 v4 v5 : Value} (hB : w.heap[B]? = some (.cells #[v0, v1, v2, v3, v4, v5] 26 (0, 0))) (ht : tmps[t]?.getD undef = .pointer (some ⟨B, 0, none⟩)) :
    (results fn tmps).run Tryd.prog w = .ok (.agg #[v0, v1, v2, v3, v4, v5]) w := by
  obtain ⟨b0, b1, b2, b3, b4, b5⟩ := six hB
  have hu26 := Tryd.underlying26
  simp [results, h, ht, loadVar, asAddr, go_sem, b0, b1, b2, b3, b4, b5]
set_option maxRecDepth 100000 in
set_option maxHeartbeats 4000000 in
theorem not_calls (x : S26) (A3 : Option Addr) (c3 : Nat) (A4 : Option Addr) (c4 : Nat) (A5 : Option Addr) (c5 : Nat) (W : World) (hat : At W x A3 c3 A4 c4 A5 c5) :
    Calls Tryd.prog 40 #[.agg #[.int .i64 x.f0, .string x.f1, .int .i64 x.f2, .slice A3 x.f3.length c3, .slice A4 x.f4.length c4, .slice A5 x.f5.length c5]] W fun e w' => ∃ ad,
      e = .returned (.agg #[.int .i64 10, .string ⟨#[]⟩, .int .i64 0, .slice none 0 0, .slice none 0 0, .slice (some ad) 1 1]) ∧ Below W.heap.size W w' ∧ At w' ⟨10, e0, 0, [], [], [x]⟩ none 0 none 0 (some ad) 1 := by
  have hu26 := Tryd.underlying26
  have H := Aside0.mk hat
  clear hat
  go_enter Tryd.func40, Tryd.ntmps40
  go_wp2_with fail
  have up : ∀ (w : World) (o : Obj), Below w.heap.size w (w.alloc o) := fun w o => (Below.refl _ _).alloc (Nat.le_refl _) o
  refine bodyPost_ret (results_box26 rfl _ _ (W.heap.size + 1) (blk_below (up _ _) (heap_new2b W _ _)) rfl) rfl ?_
  have hb : Below W.heap.size W (((W.alloc (.cells #[.int .i64 x.f0, .string x.f1, .int .i64 x.f2, .slice A3 x.f3.length c3, .slice A4 x.f4.length c4, .slice A5 x.f5.length c5] 26)).alloc (.cells #[.int .i64 10, .string ⟨#[]⟩, .int .i64 0, .slice none 0 0, .slice none 0 0, .slice (some ⟨W.heap.size + 1 + 1, 0, none⟩) 1 1] 26)).alloc (.cells #[.int .i64 x.f0, .string x.f1, .int .i64 x.f2, .slice A3 x.f3.length c3, .slice A4 x.f4.length c4, .slice A5 x.f5.length c5] 26)) :=
    (((Below.refl _ W).alloc (Nat.le_refl _) _).alloc (by simp) _).alloc (by simp; omega) _
  refine ⟨⟨W.heap.size + 1 + 1, 0, none⟩, rfl, hb, Nat.le_refl _, Kd.C_nil _ _, Nat.le_refl _, Kd.C_nil _ _, Nat.le_refl _, ?_⟩
  refine row_one ?_ (H.out.below hb)
  have h := heap_new ((W.alloc (.cells #[.int .i64 x.f0, .string x.f1, .int .i64 x.f2, .slice A3 x.f3.length c3, .slice A4 x.f4.length c4, .slice A5 x.f5.length c5] 26)).alloc (.cells #[.int .i64 10, .string ⟨#[]⟩, .int .i64 0, .slice none 0 0, .slice none 0 0, .slice (some ⟨W.heap.size + 1 + 1, 0, none⟩) 1 1] 26)) (.cells #[.int .i64 x.f0, .string x.f1, .int .i64 x.f2, .slice A3 x.f3.length c3, .slice A4 x.f4.length c4, .slice A5 x.f5.length c5] 26)
  rwa [World.size_alloc, World.size_alloc] at h
end Go.Proofs.YtmlcaecknocpoaaDoor.It
namespace Go.Proofs.YtmlcaecknocpoaaDoor.It
set_option linter.unusedVariables false
set_option linter.unusedSimpArgs false
open Go Go.RowKit Go.Shelf Go.Proofs.YtmlcaecknocpoaaDoorW.PrintWords Go.Proofs.YtmlcaecknocpoaaDoorW.PrintLast Go.Proofs.YtmlcaecknocpoaaDoor.Pr Go.Proofs.YtmlcaecknocpoaaDoor.Sp
attribute [local go_sem ↓] Go.wp_at_zero Go.wp_at_succ
theorem four_blocks (W : World) (o1 o2 o3 o4 : Obj) (W4 : World) (h : (((W.alloc o1).alloc o2).alloc o3).alloc o4 = W4) :
    W4.heap[W.heap.size]? = some o1 ∧ W4.heap[W.heap.size + 1]? = some o2 ∧ W4.heap[W.heap.size + 1 + 1]? = some o3 ∧ W4.heap[W.heap.size + 1 + 1 + 1]? = some o4 ∧ Below W.heap.size W W4 ∧ W4.heap.size = W.heap.size + 4 := by
  subst h
  have up : ∀ (w : World) (o : Obj), Below w.heap.size w (w.alloc o) := fun w o => (Below.refl _ _).alloc (Nat.le_refl _) o
  have nw : ∀ (w : World) (o : Obj) (n : Nat), w.heap.size = n → (w.alloc o).heap[n]? = some o := fun w o n e => e ▸ heap_new w o
  refine ⟨?_, ?_, ?_, ?_, ?_, ?_⟩
  · exact blk_below (up _ _) (blk_below (up _ _) (blk_below (up _ _) (heap_new _ _)))
  · exact blk_below (up _ _) (blk_below (up _ _) (nw _ _ _ (by simp)))
  · exact blk_below (up _ _) (nw _ _ _ (by simp))
  · exact nw _ _ _ (by simp)
  · exact (((up _ _).alloc (by simp) _).alloc (by simp; omega) _).alloc (by simp; omega) _
  · simp
def Ans (w0 W : World) (R : S26) (e : Ending) (w' : World) : Prop := ∃ B3 d3 B4 d4 B5 d5,
    e = .returned (.agg #[.int .i64 R.f0, .string R.f1, .int .i64 R.f2, .slice B3 R.f3.length d3, .slice B4 R.f4.length d4, .slice B5 R.f5.length d5]) ∧ Below W.heap.size W w' ∧ Lies (fun k => k < w0.heap.size ∨ W.heap.size ≤ k) w' R B3 d3 B4 d4 B5 d5
theorem Ans.leaf {w0 W w : World} {B : Nat} {k1 : Int} (h : Below W.heap.size W w) (hB : W.heap.size ≤ B) (hsz : B < w.heap.size) : Ans w0 W (leaf k1) (.returned (.agg #[.int .i64 k1, .string ⟨#[]⟩, .int .i64 0, .slice none 0 0, .slice none 0 0, .slice none 0 0])) ((((((w.setCell ⟨B, 0, none⟩ (.int .i64 k1)).setCell ⟨B, 1, none⟩ (.string ⟨#[]⟩)).setCell ⟨B, 2, none⟩ (.int .i64 0)).setCell ⟨B, 3, none⟩ (.slice none 0 0)).setCell ⟨B, 4, none⟩ (.slice none 0 0)).setCell ⟨B, 5, none⟩ (.slice none 0 0)) :=
  ⟨none, 0, none, 0, none, 0, rfl, h.trans ((Agree.six _ _ _ _ _ _ _ _ (fun i => i < W.heap.size) (fun i hi => by omega)).low (fun _ h => h) (by have := h.size; omega)), fun w1 _ => leaf_at w1 _⟩
theorem Ans.laid {w0 W w : World} {B : Nat} {R : S26} (B3 : Option Addr) (d3 : Nat) (B4 : Option Addr) (d4 : Nat) (B5 : Option Addr) (d5 : Nat) (hw : w0.heap.size ≤ W.heap.size) (h : Below W.heap.size W w) (hB : W.heap.size ≤ B) (m : Nat) (hm : W.heap.size ≤ m) (hBm : B < m) (hl : Lies (fun i => i < w0.heap.size ∨ m ≤ i) w R B3 d3 B4 d4 B5 d5) :
    Ans w0 W R (.returned (.agg #[.int .i64 R.f0, .string R.f1, .int .i64 R.f2, .slice B3 R.f3.length d3, .slice B4 R.f4.length d4, .slice B5 R.f5.length d5])) ((((((w.setCell ⟨B, 0, none⟩ (.int .i64 R.f0)).setCell ⟨B, 1, none⟩ (.string R.f1)).setCell ⟨B, 2, none⟩ (.int .i64 R.f2)).setCell ⟨B, 3, none⟩ (.slice B3 R.f3.length d3)).setCell ⟨B, 4, none⟩ (.slice B4 R.f4.length d4)).setCell ⟨B, 5, none⟩ (.slice B5 R.f5.length d5)) :=
  ⟨B3, d3, B4, d4, B5, d5, rfl, h.trans ((Agree.six _ _ _ _ _ _ _ _ (fun i => i < W.heap.size) (fun i hi => by omega)).low (fun _ h => h) (by have := h.size; omega)), hl.move (Agree.six _ _ _ _ _ _ _ _ _ (fun i hi => by omega)) (fun i hi _ => by omega)⟩
end Go.Proofs.YtmlcaecknocpoaaDoor.It
namespace Go.Proofs.YtmlcaecknocpoaaDoor.It
set_option linter.unusedVariables false
set_option linter.unusedSimpArgs false
open Go Go.RowKit Go.Shelf Go.Proofs.YtmlcaecknocpoaaDoorW.PrintWords Go.Proofs.YtmlcaecknocpoaaDoorW.PrintLast Go.Proofs.YtmlcaecknocpoaaDoor.Pr Go.Proofs.YtmlcaecknocpoaaDoor.Sp
attribute [local go_sem ↓] Go.wp_at_zero Go.wp_at_succ
end Go.Proofs.YtmlcaecknocpoaaDoor.It
namespace Go.Proofs.YtmlcaecknocpoaaDoor.It
set_option linter.unusedVariables false
set_option linter.unusedSimpArgs false
open Go Go.RowKit Go.Shelf Go.Proofs.YtmlcaecknocpoaaDoorW.PrintWords Go.Proofs.YtmlcaecknocpoaaDoorW.PrintLast Go.Proofs.YtmlcaecknocpoaaDoor.Pr Go.Proofs.YtmlcaecknocpoaaDoor.Sp
attribute [local go_sem ↓] Go.wp_at_zero Go.wp_at_succ
theorem Lies.step {w0 w3 w4 : World} {y : S26} {B3 : Option Addr} {d3 : Nat} {B4 : Option Addr} {d4 : Nat} {B5 : Option Addr} {d5 : Nat} {m n : Nat} (l : Lies (fun i => i < w0.heap.size ∨ m ≤ i) w3 y B3 d3 B4 d4 B5 d5) (g : Below w3.heap.size w3 w4) (hm : n ≤ m) :
    Lies (fun i => i < w0.heap.size ∨ n ≤ i) w4 y B3 d3 B4 d4 B5 d5 := l.move (Agree.of_below g (fun _ _ h => h)) (fun i hi _ => by omega)
end Go.Proofs.YtmlcaecknocpoaaDoor.It
namespace Go.Proofs.YtmlcaecknocpoaaDoor.It
set_option linter.unusedVariables false
set_option linter.unusedSimpArgs false
open Go Go.RowKit Go.Shelf Go.Proofs.YtmlcaecknocpoaaDoorW.PrintWords Go.Proofs.YtmlcaecknocpoaaDoorW.PrintLast Go.Proofs.YtmlcaecknocpoaaDoor.Pr Go.Proofs.YtmlcaecknocpoaaDoor.Sp
attribute [local go_sem ↓] Go.wp_at_zero Go.wp_at_succ
end Go.Proofs.YtmlcaecknocpoaaDoor.It
namespace Go.Proofs.YtmlcaecknocpoaaDoor.Pr
open Go.RowKit Go.Proofs.YtmlcaecknocpoaaDoorW.PrintWords Go.Proofs.YtmlcaecknocpoaaDoorW.PrintLast Go.Proofs.YtmlcaecknocpoaaDoorW.PrintMore
attribute [local go_sem] max2_int min2_int max_two min_two max_three min_three max_four min_four   
set_option linter.unusedVariables false
set_option linter.unusedSimpArgs false
def chalklinelaw06_v.f (a0 : ByteArray) : Option (Int × ByteArray × Int) := some (2, a0, 0)
set_option maxHeartbeats 8000000 in
set_option maxRecDepth 100000 in
theorem chalklinelaw06_v.calls (a0 : ByteArray) (r1 : Int) (r2 : ByteArray) (r3 : Int) (w : World) (h : chalklinelaw06_v.f a0 = some (r1, r2, r3)) :
    Calls Tryd.prog 50 #[.string a0] w fun e w' => e = .returned (.agg #[.int .i64 r1, .string r2, .int .i64 r3]) ∧ Below w.heap.size w w' := by
  have hu47 := Tryd.underlying47
  have HB := Aside0.mk (Below.refl w.heap.size w)
  have H : (some (2, a0, 0)) = some (r1, r2, r3) := h
  clear h
  simp only [Option.some.injEq, Prod.mk.injEq] at H
  obtain ⟨rfl, rfl, rfl⟩ := H
  go_enter Tryd.func50, Tryd.ntmps50
  go_wp2_with (first | ((with_reducible refine gate_dst (N := 2) rfl ?_); refine box_event ?hg (N := 2) ?hd (cs := #[.int .i64 0, .string (⟨#[]⟩ : ByteArray), .int .i64 0]) (t := 47) ?hr ?_; (case hd => rfl); (case hg => rfl); (case hr => first | (go_simp; done) | (go_simp; rfl)); intro gb184 hg w2 hbox hb; have n0_ := Aside0.mk (below_step (by repeat (first | (with_reducible first | exact HB.out | apply below_alloc | apply pw_below_drewN | apply below_drew1) | exact HB.out)) hb); have n1_ := Aside0.mk (hbox); have n2_ := Aside0.mk ((by rw [hg]; exact (below_size (by repeat (first | (with_reducible first | exact HB.out | apply below_alloc | apply pw_below_drewN | apply below_drew1) | exact HB.out))) : w.heap.size ≤ gb184)); have n3_ := Aside0.mk ((by rw [hg]; exact (below_size (by repeat (first | (with_reducible first | exact HB.out | apply below_alloc | apply pw_below_drewN | apply below_drew1) | exact HB.out))) : w.heap.size ≤ gb184)); clear HB; have HB := n0_; have BK184 := n1_; have GW184 := n2_; have GE184 := n3_; clear n0_ n1_ n2_ n3_; clear hb hbox hg; have hcz3_0 : w2.cell? ⟨gb184, 0, none⟩ = some (.int .i64 0) := (blk_cell BK184.out 0).trans rfl; have hcz3_1 : w2.cell? ⟨gb184, 1, none⟩ = some (.string (⟨#[]⟩ : ByteArray)) := (blk_cell BK184.out 1).trans rfl; have hcz3_2 : w2.cell? ⟨gb184, 2, none⟩ = some (.int .i64 0) := (blk_cell BK184.out 2).trans rfl; have hfz3_0 := blk_frozen BK184.out 0; have hfz3_1 := blk_frozen BK184.out 1; have hfz3_2 := blk_frozen BK184.out 2))
  refine bodyPost_ret (results_cell_row rfl _ _ gb184 47 #[.int .i64 2, .string a0, .int .i64 0] (0, 0) _ rfl (by (with_reducible repeat (first | refine blk_drewN ?_ _ | refine blk_drew ?_ | refine blk_alloc ?_ _)); refine blk_put (cs := #[.int .i64 2, .string a0, .int .i64 0]) ?_ 2 _ rfl; (with_reducible repeat (first | refine blk_drewN ?_ _ | refine blk_drew ?_ | refine blk_alloc ?_ _)); refine blk_put (cs := #[.int .i64 2, .string (⟨#[]⟩ : ByteArray), .int .i64 0]) ?_ 1 _ rfl; (with_reducible repeat (first | refine blk_drewN ?_ _ | refine blk_drew ?_ | refine blk_alloc ?_ _)); refine blk_put (cs := #[.int .i64 0, .string (⟨#[]⟩ : ByteArray), .int .i64 0]) ?_ 0 _ rfl; (with_reducible repeat (first | refine blk_drewN ?_ _ | refine blk_drew ?_ | refine blk_alloc ?_ _)); exact BK184.out) Tryd.underlying47 rfl (by kernel_rfl)) rfl ?_
  exact ⟨by first | rfl | (simp [errW_none, errW_some] <;> rfl) | (simp [*, errW_none, errW_some] <;> rfl), by repeat (first | (with_reducible first | exact HB.out | apply below_alloc | apply pw_below_drewN | apply below_drew1 | refine below_set ?_ GE184.out) | exact HB.out)⟩
end Go.Proofs.YtmlcaecknocpoaaDoor.Pr
namespace Go.Proofs.YtmlcaecknocpoaaDoor.It
set_option linter.unusedVariables false
set_option linter.unusedSimpArgs false
open Go Go.RowKit Go.Shelf Go.Proofs.YtmlcaecknocpoaaDoorW.PrintWords Go.Proofs.YtmlcaecknocpoaaDoorW.PrintLast Go.Proofs.YtmlcaecknocpoaaDoor.Pr Go.Proofs.YtmlcaecknocpoaaDoor.Sp
attribute [local go_sem ↓] Go.wp_at_zero Go.wp_at_succ
structure BoxF (w : World) (B : Nat) (x : S26) (A3 : Option Addr) (c3 : Nat) (A4 : Option Addr) (c4 : Nat) (A5 : Option Addr) (c5 : Nat) : Prop where
  blk : w.heap[B]? = some (.cells #[.int .i64 x.f0, .string x.f1, .int .i64 x.f2, .slice A3 x.f3.length c3, .slice A4 x.f4.length c4, .slice A5 x.f5.length c5] 26 (0, 0))
  at_ : At w x A3 c3 A4 c4 A5 c5
theorem BoxF.below {w w1 : World} {B : Nat} {x : S26} {A3 : Option Addr} {c3 : Nat} {A4 : Option Addr} {c4 : Nat} {A5 : Option Addr} {c5 : Nat} (h : BoxF w B x A3 c3 A4 c4 A5 c5) (hb : Below w.heap.size w w1) : BoxF w1 B x A3 c3 A4 c4 A5 c5 := ⟨blk_below hb h.blk, h.at_.below hb⟩
theorem row_terms2 {w : World} {B : Nat} {t u : S47} (hB : w.heap[B]? = some (.cells #[.int .i64 t.f0, .string t.f1, .int .i64 t.f2, .int .i64 u.f0, .string u.f1, .int .i64 u.f2] 47 (0, 0))) : Kd.C k47 w (some ⟨B, 0, none⟩) 2 [t, u] := by
  refine ⟨rfl, by omega, fun _ => ⟨⟨B, 0, none⟩, rfl, fun j p hj => ?_⟩⟩
  have hn := World.news_of_block hB
  cases j with
  | zero =>
    obtain rfl : t = p := by simpa using hj
    refine ⟨_, rfl, k47_mk w t, fun i v hv => ?_⟩
    rw [Nat.zero_mul, Nat.zero_add]
    refine hn i v ?_
    match i, hv with
    | 0, hv => exact hv
    | 1, hv => exact hv
    | 2, hv => exact hv
    | i + 3, hv => simp at hv
  | succ j =>
    cases j with
    | zero =>
      obtain rfl : u = p := by simpa using hj
      refine ⟨_, rfl, k47_mk w u, fun i v hv => ?_⟩
      refine hn (1 * 3 + i) v ?_
      match i, hv with
      | 0, hv => exact hv
      | 1, hv => exact hv
      | 2, hv => exact hv
      | i + 3, hv => simp at hv
    | succ j => simp at hj
theorem row_bind1 {w : World} {B : Nat} {t : S42} (hB : w.heap[B]? = some (.cells #[.string t.f0, .int .i64 t.f1] 42 (0, 0))) : Kd.C k42 w (some ⟨B, 0, none⟩) 1 [t] := by
  refine ⟨rfl, by omega, fun _ => ⟨⟨B, 0, none⟩, rfl, fun j p hj => ?_⟩⟩
  have hn := World.news_of_block hB
  cases j with
  | zero =>
    obtain rfl : t = p := by simpa using hj
    refine ⟨_, rfl, k42_mk w t, fun i v hv => ?_⟩
    rw [Nat.zero_mul, Nat.zero_add]
    refine hn i v ?_
    match i, hv with
    | 0, hv => exact hv
    | 1, hv => exact hv
    | i + 2, hv => simp at hv
  | succ j => simp at hj
def sL : ByteArray := ⟨#[108]⟩
def sR : ByteArray := ⟨#[114]⟩
def sS : ByteArray := ⟨#[115]⟩
def fIn : S26 := ⟨4, e0, 0, [⟨2, sL, 0⟩, ⟨2, sR, 0⟩], [], []⟩
def fAt : S26 := ⟨3, e0, 0, [⟨2, sL, 0⟩, ⟨2, sS, 0⟩], [], []⟩
def fLeast : S26 := ⟨16, e0, 2, [], [⟨sS, 2⟩], [fAt]⟩
def fImp : S26 := ⟨13, e0, 0, [], [], [fIn, fLeast]⟩
def fF : S26 := ⟨10, e0, 0, [], [], [fImp]⟩
def fMost : S26 := ⟨17, e0, 1, [], [⟨sS, 2⟩], [fAt]⟩
def fWant : S26 := ⟨11, e0, 0, [], [], [fIn, fMost]⟩
theorem fF_check : check fF = 0 := by decide +kernel
theorem fF_right : nnf fF = fWant := by
  rw [nnf_zero fF_check]
  rfl
theorem fF_same : same fF fWant = false := by decide +kernel
theorem fF_free : free fF = [sL, sR] := by decide +kernel
theorem fF_size : size fF = 5 := by decide +kernel
theorem fF_depth : depth fF = 4 := by decide +kernel
theorem fBad_check : check ⟨4, e0, 0, [], [], []⟩ = 1 := by decide +kernel
theorem fNil_check : check ⟨0, e0, 0, [], [], []⟩ = 1 := by decide +kernel
theorem v_calls (s : ByteArray) (w : World) : Calls Tryd.prog 50 #[.string s] w fun e w' => e = .returned (.agg #[.int .i64 2, .string s, .int .i64 0]) ∧ Below w.heap.size w w' :=
  chalklinelaw06_v.calls s 2 s 0 w rfl
theorem nnf_at (x : S26) (A3 : Option Addr) (c3 : Nat) (A4 : Option Addr) (c4 : Nat) (A5 : Option Addr) (c5 : Nat) (W : World) (hat : At W x A3 c3 A4 c4 A5 c5) (hs : size x ≤ 4611686018427387904) (hdp : Deep x) (ht : Tabs W) (hd : Duals W) :
    Calls Tryd.prog 32 #[.agg #[.int .i64 x.f0, .string x.f1, .int .i64 x.f2, .slice A3 x.f3.length c3, .slice A4 x.f4.length c4, .slice A5 x.f5.length c5]] W fun e w' => ∃ B3 d3 B4 d4 B5 d5,
      e = .returned (.tuple #[.agg #[.int .i64 (nnf x).f0, .string (nnf x).f1, .int .i64 (nnf x).f2, .slice B3 (nnf x).f3.length d3, .slice B4 (nnf x).f4.length d4, .slice B5 (nnf x).f5.length d5], .int .i64 (check x)]) ∧
      Below W.heap.size W w' ∧ At w' (nnf x) B3 d3 B4 d4 B5 d5 :=
  (nnf_calls x A3 c3 A4 c4 A5 c5 W W hat hs hdp ht hd (Below.refl _ _)).mono fun e w' ⟨B3, d3, B4, d4, B5, d5, he, hb, hl⟩ => ⟨B3, d3, B4, d4, B5, d5, he, hb, hl.at_⟩
theorem strAt {w : World} {A : Option Addr} {l : List ByteArray} (h : Kd.C Kd.string w A l.length l) (j : Nat) (hj : j < l.length) : ∃ ad, A = some ad ∧ w.cell? (ad.add j) = some (.string (l.getD j ByteArray.empty)) := by
  obtain ⟨ad, c, e, hc, hK, hcell⟩ := Kd.C_get h ByteArray.empty (j : Int) (by omega) (by omega)
  refine ⟨ad, e, ?_⟩
  have h0 : c = [.string (l.getD (j : Int).toNat ByteArray.empty)] := hK
  have h1 := hcell 0 (.string (l.getD (j : Int).toNat ByteArray.empty)) (by rw [h0]; rfl)
  rw [show Kd.string.sz = 1 from rfl] at h1
  simpa using h1
theorem BoxF.six {w : World} {B : Nat} {x : S26} {A3 : Option Addr} {c3 : Nat} {A4 : Option Addr} {c4 : Nat} {A5 : Option Addr} {c5 : Nat} (h : BoxF w B x A3 c3 A4 c4 A5 c5) :
    w.cell? ⟨B, 0, none⟩ = some (.int .i64 x.f0) ∧ w.cell? ⟨B, 1, none⟩ = some (.string x.f1) ∧ w.cell? ⟨B, 2, none⟩ = some (.int .i64 x.f2) ∧ w.cell? ⟨B, 3, none⟩ = some (.slice A3 x.f3.length c3) ∧ w.cell? ⟨B, 4, none⟩ = some (.slice A4 x.f4.length c4) ∧ w.cell? ⟨B, 5, none⟩ = some (.slice A5 x.f5.length c5) := It.six h.blk
theorem up1 (w : World) (o : Obj) : Below w.heap.size w (w.alloc o) := (Below.refl _ _).alloc (Nat.le_refl _) o
theorem up2 (w : World) (o o' : Obj) : Below w.heap.size w ((w.alloc o).alloc o') := (up1 w o).alloc (by simp) o'
theorem three_blocks (W : World) (o1 o2 o3 : Obj) (W3 : World) (h : ((W.alloc o1).alloc o2).alloc o3 = W3) :
    W3.heap[W.heap.size]? = some o1 ∧ W3.heap[W.heap.size + 1]? = some o2 ∧ W3.heap[W.heap.size + 1 + 1]? = some o3 ∧ Below W.heap.size W W3 := by
  subst h
  have nw : ∀ (w : World) (o : Obj) (n : Nat), w.heap.size = n → (w.alloc o).heap[n]? = some o := fun w o n e => e ▸ heap_new w o
  refine ⟨?_, ?_, ?_, ?_⟩
  · exact blk_below (up1 _ _) (blk_below (up1 _ _) (heap_new _ _))
  · exact blk_below (up1 _ _) (nw _ _ _ (by simp))
  · exact nw _ _ _ (by simp)
  · exact (up2 _ _ _).alloc (by simp; omega) _
theorem fF_deep : Deep fF := by
  have e : nodes fF = [fF, fImp, fIn, fLeast, fAt] := rfl
  intro y hy
  rw [e] at hy
  simp only [List.mem_cons, List.not_mem_nil, or_false] at hy
  rcases hy with rfl | rfl | rfl | rfl | rfl
  · exact ⟨rfl, by decide, by simp [fF], by simp [fF], rfl, by simp [fF], by simp [fF]⟩
  · exact ⟨rfl, by decide, by simp [fImp], by simp [fImp], rfl, by simp [fImp], by simp [fImp]⟩
  · exact ⟨rfl, by decide, by simp [fIn]; decide, by simp [fIn], rfl, by simp [fIn]; exact ⟨rfl, rfl⟩, by simp [fIn]⟩
  · exact ⟨rfl, by decide, by simp [fLeast], by simp [fLeast]; decide, rfl, by simp [fLeast], by simp [fLeast]; exact rfl⟩
  · exact ⟨rfl, by decide, by simp [fAt]; decide, by simp [fAt], rfl, by simp [fAt]; exact ⟨rfl, rfl⟩, by simp [fAt]⟩
def fBad : S26 := ⟨4, e0, 0, [], [], []⟩
def fNil : S26 := ⟨0, e0, 0, [], [], []⟩
theorem bare_deep {k : Int} (h : I64 k) : Deep ⟨k, e0, 0, [], [], []⟩ := by
  intro y hy
  simp only [nodes, nodesL, List.mem_cons, List.not_mem_nil, or_false] at hy
  subst hy
  exact ⟨h, (by decide : e0.size ≤ 9223372036854775807), by simp, by simp, rfl, by simp, by simp⟩
theorem bare_at (w : World) (k : Int) : At w ⟨k, e0, 0, [], [], []⟩ none 0 none 0 none 0 := ⟨Nat.le_refl _, Kd.C_nil _ _, Nat.le_refl _, Kd.C_nil _ _, Nat.le_refl _, Kd.C_nil _ _⟩
theorem bad_calls (W : World) (ht : Tabs W) (hd : Duals W) : Calls Tryd.prog 32 #[.agg #[.int .i64 4, .string ⟨#[]⟩, .int .i64 0, .slice none 0 0, .slice none 0 0, .slice none 0 0]] W fun e w' => ∃ Y3 i3 Y4 i4 Y5 i5,
    e = .returned (.tuple #[.agg #[.int .i64 0, .string ⟨#[]⟩, .int .i64 0, .slice Y3 0 i3, .slice Y4 0 i4, .slice Y5 0 i5], .int .i64 1]) ∧ Below W.heap.size W w' := by
  have h := nnf_at fBad none 0 none 0 none 0 W (bare_at W 4) (by decide +kernel) (bare_deep rfl) ht hd
  have eG : nnf fBad = leaf 0 := nnf_other (by rw [show check fBad = 1 from fBad_check]; decide)
  simp only [eG, show check fBad = 1 from fBad_check] at h
  exact h.mono fun e w' ⟨B3, d3, B4, d4, B5, d5, he, hb, _⟩ => ⟨B3, d3, B4, d4, B5, d5, he, hb⟩
theorem nil_calls (W : World) (ht : Tabs W) : Calls Tryd.prog 22 #[.agg #[.int .i64 0, .string ⟨#[]⟩, .int .i64 0, .slice none 0 0, .slice none 0 0, .slice none 0 0]] W fun e w' => e = .returned (.int .i64 1) ∧ Below W.heap.size W w' := by
  have h := check_calls fNil none 0 none 0 none 0 W (bare_at W 0) (by decide +kernel) (bare_deep rfl) ht
  rw [show check fNil = 1 from fNil_check] at h
  exact h
structure LS (w wx : World) (B6 : Nat) (a6 : Addr) (B7 : Nat) (a7 : Addr) (B8 : Nat) (X3 : Option Addr) (e3 : Nat) (X4 : Option Addr) (e4 : Nat) (X5 : Option Addr) (e5 : Nat) (A : Option Addr) : Prop where
  f : BoxF wx B6 fF none 0 none 0 (some a6) 1
  want : BoxF wx B7 fWant none 0 none 0 (some a7) 2
  x : BoxF wx B8 fWant X3 e3 X4 e4 X5 e5
  row : Kd.C Kd.string wx A 2 [sL, sR]
  b : Below w.heap.size w wx
theorem LS.below {w wx w1 : World} {B6 : Nat} {a6 : Addr} {B7 : Nat} {a7 : Addr} {B8 : Nat} {X3 : Option Addr} {e3 : Nat} {X4 : Option Addr} {e4 : Nat} {X5 : Option Addr} {e5 : Nat} {A : Option Addr} (h : LS w wx B6 a6 B7 a7 B8 X3 e3 X4 e4 X5 e5 A) (g : Below wx.heap.size wx w1) : LS w w1 B6 a6 B7 a7 B8 X3 e3 X4 e4 X5 e5 A :=
  ⟨h.f.below g, h.want.below g, h.x.below g, Kd.C_below h.row g, h.b.trans (g.mono h.b.size)⟩
theorem strs2 {w : World} {ad : Addr} {s0 s1 : ByteArray} (h : Kd.C Kd.string w (some ad) 2 [s0, s1]) : w.cell? ad = some (.string s0) ∧ w.cell? ⟨ad.block, ad.off + 1, none⟩ = some (.string s1) := by
  obtain ⟨ad0, e0, h0⟩ := strAt (l := [s0, s1]) h 0 (by simp)
  obtain ⟨ad1, e1, h1⟩ := strAt (l := [s0, s1]) h 1 (by simp)
  injection e0 with e0
  injection e1 with e1
  subst e0
  subst e1
  refine ⟨by simpa [Addr.add_zero'] using h0, ?_⟩
  have e : ad.add 1 = ⟨ad.block, ad.off + 1, none⟩ := rfl
  rw [e] at h1
  simpa using h1
set_option maxRecDepth 100000 in
set_option maxHeartbeats 8000000 in
theorem live_calls (w : World) (ht : Tabs w) (hd : Duals w) : Calls Tryd.prog 20 #[] w fun e w' => e = .returned (.bool true) ∧ Below w.heap.size w w' := by
  have hu26 := Tryd.underlying26
  have hu42 := Tryd.underlying42
  have hu47 := Tryd.underlying47
  have HT := Aside0.mk (And.intro ht hd)
  clear ht hd
  go_enter Tryd.func20, Tryd.ntmps20
  go_upto_region 1 with fail
  go_cut [1] (fun s1 wx => ∃ B a, s1 = .pointer (some ⟨B, 0, none⟩) ∧ Aside0 (BoxF wx B fIn (some a) 2 none 0 none 0 ∧ Below w.heap.size w wx))
  case first =>
    go_wp2_with (first
      | (go_at_call 50; (with_reducible refine (v_calls _ w).mono ?_); rintro e w1 ⟨rfl, g1⟩)
      | (go_at_call 50; (with_reducible refine (v_calls _ w1).mono ?_); rintro e w2 ⟨rfl, g2⟩))
    go_meet
    have hb := g1.trans (g2.mono g1.size)
    have hb2 : Below w.heap.size w _ := hb.trans ((up2 w2 (.cells #[.int .i64 2, .string ⟨#[108]⟩, .int .i64 0, .int .i64 2, .string ⟨#[114]⟩, .int .i64 0] 47) (.cells #[.int .i64 4, .string ⟨#[]⟩, .int .i64 0, .slice (some ⟨w2.heap.size, 0, none⟩) 2 2, .slice none 0 0, .slice none 0 0] 26)).mono hb.size)
    exact ⟨w2.heap.size + 1, ⟨w2.heap.size, 0, none⟩, rfl, ⟨⟨heap_new2b w2 _ _, ⟨Nat.le_refl _, row_terms2 (t := ⟨2, sL, 0⟩) (u := ⟨2, sR, 0⟩) (heap_new2a w2 _ _), Nat.le_refl _, Kd.C_nil _ _, Nat.le_refl _, Kd.C_nil _ _⟩⟩, hb2⟩⟩
  case rest =>
    obtain ⟨B1, a1, rfl, h1⟩ := hcut
    go_upto_region 2 with fail
    go_cut [2] (fun s2 wx => ∃ B a, s2 = .pointer (some ⟨B, 0, none⟩) ∧ Aside0 (BoxF wx B1 fIn (some a1) 2 none 0 none 0 ∧ BoxF wx B fAt (some a) 2 none 0 none 0 ∧ Below w.heap.size w wx))
    case first =>
      go_wp2_with (first
        | (go_at_call 50; (with_reducible refine (v_calls _ wc).mono ?_); rintro e w1 ⟨rfl, g1⟩)
        | (go_at_call 50; (with_reducible refine (v_calls _ w1).mono ?_); rintro e w2 ⟨rfl, g2⟩))
      go_meet
      have hb := g1.trans (g2.mono g1.size)
      have hu := hb.trans ((up2 w2 (.cells #[.int .i64 2, .string ⟨#[108]⟩, .int .i64 0, .int .i64 2, .string ⟨#[115]⟩, .int .i64 0] 47) (.cells #[.int .i64 3, .string ⟨#[]⟩, .int .i64 0, .slice (some ⟨w2.heap.size, 0, none⟩) 2 2, .slice none 0 0, .slice none 0 0] 26)).mono hb.size)
      exact ⟨w2.heap.size + 1, ⟨w2.heap.size, 0, none⟩, rfl, ⟨h1.out.1.below hu, ⟨heap_new2b w2 _ _, ⟨Nat.le_refl _, row_terms2 (t := ⟨2, sL, 0⟩) (u := ⟨2, sS, 0⟩) (heap_new2a w2 _ _), Nat.le_refl _, Kd.C_nil _ _, Nat.le_refl _, Kd.C_nil _ _⟩⟩, h1.out.2.trans (hu.mono h1.out.2.size)⟩⟩
    case rest =>
      obtain ⟨B2, a2, rfl, h2⟩ := hcut
      clear h1
      go_upto_region 3 with fail
      go_cut [3] (fun s3 wx => ∃ a, s3 = .slice (some a) 1 1 ∧ Aside0 (BoxF wx B1 fIn (some a1) 2 none 0 none 0 ∧ BoxF wx B2 fAt (some a2) 2 none 0 none 0 ∧ Kd.C k42 wx (some a) 1 [⟨sS, 2⟩] ∧ Below w.heap.size w wx))
      case first =>
        go_wp2_with fail
        go_meet
        have hu := up1 wc (.cells #[.string ⟨#[115]⟩, .int .i64 2] 42)
        exact ⟨⟨wc.heap.size, 0, none⟩, rfl, ⟨h2.out.1.below hu, h2.out.2.1.below hu, row_bind1 (t := ⟨sS, 2⟩) (heap_new wc _), h2.out.2.2.trans (hu.mono h2.out.2.2.size)⟩⟩
      case rest =>
        obtain ⟨a3, rfl, h3⟩ := hcut
        clear h2
        obtain ⟨q0, q1, q2, q3, q4, q5⟩ := h3.out.2.1.six
        go_upto_region 4 with fail
        go_cut [4] (fun s4 wx => ∃ B a, s4 = .pointer (some ⟨B, 0, none⟩) ∧ Aside0 (BoxF wx B1 fIn (some a1) 2 none 0 none 0 ∧ BoxF wx B2 fAt (some a2) 2 none 0 none 0 ∧ Kd.C k42 wx (some a3) 1 [⟨sS, 2⟩] ∧ BoxF wx B fLeast none 0 (some a3) 1 (some a) 1 ∧ Below w.heap.size w wx))
        case first =>
          go_wp2_with fail
          go_meet
          have hu := up2 wc (.cells #[.int .i64 fAt.f0, .string fAt.f1, .int .i64 fAt.f2, .slice (some a2) fAt.f3.length 2, .slice none fAt.f4.length 0, .slice none fAt.f5.length 0] 26) (.cells #[.int .i64 16, .string ⟨#[]⟩, .int .i64 2, .slice none 0 0, .slice (some a3) 1 1, .slice (some ⟨wc.heap.size, 0, none⟩) 1 1] 26)
          have hat := h3.out.2.1.below hu
          exact ⟨wc.heap.size + 1, ⟨wc.heap.size, 0, none⟩, rfl, ⟨h3.out.1.below hu, hat, Kd.C_below h3.out.2.2.1 hu, ⟨heap_new2b wc _ _, ⟨Nat.le_refl _, Kd.C_nil _ _, Nat.le_refl _, Kd.C_below h3.out.2.2.1 hu, Nat.le_refl _, row_one (heap_new2a wc _ _) hat.at_⟩⟩, h3.out.2.2.2.trans (hu.mono h3.out.2.2.2.size)⟩⟩
        case rest =>
          obtain ⟨B4, a4, rfl, h4⟩ := hcut
          clear h3 q0 q1 q2 q3 q4 q5
          obtain ⟨q0, q1, q2, q3, q4, q5⟩ := h4.out.1.six
          obtain ⟨s0, s1, s2, s3, s4, s5⟩ := h4.out.2.2.2.1.six
          go_upto_region 5 with fail
          go_cut [5] (fun s5 wx => ∃ B a, s5 = .pointer (some ⟨B, 0, none⟩) ∧ Aside0 (BoxF wx B1 fIn (some a1) 2 none 0 none 0 ∧ BoxF wx B2 fAt (some a2) 2 none 0 none 0 ∧ Kd.C k42 wx (some a3) 1 [⟨sS, 2⟩] ∧ BoxF wx B fImp none 0 none 0 (some a) 2 ∧ Below w.heap.size w wx))
          case first =>
            go_wp2_with fail
            go_meet
            have hu := up2 wc (.cells #[.int .i64 fIn.f0, .string fIn.f1, .int .i64 fIn.f2, .slice (some a1) fIn.f3.length 2, .slice none fIn.f4.length 0, .slice none fIn.f5.length 0, .int .i64 fLeast.f0, .string fLeast.f1, .int .i64 fLeast.f2, .slice none fLeast.f3.length 0, .slice (some a3) fLeast.f4.length 1, .slice (some a4) fLeast.f5.length 1] 26) (.cells #[.int .i64 13, .string ⟨#[]⟩, .int .i64 0, .slice none 0 0, .slice none 0 0, .slice (some ⟨wc.heap.size, 0, none⟩) 2 2] 26)
            exact ⟨wc.heap.size + 1, ⟨wc.heap.size, 0, none⟩, rfl, ⟨h4.out.1.below hu, h4.out.2.1.below hu, Kd.C_below h4.out.2.2.1 hu, ⟨heap_new2b wc _ _, ⟨Nat.le_refl _, Kd.C_nil _ _, Nat.le_refl _, Kd.C_nil _ _, Nat.le_refl _, row_two (heap_new2a wc _ _) (h4.out.1.below hu).at_ (h4.out.2.2.2.1.below hu).at_⟩⟩, h4.out.2.2.2.2.trans (hu.mono h4.out.2.2.2.2.size)⟩⟩
          case rest =>
            obtain ⟨B5, a5, rfl, h5⟩ := hcut
            clear h4 q0 q1 q2 q3 q4 q5 s0 s1 s2 s3 s4 s5
            obtain ⟨q0, q1, q2, q3, q4, q5⟩ := h5.out.2.2.2.1.six
            go_upto_region 6 with fail
            go_cut [6] (fun s6 wx => ∃ B a, s6 = .pointer (some ⟨B, 0, none⟩) ∧ Aside0 (BoxF wx B1 fIn (some a1) 2 none 0 none 0 ∧ BoxF wx B2 fAt (some a2) 2 none 0 none 0 ∧ Kd.C k42 wx (some a3) 1 [⟨sS, 2⟩] ∧ BoxF wx B fF none 0 none 0 (some a) 1 ∧ Below w.heap.size w wx))
            case first =>
              go_wp2_with fail
              go_meet
              have hu := up2 wc (.cells #[.int .i64 fImp.f0, .string fImp.f1, .int .i64 fImp.f2, .slice none fImp.f3.length 0, .slice none fImp.f4.length 0, .slice (some a5) fImp.f5.length 2] 26) (.cells #[.int .i64 10, .string ⟨#[]⟩, .int .i64 0, .slice none 0 0, .slice none 0 0, .slice (some ⟨wc.heap.size, 0, none⟩) 1 1] 26)
              exact ⟨wc.heap.size + 1, ⟨wc.heap.size, 0, none⟩, rfl, ⟨h5.out.1.below hu, h5.out.2.1.below hu, Kd.C_below h5.out.2.2.1 hu, ⟨heap_new2b wc _ _, ⟨Nat.le_refl _, Kd.C_nil _ _, Nat.le_refl _, Kd.C_nil _ _, Nat.le_refl _, row_one (heap_new2a wc _ _) (h5.out.2.2.2.1.below hu).at_⟩⟩, h5.out.2.2.2.2.trans (hu.mono h5.out.2.2.2.2.size)⟩⟩
            case rest =>
              obtain ⟨B6, a6, rfl, h6⟩ := hcut
              clear h5 q0 q1 q2 q3 q4 q5
              obtain ⟨q0, q1, q2, q3, q4, q5⟩ := h6.out.1.six
              obtain ⟨s0, s1, s2, s3, s4, s5⟩ := h6.out.2.1.six
              go_upto_region 7 with fail
              go_cut [7] (fun s7 wx => ∃ B a, s7 = .pointer (some ⟨B, 0, none⟩) ∧ Aside0 (BoxF wx B6 fF none 0 none 0 (some a6) 1 ∧ BoxF wx B fWant none 0 none 0 (some a) 2 ∧ Below w.heap.size w wx))
              case first =>
                go_wp2_with fail
                go_meet
                obtain ⟨W3, hW3⟩ : ∃ W3, ((wc.alloc (.cells #[.int .i64 fAt.f0, .string fAt.f1, .int .i64 fAt.f2, .slice (some a2) fAt.f3.length 2, .slice none fAt.f4.length 0, .slice none fAt.f5.length 0] 26)).alloc (.cells #[.int .i64 fIn.f0, .string fIn.f1, .int .i64 fIn.f2, .slice (some a1) fIn.f3.length 2, .slice none fIn.f4.length 0, .slice none fIn.f5.length 0, .int .i64 17, .string ⟨#[]⟩, .int .i64 1, .slice none 0 0, .slice (some a3) 1 1, .slice (some ⟨wc.heap.size, 0, none⟩) 1 1] 26)).alloc (.cells #[.int .i64 11, .string ⟨#[]⟩, .int .i64 0, .slice none 0 0, .slice none 0 0, .slice (some ⟨wc.heap.size + 1, 0, none⟩) 2 2] 26) = W3 := ⟨_, rfl⟩
                have h3 := three_blocks _ _ _ _ _ hW3
                rw [hW3]
                clear hW3
                obtain ⟨z1, z2, z3, hu⟩ := h3
                have hin := h6.out.1.below hu
                have hat := h6.out.2.1.below hu
                have hbs := Kd.C_below h6.out.2.2.1 hu
                refine ⟨wc.heap.size + 1 + 1, ⟨wc.heap.size + 1, 0, none⟩, rfl, ⟨h6.out.2.2.2.1.below hu, ⟨z3, ⟨Nat.le_refl _, Kd.C_nil _ _, Nat.le_refl _, Kd.C_nil _ _, Nat.le_refl _, ?_⟩⟩, h6.out.2.2.2.2.trans (hu.mono h6.out.2.2.2.2.size)⟩⟩
                exact row_two (y := fIn) (z := fMost) (E3 := none) (g3 := 0) (E4 := some a3) (g4 := 1) (E5 := some ⟨wc.heap.size, 0, none⟩) (g5 := 1) z2 hin.at_ ⟨Nat.le_refl _, Kd.C_nil _ _, Nat.le_refl _, hbs, Nat.le_refl _, row_one z1 hat.at_⟩
              case rest =>
                obtain ⟨B7, a7, rfl, h7⟩ := hcut
                clear h6 q0 q1 q2 q3 q4 q5 s0 s1 s2 s3 s4 s5
                have hN := Aside0.mk (nnf_at fF none 0 none 0 (some a6) 1 wc h7.out.1.at_ (by rw [fF_size]; decide) fF_deep (HT.out.1.below h7.out.2.2) (HT.out.2.below h7.out.2.2))
                rw [fF_right, fF_check] at hN
                have hFr := Aside0.mk (fun W (hW : Below wc.heap.size wc W) => free_calls fF none 0 none 0 (some a6) 1 W (h7.out.1.at_.below hW) fF_deep (by decide +kernel) (by decide +kernel))
                simp only [fF_free] at hFr
                have hG := Aside0.mk (fun W (hW : Below w.heap.size w W) => bad_calls W (HT.out.1.below hW) (HT.out.2.below hW))
                obtain ⟨q0, q1, q2, q3, q4, q5⟩ := h7.out.1.six
                go_upto_region 11 with (first
                  | (go_at_call 32; (with_reducible refine hN.out.mono ?_); rintro e w1 ⟨X3, e3, X4, e4, X5, e5, rfl, g1, hx⟩; replace hx := Aside0.mk hx; have g1' := Aside0.mk (g1.trans ((up1 w1 (.cells #[.int .i64 fWant.f0, .string fWant.f1, .int .i64 fWant.f2, .slice X3 fWant.f3.length e3, .slice X4 fWant.f4.length e4, .slice X5 fWant.f5.length e5] 26)).mono g1.size)); clear q0 q1 q2 q3 q4 q5; obtain ⟨q0, q1, q2, q3, q4, q5⟩ := (h7.out.1.below g1'.out).six; replace g1 := Aside0.mk g1)
                  | (go_at_call 28; (with_reducible refine (hFr.out _ g1'.out).mono ?_); rintro e w2 ⟨v2, rfl, g2, hr⟩; clear q0 q1 q2 q3 q4 q5; obtain ⟨A, c, rfl⟩ := Kd.R_slice hr; have hrow := (Kd.R_reads' hr).2.2; have hlc := (Kd.R_reads' hr).2.1; obtain ⟨la, rfl, _⟩ := strAt hrow 0 (by simp); replace hrow := Aside0.mk hrow; clear hr; have g2' := Aside0.mk (h7.out.2.2.trans ((g1'.out.trans (g2.mono g1'.out.size)).mono h7.out.2.2.size)); replace g2 := Aside0.mk g2)
                  | (go_at_call 32; (with_reducible refine (hG.out _ g2'.out).mono ?_); rintro e w3 ⟨Y3, i3, Y4, i4, Y5, i5, rfl, g3⟩; replace g3 := Aside0.mk g3))
                have gA : Below wc.heap.size wc w2 := g1'.out.trans (g2.out.mono g1'.out.size)
                have gB : Below w2.heap.size w2 (w3.alloc (.cells #[.int .i64 0, .string ⟨#[]⟩, .int .i64 0, .slice Y3 0 i3, .slice Y4 0 i4, .slice Y5 0 i5] 26)) := g3.out.trans ((up1 w3 _).mono g3.out.size)
                have S : Aside0 (LS w (w3.alloc (.cells #[.int .i64 0, .string ⟨#[]⟩, .int .i64 0, .slice Y3 0 i3, .slice Y4 0 i4, .slice Y5 0 i5] 26)) B6 a6 B7 a7 w1.heap.size X3 e3 X4 e4 X5 e5 (some la)) := ⟨⟨(h7.out.1.below gA).below gB, (h7.out.2.1.below gA).below gB, ((⟨heap_new w1 _, hx.out.below (up1 w1 _)⟩ : BoxF (w1.alloc (.cells #[.int .i64 fWant.f0, .string fWant.f1, .int .i64 fWant.f2, .slice X3 fWant.f3.length e3, .slice X4 fWant.f4.length e4, .slice X5 fWant.f5.length e5] 26)) w1.heap.size fWant X3 e3 X4 e4 X5 e5).below g2.out).below gB, Kd.C_below hrow.out gB, (h7.out.2.2.trans (gA.mono h7.out.2.2.size)).trans (gB.mono (Nat.le_trans h7.out.2.2.size gA.size))⟩⟩
                clear gA gB hN hFr hG h7 hx g1' g2 g2' g3 hrow g1
                obtain ⟨wd, hwd⟩ : ∃ wd, w3.alloc (.cells #[.int .i64 0, .string ⟨#[]⟩, .int .i64 0, .slice Y3 0 i3, .slice Y4 0 i4, .slice Y5 0 i5] 26) = wd := ⟨_, rfl⟩
                rw [hwd] at S ⊢
                clear hwd
                have C1 := Aside0.mk (fun W (h : LS w W B6 a6 B7 a7 w1.heap.size X3 e3 X4 e4 X5 e5 (some la)) => same_calls fWant fWant X3 e3 X4 e4 X5 e5 none 0 none 0 (some a7) 2 W h.x.at_ h.want.at_)
                rw [same_refl] at C1
                have C2 := Aside0.mk (fun W (h : LS w W B6 a6 B7 a7 w1.heap.size X3 e3 X4 e4 X5 e5 (some la)) => same_calls fF fWant none 0 none 0 (some a6) 1 none 0 none 0 (some a7) 2 W h.f.at_ h.want.at_)
                rw [fF_same] at C2
                have C3 := Aside0.mk (fun W (h : LS w W B6 a6 B7 a7 w1.heap.size X3 e3 X4 e4 X5 e5 (some la)) => check_calls fF none 0 none 0 (some a6) 1 W h.f.at_ (by rw [fF_size]; decide) fF_deep (HT.out.1.below h.b))
                rw [fF_check] at C3
                have C4 : Aside0 (∀ W, LS w W B6 a6 B7 a7 w1.heap.size X3 e3 X4 e4 X5 e5 (some la) → Calls Tryd.prog 24 #[.agg #[.int .i64 fF.f0, .string fF.f1, .int .i64 fF.f2, .slice none fF.f3.length 0, .slice none fF.f4.length 0, .slice (some a6) fF.f5.length 1]] W fun e w' => e = .returned (.int .i64 5) ∧ Below W.heap.size W w') := ⟨fun W h => by
                  have := size_calls fF none 0 none 0 (some a6) 1 W h.f.at_ (by rw [fF_size]; decide) fF_deep
                  rw [fF_size] at this
                  exact this⟩
                have C5 : Aside0 (∀ W, LS w W B6 a6 B7 a7 w1.heap.size X3 e3 X4 e4 X5 e5 (some la) → Calls Tryd.prog 26 #[.agg #[.int .i64 fF.f0, .string fF.f1, .int .i64 fF.f2, .slice none fF.f3.length 0, .slice none fF.f4.length 0, .slice (some a6) fF.f5.length 1]] W fun e w' => e = .returned (.int .i64 4) ∧ Below W.heap.size W w') := ⟨fun W h => by
                  have := depth_calls fF none 0 none 0 (some a6) 1 W h.f.at_ (by rw [fF_size]; decide)
                  rw [fF_depth] at this
                  exact this⟩
                have C6 := Aside0.mk (fun W (h : LS w W B6 a6 B7 a7 w1.heap.size X3 e3 X4 e4 X5 e5 (some la)) => nil_calls W (HT.out.1.below h.b))
                clear HT
                obtain ⟨f0, f1, f2, f3, f4, f5⟩ := S.out.f.six; obtain ⟨k0, k1, k2, k3, k4, k5⟩ := S.out.want.six; obtain ⟨m0, m1, m2, m3, m4, m5⟩ := S.out.x.six; obtain ⟨n0, n1⟩ := strs2 (s0 := ⟨#[108]⟩) (s1 := ⟨#[114]⟩) S.out.row
                go_wp2_with (first
                  | (go_at_call 30; (with_reducible refine (C1.out _ S.out).mono ?_); rintro e w4 ⟨rfl, g4⟩; have S4 := Aside0.mk (S.out.below g4); clear S g4; clear f0 f1 f2 f3 f4 f5 k0 k1 k2 k3 k4 k5 m0 m1 m2 m3 m4 m5 n0 n1; obtain ⟨f0, f1, f2, f3, f4, f5⟩ := S4.out.f.six; obtain ⟨k0, k1, k2, k3, k4, k5⟩ := S4.out.want.six; obtain ⟨m0, m1, m2, m3, m4, m5⟩ := S4.out.x.six; obtain ⟨n0, n1⟩ := strs2 (s0 := ⟨#[108]⟩) (s1 := ⟨#[114]⟩) S4.out.row)
                  | (go_at_call 30; (with_reducible refine (C2.out _ S4.out).mono ?_); rintro e w5 ⟨rfl, g5⟩; have S5 := Aside0.mk (S4.out.below g5); clear S4 g5; clear f0 f1 f2 f3 f4 f5 k0 k1 k2 k3 k4 k5 m0 m1 m2 m3 m4 m5 n0 n1; obtain ⟨f0, f1, f2, f3, f4, f5⟩ := S5.out.f.six; obtain ⟨k0, k1, k2, k3, k4, k5⟩ := S5.out.want.six; obtain ⟨m0, m1, m2, m3, m4, m5⟩ := S5.out.x.six; obtain ⟨n0, n1⟩ := strs2 (s0 := ⟨#[108]⟩) (s1 := ⟨#[114]⟩) S5.out.row)
                  | (go_at_call 22; (with_reducible refine (C3.out _ S5.out).mono ?_); rintro e w6 ⟨rfl, g6⟩; have S6 := Aside0.mk (S5.out.below g6); clear S5 g6; clear f0 f1 f2 f3 f4 f5 k0 k1 k2 k3 k4 k5 m0 m1 m2 m3 m4 m5 n0 n1; obtain ⟨f0, f1, f2, f3, f4, f5⟩ := S6.out.f.six; obtain ⟨k0, k1, k2, k3, k4, k5⟩ := S6.out.want.six; obtain ⟨m0, m1, m2, m3, m4, m5⟩ := S6.out.x.six; obtain ⟨n0, n1⟩ := strs2 (s0 := ⟨#[108]⟩) (s1 := ⟨#[114]⟩) S6.out.row)
                  | (go_at_call 24; (with_reducible refine (C4.out _ S6.out).mono ?_); rintro e w7 ⟨rfl, g7⟩; have S7 := Aside0.mk (S6.out.below g7); clear S6 g7; clear f0 f1 f2 f3 f4 f5 k0 k1 k2 k3 k4 k5 m0 m1 m2 m3 m4 m5 n0 n1; obtain ⟨f0, f1, f2, f3, f4, f5⟩ := S7.out.f.six; obtain ⟨k0, k1, k2, k3, k4, k5⟩ := S7.out.want.six; obtain ⟨m0, m1, m2, m3, m4, m5⟩ := S7.out.x.six; obtain ⟨n0, n1⟩ := strs2 (s0 := ⟨#[108]⟩) (s1 := ⟨#[114]⟩) S7.out.row)
                  | (go_at_call 26; (with_reducible refine (C5.out _ S7.out).mono ?_); rintro e w8 ⟨rfl, g8⟩; have S8 := Aside0.mk (S7.out.below g8); clear S7 g8)
                  | (go_at_call 22; (with_reducible refine (C6.out _ S8.out).mono ?_); rintro e w9 ⟨rfl, g9⟩))
                go_ret
                exact ⟨rfl, S8.out.b.trans (g9.mono S8.out.b.size)⟩
end Go.Proofs.YtmlcaecknocpoaaDoor.It
namespace Go.Proofs.YtmlcaecknocpoaaDoor.It
set_option linter.unusedVariables false
set_option linter.unusedSimpArgs false
open Go Go.RowKit Go.Shelf Go.Proofs.YtmlcaecknocpoaaDoorW.PrintWords Go.Proofs.YtmlcaecknocpoaaDoorW.PrintLast Go.Proofs.YtmlcaecknocpoaaDoor.Pr Go.Proofs.YtmlcaecknocpoaaDoor.Sp
open Go.ChangeShapes Go.WideShapes Go.Deep
theorem cells26 : Tryd.prog.cellsOf 26 = 6 := by kernel_rfl
theorem cells47 : Tryd.prog.cellsOf 47 = 3 := by kernel_rfl
theorem cells42 : Tryd.prog.cellsOf 42 = 2 := by kernel_rfl
theorem cells3 : Tryd.prog.cellsOf 3 = 1 := by kernel_rfl
theorem cells9 : Tryd.prog.cellsOf 9 = 1 := by kernel_rfl
theorem cells22 : Tryd.prog.cellsOf 22 = 1 := by kernel_rfl
theorem cells23 : Tryd.prog.cellsOf 23 = 1 := by kernel_rfl
theorem cells24 : Tryd.prog.cellsOf 24 = 1 := by kernel_rfl
section
variable {H : Type} {enc : TypeId × Value → H} {w : World} {base : Nat} {spare : Nat → Bool} {held : Bool}
theorem bulk_all_append (l r : List (DataW H)) : Rows.uptoBulkAll (l ++ r) = Rows.uptoBulkAll l + Rows.uptoBulkAll r := by
  induction l with
  | nil => simp [Rows.uptoBulkAll]
  | cons x l ih => simp only [List.cons_append, Rows.uptoBulkAll, ih]; omega
theorem one3 {n : Nat} {cs : List Value} {y : DataW H × List MemPlace} (h : DataW.trod enc Tryd.prog w base spare held n 3 cs = some y) : ∃ k : Int, cs = [.int .i64 k] ∧ I64 k ∧ Rows.uptoBulk y.1 = 1 := by
  obtain ⟨a, e0, rfl, wa⟩ := DataW.trod_int Tryd.underlying3 h
  exact ⟨a, e0, wa, rfl⟩
theorem one9 {n : Nat} {cs : List Value} {y : DataW H × List MemPlace} (h : DataW.trod enc Tryd.prog w base spare held n 9 cs = some y) : ∃ s : ByteArray, cs = [.string s] ∧ s.size ≤ 9223372036854775807 ∧ Rows.uptoBulk y.1 = s.size + 1 := by
  obtain ⟨s, e0, rfl, hs⟩ := DataW.trod_string Tryd.underlying9 h
  refine ⟨s, e0, hs, ?_⟩
  show (s.data.toList).length + 1 = _
  rw [Array.length_toList]; rfl
set_option maxRecDepth 100000 in
theorem read47 {n : Nat} {cs : List Value} {y : DataW H × List MemPlace} (h : DataW.trod enc Tryd.prog w base spare held n 47 cs = some y) :
    ∃ t : S47, cs = [.int .i64 t.f0, .string t.f1, .int .i64 t.f2] ∧ (t.f1.size ≤ 9223372036854775807 ∧ I64 t.f0 ∧ I64 t.f2) ∧ 4 + t.f1.size ≤ Rows.uptoBulk y.1 := by
  obtain ⟨ys, n', hn', hy, hlen, hyl, hf⟩ := DataW.trod_struct Tryd.underlying47 h
  rw [cells47] at hlen
  match cs, hlen with
  | [c0, c1, c2], _ =>
    match ys, hyl with
    | [y0, y1, y2], _ =>
      have h0 := hf 0 _ rfl
      have h1 := hf 1 _ rfl
      have h2 := hf 2 _ rfl
      simp only [cells3, cells9, List.drop_zero, List.drop_succ_cons, List.take_succ_cons, List.take_zero, List.getElem?_cons_zero, List.getElem?_cons_succ] at h0 h1 h2
      obtain ⟨a, e0, wa, b0⟩ := one3 h0
      obtain ⟨s, e1, ws, b1⟩ := one9 h1
      obtain ⟨c, e2, wc, b2⟩ := one3 h2
      obtain rfl := List.singleton_inj.1 e0
      obtain rfl := List.singleton_inj.1 e1
      obtain rfl := List.singleton_inj.1 e2
      refine ⟨⟨a, s, c⟩, rfl, ⟨ws, wa, wc⟩, ?_⟩
      subst hy
      simp only [List.map_cons, List.map_nil, Rows.uptoBulk, Rows.uptoBulkAll, b0, b1, b2]
      omega
set_option maxRecDepth 100000 in
theorem read42 {n : Nat} {cs : List Value} {y : DataW H × List MemPlace} (h : DataW.trod enc Tryd.prog w base spare held n 42 cs = some y) :
    ∃ t : S42, cs = [.string t.f0, .int .i64 t.f1] ∧ (t.f0.size ≤ 9223372036854775807 ∧ I64 t.f1) ∧ 3 + t.f0.size ≤ Rows.uptoBulk y.1 := by
  obtain ⟨ys, n', hn', hy, hlen, hyl, hf⟩ := DataW.trod_struct Tryd.underlying42 h
  rw [cells42] at hlen
  match cs, hlen with
  | [c0, c1], _ =>
    match ys, hyl with
    | [y0, y1], _ =>
      have h0 := hf 0 _ rfl
      have h1 := hf 1 _ rfl
      simp only [cells3, cells9, List.drop_zero, List.drop_succ_cons, List.take_succ_cons, List.take_zero, List.getElem?_cons_zero, List.getElem?_cons_succ] at h0 h1
      obtain ⟨s, e0, ws, b0⟩ := one9 h0
      obtain ⟨c, e1, wc, b1⟩ := one3 h1
      obtain rfl := List.singleton_inj.1 e0
      obtain rfl := List.singleton_inj.1 e1
      refine ⟨⟨s, c⟩, rfl, ⟨ws, wc⟩, ?_⟩
      subst hy
      simp only [List.map_cons, List.map_nil, Rows.uptoBulk, Rows.uptoBulkAll, b0, b1]
      omega
theorem read_row {α : Type} (d : Kd α) {t e : TypeId} {k : Nat} (hsz : d.sz = k) (ht : Tryd.prog.underlying t = some (.slice e)) (hC : Tryd.prog.cellsOf e = k) (S : α → Prop) (wt : α → Nat) (z : α) {fuel : Nat} {cs : List Value} {x : DataW H × List MemPlace}
    (hel : ∀ (n : Nat) (cs' : List Value) (y : DataW H × List MemPlace), Rows.uptoBulk y.1 < Rows.uptoBulk x.1 → DataW.trod enc Tryd.prog w base spare held n e cs' = some y → ∃ v : α, d.K w v cs' ∧ cs'.length = k ∧ S v ∧ wt v ≤ Rows.uptoBulk y.1)
    (h : DataW.trod enc Tryd.prog w base spare held fuel t cs = some x) :
    ∃ A c xs, cs = [.slice A xs.length c] ∧ xs.length ≤ c ∧ Kd.C d w A xs.length xs ∧ (∀ v ∈ xs, S v) ∧ (xs.map wt).sum + 1 ≤ Rows.uptoBulk x.1 := by
  rcases open_slice ht h with ⟨rfl, rfl⟩ | ⟨a, len, cap, m, n, D, Pl, rfl, hb, hl, hm, hmm, rfl, hi⟩
  · exact ⟨none, 0, [], rfl, Nat.le_refl _, Kd.C_nil _ _, by simp, by simp [Rows.uptoBulk]⟩
  · have hlm : len ≤ m := by rw [hmm]; split <;> omega
    have hbD : ∀ j ≤ len, ∀ i < j, Rows.uptoBulk (D i) ≤ Rows.uptoBulkAll ((List.range j).map D) := by
      intro j
      induction j with
      | zero => intro _ i hi; omega
      | succ j ih =>
        intro hj i hi
        rw [List.range_succ, List.map_append, bulk_all_append]
        by_cases e : i = j
        · subst e; simp only [List.map_cons, List.map_nil, Rows.uptoBulkAll]; omega
        · have := ih (by omega) i (by omega); omega
    have hT : ∀ i, i < len → ∃ v : α, (∃ cs', w.cells? base (a.add (i * k)) k = some cs' ∧ d.K w v cs' ∧ cs'.length = k) ∧ S v ∧ wt v ≤ Rows.uptoBulk (D i) := fun i hil => by
      obtain ⟨cs', hc, ht'⟩ := hi i (by omega)
      rw [hC] at hc
      obtain ⟨v, h1, h2, h3, h4⟩ := hel n cs' (D i, Pl i) (by
        have := hbD len (Nat.le_refl _) i hil
        show Rows.uptoBulk (D i) < Rows.uptoBulk (.slice _ _)
        simp only [Rows.uptoBulk]; omega) ht'
      exact ⟨v, ⟨cs', hc, h1, h2⟩, h3, h4⟩
    obtain ⟨T, hT⟩ : ∃ T : Nat → α, ∀ i, i < len → (∃ cs', w.cells? base (a.add (i * k)) k = some cs' ∧ d.K w (T i) cs' ∧ cs'.length = k) ∧ S (T i) ∧ wt (T i) ≤ Rows.uptoBulk (D i) :=
      ⟨fun i => if hil : i < len then Classical.choose (hT i hil) else z, fun i hil => by
        simp only [dif_pos hil]
        exact Classical.choose_spec (hT i hil)⟩
    have hlen : ((List.range len).map T).length = len := by simp
    refine ⟨some a, cap, (List.range len).map T, by rw [hlen], by rw [hlen]; exact hl, ⟨rfl, by rw [hlen]; exact Nat.le_trans hl hm, fun _ => ⟨a, rfl, fun j p hj => ?_⟩⟩, ?_, ?_⟩
    · have hjl : j < len := by
        have := (List.getElem?_eq_some_iff.1 hj).1
        simpa using this
      obtain rfl : T j = p := by
        rw [List.getElem?_map, List.getElem?_range hjl] at hj
        simpa using hj
      obtain ⟨⟨cs', hc, hK, hcl⟩, _⟩ := hT j hjl
      obtain ⟨_, hcl', hat⟩ := World.cells?_some hc
      refine ⟨cs', by rw [hsz]; exact hcl, hK, fun i u hu => ?_⟩
      have hik : i < k := by
        have := (List.getElem?_eq_some_iff.1 hu).1
        omega
      rw [hsz, ← Go.Deep.add_add, hat i hik, hu]
    · intro v hv
      obtain ⟨i, hi', rfl⟩ := List.mem_map.1 hv
      exact (hT i (by simpa using hi')).2.1
    · have hsum : ∀ j ≤ len, (((List.range j).map T).map wt).sum ≤ Rows.uptoBulkAll ((List.range j).map D) := by
        intro j
        induction j with
        | zero => intro _; simp [Rows.uptoBulkAll]
        | succ j ih =>
          intro hj
          rw [List.range_succ, List.map_append, List.map_append, List.map_append, bulk_all_append, List.sum_append]
          have h1 := ih (by omega)
          have h2 := (hT j (by omega)).2.2
          simp only [List.map_cons, List.map_nil, Rows.uptoBulkAll, List.sum_cons, List.sum_nil]
          omega
      have := hsum len (Nat.le_refl _)
      simp only [Rows.uptoBulk]
      omega
theorem sum_const {α : Type} (l : List α) (c : Nat) : (l.map fun _ => c).sum = c * l.length := by
  induction l with
  | nil => rfl
  | cons x l ih => rw [List.map_cons, List.sum_cons, ih, List.length_cons, Nat.mul_succ]; omega
def wt26 (x : S26) : Nat := size x + 3 * nb x + 4 * nt x
theorem wt26_sum (l : List S26) : (l.map wt26).sum = sizes l + 3 * nbs l + 4 * nts l := by
  induction l with
  | nil => simp [sizes, nbs, nts]
  | cons x l ih => simp only [List.map_cons, List.sum_cons, ih, wt26, sizes, nbs, nts]; omega
theorem mem_nodesL {l : List S26} {y : S26} (h : y ∈ nodesL l) : ∃ x ∈ l, y ∈ nodes x := by
  induction l with
  | nil => cases h
  | cons x l ih =>
    simp only [nodesL, List.mem_append] at h
    rcases h with h | h
    · exact ⟨x, by simp, h⟩
    · obtain ⟨x', hx', hy⟩ := ih h
      exact ⟨x', by simp [hx'], hy⟩
set_option maxRecDepth 100000 in
theorem read26 (b : Nat) : ∀ (n : Nat) (cs : List Value) (y : DataW H × List MemPlace), Rows.uptoBulk y.1 ≤ b → DataW.trod enc Tryd.prog w base spare held n 26 cs = some y →
    ∃ (x : S26) (A3 : Option Addr) (c3 : Nat) (A4 : Option Addr) (c4 : Nat) (A5 : Option Addr) (c5 : Nat), cs = [.int .i64 x.f0, .string x.f1, .int .i64 x.f2, .slice A3 x.f3.length c3, .slice A4 x.f4.length c4, .slice A5 x.f5.length c5] ∧ At w x A3 c3 A4 c4 A5 c5 ∧ Deep x ∧ wt26 x ≤ Rows.uptoBulk y.1 := by
  induction b with
  | zero =>
    intro n cs y hb h
    obtain ⟨ys, n', hn', hy, hlen, hyl, hf⟩ := DataW.trod_struct Tryd.underlying26 h
    subst hy
    simp [Rows.uptoBulk] at hb
  | succ b ih =>
    intro n cs y hb h
    obtain ⟨ys, n', hn', hy, hlen, hyl, hf⟩ := DataW.trod_struct Tryd.underlying26 h
    rw [cells26] at hlen
    match cs, hlen with
    | [q0, q1, q2, q3, q4, q5], _ =>
      match ys, hyl with
      | [y0, y1, y2, y3, y4, y5], _ =>
        have h0 := hf 0 _ rfl
        have h1 := hf 1 _ rfl
        have h2 := hf 2 _ rfl
        have h3 := hf 3 _ rfl
        have h4 := hf 4 _ rfl
        have h5 := hf 5 _ rfl
        simp only [cells3, cells9, cells22, cells23, cells24, List.drop_zero, List.drop_succ_cons, List.take_succ_cons, List.take_zero, List.getElem?_cons_zero, List.getElem?_cons_succ] at h0 h1 h2 h3 h4 h5
        obtain ⟨k, e0, wk, b0⟩ := one3 h0
        obtain ⟨nm, e1, ws, b1⟩ := one9 h1
        obtain ⟨nn, e2, wn, b2⟩ := one3 h2
        obtain rfl := List.singleton_inj.1 e0
        obtain rfl := List.singleton_inj.1 e1
        obtain rfl := List.singleton_inj.1 e2
        subst hy
        simp only [List.map_cons, List.map_nil, Rows.uptoBulk, Rows.uptoBulkAll, b0, b1, b2] at hb ⊢
        obtain ⟨A3, c3, ts, e3, l3, g3, S3, B3⟩ := read_row k47 rfl Tryd.underlying22 cells47 (fun t => t.f1.size ≤ 9223372036854775807 ∧ I64 t.f0 ∧ I64 t.f2) (fun _ => 4) z47 (fun n cs' y _ ht => by
          obtain ⟨t, rfl, hs, hb⟩ := read47 ht
          exact ⟨t, k47_mk w t, rfl, hs, by omega⟩) h3
        obtain ⟨A4, c4, bs, e4, l4, g4, S4, B4⟩ := read_row k42 rfl Tryd.underlying23 cells42 (fun t => t.f0.size ≤ 9223372036854775807 ∧ I64 t.f1) (fun _ => 3) z42 (fun n cs' y _ ht => by
          obtain ⟨t, rfl, hs, hb⟩ := read42 ht
          exact ⟨t, k42_mk w t, rfl, hs, by omega⟩) h4
        obtain ⟨A5, c5, l, e5, l5, g5, S5, B5⟩ := read_row k26 rfl Tryd.underlying24 cells26 Deep wt26 z26 (fun n cs' y hlt ht => by
          obtain ⟨x, B3, d3, B4, d4, B5, d5, rfl, hat, hdp, hw⟩ := ih n cs' y (by omega) ht
          exact ⟨x, hat.K, rfl, hdp, hw⟩) h5
        obtain rfl := List.singleton_inj.1 e3
        obtain rfl := List.singleton_inj.1 e4
        obtain rfl := List.singleton_inj.1 e5
        refine ⟨⟨k, nm, nn, ts, bs, l⟩, A3, c3, A4, c4, A5, c5, rfl, ⟨l3, g3, l4, g4, l5, g5⟩, ?_, ?_⟩
        · intro y hy
          rw [nodes_eq] at hy
          cases hy with
          | head => exact ⟨wk, ws, fun t ht => (S3 t ht).1, fun t ht => (S4 t ht).1, wn, fun t ht => (S3 t ht).2, fun t ht => (S4 t ht).2⟩
          | tail _ hy =>
            obtain ⟨x, hx, hy⟩ := mem_nodesL hy
            exact S5 x hx y hy
        · have hs3 := sum_const ts 4
          have hs4 := sum_const bs 3
          rw [hs3] at B3
          rw [hs4] at B4
          rw [wt26_sum] at B5
          simp only [wt26, size, nb, nt]
          omega
end
end Go.Proofs.YtmlcaecknocpoaaDoor.It
namespace Go.Proofs.YtmlcaecknocpoaaDoor.It
set_option linter.unusedVariables false
set_option linter.unusedSimpArgs false
open Go Go.RowKit Go.Shelf Go.Proofs.YtmlcaecknocpoaaDoorW.PrintWords Go.Proofs.YtmlcaecknocpoaaDoorW.PrintLast Go.Proofs.YtmlcaecknocpoaaDoor.Pr Go.Proofs.YtmlcaecknocpoaaDoor.Sp
mutual
theorem nodes_le : ∀ x y : S26, y ∈ nodes x → y.f3.length ≤ nt x ∧ y.f4.length ≤ nb x
  | ⟨k, nm, n, ts, bs, l⟩, y, h => by
    rw [nodes, List.mem_cons] at h
    rcases h with rfl | h
    · simp only [nt, nb]; omega
    · have := nodesL_le l y h
      simp only [nt, nb]; omega
theorem nodesL_le : ∀ (l : List S26) (y : S26), y ∈ nodesL l → y.f3.length ≤ nts l ∧ y.f4.length ≤ nbs l
  | [], y, h => by simp [nodesL] at h
  | x :: l, y, h => by
    rw [nodesL, List.mem_append] at h
    rcases h with h | h
    · have := nodes_le x y h; simp only [nts, nbs]; omega
    · have := nodesL_le l y h; simp only [nts, nbs]; omega
end
structure Arg (w : World) (x : S26) (A3 : Option Addr) (c3 : Nat) (A4 : Option Addr) (c4 : Nat) (A5 : Option Addr) (c5 : Nat) : Prop where
  at_ : At w x A3 c3 A4 c4 A5 c5
  deep : Deep x
  wt : wt26 x ≤ 1048576
section
variable {w : World} {x : S26} {A3 : Option Addr} {c3 : Nat} {A4 : Option Addr} {c4 : Nat} {A5 : Option Addr} {c5 : Nat}
theorem Arg.below (h : Arg w x A3 c3 A4 c4 A5 c5) {w1 : World} (hb : Below w.heap.size w w1) : Arg w1 x A3 c3 A4 c4 A5 c5 := ⟨h.at_.below hb, h.deep, h.wt⟩
theorem Arg.size (h : Arg w x A3 c3 A4 c4 A5 c5) : Sp.size x ≤ 4611686018427387904 := by have := h.wt; unfold wt26 at this; omega
theorem Arg.nb (h : Arg w x A3 c3 A4 c4 A5 c5) : It.nb x ≤ 400000 := by have := h.wt; unfold wt26 at this; omega
theorem Arg.nt (h : Arg w x A3 c3 A4 c4 A5 c5) : It.nt x ≤ 1000000 := by have := h.wt; unfold wt26 at this; omega
theorem Arg.nm (h : Arg w x A3 c3 A4 c4 A5 c5) : NmOk x := fun y hy => by
  have h1 := nodes_le x y hy
  have h2 := h.nb
  have h3 := h.nt
  exact ⟨(h.deep y hy).ts, (h.deep y hy).bs, by omega, by omega⟩
theorem Arg.few (h : Arg w x A3 c3 A4 c4 A5 c5) : ∃ r : Bool, ∀ W, Below w.heap.size w W → Calls Tryd.prog 21 #[.agg #[.int .i64 x.f0, .string x.f1, .int .i64 x.f2, .slice A3 x.f3.length c3, .slice A4 x.f4.length c4, .slice A5 x.f5.length c5]] W fun e w' => e = .returned (.bool r) ∧ Below W.heap.size W w' := by
  obtain ⟨r, hr⟩ := few_ev x h.size h.nm
  obtain ⟨k, hk⟩ := hr.rounds
  exact ⟨r, fun W hW => chalklineref06_Few.calls k _ _ _ _ _ _ _ _ _ _ _ _ _ _ (h.below hW).at_.g3 h.at_.l3 (h.below hW).at_.g4 h.at_.l4 (h.below hW).at_.g5 h.at_.l5 hk⟩
end
structure St (w0 w : World) (B : Nat) (x : S26) (A3 : Option Addr) (c3 : Nat) (A4 : Option Addr) (c4 : Nat) (A5 : Option Addr) (c5 : Nat) : Prop where
  box : BoxF w B x A3 c3 A4 c4 A5 c5
  b : Below w0.heap.size w0 w
section
variable {w0 w : World} {B : Nat} {x : S26} {A3 : Option Addr} {c3 : Nat} {A4 : Option Addr} {c4 : Nat} {A5 : Option Addr} {c5 : Nat}
theorem St.below (h : St w0 w B x A3 c3 A4 c4 A5 c5) {w1 : World} (g : Below w.heap.size w w1) : St w0 w1 B x A3 c3 A4 c4 A5 c5 := ⟨h.box.below g, h.b.trans (g.mono h.b.size)⟩
theorem St.drew (h : St w0 w B x A3 c3 A4 c4 A5 c5) : St w0 w.drew B x A3 c3 A4 c4 A5 c5 := h.below (below_drew (Below.refl _ _))
theorem St.start (h : At w0 x A3 c3 A4 c4 A5 c5) : St w0 (w0.alloc (.cells #[.int .i64 x.f0, .string x.f1, .int .i64 x.f2, .slice A3 x.f3.length c3, .slice A4 x.f4.length c4, .slice A5 x.f5.length c5] 26)) w0.heap.size x A3 c3 A4 c4 A5 c5 :=
  ⟨⟨heap_new w0 _, h.below (up1 w0 _)⟩, up1 w0 _⟩
end
end Go.Proofs.YtmlcaecknocpoaaDoor.It
namespace Go.Proofs.YtmlcaecknocpoaaDoor.It
set_option linter.unusedVariables false
set_option linter.unusedSimpArgs false
open Go Go.RowKit Go.Shelf Go.Proofs.YtmlcaecknocpoaaDoorW.PrintWords Go.Proofs.YtmlcaecknocpoaaDoorW.PrintLast Go.Proofs.YtmlcaecknocpoaaDoor.Pr Go.Proofs.YtmlcaecknocpoaaDoor.Sp
def Strs (w : World) (A : Option Addr) (l : List ByteArray) : Prop := Kd.C Kd.string w A l.length l
theorem Strs.below {w w1 : World} {A : Option Addr} {l : List ByteArray} (h : Strs w A l) (hb : Below w.heap.size w w1) : Strs w1 A l := Kd.C_below h hb
section
variable {w : World} {x : S26} {A3 : Option Addr} {c3 : Nat} {A4 : Option Addr} {c4 : Nat} {A5 : Option Addr} {c5 : Nat}
theorem rowR {w w1 : World} {v : Value} {l : List ByteArray} (h : Kd.R Kd.string 9 w1 w.heap.size (fun _ => True) v l) : ∃ A c, v = .slice A l.length c ∧ l.length ≤ c ∧ Strs w1 A l := by
  obtain ⟨A, c, rfl⟩ := Kd.R_slice h
  exact ⟨A, c, rfl, (Kd.R_reads' h).2.1, (Kd.R_reads' h).2.2⟩
theorem free_at (x : S26) (A3 : Option Addr) (c3 : Nat) (A4 : Option Addr) (c4 : Nat) (A5 : Option Addr) (c5 : Nat) (w : World) (hat : At w x A3 c3 A4 c4 A5 c5) (hdp : Deep x) (hnb : nb x ≤ 400000) (hnt : nt x ≤ 1000000) :
    Calls Tryd.prog 28 #[.agg #[.int .i64 x.f0, .string x.f1, .int .i64 x.f2, .slice A3 x.f3.length c3, .slice A4 x.f4.length c4, .slice A5 x.f5.length c5]] w fun e w' =>
      ∃ A c, e = .returned (.slice A (free x).length c) ∧ Below w.heap.size w w' ∧ Strs w' A (free x) :=
  (free_calls x A3 c3 A4 c4 A5 c5 w hat hdp hnb hnt).mono fun e w' ⟨v, he, hb, hr⟩ => by
    obtain ⟨A, c, rfl, _, h⟩ := rowR hr
    exact ⟨A, c, he, hb, h⟩
theorem Arg.free (h : Arg w x A3 c3 A4 c4 A5 c5) : Calls Tryd.prog 28 #[.agg #[.int .i64 x.f0, .string x.f1, .int .i64 x.f2, .slice A3 x.f3.length c3, .slice A4 x.f4.length c4, .slice A5 x.f5.length c5]] w fun e w' =>
      ∃ A c, e = .returned (.slice A (Sp.free x).length c) ∧ Below w.heap.size w w' ∧ Strs w' A (Sp.free x) := free_at x A3 c3 A4 c4 A5 c5 w h.at_ h.deep h.nb h.nt
end
structure St2 (w0 w : World) (B : Nat) (x : S26) (A3 : Option Addr) (c3 : Nat) (A4 : Option Addr) (c4 : Nat) (A5 : Option Addr) (c5 : Nat) (C : Nat) (y : S26) (B3 : Option Addr) (d3 : Nat) (B4 : Option Addr) (d4 : Nat) (B5 : Option Addr) (d5 : Nat) : Prop where
  bx : BoxF w B x A3 c3 A4 c4 A5 c5
  byy : BoxF w C y B3 d3 B4 d4 B5 d5
  b : Below w0.heap.size w0 w
section
variable {w0 w : World} {B C : Nat} {x y : S26} {A3 : Option Addr} {c3 : Nat} {A4 : Option Addr} {c4 : Nat} {A5 : Option Addr} {c5 : Nat} {B3 : Option Addr} {d3 : Nat} {B4 : Option Addr} {d4 : Nat} {B5 : Option Addr} {d5 : Nat}
theorem St2.below (h : St2 w0 w B x A3 c3 A4 c4 A5 c5 C y B3 d3 B4 d4 B5 d5) {w1 : World} (g : Below w.heap.size w w1) : St2 w0 w1 B x A3 c3 A4 c4 A5 c5 C y B3 d3 B4 d4 B5 d5 := ⟨h.bx.below g, h.byy.below g, h.b.trans (g.mono h.b.size)⟩
theorem St2.drew (h : St2 w0 w B x A3 c3 A4 c4 A5 c5 C y B3 d3 B4 d4 B5 d5) : St2 w0 w.drew B x A3 c3 A4 c4 A5 c5 C y B3 d3 B4 d4 B5 d5 := h.below (below_drew (Below.refl _ _))
theorem St2.start (h : At w0 x A3 c3 A4 c4 A5 c5) (h' : At w0 y B3 d3 B4 d4 B5 d5) : St2 w0 ((w0.alloc (.cells #[.int .i64 x.f0, .string x.f1, .int .i64 x.f2, .slice A3 x.f3.length c3, .slice A4 x.f4.length c4, .slice A5 x.f5.length c5] 26)).alloc (.cells #[.int .i64 y.f0, .string y.f1, .int .i64 y.f2, .slice B3 y.f3.length d3, .slice B4 y.f4.length d4, .slice B5 y.f5.length d5] 26)) w0.heap.size x A3 c3 A4 c4 A5 c5 (w0.heap.size + 1) y B3 d3 B4 d4 B5 d5 :=
  ⟨⟨heap_new2a w0 _ _, h.below (up2 w0 _ _)⟩, ⟨heap_new2b w0 _ _, h'.below (up2 w0 _ _)⟩, up2 w0 _ _⟩
end
end Go.Proofs.YtmlcaecknocpoaaDoor.It
namespace Go.Proofs.YtmlcaecknocpoaaDoor.It
set_option linter.unusedVariables false
set_option linter.unusedSimpArgs false
open Go Go.RowKit Go.Shelf Go.Proofs.YtmlcaecknocpoaaDoorW.PrintWords Go.Proofs.YtmlcaecknocpoaaDoorW.PrintLast Go.Proofs.YtmlcaecknocpoaaDoor.Pr Go.Proofs.YtmlcaecknocpoaaDoor.Sp
theorem i64_in {k : Int} (h : -9223372036854775808 ≤ k ∧ k ≤ 9223372036854775807) : I64 k := by
  have h1 : IntKind.i64.min = -9223372036854775808 := rfl
  have h2 : IntKind.i64.max = 9223372036854775807 := rfl
  unfold I64 Lit.wf
  simp [h1, h2]
  omega
theorem deep_of {x : S26} (h : Own1 x) (hl : ∀ y ∈ x.f5, Deep y) : Deep x := fun y hy => by
  rw [nodes_eq] at hy
  cases hy with
  | head => exact h
  | tail _ hy =>
    obtain ⟨z, hz, hy⟩ := mem_nodesL hy
    exact hl z hz y hy
theorem own_bare {k n : Int} (bs : List S42) (l : List S26) (hk : I64 k) (hn : I64 n) (hb : ∀ b ∈ bs, b.f0.size ≤ 9223372036854775807) (hb2 : ∀ b ∈ bs, I64 b.f1) : Own1 ⟨k, e0, n, [], bs, l⟩ :=
  ⟨hk, (by decide : e0.size ≤ 9223372036854775807), by simp, hb, hn, by simp, hb2⟩
structure ArgN (w : World) (x : S26) (A3 : Option Addr) (c3 : Nat) (A4 : Option Addr) (c4 : Nat) (A5 : Option Addr) (c5 : Nat) : Prop where
  at_ : At w x A3 c3 A4 c4 A5 c5
  deep : Deep x
  size : Sp.size x ≤ 4194304
  nb : It.nb x ≤ 400000
  nt : It.nt x ≤ 1000000
theorem ArgN.below {w w1 : World} {x : S26} {A3 : Option Addr} {c3 : Nat} {A4 : Option Addr} {c4 : Nat} {A5 : Option Addr} {c5 : Nat} (h : ArgN w x A3 c3 A4 c4 A5 c5) (hb : Below w.heap.size w w1) : ArgN w1 x A3 c3 A4 c4 A5 c5 := ⟨h.at_.below hb, h.deep, h.size, h.nb, h.nt⟩
theorem Arg.argN {w : World} {x : S26} {A3 : Option Addr} {c3 : Nat} {A4 : Option Addr} {c4 : Nat} {A5 : Option Addr} {c5 : Nat} (h : Arg w x A3 c3 A4 c4 A5 c5) : ArgN w x A3 c3 A4 c4 A5 c5 :=
  ⟨h.at_, h.deep, by have := h.wt; unfold wt26 at this; omega, h.nb, h.nt⟩
structure Slim (x : S26) : Prop where
  deep : Deep x
  size : Sp.size x ≤ 4194304
  nb : It.nb x ≤ 400000
  nt : It.nt x ≤ 1000000
theorem Slim.argN {x : S26} (h : Slim x) {w : World} {A3 : Option Addr} {c3 : Nat} {A4 : Option Addr} {c4 : Nat} {A5 : Option Addr} {c5 : Nat} (ha : At w x A3 c3 A4 c4 A5 c5) : ArgN w x A3 c3 A4 c4 A5 c5 := ⟨ha, h.deep, h.size, h.nb, h.nt⟩
theorem ArgN.slim {w : World} {x : S26} {A3 : Option Addr} {c3 : Nat} {A4 : Option Addr} {c4 : Nat} {A5 : Option Addr} {c5 : Nat} (h : ArgN w x A3 c3 A4 c4 A5 c5) : Slim x := ⟨h.deep, h.size, h.nb, h.nt⟩
end Go.Proofs.YtmlcaecknocpoaaDoor.It
namespace Go.Proofs.YtmlcaecknocpoaaDoor.It
set_option linter.unusedVariables false
set_option linter.unusedSimpArgs false
open Go Go.RowKit Go.Shelf Go.Proofs.YtmlcaecknocpoaaDoorW.PrintWords Go.Proofs.YtmlcaecknocpoaaDoorW.PrintLast Go.Proofs.YtmlcaecknocpoaaDoor.Pr Go.Proofs.YtmlcaecknocpoaaDoor.Sp
theorem Slim.neg {x : S26} (h : Slim x) (hs : Sp.size x ≤ 4194303) : Slim (Sp.neg x) :=
  ⟨deep_of (own_bare [] _ rfl rfl (by simp) (by simp)) (fun y hy => by obtain rfl := List.mem_singleton.1 hy; exact h.deep), by rw [size_neg]; omega, by have := h.nb; simp [Sp.neg, It.nb, nbs]; omega, by have := h.nt; simp [Sp.neg, It.nt, nts]; omega⟩
theorem not1 (x : S26) (A3 : Option Addr) (c3 : Nat) (A4 : Option Addr) (c4 : Nat) (A5 : Option Addr) (c5 : Nat) (W : World) (hat : At W x A3 c3 A4 c4 A5 c5) :
    Calls Tryd.prog 40 #[.agg #[.int .i64 x.f0, .string x.f1, .int .i64 x.f2, .slice A3 x.f3.length c3, .slice A4 x.f4.length c4, .slice A5 x.f5.length c5]] W fun e w' => ∃ ad,
      e = .returned (.agg #[.int .i64 10, .string ⟨#[]⟩, .int .i64 0, .slice none 0 0, .slice none 0 0, .slice (some ad) 1 1]) ∧ Below W.heap.size W w' ∧ At w' (neg x) none 0 none 0 (some ad) 1 := not_calls x A3 c3 A4 c4 A5 c5 W hat
theorem nnfN (x : S26) (ad : Addr) (W : World) (hs : Slim (neg x)) (hat : At W (neg x) none 0 none 0 (some ad) 1) (ht : Tabs W) (hd : Duals W) :
    Calls Tryd.prog 32 #[.agg #[.int .i64 10, .string ⟨#[]⟩, .int .i64 0, .slice none 0 0, .slice none 0 0, .slice (some ad) 1 1]] W fun e w' => ∃ B3 d3 B4 d4 B5 d5,
      e = .returned (.tuple #[.agg #[.int .i64 (nnf (neg x)).f0, .string (nnf (neg x)).f1, .int .i64 (nnf (neg x)).f2, .slice B3 (nnf (neg x)).f3.length d3, .slice B4 (nnf (neg x)).f4.length d4, .slice B5 (nnf (neg x)).f5.length d5], .int .i64 (check (neg x))]) ∧
      Below W.heap.size W w' ∧ At w' (nnf (neg x)) B3 d3 B4 d4 B5 d5 := nnf_at (neg x) none 0 none 0 (some ad) 1 W hat (by have := hs.size; omega) hs.deep ht hd
end Go.Proofs.YtmlcaecknocpoaaDoor.It
namespace Go.Proofs.YtmlcaecknocpoaaDoor.It
set_option linter.unusedVariables false
set_option linter.unusedSimpArgs false
open Go Go.RowKit Go.Shelf Go.Proofs.YtmlcaecknocpoaaDoorW.PrintWords Go.Proofs.YtmlcaecknocpoaaDoorW.PrintLast Go.Proofs.YtmlcaecknocpoaaDoor.Pr Go.Proofs.YtmlcaecknocpoaaDoor.Sp
open Go.ChangeShapes Go.WideShapes Go.ChangeAt Go.WideMaps Go.WideElems
theorem laid_at {P : Program} {W : World} : ∀ (laid : List (String × DataW Unit)) (ps : List MemPlace), DataW.LaidVars P W laid ps → ∀ n d, (n, d) ∈ laid →
    ∃ g t cs fuel p, P.globalNamed n = some g ∧ (P.globals[g]?).map (·.type) = some t ∧ W.var? P n = some cs ∧ DataW.trod (fun _ => ()) P W 0 (fun _ => true) false fuel t cs.toList = some (d, p)
  | [], _, _, _, _, h => by cases h
  | (n0, d0) :: r, ps, ⟨g, t, cs, fuel, p, q, h1, h2, h3, h4, h5, _⟩, n, d, h => by
    cases h with
    | head => exact ⟨g, t, cs, fuel, p, h1, h2, h3, h4⟩
    | tail _ h => exact laid_at r q h5 n d h
set_option maxRecDepth 100000 in
theorem map_laid {W : World} {laid : List (String × DataW Unit)} (h : laidMet Tryd.prog laid W) {n : String} {es0 : List (Lit × DataW Unit)} {g t k e : Nat} (hm : (n, .map es0) ∈ laid) (hg : Tryd.prog.globalNamed n = some g) (hty : (Tryd.prog.globals[g]?).map (·.type) = some t)
    (hu : Tryd.prog.underlying t = some (.map k e)) : ∃ b es clock m, W.cell? ⟨g, 0, none⟩ = some (.map (some b)) ∧ W.heap[b]? = some (.map es clock) ∧ Fit Tryd.prog k (elemAt (fun _ => ()) Tryd.prog W 0 (fun _ => true) false m e) es clock ∧
      DataW.map es0 = .map ((es.toList.map (rg Tryd.prog k (elemAt (fun _ => ()) Tryd.prog W 0 (fun _ => true) false m e))).foldr DataW.insert []) := by
  obtain ⟨ps, hv, _⟩ := h
  obtain ⟨g', t', cs, fuel, p, h1, h2, h3, h4⟩ := laid_at _ _ hv _ _ hm
  obtain rfl := Option.some.inj (hg.symm.trans h1)
  obtain rfl := Option.some.inj (hty.symm.trans h2)
  rcases open_map hu h4 with ⟨_, hx⟩ | ⟨b, es, clock, m, rfl, hcs, hb, _, F, hx⟩
  · simp at hx
  · simp only [Prod.mk.injEq] at hx
    refine ⟨b, es, clock, m, ?_, hb, F, hx.1⟩
    have := World.var?_cell h1 h3 0
    rw [Array.eq_one_of_toList hcs] at this
    simpa using this
theorem look_laid {W : World} {es0 : List (Lit × DataW Unit)} {t k e b m clock : Nat} {es : Array MapEntry} (K : Maps.Keyed Tryd.prog k) (hu : Tryd.prog.underlying t = some (.map k e)) (hb : W.heap[b]? = some (.map es clock))
    (F : Fit Tryd.prog k (elemAt (fun _ => ()) Tryd.prog W 0 (fun _ => true) false m e) es clock) (hx : DataW.map es0 = .map ((es.toList.map (rg Tryd.prog k (elemAt (fun _ => ()) Tryd.prog W 0 (fun _ => true) false m e))).foldr DataW.insert []))
    {z : Value} (hz : ∀ w : World, (zeroValue e).run Tryd.prog w = .ok z w) (c : Bool) {key : Value} {kl : Lit} (hkey : keyOf Tryd.prog k key = some kl) (W1 : World) (h1 : Below W.heap.size W W1) :
    ((Instr.lookup t (.map (some b)) key c).run Tryd.prog W1 = .ok (if c then .tuple #[z, .bool false] else z) W1 ∧ ∀ zd, (DataW.map es0).atKey kl zd = zd) ∨
    ∃ v y, (Instr.lookup t (.map (some b)) key c).run Tryd.prog W1 = .ok (if c then .tuple #[v, .bool true] else v) W1 ∧ elemAt (fun _ => ()) Tryd.prog W 0 (fun _ => true) false m e v = some y ∧ ∀ zd, (DataW.map es0).atKey kl zd = y.1 := by
  have hb1 : W1.heap[b]? = some (.map es clock) := (h1.block b (Array.getElem?_eq_some_iff.1 hb).1).trans hb
  rw [hx]
  rcases Maps.fit_look c K hu (hz W1) hb1 F hkey with ⟨h2, _, h3⟩ | ⟨e0, y, _, _, h2, h3, h4, _⟩
  · exact .inl ⟨h2, h3⟩
  · exact .inr ⟨e0.val, y, h2, h3, h4⟩
theorem key3 (k : Int) (h : I64 k) : keyOf Tryd.prog 3 (.int .i64 k) = some (.int .i64 k) := by
  have h3 := Tryd.underlying3
  have hw : (Lit.int .i64 k).wf = true := h
  simp [keyOf, mapKey, h3, hw]
theorem arity_at (k : Int) (z : DataW Unit) : Rows.laid_chalkline_formula_arity.atKey (.int .i64 k) z = (match Sp.arity k with | some m => .lit (.int .i64 m) | none => z) := by
  by_cases h : 1 ≤ k ∧ k ≤ 17
  · have : k = 1 ∨ k = 2 ∨ k = 3 ∨ k = 4 ∨ k = 5 ∨ k = 6 ∨ k = 7 ∨ k = 8 ∨ k = 9 ∨ k = 10 ∨ k = 11 ∨ k = 12 ∨ k = 13 ∨ k = 14 ∨ k = 15 ∨ k = 16 ∨ k = 17 := by omega
    rcases this with rfl | rfl | rfl | rfl | rfl | rfl | rfl | rfl | rfl | rfl | rfl | rfl | rfl | rfl | rfl | rfl | rfl <;> rfl
  · have ha : Sp.arity k = none := by unfold Sp.arity; rw [if_neg (by omega), if_neg (by omega), if_neg (by omega)]
    rw [ha]
    have hn : ∀ j : Int, 1 ≤ j → j ≤ 17 → (Lit.sameKey (.int .i64 j) (.int .i64 k)) = false := fun j h1 h2 => by
      simp [Lit.sameKey]; omega
    simp [Rows.laid_chalkline_formula_arity, DataW.atKey, List.find?, hn]
theorem dual_at (k : Int) : Rows.laid_chalkline_formula_duals.atKey (.int .i64 k) (.lit (.int .i64 0) : DataW Unit) = .lit (.int .i64 (dualOf k)) := by
  by_cases h : 1 ≤ k ∧ k ≤ 17
  · have : k = 1 ∨ k = 2 ∨ k = 3 ∨ k = 4 ∨ k = 5 ∨ k = 6 ∨ k = 7 ∨ k = 8 ∨ k = 9 ∨ k = 10 ∨ k = 11 ∨ k = 12 ∨ k = 13 ∨ k = 14 ∨ k = 15 ∨ k = 16 ∨ k = 17 := by omega
    rcases this with rfl | rfl | rfl | rfl | rfl | rfl | rfl | rfl | rfl | rfl | rfl | rfl | rfl | rfl | rfl | rfl | rfl <;> rfl
  · have ha : dualOf k = 0 := by
      unfold dualOf
      rw [if_neg (by omega), if_neg (by omega), if_neg (by omega), if_neg (by omega), if_neg (by omega), if_neg (by omega), if_neg (by omega), if_neg (by omega)]
    rw [ha]
    have hn : ∀ j : Int, 1 ≤ j → j ≤ 17 → (Lit.sameKey (.int .i64 j) (.int .i64 k)) = false := fun j h1 h2 => by
      simp [Lit.sameKey]; omega
    simp [Rows.laid_chalkline_formula_duals, DataW.atKey, List.find?, hn]
theorem atKey_none {es : List (Lit × DataW Unit)} {kl : Lit} {z : DataW Unit} (h : ∀ p ∈ es, p.1.sameKey kl = false) : (DataW.map es).atKey kl z = z := by
  have : es.find? (fun p => p.1.sameKey kl) = none := List.find?_eq_none.2 (fun p hp => by rw [h p hp]; simp)
  simp [DataW.atKey, this]
def reservedL : List (Lit × DataW Unit) := match (Rows.laid_chalkline_formula_reserved : DataW Unit) with | .map es => es | _ => []
def signsL : List (Lit × DataW Unit) := match (Rows.laid_chalkline_formula_signs : DataW Unit) with | .map es => es | _ => []
theorem reserved_at (l : List UInt8) : Rows.laid_chalkline_formula_reserved.atKey (.string l) (.lit (.bool false) : DataW Unit) = .lit (.bool (Sp.reserved.contains l)) := by
  by_cases hm : l ∈ Sp.reserved
  · have hc : Sp.reserved.contains l = true := by simpa using hm
    rw [hc]
    simp only [Sp.reserved, List.mem_cons, List.not_mem_nil, or_false] at hm
    rcases hm with rfl | rfl | rfl | rfl | rfl | rfl | rfl | rfl | rfl | rfl | rfl | rfl | rfl | rfl | rfl | rfl | rfl | rfl | rfl | rfl | rfl | rfl | rfl | rfl | rfl <;> rfl
  · have hc : Sp.reserved.contains l = false := by simpa using hm
    rw [hc]
    refine (atKey_none (es := reservedL) fun p hp => ?_)
    have hk : reservedL.all (fun p => match p.1 with | .string b => Sp.reserved.contains b | _ => false) = true := by decide +kernel
    have := List.all_eq_true.1 hk p hp
    obtain ⟨q, d⟩ := p
    cases q with
    | string b =>
      have hb : b ∈ Sp.reserved := by simpa using this
      simp only [Lit.sameKey]
      have hne : b ≠ l := fun e => hm (e ▸ hb)
      simpa using hne
    | _ => simp at this
theorem sign_at (s : ByteArray) : Rows.laid_chalkline_formula_signs.atKey (.string s.data.toList) (.lit (.string []) : DataW Unit) = .lit (.string (sign s).data.toList) := by
  unfold sign
  generalize s.data.toList = l
  by_cases hm : l ∈ [[61], [33, 61], [60], [62, 61], [60, 61], [62]]
  · simp only [List.mem_cons, List.not_mem_nil, or_false] at hm
    rcases hm with rfl | rfl | rfl | rfl | rfl | rfl <;> rfl
  · have hl : signs.lookup l = none := by
      simp only [List.mem_cons, List.not_mem_nil, or_false, not_or] at hm
      have hb : ∀ m : List UInt8, ¬ l = m → (l == m) = false := fun m h => by simpa using h
      obtain ⟨h1, h2, h3, h4, h5, h6⟩ := hm
      simp [signs, List.lookup_cons, hb _ h1, hb _ h2, hb _ h3, hb _ h4, hb _ h5, hb _ h6]
    rw [hl]
    refine (atKey_none (es := signsL) fun p hp => ?_)
    have hk : signsL.all (fun p => match p.1 with | .string b => ([[61], [33, 61], [60], [62, 61], [60, 61], [62]] : List (List UInt8)).contains b | _ => false) = true := by decide +kernel
    have := List.all_eq_true.1 hk p hp
    obtain ⟨q, d⟩ := p
    cases q with
    | string b =>
      have hb : b ∈ ([[61], [33, 61], [60], [62, 61], [60, 61], [62]] : List (List UInt8)) := List.contains_iff_mem.1 this
      simp only [Lit.sameKey]
      have hne : b ≠ l := fun e => hm (e ▸ hb)
      simpa using hne
    | _ => simp at this
theorem gArity : Tryd.prog.globalNamed "chalkline/formula.arity" = some 0 := by kernel_rfl
theorem gSigns : Tryd.prog.globalNamed "chalkline/formula.signs" = some 1 := by kernel_rfl
theorem gDuals : Tryd.prog.globalNamed "chalkline/formula.duals" = some 2 := by kernel_rfl
theorem gReserved : Tryd.prog.globalNamed "chalkline/formula.reserved" = some 5 := by kernel_rfl
theorem tArity : (Tryd.prog.globals[0]?).map (·.type) = some 85 := by kernel_rfl
theorem tSigns : (Tryd.prog.globals[1]?).map (·.type) = some 87 := by kernel_rfl
theorem tDuals : (Tryd.prog.globals[2]?).map (·.type) = some 85 := by kernel_rfl
theorem tReserved : (Tryd.prog.globals[5]?).map (·.type) = some 79 := by kernel_rfl
theorem zero3 (w : World) : (zeroValue 3).run Tryd.prog w = .ok (.int .i64 0) w := by kernel_rfl
theorem zero4 (w : World) : (zeroValue 4).run Tryd.prog w = .ok (.bool false) w := by kernel_rfl
theorem zero9 (w : World) : (zeroValue 9).run Tryd.prog w = .ok (.string ⟨#[]⟩) w := by kernel_rfl
theorem duals_laid {W : World} {laid : List (String × DataW Unit)} (h : laidMet Tryd.prog laid W) (hm : ("chalkline/formula.duals", Rows.laid_chalkline_formula_duals) ∈ laid) : Duals W := by
  obtain ⟨b, es, clock, m, hc, hb, F, hx⟩ := map_laid h hm gDuals tDuals Tryd.underlying85
  refine ⟨b, hc, fun W1 h1 k hk => ?_⟩
  have hd := dual_at k
  rcases look_laid (Maps.int_keyed Tryd.underlying3) Tryd.underlying85 hb F hx zero3 false (key3 k hk) W1 h1 with ⟨hr, hat⟩ | ⟨v, y, hr, hv, hat⟩
  · have := (hat (.lit (.int .i64 0))).symm.trans hd
    rw [hr]
    have e : (0 : Int) = dualOf k := by simpa using this
    rw [← e]; rfl
  · obtain ⟨r, rfl, rfl, _⟩ := elemAt_int Tryd.underlying3 hv
    have := (hat (.lit (.int .i64 0))).symm.trans hd
    have e : r = dualOf k := by simpa using this
    rw [hr, e]; rfl
theorem tabs_laid {W : World} {laid : List (String × DataW Unit)} (h : laidMet Tryd.prog laid W) (ha : ("chalkline/formula.arity", Rows.laid_chalkline_formula_arity) ∈ laid) (hs : ("chalkline/formula.signs", Rows.laid_chalkline_formula_signs) ∈ laid)
    (hr : ("chalkline/formula.reserved", Rows.laid_chalkline_formula_reserved) ∈ laid) : Tabs W := by
  refine ⟨?_, ?_, ?_⟩
  · obtain ⟨b, es, clock, m, hc, hb, F, hx⟩ := map_laid h ha gArity tArity Tryd.underlying85
    refine ⟨b, hc, fun W1 h1 k hk => ?_⟩
    rcases look_laid (Maps.int_keyed Tryd.underlying3) Tryd.underlying85 hb F hx zero3 true (key3 k hk) W1 h1 with ⟨hr, hat⟩ | ⟨v, y, hr, hv, hat⟩
    · have h1 := (hat .nil).symm.trans (arity_at k .nil)
      rw [hr]
      cases e : Sp.arity k with
      | none => rfl
      | some m => rw [e] at h1; cases h1
    · obtain ⟨r, rfl, rfl, _⟩ := elemAt_int Tryd.underlying3 hv
      have h1 := (hat .nil).symm.trans (arity_at k .nil)
      rw [hr]
      cases e : Sp.arity k with
      | none => rw [e] at h1; cases h1
      | some m =>
        rw [e] at h1
        have : r = m := by simpa using h1
        subst this
        rfl
  · obtain ⟨b, es, clock, m, hc, hb, F, hx⟩ := map_laid h hs gSigns tSigns Tryd.underlying87
    refine ⟨b, hc, fun W1 h1 s hs => ?_⟩
    have hd := sign_at s
    rcases look_laid keyed9 Tryd.underlying87 hb F hx zero9 false (key9 s hs) W1 h1 with ⟨hr, hat⟩ | ⟨v, y, hr, hv, hat⟩
    · have := (hat (.lit (.string []))).symm.trans hd
      have e : ([] : List UInt8) = (sign s).data.toList := by simpa using this
      rw [hr]
      have e2 : sign s = ⟨#[]⟩ := by
        generalize sign s = u at e
        obtain ⟨⟨l⟩⟩ := u
        have : [] = l := e
        subst this; rfl
      rw [e2]; rfl
    · obtain ⟨r, rfl, rfl, _⟩ := Go.WideElems.elemAt_string Tryd.underlying9 hv
      have := (hat (.lit (.string []))).symm.trans hd
      have e : r.data.toList = (sign s).data.toList := by simpa using this
      have e2 : r = sign s := by
        generalize sign s = u at e
        obtain ⟨⟨l⟩⟩ := u
        obtain ⟨⟨l'⟩⟩ := r
        have : l' = l := e
        subst this; rfl
      rw [hr, e2]; rfl
  · obtain ⟨b, es, clock, m, hc, hb, F, hx⟩ := map_laid h hr gReserved tReserved Tryd.underlying79
    refine ⟨b, hc, fun W1 h1 s hs => ?_⟩
    have hd := reserved_at s.data.toList
    rcases look_laid keyed9 Tryd.underlying79 hb F hx zero4 false (key9 s hs) W1 h1 with ⟨hr, hat⟩ | ⟨v, y, hr, hv, hat⟩
    · have := (hat (.lit (.bool false))).symm.trans hd
      have e : false = Sp.reserved.contains s.data.toList := by simpa using this
      rw [hr, ← e]; rfl
    · obtain ⟨r, rfl, rfl⟩ := elemAt_bool Tryd.underlying4 hv
      have := (hat (.lit (.bool false))).symm.trans hd
      have e : r = Sp.reserved.contains s.data.toList := by simpa using this
      rw [hr, e]; rfl
end Go.Proofs.YtmlcaecknocpoaaDoor.It
namespace Go.Proofs.YtmlcaecknocpoaaDoor.Wt
set_option linter.unusedVariables false
set_option linter.unusedSimpArgs false
open Go Go.ChangeShapes Go.WideShapes Go.ChangeAt Go.RowKit
def firstCells : Array Value := match Go.Pinned.utf8First with
  | .agg l => (l.map fun d => match d with | .lit (.int k n) => Value.int k n | _ => undef).toArray
  | _ => #[]
noncomputable def world (os : Os) : World :=
  { World.doorLaid Tryd.prog 341 os with heap := (World.doorLaid Tryd.prog 341 os).heap.modify 6 fun
      | .cells _ t frozen => .cells firstCells t frozen
      | o => o }
def zero26 : Value := .agg #[.int .i64 0, .string ByteArray.empty, .int .i64 0, .slice none 0 0, .slice none 0 0, .slice none 0 0]
end Go.Proofs.YtmlcaecknocpoaaDoor.Wt
namespace Go.Proofs.YtmlcaecknocpoaaDoor.It
set_option linter.unusedVariables false
set_option linter.unusedSimpArgs false
open Go Go.ChangeShapes Go.WideShapes Go.ChangeAt Go.RowKit
theorem own : ownKnob Tryd.prog.godebug = none := by kernel_rfl
theorem laidOut : laidOutB Tryd.prog = true := by kernel_rfl
set_option maxRecDepth 100000 in
theorem trod_val {H : Type} {enc : TypeId × Value → H} {W : World} {base : Nat} {v : Value} {d : DataW H} {p : List MemPlace} (hv : Value.okWide Tryd.prog W .any base 26 v) (h : DataW.Trod enc Tryd.prog W 0 (fun _ => true) true 26 v d p) (hd : Rows.uptoBulk d ≤ 1048576) :
    ∃ (x : Pr.S26) (A3 : Option Addr) (c3 : Nat) (A4 : Option Addr) (c4 : Nat) (A5 : Option Addr) (c5 : Nat), v = .agg #[.int .i64 x.f0, .string x.f1, .int .i64 x.f2, .slice A3 x.f3.length c3, .slice A4 x.f4.length c4, .slice A5 x.f5.length c5] ∧ Arg W x A3 c3 A4 c4 A5 c5 := by
  obtain ⟨cs, rfl, hsz⟩ := okWide_struct Tryd.underlying26 hv
  obtain ⟨fuel, hf⟩ := h
  obtain ⟨x, A3, c3, A4, c4, A5, c5, he, hat, hdp, hw⟩ := read26 (Rows.uptoBulk d) fuel _ (d, p) (Nat.le_refl _) hf
  obtain ⟨l⟩ := cs
  have he' : l = [.int .i64 x.f0, .string x.f1, .int .i64 x.f2, .slice A3 x.f3.length c3, .slice A4 x.f4.length c4, .slice A5 x.f5.length c5] := by simpa [Value.cells] using he
  subst he'
  exact ⟨x, A3, c3, A4, c4, A5, c5, rfl, hat, hdp, Nat.le_trans hw hd⟩
structure ArgT (t : Pr.S47) : Prop where
  nm : t.f1.size ≤ 1048576
  k : I64 t.f0
  n : I64 t.f2
set_option maxRecDepth 100000 in
theorem trod_val47 {H : Type} {enc : TypeId × Value → H} {W : World} {base : Nat} {v : Value} {d : DataW H} {p : List MemPlace} (hv : Value.okWide Tryd.prog W .any base 47 v) (h : DataW.Trod enc Tryd.prog W 0 (fun _ => true) true 47 v d p) (hd : Rows.uptoBulk d ≤ 1048576) :
    ∃ t : Pr.S47, v = .agg #[.int .i64 t.f0, .string t.f1, .int .i64 t.f2] ∧ ArgT t := by
  obtain ⟨cs, rfl, hsz⟩ := okWide_struct Tryd.underlying47 hv
  obtain ⟨fuel, hf⟩ := h
  obtain ⟨x, he, ⟨h1, h2, h3⟩, hw⟩ := read47 hf
  obtain ⟨l⟩ := cs
  have he' : l = [.int .i64 x.f0, .string x.f1, .int .i64 x.f2] := by simpa [Value.cells] using he
  subst he'
  have h4 : Rows.uptoBulk (d, p).1 = Rows.uptoBulk d := rfl
  exact ⟨x, rfl, by omega, h2, h3⟩
end Go.Proofs.YtmlcaecknocpoaaDoor.It
namespace Go.Proofs.YtmlcaecknocpoaaDoor.It
open Go Go.ChangeShapes Go.WideShapes Go.ChangeAt Go.RowKit
set_option maxRecDepth 100000 in
theorem trod_val2 {H : Type} {enc : TypeId × Value → H} {W : World} {base : Nat} {v : Value} {d : DataW H} {p : List MemPlace} (hv : Value.okWide Tryd.prog W .any base 26 v) (h : DataW.Trod enc Tryd.prog W 0 (fun _ => true) true 26 v d p) (hd : Rows.uptoBulk d ≤ 1048576) :
    ∃ (x : Pr.S26) (A3 : Option Addr) (c3 : Nat) (A4 : Option Addr) (c4 : Nat) (A5 : Option Addr) (c5 : Nat), v = .agg #[.int .i64 x.f0, .string x.f1, .int .i64 x.f2, .slice A3 x.f3.length c3, .slice A4 x.f4.length c4, .slice A5 x.f5.length c5] ∧ Arg W x A3 c3 A4 c4 A5 c5 ∧ wt26 x ≤ Rows.uptoBulk d := by
  obtain ⟨cs, rfl, hsz⟩ := okWide_struct Tryd.underlying26 hv
  obtain ⟨fuel, hf⟩ := h
  obtain ⟨x, A3, c3, A4, c4, A5, c5, he, hat, hdp, hw⟩ := read26 (Rows.uptoBulk d) fuel _ (d, p) (Nat.le_refl _) hf
  obtain ⟨l⟩ := cs
  have he' : l = [.int .i64 x.f0, .string x.f1, .int .i64 x.f2, .slice A3 x.f3.length c3, .slice A4 x.f4.length c4, .slice A5 x.f5.length c5] := by simpa [Value.cells] using he
  subst he'
  exact ⟨x, A3, c3, A4, c4, A5, c5, rfl, ⟨hat, hdp, Nat.le_trans hw hd⟩, hw⟩
end Go.Proofs.YtmlcaecknocpoaaDoor.It
