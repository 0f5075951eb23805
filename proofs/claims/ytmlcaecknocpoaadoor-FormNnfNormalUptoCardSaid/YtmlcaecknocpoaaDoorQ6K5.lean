/- Lemmas and walks for the claim below. -/
import Derived.Test.YtmlcaecknocpoaaDoorQ6K4
namespace Go.Proofs.YtmlcaecknocpoaaDoor.Pr
open Go.RowKit Go.Proofs.YtmlcaecknocpoaaDoorW.PrintWords Go.Proofs.YtmlcaecknocpoaaDoorW.PrintLast Go.Proofs.YtmlcaecknocpoaaDoorW.PrintMore
attribute [local go_sem] max2_int min2_int max_two min_two max_three min_three max_four min_four   
set_option linter.unusedVariables false
set_option linter.unusedSimpArgs false
def chalklineref06_Few.f (k : Nat) (a0_0 : Int) (a0_1 : ByteArray) (a0_2 : Int) (l0_3 : List (S47)) (l0_4 : List (S42)) (l0_5 : List (S26)) : Option (Bool) := (chalklineref06_Weigh.f k a0_0 a0_1 a0_2 l0_3 l0_4 l0_5 3000).bind fun t107 => (some (decide (t107 ≤ 3000)))
set_option maxHeartbeats 8000000 in
set_option maxRecDepth 100000 in
theorem chalklineref06_Few.calls (k : Nat) (a0_0 : Int) (a0_1 : ByteArray) (a0_2 : Int) (A0_3 : Option Addr) (c0_3 : Nat) (l0_3 : List (S47)) (A0_4 : Option Addr) (c0_4 : Nat) (l0_4 : List (S42)) (A0_5 : Option Addr) (c0_5 : Nat) (l0_5 : List (S26)) (r : Bool) (w : World) (hr0_3 : Kd.C k47 w A0_3 l0_3.length l0_3) (hc0_3 : l0_3.length ≤ c0_3) (hr0_4 : Kd.C k42 w A0_4 l0_4.length l0_4) (hc0_4 : l0_4.length ≤ c0_4) (hr0_5 : Kd.C k26 w A0_5 l0_5.length l0_5) (hc0_5 : l0_5.length ≤ c0_5) (h : chalklineref06_Few.f k a0_0 a0_1 a0_2 l0_3 l0_4 l0_5 = some r) :
    Calls Tryd.prog 21 #[.agg #[.int .i64 a0_0, .string a0_1, .int .i64 a0_2, .slice A0_3 l0_3.length c0_3, .slice A0_4 l0_4.length c0_4, .slice A0_5 l0_5.length c0_5]] w fun e w' => e = .returned (.bool r) ∧ Below w.heap.size w w' := by
  have hu26 := Tryd.underlying26
  have HR0_3 := Aside0.mk hr0_3
  have HC0_3 := Aside0.mk hc0_3
  clear hr0_3 hc0_3
  have HR0_4 := Aside0.mk hr0_4
  have HC0_4 := Aside0.mk hc0_4
  clear hr0_4 hc0_4
  have HR0_5 := Aside0.mk hr0_5
  have HC0_5 := Aside0.mk hc0_5
  clear hr0_5 hc0_5
  have HB := Aside0.mk (Below.refl w.heap.size w)
  have H : ((chalklineref06_Weigh.f k a0_0 a0_1 a0_2 l0_3 l0_4 l0_5 3000).bind fun t107 => (some (decide (t107 ≤ 3000)))) = some r := h
  clear h
  replace H := Option.bind_eq_some_iff.mp H
  obtain ⟨t107, A20, H⟩ := H
  replace H : (some (decide (t107 ≤ 3000))) = some r := H
  have A2 := Aside0.mk A20
  clear A20
  obtain rfl := Option.some.inj H
  go_enter Tryd.func21, Tryd.ntmps21
  go_wp2_with (first | ((with_reducible refine gate_dst (N := 1) rfl ?_); refine box_event ?hg (N := 1) ?hd (cs := #[.int .i64 a0_0, .string a0_1, .int .i64 a0_2, .slice A0_3 l0_3.length c0_3, .slice A0_4 l0_4.length c0_4, .slice A0_5 l0_5.length c0_5]) (t := 26) ?hr ?_; (case hd => rfl); (case hg => rfl); (case hr => first | (go_simp; done) | (go_simp; rfl)); intro gb106 hg w3 hbox hb; have n0_ := Aside0.mk (below_step (by repeat (first | (with_reducible first | exact HB.out | apply below_alloc | apply pw_below_drewN | apply below_drew1) | exact HB.out)) hb); have n1_ := Aside0.mk (hbox); have n2_ := Aside0.mk ((by rw [hg]; exact (below_size (by repeat (first | (with_reducible first | exact HB.out | apply below_alloc | apply pw_below_drewN | apply below_drew1) | exact HB.out))) : w.heap.size ≤ gb106)); have n3_ := Aside0.mk ((by rw [hg]; exact (below_size (by repeat (first | (with_reducible first | exact HB.out | apply below_alloc | apply pw_below_drewN | apply below_drew1) | exact HB.out))) : w.heap.size ≤ gb106)); clear HB; have HB := n0_; have BK106 := n1_; have GW106 := n2_; have GE106 := n3_; clear n0_ n1_ n2_ n3_; clear hb hbox hg; have hcz4_0 : w3.cell? ⟨gb106, 0, none⟩ = some (.int .i64 a0_0) := (blk_cell BK106.out 0).trans rfl; have hcz4_1 : w3.cell? ⟨gb106, 1, none⟩ = some (.string a0_1) := (blk_cell BK106.out 1).trans rfl; have hcz4_2 : w3.cell? ⟨gb106, 2, none⟩ = some (.int .i64 a0_2) := (blk_cell BK106.out 2).trans rfl; have hcz4_3 : w3.cell? ⟨gb106, 3, none⟩ = some (.slice A0_3 l0_3.length c0_3) := (blk_cell BK106.out 3).trans rfl; have hcz4_4 : w3.cell? ⟨gb106, 4, none⟩ = some (.slice A0_4 l0_4.length c0_4) := (blk_cell BK106.out 4).trans rfl; have hcz4_5 : w3.cell? ⟨gb106, 5, none⟩ = some (.slice A0_5 l0_5.length c0_5) := (blk_cell BK106.out 5).trans rfl; have hfz4_0 := blk_frozen BK106.out 0; have hfz4_1 := blk_frozen BK106.out 1; have hfz4_2 := blk_frozen BK106.out 2; have hfz4_3 := blk_frozen BK106.out 3; have hfz4_4 := blk_frozen BK106.out 4; have hfz4_5 := blk_frozen BK106.out 5) | ((with_reducible refine gate_callee (f := 51) rfl ?_); refine goesL_ (some 4) rfl rfl Tryd.func51 (by kernel_rfl) rfl #[.agg #[.int .i64 a0_0, .string a0_1, .int .i64 a0_2, .slice A0_3 l0_3.length c0_3, .slice A0_4 l0_4.length c0_4, .slice A0_5 l0_5.length c0_5], .int .i64 3000] rfl (by (try simp only [List.map_toArray, List.map_cons, List.map_nil]); first | done | rfl | (simp only [List.length_drop, List.length_take]; rfl)) ?_; (with_reducible refine (chalklineref06_Weigh.calls k a0_0 a0_1 a0_2 _ _ l0_3 _ _ l0_4 _ _ l0_5 3000 t107 _ ?side1 ?side2 ?side3 ?side4 ?side5 ?side6 A2.out).mono ?_); (case side1 => repeat (first | exact (Kd.C_below HR0_3.out HB.out) | (with_reducible refine Kd.C_alloc ?_ _) | (with_reducible refine Kd.C_drewN ?_ _) | (with_reducible refine Kd.C_drew ?_))); (case side2 => exact HC0_3.out); (case side3 => repeat (first | exact (Kd.C_below HR0_4.out HB.out) | (with_reducible refine Kd.C_alloc ?_ _) | (with_reducible refine Kd.C_drewN ?_ _) | (with_reducible refine Kd.C_drew ?_))); (case side4 => exact HC0_4.out); (case side5 => repeat (first | exact (Kd.C_below HR0_5.out HB.out) | (with_reducible refine Kd.C_alloc ?_ _) | (with_reducible refine Kd.C_drewN ?_ _) | (with_reducible refine Kd.C_drew ?_))); (case side6 => exact HC0_5.out); rintro e w5 ⟨rfl, hb⟩; refine ⟨_, rfl, ?_⟩; have n0_ := Aside0.mk (blk_below (g := gb106) (o := .cells #[.int .i64 a0_0, .string a0_1, .int .i64 a0_2, .slice A0_3 l0_3.length c0_3, .slice A0_4 l0_4.length c0_4, .slice A0_5 l0_5.length c0_5] 26 (0, 0)) (by (with_reducible repeat (first | refine blk_drewN ?_ _ | refine blk_drew ?_ | refine blk_alloc ?_ _)); exact BK106.out) hb); have n1_ := Aside0.mk (below_step (by repeat (first | (with_reducible first | exact HB.out | apply below_alloc | apply pw_below_drewN | apply below_drew1 | refine below_set ?_ GE106.out) | exact HB.out)) hb); clear BK106; clear HB; have BK106 := n0_; have HB := n1_; clear n0_ n1_; (try clear hb); (try clear hb2); (try clear hk); (try clear hi)))
  go_ret
  exact ⟨by first | rfl | (simp [errW_none, errW_some] <;> rfl) | (simp [*, errW_none, errW_some] <;> rfl), by repeat (first | (with_reducible first | exact HB.out | apply below_alloc | apply pw_below_drewN | apply below_drew1 | refine below_set ?_ GE106.out) | exact HB.out)⟩
end Go.Proofs.YtmlcaecknocpoaaDoor.Pr
namespace Go.Proofs.YtmlcaecknocpoaaDoor.It
set_option linter.unusedVariables false
set_option linter.unusedSimpArgs false
open Go Go.RowKit Go.Shelf Go.Proofs.YtmlcaecknocpoaaDoorW.PrintWords Go.Proofs.YtmlcaecknocpoaaDoorW.PrintLast Go.Proofs.YtmlcaecknocpoaaDoor.Pr Go.Proofs.YtmlcaecknocpoaaDoor.Sp
theorem among_ev (l : List ByteArray) (s : ByteArray) (hl : l.length ≤ 9223372036854775807) : Ev (fun k => chalklineref06_Among.f k l s) (among l s) := by
  have loop : ∀ d j : Nat, j + d = l.length → Ev (fun k => chalklineref06_Among.l0 k l s (j : Int)) (among (l.drop j) s) := by
    intro d
    induction d with
    | zero =>
      intro j hj
      refine Ev.step (f := fun _ => some false) (fun k => ?_) (Ev.val (by rw [List.drop_of_length_le (by omega)]; rfl))
      simp only [chalklineref06_Among.l0]
      rw [if_neg (by omega)]
    | succ d ih =>
      intro j hj
      have hlt : j < l.length := by omega
      rw [drop_cons l ByteArray.empty j hlt]
      by_cases e : l.getD j ByteArray.empty = s
      · refine Ev.step (f := fun _ => some true) (fun k => ?_) (Ev.val (by simp only [among, List.any_cons, decide_eq_true e, Bool.true_or]))
        simp only [chalklineref06_Among.l0]
        rw [if_pos (by omega), if_pos (by omega), if_pos (by rw [rdS, e])]
      · refine Ev.step (f := fun k => chalklineref06_Among.l0 k l s ((j + 1 : Nat) : Int)) (fun k => ?_) ?_
        · simp only [chalklineref06_Among.l0]
          rw [if_pos (by omega), if_pos (by omega), if_neg (by rw [rdS, toList_inj]; exact e), wrap_one j (by omega)]
        · have : among (l.getD j ByteArray.empty :: l.drop (j + 1)) s = among (l.drop (j + 1)) s := by simp only [among, List.any_cons, decide_eq_false e, Bool.false_or]
          rw [this]
          exact ih (j + 1) (by omega)
  exact loop l.length 0 (by omega)
theorem free_length (x : S26) : (free x).length ≤ nt x := by
  have h := gath_length [] [] x
  rw [free_gath] at h
  simpa using h
theorem normal_ev (s : Nat) : ∀ x : S26, size x ≤ s → size x ≤ 4611686018427387904 → Ev (fun k => chalklinelaw06_normal.f k x.f0 x.f1 x.f2 x.f3 x.f4 x.f5) (normal x) := by
  induction s with
  | zero => intro x h; rw [size_eq] at h; omega
  | succ s ih =>
    rintro ⟨k, nm, n, ts, bs, l⟩ hs hb
    simp only [size] at hs hb
    have hlen := len_sizes l
    have loop : ∀ d j : Nat, j + d = l.length → Ev (fun K => chalklinelaw06_normal.l0 K (j : Int) k nm n ts bs l) (normals (l.drop j) && (if k = 10 then Sp.lone l else decide (k ≠ 13) && (decide (k ≠ 16) || decide (0 < n)) && (decide (k ≠ 17) || decide (n < most)))) := by
      intro d
      induction d with
      | zero =>
        intro j hj
        refine Ev.step (f := fun _ => some (if k = 10 then Sp.lone l else decide (k ≠ 13) && (decide (k ≠ 16) || decide (0 < n)) && (decide (k ≠ 17) || decide (n < most)))) (fun K => ?_) (Ev.val (by rw [List.drop_of_length_le (by omega)]; simp [normals]))
        simp only [chalklinelaw06_normal.l0]
        rw [if_neg (by omega)]
        by_cases c1 : k = 10
        · rw [if_pos c1, if_pos c1]
          rcases l with _ | ⟨y, _ | ⟨z, l⟩⟩
          · rfl
          · rw [if_pos (by simp), if_pos (by simp)]
            have e : rd_T26 [y] 0 = y := rfl
            rw [e, Sp.lone]
            by_cases c2 : y.f0 ≥ 3
            · rw [if_pos c2, decide_eq_true (show 3 ≤ y.f0 from c2), Bool.true_and]
            · rw [if_neg c2, decide_eq_false (show ¬ 3 ≤ y.f0 from c2), Bool.false_and]
          · rw [if_neg (by simp; omega)]; rfl
        · rw [if_neg c1, if_neg c1]
          by_cases c2 : k = 13
          · simp [c2]
          · by_cases c3 : k = 16
            · subst c3
              by_cases c4 : n > 0 <;> simp [c4]
            · by_cases c4 : k = 17
              · subst c4
                rw [show (1099511627776 : Int) = most from rfl]
                simp
              · simp [c2, c3, c4]
      | succ d ihd =>
        intro j hj
        have hlt : j < l.length := by omega
        have hc := size_child l j hlt
        rw [drop_rd l j hlt, normals]
        refine Ev.step (f := fun K => (chalklinelaw06_normal.f K (rd_T26 l (j : Int)).f0 (rd_T26 l (j : Int)).f1 (rd_T26 l (j : Int)).f2 (rd_T26 l (j : Int)).f3 (rd_T26 l (j : Int)).f4 (rd_T26 l (j : Int)).f5).bind fun t181 => if t181 = true then chalklinelaw06_normal.l0 K ((j + 1 : Nat) : Int) k nm n ts bs l else some false) (fun K => ?_) (Ev.bind (ih _ (by omega) (by omega)) ?_)
        · simp only [chalklinelaw06_normal.l0]
          rw [if_pos (by omega), if_pos (by omega), wrap_one j (by omega)]
        · cases normal (rd_T26 l j) with
          | false => exact Ev.val rfl
          | true => exact Ev.congr (fun K => if_pos rfl) (by simpa using ihd (j + 1) (by omega))
    refine Ev.step (f := fun K => chalklinelaw06_normal.l0 K 0 k nm n ts bs l) (fun K => rfl) ?_
    rw [normal]
    exact loop l.length 0 (by omega)
theorem weigh_ev (s : Nat) (b : Int) : ∀ x : S26, size x ≤ s → size x ≤ 4611686018427387904 → NmOk x → ∃ r : Int, Ev (fun k => chalklineref06_Weigh.f k x.f0 x.f1 x.f2 x.f3 x.f4 x.f5 b) r := by
  induction s with
  | zero => intro x h; rw [size_eq] at h; omega
  | succ s ih =>
    rintro ⟨k, nm, n, ts, bs, l⟩ hs hb hn
    simp only [size] at hs hb
    have hlen := len_sizes l
    have hln := hn.self.2.2
    dsimp only at hln
    have l2 : ∀ d j : Nat, j + d = l.length → ∀ a : Int, ∃ r, Ev (fun K => chalklineref06_Weigh.l2 K b a (j : Int) k nm n ts bs l) r := by
      intro d
      induction d with
      | zero =>
        intro j hj a
        refine ⟨a, Ev.step (f := fun _ => some a) (fun K => ?_) (Ev.now _)⟩
        simp only [chalklineref06_Weigh.l2]
        rw [if_neg (by omega)]
      | succ d ihd =>
        intro j hj a
        have hlt : j < l.length := by omega
        have hc := size_child l j hlt
        by_cases hle : a ≤ b
        · obtain ⟨r1, h1⟩ := ih (rd_T26 l j) (by omega) (by omega) (hn.child j hlt)
          obtain ⟨r2, h2⟩ := ihd (j + 1) (by omega) (wrap64 (a + r1))
          refine ⟨r2, Ev.step (f := fun K => (chalklineref06_Weigh.f K (rd_T26 l (j : Int)).f0 (rd_T26 l (j : Int)).f1 (rd_T26 l (j : Int)).f2 (rd_T26 l (j : Int)).f3 (rd_T26 l (j : Int)).f4 (rd_T26 l (j : Int)).f5 b).bind fun t => chalklineref06_Weigh.l2 K b (wrap64 (a + t)) ((j + 1 : Nat) : Int) k nm n ts bs l) (fun K => ?_) (Ev.bind h1 h2)⟩
          simp only [chalklineref06_Weigh.l2]
          rw [if_pos (by omega), if_pos hle, if_pos (by omega), wrap_one j (by omega)]
        · refine ⟨a, Ev.step (f := fun _ => some a) (fun K => ?_) (Ev.now _)⟩
          simp only [chalklineref06_Weigh.l2]
          rw [if_pos (by omega), if_neg hle]
    have j3 : ∀ a : Int, ∃ r, Ev (fun K => chalklineref06_Weigh.j3 K b a k nm n ts bs l) r := fun a => by
      obtain ⟨r, h⟩ := l2 l.length 0 (by omega) a
      exact ⟨r, Ev.step (f := fun K => chalklineref06_Weigh.l2 K b a 0 k nm n ts bs l) (fun K => rfl) h⟩
    have l1 : ∀ d j : Nat, j + d = bs.length → ∀ a : Int, ∃ r, Ev (fun K => chalklineref06_Weigh.l1 K b a (j : Int) k nm n ts bs l) r := by
      intro d
      induction d with
      | zero =>
        intro j hj a
        obtain ⟨r, h⟩ := j3 a
        refine ⟨r, Ev.step (f := fun K => chalklineref06_Weigh.j3 K b a k nm n ts bs l) (fun K => ?_) h⟩
        simp only [chalklineref06_Weigh.l1]
        rw [if_neg (by omega)]
      | succ d ihd =>
        intro j hj a
        by_cases hle : a ≤ b
        · obtain ⟨r, h⟩ := ihd (j + 1) (by omega) (wrap64 (a + ((rd_T42 bs (j : Int)).f0.size : Int)))
          refine ⟨r, Ev.step (f := fun K => chalklineref06_Weigh.l1 K b (wrap64 (a + ((rd_T42 bs (j : Int)).f0.size : Int))) ((j + 1 : Nat) : Int) k nm n ts bs l) (fun K => ?_) h⟩
          simp only [chalklineref06_Weigh.l1]
          rw [if_pos (by omega), if_pos hle, if_pos (by omega), wrap_one j (by omega)]
        · obtain ⟨r, h⟩ := j3 a
          refine ⟨r, Ev.step (f := fun K => chalklineref06_Weigh.j3 K b a k nm n ts bs l) (fun K => ?_) h⟩
          simp only [chalklineref06_Weigh.l1]
          rw [if_pos (by omega), if_neg hle]
    have j1 : ∀ a : Int, ∃ r, Ev (fun K => chalklineref06_Weigh.j1 K b a k nm n ts bs l) r := fun a => by
      obtain ⟨r, h⟩ := l1 bs.length 0 (by omega) a
      exact ⟨r, Ev.step (f := fun K => chalklineref06_Weigh.l1 K b a 0 k nm n ts bs l) (fun K => rfl) h⟩
    have l0 : ∀ d j : Nat, j + d = ts.length → ∀ a : Int, ∃ r, Ev (fun K => chalklineref06_Weigh.l0 K b a (j : Int) k nm n ts bs l) r := by
      intro d
      induction d with
      | zero =>
        intro j hj a
        obtain ⟨r, h⟩ := j1 a
        refine ⟨r, Ev.step (f := fun K => chalklineref06_Weigh.j1 K b a k nm n ts bs l) (fun K => ?_) h⟩
        simp only [chalklineref06_Weigh.l0]
        rw [if_neg (by omega)]
      | succ d ihd =>
        intro j hj a
        by_cases hle : a ≤ b
        · obtain ⟨r, h⟩ := ihd (j + 1) (by omega) (wrap64 (a + ((rd_T47 ts (j : Int)).f1.size : Int)))
          refine ⟨r, Ev.step (f := fun K => chalklineref06_Weigh.l0 K b (wrap64 (a + ((rd_T47 ts (j : Int)).f1.size : Int))) ((j + 1 : Nat) : Int) k nm n ts bs l) (fun K => ?_) h⟩
          simp only [chalklineref06_Weigh.l0]
          rw [if_pos (by omega), if_pos hle, if_pos (by omega), wrap_one j (by omega)]
        · obtain ⟨r, h⟩ := j1 a
          refine ⟨r, Ev.step (f := fun K => chalklineref06_Weigh.j1 K b a k nm n ts bs l) (fun K => ?_) h⟩
          simp only [chalklineref06_Weigh.l0]
          rw [if_pos (by omega), if_neg hle]
    obtain ⟨r, h⟩ := l0 ts.length 0 (by omega) (wrap64 (wrap64 (wrap64 (1 + (nm.size : Int)) + (ts.length : Int)) + (bs.length : Int)))
    exact ⟨r, Ev.step (f := fun K => chalklineref06_Weigh.l0 K b (wrap64 (wrap64 (wrap64 (1 + (nm.size : Int)) + (ts.length : Int)) + (bs.length : Int))) 0 k nm n ts bs l) (fun K => rfl) h⟩
theorem few_ev (x : S26) (hs : size x ≤ 4611686018427387904) (hn : NmOk x) : ∃ r : Bool, Ev (fun k => chalklineref06_Few.f k x.f0 x.f1 x.f2 x.f3 x.f4 x.f5) r := by
  obtain ⟨r, h⟩ := weigh_ev (size x) 3000 x (Nat.le_refl _) hs hn
  exact ⟨decide (r ≤ 3000), Ev.bind h (Ev.now _)⟩
end Go.Proofs.YtmlcaecknocpoaaDoor.It
namespace Go.Proofs.YtmlcaecknocpoaaDoor.It
open Go Go.RowKit Go.Shelf Go.Proofs.YtmlcaecknocpoaaDoorW.PrintWords Go.Proofs.YtmlcaecknocpoaaDoorW.PrintLast Go.Proofs.YtmlcaecknocpoaaDoor.Pr Go.Proofs.YtmlcaecknocpoaaDoor.Sp
attribute [local go_sem ↓] Go.wp_at_zero Go.wp_at_succ
set_option maxRecDepth 100000 in
set_option maxHeartbeats 8000000 in
theorem right_gen (s : Nat) (hS : RightOk s) (k : Int) (nm : ByteArray) (n : Int) (ts : List S47) (bs : List S42) (l : List S26) (A3 : Option Addr) (c3 : Nat) (A4 : Option Addr) (c4 : Nat) (A5 : Option Addr) (c5 : Nat) (w0 W : World)
    (hs : sizes l ≤ s) (hat : At w0 ⟨k, nm, n, ts, bs, l⟩ A3 c3 A4 c4 A5 c5) (hf : forms l = true) (hdp : ∀ y ∈ l, Deep y) (ht : Tabs w0) (hd : Duals w0) (hb : Below w0.heap.size w0 W)
    (hts : ts.length ≤ 2) (hbs : bs.length ≤ 6) (hl : l.length ≤ 2) (ha : always k n = false) (h2 : k ≠ 2) (h10 : k ≠ 10) (h13 : k ≠ 13) (tn : Bool) (h9 : atom k = true → tn = true → k = 9) (hk : I64 k) (hnm : nm.size ≤ 9223372036854775807) (hn1 : k = 16 → 1 ≤ n ∧ n ≤ 1099511627776) (k1 : Int) (nm1 : ByteArray) (n1 : Int) (hk1 : k1 = (if tn = true ∧ k ≠ 9 then dualOf k else k)) (hnm1 : nm1 = (if tn = true ∧ k = 9 then sign nm else nm)) (hn1_ : n1 = (if tn = true ∧ k = 16 then n - 1 else if tn = true ∧ k = 17 then n + 1 else n)) (hn2 : k = 17 → 0 ≤ n ∧ n < 1099511627776) :
    Calls Tryd.prog 60 #[.agg #[.int .i64 k, .string nm, .int .i64 n, .slice A3 ts.length c3, .slice A4 bs.length c4, .slice A5 l.length c5], .bool tn] W fun e w' => ∃ B3 d3 B4 d4 B5 d5,
      e = .returned (.agg #[.int .i64 k1, .string nm1, .int .i64 n1, .slice B3 ts.length d3, .slice B4 bs.length d4, .slice B5 (rights l (tn && !counts k)).length d5]) ∧
      Below W.heap.size W w' ∧ Lies (fun k => k < w0.heap.size ∨ W.heap.size ≤ k) w' ⟨k1, nm1, n1, ts, bs, rights l (tn && !counts k)⟩ B3 d3 B4 d4 B5 d5 := by
  have hu26 := Tryd.underlying26
  have HK := Aside0.mk (And.intro hk1 (And.intro hnm1 (And.intro hn1_ (And.intro hn1 (And.intro hn2 (And.intro hk (And.intro hnm h9)))))))
  clear hk1 hnm1 hn1_ hn1 hn2 hk hnm h9
  have HB := Aside0.mk hb
  have HA := Aside0.mk (fun W1 (h1 : Below w0.heap.size w0 W1) => always_calls ⟨k, nm, n, ts, bs, l⟩ A3 c3 A4 c4 A5 c5 W1 (hat.below h1))
  have H := Aside0.mk (And.intro hat (And.intro hS (And.intro hs (And.intro hf hdp))))
  have HT := Aside0.mk (And.intro ht hd)
  rw [ha] at HA
  clear hat hS hs hf hdp ht hd hb ha
  have T0 := Aside0.mk (Two.start HB.out k nm n ts bs l A3 c3 A4 c4 A5 c5)
  go_enter Tryd.func60, Tryd.ntmps60
  go_upto_region 12 with (first
    | (go_at_call 93; refine (HA.out _ T0.out.h0).mono ?_; rintro e w1 ⟨rfl, g1⟩; have T1 := Aside0.mk (T0.out.below g1); clear T0 g1; obtain ⟨p0, p1, p2, p3, p4, p5⟩ := six T1.out.a; have ps := T1.out.s)
    | (go_at_call 93; refine (HA.out _ T1.out.h0).mono ?_; rintro e w2 ⟨rfl, g2⟩; have T2 := Aside0.mk (T1.out.below g2); clear T1 g2 p0 p1 p2 p3 p4 p5 ps; obtain ⟨q0, q1, q2, q3, q4, q5⟩ := six T2.out.a; have qs := T2.out.s))
  go_cut [25, 34, 45, 67] (fun _ _ _ s67 wx => s67 = .bool false ∧ wx = w2)
  case first =>
    cases tn
    · go_wp2_with (go_at_call 80; refine (atom_calls _ _).mono ?_; rintro e w3 ⟨rfl, rfl⟩)
      all_goals (go_meet; exact ⟨rfl, rfl⟩)
    · by_cases ha : atom k = true
      · obtain rfl : k = 9 := HK.out.2.2.2.2.2.2.2 ha rfl
        go_wp2_with (go_at_call 80; refine (atom_calls _ _).mono ?_; rintro e w3 ⟨rfl, rfl⟩)
        all_goals (go_meet; exact ⟨rfl, rfl⟩)
      · have ha' : atom k = false := by simpa using ha
        clear ha
        go_wp2_with (go_at_call 80; refine (atom_calls _ _).mono ?_; rintro e w3 ⟨rfl, rfl⟩)
        all_goals (go_meet; exact ⟨rfl, rfl⟩)
  case rest =>
    obtain ⟨rfl, rfl⟩ := hcut
    clear HA
    have HC3 := Aside0.mk (fun W1 (h : Below w0.heap.size w0 W1) => cloneT_calls A3 c3 ts W1 (Kd.C_below H.out.1.g3 h) (by omega))
    have HC4 := Aside0.mk (fun W1 (h : Below w0.heap.size w0 W1) => cloneB_calls A4 c4 bs W1 (Kd.C_below H.out.1.g4 h) (by omega))
    go_upto_region 14 with fail
    go_cut [6] (fun s6 wx => ∃ B V3 e3 V4 e4, s6 = .pointer (some ⟨B, 0, none⟩) ∧ Aside0 (Three w0 W wx B V3 e3 V4 e4 k nm n ts bs l A3 c3 A4 c4 A5 c5 k nm n))
    case first =>
      go_region_held3 (fun w' => w'.cell? ⟨W.heap.size, 0, none⟩ = some (.int .i64 k) ∧ w'.cell? ⟨W.heap.size, 1, none⟩ = some (.string nm) ∧ w'.cell? ⟨W.heap.size, 2, none⟩ = some (.int .i64 n) ∧
          w'.cell? ⟨W.heap.size, 3, none⟩ = some (.slice A3 ts.length c3) ∧ w'.cell? ⟨W.heap.size, 4, none⟩ = some (.slice A4 bs.length c4)) (go_keep)
        (first
          | (go_at_call 94; refine (HC3.out _ T2.out.drew.h0).mono ?_; rintro e w3 ⟨V3, e3, rfl, g3, r3⟩; have T3 := Aside0.mk (T2.out.drew.below g3); replace r3 := Aside0.mk r3; obtain ⟨x0, x1, x2, x3, x4, x5⟩ := six T3.out.a)
          | (go_at_call 94; refine (HC3.out _ (T2.out.alloc _).drew.h0).mono ?_; rintro e w3 ⟨V3, e3, rfl, g3, r3⟩; have T3 := Aside0.mk ((T2.out.alloc _).drew.below g3); replace r3 := Aside0.mk r3; obtain ⟨x0, x1, x2, x3, x4, x5⟩ := six T3.out.a; have bx := Aside0.mk (blk_below g3 (heap_new wc _)); have by3 := Aside0.mk g3.size)
          | (go_at_call 95; refine (HC4.out _ T3.out.h0).mono ?_; rintro e w4 ⟨V4, e4, rfl, g4, r4⟩; have T4 := Aside0.mk (T3.out.below g4); replace r4 := Aside0.mk r4; obtain ⟨y0, y1, y2, y3, y4, y5⟩ := six T4.out.a; have bz := Aside0.mk (blk_below g4 bx.out); obtain ⟨z0, z1, z2, z3, z4, z5⟩ := six bz.out; have zf := blk_frozen bz.out; have zl : wc.heap.size < w4.heap.size := (Array.getElem?_eq_some_iff.1 bz.out).1; have zn := two_ne T2.out; have zn' := zn.symm)
          | (go_at_call 95; refine (HC4.out _ (T3.out.alloc _).h0).mono ?_; rintro e w4 ⟨V4, e4, rfl, g4, r4⟩; have T4 := Aside0.mk ((T3.out.alloc _).below g4); replace r4 := Aside0.mk r4; obtain ⟨y0, y1, y2, y3, y4, y5⟩ := six T4.out.a; have bz := Aside0.mk (blk_below g4 (heap_new w3 _)); obtain ⟨z0, z1, z2, z3, z4, z5⟩ := six bz.out; have zf := blk_frozen bz.out; have zl : w3.heap.size < w4.heap.size := (Array.getElem?_eq_some_iff.1 bz.out).1; have zn := two_ne T3.out; have zn' := zn.symm)
          | (go_at_call 95; refine (HC4.out _ T3.out.h0).mono ?_; rintro e w4 ⟨V4, e4, rfl, g4, r4⟩; have T4 := Aside0.mk (T3.out.below g4); replace r4 := Aside0.mk r4; obtain ⟨y0, y1, y2, y3, y4, y5⟩ := six T4.out.a))
      · go_wp2_with fail
        go_meet
        exact ⟨_, V3, e3, V4, e4, rfl, ⟨⟨T4.out.alloc _, T4.out.s, heap_new w4 _,
          keep3 r3.out T2.out.drew.s ((Agree.of_below g4 (fun _ _ h => h)).trans (Agree.alloc w4 _ (fun k => k ≠ w4.heap.size)) (fun i _ hl => by have := g4.size; omega)) (.inr g4.size),
          keep4 r4.out T3.out.s (Agree.alloc w4 _ _) (.inr (Nat.le_refl _))⟩⟩⟩
      · have e2 := T3.out.s
        go_wp2_with fail
        go_meet
        exact ⟨_, V3, e3, V4, e4, rfl, ⟨⟨T4.out.agree HB.out.size (Agree.six w4 _ _ _ _ _ _ _ _ (fun i hi => by omega)), T3.out.s, set_six bz.out _ _ _ _ _ _,
          keep3 r3.out T2.out.drew.s (((Agree.alloc w3 _ _).trans (Agree.of_below g4 (fun _ _ h => h)) (fun _ h _ => h)).trans (Agree.six w4 _ _ _ _ _ _ _ _ (fun i hi => hi)) (fun _ h _ => h)) (.inr (Nat.le_refl _)),
          keep4 r4.out (T3.out.alloc _).s (Agree.six w4 _ _ _ _ _ _ _ _ (fun i hi => hi)) (.inl (by simp))⟩⟩⟩
      · have e2 := T2.out.s
        go_wp2_with fail
        go_meet
        exact ⟨_, V3, e3, V4, e4, rfl, ⟨⟨T4.out.agree HB.out.size (Agree.six w4 _ _ _ _ _ _ _ _ (fun i hi => by omega)), T2.out.s, set_six bz.out _ _ _ _ _ _,
          keep3 r3.out (T2.out.alloc _).drew.s ((Agree.of_below g4 (fun _ _ h => h)).trans (Agree.six w4 _ _ _ _ _ _ _ _ (fun i hi => hi)) (fun _ h _ => h)) (.inl (by simp)),
          keep4 r4.out T3.out.s (Agree.six w4 _ _ _ _ _ _ _ _ (fun i hi => hi)) (.inl (by have := by3.out; simp at this; omega))⟩⟩⟩
    case rest =>
      obtain ⟨B, V3, e3, V4, e4, rfl, T⟩ := hcut
      clear T2 HC3 HC4
      obtain ⟨q0, q1, q2, q3, q4, q5⟩ := six T.out.two.a
      obtain ⟨b0, b1, b2, b3, b4, b5⟩ := six T.out.box
      have bf := blk_frozen T.out.box
      go_upto_if 95 with fail
      go_cut [98, 105, 111] (fun _ _ _ wx => Aside0 (Three w0 W wx B V3 e3 V4 e4 k nm n ts bs l A3 c3 A4 c4 A5 c5 k1 nm1 n1))
      case first =>
        have hs0 := HB.out.size
        have hB0 := T.out.hB
        have hBl : B < wc.heap.size := (Array.getElem?_eq_some_iff.1 T.out.box).1
        obtain ⟨bm, s1, l1⟩ := HT.out.1.signs
        obtain ⟨bd, s2, l2⟩ := HT.out.2
        have lt1 : 1 < w0.heap.size := World.block_lt_of_cell? w0 _ s1
        have lt2 : 2 < w0.heap.size := World.block_lt_of_cell? w0 _ s2
        have s1' := up_cell T.out.two.h0 s1
        have s2' := up_cell T.out.two.h0 s2
        have nb2 : B ≠ 2 := by omega
        have nb2' : 2 ≠ B := by omega
        have nbW : B ≠ W.heap.size := by omega
        have nbW' : W.heap.size ≠ B := by omega
        obtain ⟨e1, e2, e3', f1, f2, f3, f4, f5⟩ := HK.out
        replace l1 := l1 wc T.out.two.h0 nm f4
        replace l2 := Aside0.mk l2
        have LS : ∀ v, Below w0.heap.size w0 (wc.setCell ⟨B, 2, none⟩ v) := fun v => T.out.two.h0.setCell (by show w0.heap.size ≤ B; omega) v
        clear s1 s2
        cases tn
        · have E := Aside0.mk (And.intro (show k1 = k by simpa using e1) (And.intro (show nm1 = nm by simpa using e2) (show n1 = n by simpa using e3')))
          clear e1 e2 e3' f1 f2 f3 f4 f5 l1 l2
          go_wp2_with fail
          go_meet
          obtain ⟨rfl, rfl, rfl⟩ := E.out
          exact T
        · by_cases k9 : k = 9
          · subst k9
            have E := Aside0.mk (And.intro (show k1 = 9 by simpa using e1) (And.intro (show nm1 = sign nm by simpa using e2) (show n1 = n by simpa using e3')))
            clear e1 e2 e3' f1 f2 f3 f4 f5 l2
            go_wp2_with fail
            go_meet
            obtain ⟨rfl, rfl, rfl⟩ := E.out
            exact ⟨T.out.set hs0 (Agree.set wc B 1 _ _ (fun _ h => h)) 9 _ n1 ((set_one T.out.box 1 _).trans rfl)⟩
          · by_cases k16 : k = 16
            · subst k16
              have E := Aside0.mk (And.intro (show k1 = 17 by simpa [dualOf] using e1) (And.intro (show nm1 = nm by simpa using e2) (show n1 = n - 1 by simpa using e3')))
              obtain ⟨g1, g2⟩ := f1 rfl
              have l3 := l2.out (wc.setCell ⟨B, 2, none⟩ (.int .i64 (n - 1))) (LS _) 16 f3
              have d17 : dualOf 16 = 17 := rfl
              rw [d17] at l3
              clear d17
              clear e1 e2 e3' f1 f2 f3 f4 f5 l2 l1 LS
              go_wp2_with fail
              go_meet
              obtain ⟨rfl, rfl, rfl⟩ := E.out
              exact ⟨T.out.set hs0 ((Agree.set wc B 2 _ _ (fun _ h => h)).trans (Agree.set _ B 0 _ _ (fun _ h => h)) (fun _ h _ => h)) 17 nm1 _ ((set_one ((set_one T.out.box 2 _).trans rfl) 0 _).trans rfl)⟩
            · by_cases k17 : k = 17
              · subst k17
                have E := Aside0.mk (And.intro (show k1 = 16 by simpa [dualOf] using e1) (And.intro (show nm1 = nm by simpa using e2) (show n1 = n + 1 by simpa using e3')))
                obtain ⟨g1, g2⟩ := f2 rfl
                have l3 := l2.out (wc.setCell ⟨B, 2, none⟩ (.int .i64 (n + 1))) (LS _) 17 f3
                have d16 : dualOf 17 = 16 := rfl
                rw [d16] at l3
                clear d16
                clear e1 e2 e3' f1 f2 f3 f4 f5 l2 l1 LS
                go_wp2_with fail
                go_meet
                obtain ⟨rfl, rfl, rfl⟩ := E.out
                exact ⟨T.out.set hs0 ((Agree.set wc B 2 _ _ (fun _ h => h)).trans (Agree.set _ B 0 _ _ (fun _ h => h)) (fun _ h _ => h)) 16 nm1 _ ((set_one ((set_one T.out.box 2 _).trans rfl) 0 _).trans rfl)⟩
              · have E := Aside0.mk (And.intro (show k1 = dualOf k by simpa [k9] using e1) (And.intro (show nm1 = nm by simpa [k9] using e2) (show n1 = n by simpa [k16, k17] using e3')))
                have l3 := l2.out wc T.out.two.h0 k f3
                clear e1 e2 e3' f1 f2 f3 f4 f5 l2 l1 LS
                obtain ⟨dk, hdk⟩ : ∃ dk, dualOf k = dk := ⟨_, rfl⟩
                rw [hdk] at l3 E
                clear hdk
                go_wp2_with fail
                go_meet
                obtain ⟨rfl, rfl, rfl⟩ := E.out
                exact ⟨T.out.set hs0 (Agree.set wc B 0 _ _ (fun _ h => h)) k1 nm1 n1 ((set_one T.out.box 0 _).trans rfl)⟩
      case rest =>
        clear T b0 b1 b2 b3 b4 b5 bf q0 q1 q2 q3 q4 q5
        have T := hcut
        clear hcut
        have hs0 := HB.out.size
        have hB0 := T.out.hB
        have hsW := T.out.two.s
        have hBl : B < wc.heap.size := (Array.getElem?_eq_some_iff.1 T.out.box).1
        obtain ⟨q0, q1, q2, q3, q4, q5⟩ := six T.out.two.a
        go_wp2_with fail
        clear q0 q1 q2 q3 q4 q5
        go_loopg [8, 128] l.length (fun gg _ s128 wr => ∃ j : Nat, j ≤ l.length ∧ l.length - j ≤ gg ∧ s128 = .int .i64 j ∧ Aside0 (∃ v, LI w0 W wc wr B V3 e3 V4 e4 ts bs k1 nm1 n1 (tn && !counts k) l j v))
        case atStart => exact ⟨0, Nat.zero_le _, by omega, rfl, ⟨.slice none 0 0, Agree.refl _ _, T.out.box, by simpa [rights] using Row.nil _ _ _⟩⟩
        case round =>
          obtain ⟨j, hj, hg, rfl, HJ⟩ := hrel
          obtain ⟨v, HI⟩ := HJ.out
          obtain ⟨A, c, rfl⟩ := HI.row.slice
          have hbw : Below w0.heap.size w0 wr := T.out.two.h0.trans (HI.ag.low (fun i hi => by omega) (by omega))
          have hszr : wc.heap.size ≤ wr.heap.size := HI.ag.1.size
          have hBr : B < wr.heap.size := by omega
          have hWr : W.heap.size < wr.heap.size := by omega
          have nB1 : B ≠ wr.heap.size := by omega
          have nB2 : B ≠ W.heap.size := by omega
          obtain ⟨b0, b1, b2, b3, b4, b5⟩ := six HI.box
          have bf := blk_frozen HI.box
          have q0 : wr.cell? ⟨W.heap.size, 0, none⟩ = some (.int .i64 k) := (six ((HI.ag.2 W.heap.size (by omega) (by omega)).trans T.out.two.a)).1
          by_cases hlt : j < l.length
          · have hltz : (j : Int) < (l.length : Int) := by omega
            obtain ⟨ad, B3, d3, B4, d4, B5, d5, rfl, hatj, x0, x1, x2, x3, x4, x5⟩ := formAt H.out.1.g5 hbw j hlt
            obtain ⟨y, hy⟩ : ∃ y, rd_T26 l j = y := ⟨_, rfl⟩
            rw [hy] at hatj x0 x1 x2 x3 x4 x5
            have hRC := Aside0.mk (fun (b : Bool) W1 (h1 : Below w0.heap.size w0 W1) => H.out.2.1 y b B3 d3 B4 d4 B5 d5 w0 W1 (by rw [← hy]; exact Nat.le_trans (by have := sizes_take l j hlt; omega) H.out.2.2.1) hatj (by rw [← hy]; exact H.out.2.2.2.2 _ (rd26_mem l j hlt)) (by rw [← hy]; exact forms_rd l H.out.2.2.2.1 j hlt) HT.out.1 HT.out.2 h1)
            replace hy := Aside0.mk hy
            replace hbw := Aside0.mk hbw
            replace HI := Aside0.mk HI
            clear hatj HJ
            cases tn
            · go_upto_region 28 with fail
              refine wp_region_noPanic ?_
              refine wp_region_held_drew (S := (fun w' => w'.cell? ⟨W.heap.size, 0, none⟩ = some (.int .i64 k) ∧ w'.cell? ⟨wr.heap.size, 0, none⟩ = some (.int .i64 y.f0) ∧ w'.cell? ⟨wr.heap.size, 1, none⟩ = some (.string y.f1) ∧ w'.cell? ⟨wr.heap.size, 2, none⟩ = some (.int .i64 y.f2) ∧ w'.cell? ⟨wr.heap.size, 3, none⟩ = some (.slice B3 y.f3.length d3) ∧ w'.cell? ⟨wr.heap.size, 4, none⟩ = some (.slice B4 y.f4.length d4) ∧ w'.cell? ⟨wr.heap.size, 5, none⟩ = some (.slice B5 y.f5.length d5))) (by kernel_rfl) ?hS (fun hH0 => ?_)
              case hS => (try dsimp only); go_keep
              refine wpAnyH_take (i := 0) (oi := { dst := some 132, op := Op.fieldAddr 26 (Operand.tmp 6) 5, type := 0, pos := "formula.go:186", after := #[], guard := none }) (v := ?vvf1) rfl (by kernel_rfl) (by kernel_rfl) (by kernel_rfl) (fun _ _ _ h => h) (Or.inl ⟨by rfl, ?hyf1⟩) (by assumption) ?_
              case hyf1 =>
                intro w hSw
                (try dsimp only at hSw)
                go_simp
                all_goals (try with_reducible rfl)
              simp only [Act.put, List.setIfInBounds_toArray, List.set_cons_zero, List.set_cons_succ]
              refine wpAnyH_take (i := 2) (oi := { dst := some 134, op := Op.load 26 (Operand.tmp 8), type := 26, pos := "formula.go:186", after := #[], guard := none }) (v := ?vvf2) rfl (by kernel_rfl) (by kernel_rfl) (by kernel_rfl) (fun _ _ _ h => h) (Or.inl ⟨by rfl, ?hyf2⟩) (by assumption) ?_
              case hyf2 =>
                intro w hSw
                (try dsimp only at hSw)
                go_simp
                all_goals (try with_reducible rfl)
              simp only [Act.put, List.setIfInBounds_toArray, List.set_cons_zero, List.set_cons_succ]
              refine wpAnyH_take (i := 3) (oi := { dst := some 135, op := Op.move (Operand.tmp 1), type := 4, pos := "formula.go:186", after := #[], guard := none }) (v := ?vvf3) rfl (by kernel_rfl) (by kernel_rfl) (by kernel_rfl) (fun _ _ _ h => h) (Or.inl ⟨by rfl, ?hyf3⟩) (by assumption) ?_
              case hyf3 =>
                intro w hSw
                (try dsimp only at hSw)
                go_simp
                all_goals (try with_reducible rfl)
              simp only [Act.put, List.setIfInBounds_toArray, List.set_cons_zero, List.set_cons_succ]
              refine wpAnyH_take (i := 4) (oi := { dst := some 136, op := Op.move (Operand.tmp 135), type := 4, pos := "formula.go:186", after := #[{ on := 3, ground := Ground.data }], guard := none }) (v := ?vvf4) rfl (by kernel_rfl) (by kernel_rfl) (by kernel_rfl) (fun _ _ _ h => h) (Or.inl ⟨by rfl, ?hyf4⟩) (by assumption) ?_
              case hyf4 =>
                intro w hSw
                (try dsimp only at hSw)
                go_simp
                all_goals (try with_reducible rfl)
              simp only [Act.put, List.setIfInBounds_toArray, List.set_cons_zero, List.set_cons_succ]
              refine wpAnyH_take (i := 5) (oi := { dst := some 137, op := Op.fieldAddr 26 (Operand.tmp 2) 0, type := 0, pos := "formula.go:186", after := #[{ on := 4, ground := Ground.guard }], guard := some (4, true) }) (v := undef) rfl (by kernel_rfl) (by kernel_rfl) (by kernel_rfl) (fun _ _ _ h => h) (Or.inr ⟨by rfl, rfl⟩) (by assumption) ?_
              simp only [Act.put, List.setIfInBounds_toArray, List.set_cons_zero, List.set_cons_succ]
              refine wpAnyH_take (i := 6) (oi := { dst := some 138, op := Op.load 3 (Operand.tmp 137), type := 3, pos := "formula.go:186", after := #[{ on := 5, ground := Ground.data }, { on := 4, ground := Ground.guard }], guard := some (4, true) }) (v := undef) rfl (by kernel_rfl) (by kernel_rfl) (by kernel_rfl) (fun _ _ _ h => h) (Or.inr ⟨by rfl, rfl⟩) (by assumption) ?_
              simp only [Act.put, List.setIfInBounds_toArray, List.set_cons_zero, List.set_cons_succ]
              refine wpAnyH_take (i := 7) (oi := { dst := some 139, op := Op.call { callee := Callee.value (Operand.func 82), args := #[Operand.tmp 138], argTypes := #[3] }, type := 4, pos := "formula.go:186", after := #[{ on := 6, ground := Ground.data }, { on := 4, ground := Ground.chain }, { on := 4, ground := Ground.guard }], guard := some (4, true) }) (v := undef) rfl (by kernel_rfl) (by kernel_rfl) (by kernel_rfl) (fun _ _ _ h => h) (Or.inr ⟨by rfl, rfl⟩) (by assumption) ?_
              simp only [Act.put, List.setIfInBounds_toArray, List.set_cons_zero, List.set_cons_succ]
              refine wpAnyH_take (i := 8) (oi := { dst := some 140, op := Op.unOp UnOp.not 4 (Operand.tmp 139), type := 4, pos := "formula.go:186", after := #[{ on := 7, ground := Ground.data }, { on := 4, ground := Ground.guard }], guard := some (4, true) }) (v := undef) rfl (by kernel_rfl) (by kernel_rfl) (by kernel_rfl) (fun _ _ _ h => h) (Or.inr ⟨by rfl, rfl⟩) (by assumption) ?_
              simp only [Act.put, List.setIfInBounds_toArray, List.set_cons_zero, List.set_cons_succ]
              refine wpAnyH_take (i := 9) (oi := { dst := some 141, op := Op.pick (Operand.tmp 136) (Operand.tmp 140) (Operand.const (Value.bool false)), type := 4, pos := "formula.go:186", after := #[{ on := 4, ground := Ground.data }, { on := 8, ground := Ground.data }], guard := none }) (v := ?vvf9) rfl (by kernel_rfl) (by kernel_rfl) (by kernel_rfl) (fun _ _ _ h => h) (Or.inl ⟨by rfl, ?hyf9⟩) (by assumption) ?_
              case hyf9 =>
                intro w hSw
                (try dsimp only at hSw)
                go_simp
                all_goals (try with_reducible rfl)
              simp only [Act.put, List.setIfInBounds_toArray, List.set_cons_zero, List.set_cons_succ]
              refine wpAnyH_ready (rs := [1, 10]) (by kernel_rfl) (by simp) ?_
              refine AllReadyH.cons (o := { dst := some 133, op := Op.load 24 (Operand.tmp 132), type := 24, pos := "formula.go:186", after := #[{ on := 0, ground := Ground.data }], guard := none }) rfl (fun K hK => ?_) ?_
              · skip
                go_simp
                refine hK.out _ _ ?_ (fun hH02 => ?_)
                · (try dsimp only)
                  go_keep
                clear hK K hH0
                have hH0 := hH02
                clear hH02
                try simp only [Act.put, List.setIfInBounds_toArray, List.set_cons_zero, List.set_cons_succ]
                refine wpAnyH_ready (rs := [10]) (by kernel_rfl) (by simp) ?_
                refine AllReadyH.cons (o := { dst := some 142, op := Op.call { callee := Callee.value (Operand.func 60), args := #[Operand.tmp 134, Operand.tmp 141], argTypes := #[26, 4] }, type := 26, pos := "formula.go:186", after := #[{ on := 2, ground := Ground.data }, { on := 9, ground := Ground.data }, { on := 7, ground := Ground.chain }], guard := none }) rfl (fun K hK => ?_) ?_
                · skip
                  go_simp
                  go_at_call 60
                  refine (hRC.out false _ (below_ad hbw.out hbw.out.size _)).mono ?_
                  rintro e w5 ⟨D3, f3, D4, f4, D5, f5, rfl, g5, hl5⟩
                  have b85 := Aside0.mk (blk_below g5 (heap_new wr _))
                  have G5 := Aside0.mk ((below_ad (Below.refl wr.heap.size wr) (Nat.le_refl _) _).trans (g5.mono (by simp)))
                  replace hl5 := Aside0.mk hl5
                  have HI5 := Aside0.mk (HI.out.up hsW hBl G5.out)
                  obtain ⟨c0, c1, c2, c3', c4', c5'⟩ := six HI5.out.box
                  have cf := blk_frozen HI5.out.box
                  obtain ⟨o0, o1, o2, o3, o4, o5⟩ := six b85.out
                  have hB5 : B < w5.heap.size := Nat.lt_of_lt_of_le hBr G5.out.size
                  have hr5 : wr.heap.size < w5.heap.size := (Array.getElem?_eq_some_iff.1 b85.out).1
                  have hW5 : W.heap.size < w5.heap.size := Nat.lt_of_lt_of_le hWr G5.out.size
                  have p5 := up_cell G5.out q0
                  go_wp2_with fail
                  refine hK.out _ _ ?_ (fun hH02 => ?_)
                  · (try dsimp only)
                    go_keep
                  clear hK K hH0
                  have hH0 := hH02
                  clear hH02
                  try simp only [Act.put, List.setIfInBounds_toArray, List.set_cons_zero, List.set_cons_succ]
                  refine wpAnyH_ready (rs := [11]) (by kernel_rfl) (by simp) ?_
                  refine AllReadyH.cons (o := { dst := some 143, op := Op.buildSlice 24 1 #[(0, Operand.tmp 142)], type := 24, pos := "formula.go:186", after := #[{ on := 10, ground := Ground.data }], guard := none }) rfl (fun K hK => ?_) ?_
                  · skip
                    go_simp
                    refine hK.out _ _ ?_ (fun hH02 => ?_)
                    · (try dsimp only)
                      go_keep
                    clear hK K hH0
                    have hH0 := hH02
                    clear hH02
                    try simp only [Act.put, List.setIfInBounds_toArray, List.set_cons_zero, List.set_cons_succ]
                    refine wpAnyH_ready (rs := [12]) (by kernel_rfl) (by simp) ?_
                    refine AllReadyH.cons (o := { dst := some 144, op := Op.call { callee := Callee.builtin Builtin.append, args := #[Operand.tmp 133, Operand.tmp 143], argTypes := #[24, 24] }, type := 24, pos := "formula.go:186", after := #[{ on := 1, ground := Ground.data }, { on := 11, ground := Ground.data }, { on := 10, ground := Ground.chain }], guard := none }) rfl (fun K hK => ?_) ?_
                    · skip
                      refine OwnRow.append_step (R := fun y cs => ∀ w1, Agree (fun i => okR w0 W B i ∧ some i ≠ (Value.slice A (rights (l.take j) (false && !counts k)).length c).ownBlock) w5 w1 → k26.K w1 y cs) (w0 := w5) (W := w5) wc.heap.size ?hw_f10 (.tmp 133) (.tmp 143) 24 26 (.agg #[.int .i64 0, .string ⟨#[]⟩, .int .i64 0, .slice none 0 0, .slice none 0 0, .slice none 0 0]) 6 104 ?ho_f10 Tryd.underlying24 info26 rfl (by omega) (by omega) (.slice A (rights (l.take j) (false && !counts k)).length c) (rights (l.take j) (false && !counts k)) (right y false) [.int .i64 (right y false).f0, .string (right y false).f1, .int .i64 (right y false).f2, .slice D3 (right y false).f3.length f3, .slice D4 (right y false).f4.length f4, .slice D5 (right y false).f5.length f5] ?hs_f10 ?hx_f10 ?hp_f10 rfl ?h1_f10 ?HO_f10 (Below.refl _ _) ?hbase_f10 ?hl_f10 ?_
                      case hw_f10 => exact wanted_of rfl
                      case ho_f10 => rfl
                      case hs_f10 => rfl
                      case hx_f10 => rfl
                      case hp_f10 => exact HI.out.elem hsW hBl hB0 hs0 (by simp) hl5.out
                      case h1_f10 => intro u hu; simp at hu; rcases hu with rfl | rfl | rfl | rfl | rfl | rfl <;> rfl
                      case HO_f10 => exact HI5.out.row
                      case hbase_f10 => exact Nat.le_trans hszr G5.out.size
                      case hl_f10 => rw [rights_length]; simp; omega
                      intro v1 w6 ho6 hb6 hg6 hat6
                      obtain ⟨A6, c6, rfl, hle6⟩ := OwnRow.slice_ ho6
                      have e6 : Value.slice A6 (rights (l.take j) (false && !counts k) ++ [right y false]).length c6 = Value.slice A6 ((rights (l.take j) false).length + 1) c6 := by simp
                      rw [e6] at ho6 hat6
                      clear e6 hle6
                      replace ho6 := Aside0.mk ho6
                      replace hb6 := Aside0.mk hb6
                      replace hat6 := Aside0.mk hat6
                      have bx6 := Aside0.mk ((hg6.block B (Array.getElem?_eq_some_iff.1 HI5.out.box).1 (row_ne HI5.out hBl)).trans HI5.out.box)
                      have b86 := Aside0.mk ((hg6.block wr.heap.size (Array.getElem?_eq_some_iff.1 b85.out).1 (row_ne8 HI.out)).trans b85.out)
                      replace hg6 := Aside0.mk hg6
                      obtain ⟨c0, c1, c2, c3', c4', c5'⟩ := six bx6.out
                      have cf := blk_frozen bx6.out
                      obtain ⟨o0, o1, o2, o3, o4, o5⟩ := six b86.out
                      have p6 : w6.cell? ⟨W.heap.size, 0, none⟩ = some (.int .i64 k) := (hg6.out.cell_far _ hW5 (row_neW HI.out hsW)).trans p5
                      refine hK.out _ _ ?_ (fun hH02 => ?_)
                      · (try dsimp only)
                        go_keep
                      clear hK K hH0
                      have hH0 := hH02
                      clear hH02
                      try simp only [Act.put, List.setIfInBounds_toArray, List.set_cons_zero, List.set_cons_succ]
                      refine wpAnyH_take (i := 13) (oi := { dst := some 145, op := Op.fieldAddr 26 (Operand.tmp 6) 5, type := 0, pos := "formula.go:186", after := #[{ on := 0, ground := Ground.phase }, { on := 1, ground := Ground.phase }, { on := 2, ground := Ground.phase }, { on := 3, ground := Ground.phase }, { on := 4, ground := Ground.phase }, { on := 5, ground := Ground.phase }, { on := 6, ground := Ground.phase }, { on := 7, ground := Ground.phase }, { on := 8, ground := Ground.phase }, { on := 9, ground := Ground.phase }, { on := 10, ground := Ground.phase }, { on := 11, ground := Ground.phase }, { on := 12, ground := Ground.phase }], guard := none }) (v := ?vvf11) rfl (by kernel_rfl) (by kernel_rfl) (by kernel_rfl) (fun _ _ _ h => h) (Or.inl ⟨by rfl, ?hyf11⟩) (by assumption) ?_
                      case hyf11 =>
                        intro w hSw
                        (try dsimp only at hSw)
                        go_simp
                        all_goals (try with_reducible rfl)
                      simp only [Act.put, List.setIfInBounds_toArray, List.set_cons_zero, List.set_cons_succ]
                      refine wpAnyH_ready (rs := [14]) (by kernel_rfl) (by simp) ?_
                      refine AllReadyH.cons (o := { dst := none, op := Op.store 24 (Operand.tmp 145) (Operand.tmp 144), type := 0, pos := "formula.go:186", after := #[{ on := 13, ground := Ground.data }, { on := 12, ground := Ground.data }, { on := 12, ground := Ground.chain }, { on := 0, ground := Ground.phase }, { on := 1, ground := Ground.phase }, { on := 2, ground := Ground.phase }, { on := 3, ground := Ground.phase }, { on := 4, ground := Ground.phase }, { on := 5, ground := Ground.phase }, { on := 6, ground := Ground.phase }, { on := 7, ground := Ground.phase }, { on := 8, ground := Ground.phase }, { on := 9, ground := Ground.phase }, { on := 10, ground := Ground.phase }, { on := 11, ground := Ground.phase }, { on := 12, ground := Ground.phase }], guard := none }) rfl (fun K hK => ?_) ?_
                      · skip
                        go_simp
                        refine hK.out _ _ ?_ (fun hH02 => ?_)
                        · (try dsimp only)
                          go_keep
                        clear hK K hH0
                        have hH0 := hH02
                        clear hH02
                        try simp only [Act.put, List.setIfInBounds_toArray, List.set_cons_zero, List.set_cons_succ]
                        refine wpAnyH_done (by kernel_rfl) ?_ _
                        refine NoPanic.normal ?_
                        go_wp2_with fail
                        go_roundg (l.length - (j + 1))
                        case measure => omega
                        case rel => exact ⟨j + 1, by omega, by omega, by go_num, ⟨_, HI5.out.step hlt hsW hBl (by rw [hy.out]; exact ho6.out) (hb6.out.mono (Nat.zero_le _)) hg6.out hat6.out⟩⟩
                      exact AllReadyH.nil
                    exact AllReadyH.nil
                  exact AllReadyH.nil
                exact AllReadyH.nil
              refine AllReadyH.cons (o := { dst := some 142, op := Op.call { callee := Callee.value (Operand.func 60), args := #[Operand.tmp 134, Operand.tmp 141], argTypes := #[26, 4] }, type := 26, pos := "formula.go:186", after := #[{ on := 2, ground := Ground.data }, { on := 9, ground := Ground.data }, { on := 7, ground := Ground.chain }], guard := none }) rfl (fun K hK => ?_) ?_
              · skip
                go_simp
                go_at_call 60
                refine (hRC.out false _ (below_ad hbw.out hbw.out.size _)).mono ?_
                rintro e w5 ⟨D3, f3, D4, f4, D5, f5, rfl, g5, hl5⟩
                have b85 := Aside0.mk (blk_below g5 (heap_new wr _))
                have G5 := Aside0.mk ((below_ad (Below.refl wr.heap.size wr) (Nat.le_refl _) _).trans (g5.mono (by simp)))
                replace hl5 := Aside0.mk hl5
                have HI5 := Aside0.mk (HI.out.up hsW hBl G5.out)
                obtain ⟨c0, c1, c2, c3', c4', c5'⟩ := six HI5.out.box
                have cf := blk_frozen HI5.out.box
                obtain ⟨o0, o1, o2, o3, o4, o5⟩ := six b85.out
                have hB5 : B < w5.heap.size := Nat.lt_of_lt_of_le hBr G5.out.size
                have hr5 : wr.heap.size < w5.heap.size := (Array.getElem?_eq_some_iff.1 b85.out).1
                have hW5 : W.heap.size < w5.heap.size := Nat.lt_of_lt_of_le hWr G5.out.size
                have p5 := up_cell G5.out q0
                go_wp2_with fail
                refine hK.out _ _ ?_ (fun hH02 => ?_)
                · (try dsimp only)
                  go_keep
                clear hK K hH0
                have hH0 := hH02
                clear hH02
                try simp only [Act.put, List.setIfInBounds_toArray, List.set_cons_zero, List.set_cons_succ]
                refine wpAnyH_ready (rs := [1, 11]) (by kernel_rfl) (by simp) ?_
                refine AllReadyH.cons (o := { dst := some 133, op := Op.load 24 (Operand.tmp 132), type := 24, pos := "formula.go:186", after := #[{ on := 0, ground := Ground.data }], guard := none }) rfl (fun K hK => ?_) ?_
                · skip
                  go_simp
                  refine hK.out _ _ ?_ (fun hH02 => ?_)
                  · (try dsimp only)
                    go_keep
                  clear hK K hH0
                  have hH0 := hH02
                  clear hH02
                  try simp only [Act.put, List.setIfInBounds_toArray, List.set_cons_zero, List.set_cons_succ]
                  refine wpAnyH_ready (rs := [11]) (by kernel_rfl) (by simp) ?_
                  refine AllReadyH.cons (o := { dst := some 143, op := Op.buildSlice 24 1 #[(0, Operand.tmp 142)], type := 24, pos := "formula.go:186", after := #[{ on := 10, ground := Ground.data }], guard := none }) rfl (fun K hK => ?_) ?_
                  · skip
                    go_simp
                    refine hK.out _ _ ?_ (fun hH02 => ?_)
                    · (try dsimp only)
                      go_keep
                    clear hK K hH0
                    have hH0 := hH02
                    clear hH02
                    try simp only [Act.put, List.setIfInBounds_toArray, List.set_cons_zero, List.set_cons_succ]
                    refine wpAnyH_ready (rs := [12]) (by kernel_rfl) (by simp) ?_
                    refine AllReadyH.cons (o := { dst := some 144, op := Op.call { callee := Callee.builtin Builtin.append, args := #[Operand.tmp 133, Operand.tmp 143], argTypes := #[24, 24] }, type := 24, pos := "formula.go:186", after := #[{ on := 1, ground := Ground.data }, { on := 11, ground := Ground.data }, { on := 10, ground := Ground.chain }], guard := none }) rfl (fun K hK => ?_) ?_
                    · skip
                      refine OwnRow.append_step (R := fun y cs => ∀ w1, Agree (fun i => okR w0 W B i ∧ some i ≠ (Value.slice A (rights (l.take j) (false && !counts k)).length c).ownBlock) w5 w1 → k26.K w1 y cs) (w0 := w5) (W := w5) wc.heap.size ?hw_f12 (.tmp 133) (.tmp 143) 24 26 (.agg #[.int .i64 0, .string ⟨#[]⟩, .int .i64 0, .slice none 0 0, .slice none 0 0, .slice none 0 0]) 6 104 ?ho_f12 Tryd.underlying24 info26 rfl (by omega) (by omega) (.slice A (rights (l.take j) (false && !counts k)).length c) (rights (l.take j) (false && !counts k)) (right y false) [.int .i64 (right y false).f0, .string (right y false).f1, .int .i64 (right y false).f2, .slice D3 (right y false).f3.length f3, .slice D4 (right y false).f4.length f4, .slice D5 (right y false).f5.length f5] ?hs_f12 ?hx_f12 ?hp_f12 rfl ?h1_f12 ?HO_f12 (Below.refl _ _) ?hbase_f12 ?hl_f12 ?_
                      case hw_f12 => exact wanted_of rfl
                      case ho_f12 => rfl
                      case hs_f12 => rfl
                      case hx_f12 => rfl
                      case hp_f12 => exact HI.out.elem hsW hBl hB0 hs0 (by simp) hl5.out
                      case h1_f12 => intro u hu; simp at hu; rcases hu with rfl | rfl | rfl | rfl | rfl | rfl <;> rfl
                      case HO_f12 => exact HI5.out.row
                      case hbase_f12 => exact Nat.le_trans hszr G5.out.size
                      case hl_f12 => rw [rights_length]; simp; omega
                      intro v1 w6 ho6 hb6 hg6 hat6
                      obtain ⟨A6, c6, rfl, hle6⟩ := OwnRow.slice_ ho6
                      have e6 : Value.slice A6 (rights (l.take j) (false && !counts k) ++ [right y false]).length c6 = Value.slice A6 ((rights (l.take j) false).length + 1) c6 := by simp
                      rw [e6] at ho6 hat6
                      clear e6 hle6
                      replace ho6 := Aside0.mk ho6
                      replace hb6 := Aside0.mk hb6
                      replace hat6 := Aside0.mk hat6
                      have bx6 := Aside0.mk ((hg6.block B (Array.getElem?_eq_some_iff.1 HI5.out.box).1 (row_ne HI5.out hBl)).trans HI5.out.box)
                      have b86 := Aside0.mk ((hg6.block wr.heap.size (Array.getElem?_eq_some_iff.1 b85.out).1 (row_ne8 HI.out)).trans b85.out)
                      replace hg6 := Aside0.mk hg6
                      obtain ⟨c0, c1, c2, c3', c4', c5'⟩ := six bx6.out
                      have cf := blk_frozen bx6.out
                      obtain ⟨o0, o1, o2, o3, o4, o5⟩ := six b86.out
                      have p6 : w6.cell? ⟨W.heap.size, 0, none⟩ = some (.int .i64 k) := (hg6.out.cell_far _ hW5 (row_neW HI.out hsW)).trans p5
                      refine hK.out _ _ ?_ (fun hH02 => ?_)
                      · (try dsimp only)
                        go_keep
                      clear hK K hH0
                      have hH0 := hH02
                      clear hH02
                      try simp only [Act.put, List.setIfInBounds_toArray, List.set_cons_zero, List.set_cons_succ]
                      refine wpAnyH_take (i := 13) (oi := { dst := some 145, op := Op.fieldAddr 26 (Operand.tmp 6) 5, type := 0, pos := "formula.go:186", after := #[{ on := 0, ground := Ground.phase }, { on := 1, ground := Ground.phase }, { on := 2, ground := Ground.phase }, { on := 3, ground := Ground.phase }, { on := 4, ground := Ground.phase }, { on := 5, ground := Ground.phase }, { on := 6, ground := Ground.phase }, { on := 7, ground := Ground.phase }, { on := 8, ground := Ground.phase }, { on := 9, ground := Ground.phase }, { on := 10, ground := Ground.phase }, { on := 11, ground := Ground.phase }, { on := 12, ground := Ground.phase }], guard := none }) (v := ?vvf13) rfl (by kernel_rfl) (by kernel_rfl) (by kernel_rfl) (fun _ _ _ h => h) (Or.inl ⟨by rfl, ?hyf13⟩) (by assumption) ?_
                      case hyf13 =>
                        intro w hSw
                        (try dsimp only at hSw)
                        go_simp
                        all_goals (try with_reducible rfl)
                      simp only [Act.put, List.setIfInBounds_toArray, List.set_cons_zero, List.set_cons_succ]
                      refine wpAnyH_ready (rs := [14]) (by kernel_rfl) (by simp) ?_
                      refine AllReadyH.cons (o := { dst := none, op := Op.store 24 (Operand.tmp 145) (Operand.tmp 144), type := 0, pos := "formula.go:186", after := #[{ on := 13, ground := Ground.data }, { on := 12, ground := Ground.data }, { on := 12, ground := Ground.chain }, { on := 0, ground := Ground.phase }, { on := 1, ground := Ground.phase }, { on := 2, ground := Ground.phase }, { on := 3, ground := Ground.phase }, { on := 4, ground := Ground.phase }, { on := 5, ground := Ground.phase }, { on := 6, ground := Ground.phase }, { on := 7, ground := Ground.phase }, { on := 8, ground := Ground.phase }, { on := 9, ground := Ground.phase }, { on := 10, ground := Ground.phase }, { on := 11, ground := Ground.phase }, { on := 12, ground := Ground.phase }], guard := none }) rfl (fun K hK => ?_) ?_
                      · skip
                        go_simp
                        refine hK.out _ _ ?_ (fun hH02 => ?_)
                        · (try dsimp only)
                          go_keep
                        clear hK K hH0
                        have hH0 := hH02
                        clear hH02
                        try simp only [Act.put, List.setIfInBounds_toArray, List.set_cons_zero, List.set_cons_succ]
                        refine wpAnyH_done (by kernel_rfl) ?_ _
                        refine NoPanic.normal ?_
                        go_wp2_with fail
                        go_roundg (l.length - (j + 1))
                        case measure => omega
                        case rel => exact ⟨j + 1, by omega, by omega, by go_num, ⟨_, HI5.out.step hlt hsW hBl (by rw [hy.out]; exact ho6.out) (hb6.out.mono (Nat.zero_le _)) hg6.out hat6.out⟩⟩
                      exact AllReadyH.nil
                    exact AllReadyH.nil
                  exact AllReadyH.nil
                refine AllReadyH.cons (o := { dst := some 143, op := Op.buildSlice 24 1 #[(0, Operand.tmp 142)], type := 24, pos := "formula.go:186", after := #[{ on := 10, ground := Ground.data }], guard := none }) rfl (fun K hK => ?_) ?_
                · skip
                  go_simp
                  refine hK.out _ _ ?_ (fun hH02 => ?_)
                  · (try dsimp only)
                    go_keep
                  clear hK K hH0
                  have hH0 := hH02
                  clear hH02
                  try simp only [Act.put, List.setIfInBounds_toArray, List.set_cons_zero, List.set_cons_succ]
                  refine wpAnyH_ready (rs := [1]) (by kernel_rfl) (by simp) ?_
                  refine AllReadyH.cons (o := { dst := some 133, op := Op.load 24 (Operand.tmp 132), type := 24, pos := "formula.go:186", after := #[{ on := 0, ground := Ground.data }], guard := none }) rfl (fun K hK => ?_) ?_
                  · skip
                    go_simp
                    refine hK.out _ _ ?_ (fun hH02 => ?_)
                    · (try dsimp only)
                      go_keep
                    clear hK K hH0
                    have hH0 := hH02
                    clear hH02
                    try simp only [Act.put, List.setIfInBounds_toArray, List.set_cons_zero, List.set_cons_succ]
                    refine wpAnyH_ready (rs := [12]) (by kernel_rfl) (by simp) ?_
                    refine AllReadyH.cons (o := { dst := some 144, op := Op.call { callee := Callee.builtin Builtin.append, args := #[Operand.tmp 133, Operand.tmp 143], argTypes := #[24, 24] }, type := 24, pos := "formula.go:186", after := #[{ on := 1, ground := Ground.data }, { on := 11, ground := Ground.data }, { on := 10, ground := Ground.chain }], guard := none }) rfl (fun K hK => ?_) ?_
                    · skip
                      refine OwnRow.append_step (R := fun y cs => ∀ w1, Agree (fun i => okR w0 W B i ∧ some i ≠ (Value.slice A (rights (l.take j) (false && !counts k)).length c).ownBlock) w5 w1 → k26.K w1 y cs) (w0 := w5) (W := w5) wc.heap.size ?hw_f14 (.tmp 133) (.tmp 143) 24 26 (.agg #[.int .i64 0, .string ⟨#[]⟩, .int .i64 0, .slice none 0 0, .slice none 0 0, .slice none 0 0]) 6 104 ?ho_f14 Tryd.underlying24 info26 rfl (by omega) (by omega) (.slice A (rights (l.take j) (false && !counts k)).length c) (rights (l.take j) (false && !counts k)) (right y false) [.int .i64 (right y false).f0, .string (right y false).f1, .int .i64 (right y false).f2, .slice D3 (right y false).f3.length f3, .slice D4 (right y false).f4.length f4, .slice D5 (right y false).f5.length f5] ?hs_f14 ?hx_f14 ?hp_f14 rfl ?h1_f14 ?HO_f14 (Below.refl _ _) ?hbase_f14 ?hl_f14 ?_
                      case hw_f14 => exact wanted_of rfl
                      case ho_f14 => rfl
                      case hs_f14 => rfl
                      case hx_f14 => rfl
                      case hp_f14 => exact HI.out.elem hsW hBl hB0 hs0 (by simp) hl5.out
                      case h1_f14 => intro u hu; simp at hu; rcases hu with rfl | rfl | rfl | rfl | rfl | rfl <;> rfl
                      case HO_f14 => exact HI5.out.row
                      case hbase_f14 => exact Nat.le_trans hszr G5.out.size
                      case hl_f14 => rw [rights_length]; simp; omega
                      intro v1 w6 ho6 hb6 hg6 hat6
                      obtain ⟨A6, c6, rfl, hle6⟩ := OwnRow.slice_ ho6
                      have e6 : Value.slice A6 (rights (l.take j) (false && !counts k) ++ [right y false]).length c6 = Value.slice A6 ((rights (l.take j) false).length + 1) c6 := by simp
                      rw [e6] at ho6 hat6
                      clear e6 hle6
                      replace ho6 := Aside0.mk ho6
                      replace hb6 := Aside0.mk hb6
                      replace hat6 := Aside0.mk hat6
                      have bx6 := Aside0.mk ((hg6.block B (Array.getElem?_eq_some_iff.1 HI5.out.box).1 (row_ne HI5.out hBl)).trans HI5.out.box)
                      have b86 := Aside0.mk ((hg6.block wr.heap.size (Array.getElem?_eq_some_iff.1 b85.out).1 (row_ne8 HI.out)).trans b85.out)
                      replace hg6 := Aside0.mk hg6
                      obtain ⟨c0, c1, c2, c3', c4', c5'⟩ := six bx6.out
                      have cf := blk_frozen bx6.out
                      obtain ⟨o0, o1, o2, o3, o4, o5⟩ := six b86.out
                      have p6 : w6.cell? ⟨W.heap.size, 0, none⟩ = some (.int .i64 k) := (hg6.out.cell_far _ hW5 (row_neW HI.out hsW)).trans p5
                      refine hK.out _ _ ?_ (fun hH02 => ?_)
                      · (try dsimp only)
                        go_keep
                      clear hK K hH0
                      have hH0 := hH02
                      clear hH02
                      try simp only [Act.put, List.setIfInBounds_toArray, List.set_cons_zero, List.set_cons_succ]
                      refine wpAnyH_take (i := 13) (oi := { dst := some 145, op := Op.fieldAddr 26 (Operand.tmp 6) 5, type := 0, pos := "formula.go:186", after := #[{ on := 0, ground := Ground.phase }, { on := 1, ground := Ground.phase }, { on := 2, ground := Ground.phase }, { on := 3, ground := Ground.phase }, { on := 4, ground := Ground.phase }, { on := 5, ground := Ground.phase }, { on := 6, ground := Ground.phase }, { on := 7, ground := Ground.phase }, { on := 8, ground := Ground.phase }, { on := 9, ground := Ground.phase }, { on := 10, ground := Ground.phase }, { on := 11, ground := Ground.phase }, { on := 12, ground := Ground.phase }], guard := none }) (v := ?vvf15) rfl (by kernel_rfl) (by kernel_rfl) (by kernel_rfl) (fun _ _ _ h => h) (Or.inl ⟨by rfl, ?hyf15⟩) (by assumption) ?_
                      case hyf15 =>
                        intro w hSw
                        (try dsimp only at hSw)
                        go_simp
                        all_goals (try with_reducible rfl)
                      simp only [Act.put, List.setIfInBounds_toArray, List.set_cons_zero, List.set_cons_succ]
                      refine wpAnyH_ready (rs := [14]) (by kernel_rfl) (by simp) ?_
                      refine AllReadyH.cons (o := { dst := none, op := Op.store 24 (Operand.tmp 145) (Operand.tmp 144), type := 0, pos := "formula.go:186", after := #[{ on := 13, ground := Ground.data }, { on := 12, ground := Ground.data }, { on := 12, ground := Ground.chain }, { on := 0, ground := Ground.phase }, { on := 1, ground := Ground.phase }, { on := 2, ground := Ground.phase }, { on := 3, ground := Ground.phase }, { on := 4, ground := Ground.phase }, { on := 5, ground := Ground.phase }, { on := 6, ground := Ground.phase }, { on := 7, ground := Ground.phase }, { on := 8, ground := Ground.phase }, { on := 9, ground := Ground.phase }, { on := 10, ground := Ground.phase }, { on := 11, ground := Ground.phase }, { on := 12, ground := Ground.phase }], guard := none }) rfl (fun K hK => ?_) ?_
                      · skip
                        go_simp
                        refine hK.out _ _ ?_ (fun hH02 => ?_)
                        · (try dsimp only)
                          go_keep
                        clear hK K hH0
                        have hH0 := hH02
                        clear hH02
                        try simp only [Act.put, List.setIfInBounds_toArray, List.set_cons_zero, List.set_cons_succ]
                        refine wpAnyH_done (by kernel_rfl) ?_ _
                        refine NoPanic.normal ?_
                        go_wp2_with fail
                        go_roundg (l.length - (j + 1))
                        case measure => omega
                        case rel => exact ⟨j + 1, by omega, by omega, by go_num, ⟨_, HI5.out.step hlt hsW hBl (by rw [hy.out]; exact ho6.out) (hb6.out.mono (Nat.zero_le _)) hg6.out hat6.out⟩⟩
                      exact AllReadyH.nil
                    exact AllReadyH.nil
                  exact AllReadyH.nil
                exact AllReadyH.nil
              exact AllReadyH.nil
            · go_upto_region 28 with fail
              refine wp_region_noPanic ?_
              refine wp_region_held_drew (S := (fun w' => w'.cell? ⟨W.heap.size, 0, none⟩ = some (.int .i64 k) ∧ w'.cell? ⟨wr.heap.size, 0, none⟩ = some (.int .i64 y.f0) ∧ w'.cell? ⟨wr.heap.size, 1, none⟩ = some (.string y.f1) ∧ w'.cell? ⟨wr.heap.size, 2, none⟩ = some (.int .i64 y.f2) ∧ w'.cell? ⟨wr.heap.size, 3, none⟩ = some (.slice B3 y.f3.length d3) ∧ w'.cell? ⟨wr.heap.size, 4, none⟩ = some (.slice B4 y.f4.length d4) ∧ w'.cell? ⟨wr.heap.size, 5, none⟩ = some (.slice B5 y.f5.length d5))) (by kernel_rfl) ?hS (fun hH0 => ?_)
              case hS => (try dsimp only); go_keep
              refine wpAnyH_take (i := 0) (oi := { dst := some 132, op := Op.fieldAddr 26 (Operand.tmp 6) 5, type := 0, pos := "formula.go:186", after := #[], guard := none }) (v := ?vvt1) rfl (by kernel_rfl) (by kernel_rfl) (by kernel_rfl) (fun _ _ _ h => h) (Or.inl ⟨by rfl, ?hyt1⟩) (by assumption) ?_
              case hyt1 =>
                intro w hSw
                (try dsimp only at hSw)
                go_simp
                all_goals (try with_reducible rfl)
              simp only [Act.put, List.setIfInBounds_toArray, List.set_cons_zero, List.set_cons_succ]
              refine wpAnyH_take (i := 2) (oi := { dst := some 134, op := Op.load 26 (Operand.tmp 8), type := 26, pos := "formula.go:186", after := #[], guard := none }) (v := ?vvt2) rfl (by kernel_rfl) (by kernel_rfl) (by kernel_rfl) (fun _ _ _ h => h) (Or.inl ⟨by rfl, ?hyt2⟩) (by assumption) ?_
              case hyt2 =>
                intro w hSw
                (try dsimp only at hSw)
                go_simp
                all_goals (try with_reducible rfl)
              simp only [Act.put, List.setIfInBounds_toArray, List.set_cons_zero, List.set_cons_succ]
              refine wpAnyH_take (i := 3) (oi := { dst := some 135, op := Op.move (Operand.tmp 1), type := 4, pos := "formula.go:186", after := #[], guard := none }) (v := ?vvt3) rfl (by kernel_rfl) (by kernel_rfl) (by kernel_rfl) (fun _ _ _ h => h) (Or.inl ⟨by rfl, ?hyt3⟩) (by assumption) ?_
              case hyt3 =>
                intro w hSw
                (try dsimp only at hSw)
                go_simp
                all_goals (try with_reducible rfl)
              simp only [Act.put, List.setIfInBounds_toArray, List.set_cons_zero, List.set_cons_succ]
              refine wpAnyH_take (i := 4) (oi := { dst := some 136, op := Op.move (Operand.tmp 135), type := 4, pos := "formula.go:186", after := #[{ on := 3, ground := Ground.data }], guard := none }) (v := ?vvt4) rfl (by kernel_rfl) (by kernel_rfl) (by kernel_rfl) (fun _ _ _ h => h) (Or.inl ⟨by rfl, ?hyt4⟩) (by assumption) ?_
              case hyt4 =>
                intro w hSw
                (try dsimp only at hSw)
                go_simp
                all_goals (try with_reducible rfl)
              simp only [Act.put, List.setIfInBounds_toArray, List.set_cons_zero, List.set_cons_succ]
              refine wpAnyH_take (i := 5) (oi := { dst := some 137, op := Op.fieldAddr 26 (Operand.tmp 2) 0, type := 0, pos := "formula.go:186", after := #[{ on := 4, ground := Ground.guard }], guard := some (4, true) }) (v := ?vvt5) rfl (by kernel_rfl) (by kernel_rfl) (by kernel_rfl) (fun _ _ _ h => h) (Or.inl ⟨by rfl, ?hyt5⟩) (by assumption) ?_
              case hyt5 =>
                intro w hSw
                (try dsimp only at hSw)
                go_simp
                all_goals (try with_reducible rfl)
              simp only [Act.put, List.setIfInBounds_toArray, List.set_cons_zero, List.set_cons_succ]
              refine wpAnyH_take (i := 6) (oi := { dst := some 138, op := Op.load 3 (Operand.tmp 137), type := 3, pos := "formula.go:186", after := #[{ on := 5, ground := Ground.data }, { on := 4, ground := Ground.guard }], guard := some (4, true) }) (v := ?vvt6) rfl (by kernel_rfl) (by kernel_rfl) (by kernel_rfl) (fun _ _ _ h => h) (Or.inl ⟨by rfl, ?hyt6⟩) (by assumption) ?_
              case hyt6 =>
                intro w hSw
                (try dsimp only at hSw)
                go_simp
                all_goals (try with_reducible rfl)
              simp only [Act.put, List.setIfInBounds_toArray, List.set_cons_zero, List.set_cons_succ]
              refine wpAnyH_ready (rs := [1, 7]) (by kernel_rfl) (by simp) ?_
              refine AllReadyH.cons (o := { dst := some 133, op := Op.load 24 (Operand.tmp 132), type := 24, pos := "formula.go:186", after := #[{ on := 0, ground := Ground.data }], guard := none }) rfl (fun K hK => ?_) ?_
              · skip
                go_simp
                refine hK.out _ _ ?_ (fun hH02 => ?_)
                · (try dsimp only)
                  go_keep
                clear hK K hH0
                have hH0 := hH02
                clear hH02
                try simp only [Act.put, List.setIfInBounds_toArray, List.set_cons_zero, List.set_cons_succ]
                refine wpAnyH_ready (rs := [7]) (by kernel_rfl) (by simp) ?_
                refine AllReadyH.cons (o := { dst := some 139, op := Op.call { callee := Callee.value (Operand.func 82), args := #[Operand.tmp 138], argTypes := #[3] }, type := 4, pos := "formula.go:186", after := #[{ on := 6, ground := Ground.data }, { on := 4, ground := Ground.chain }, { on := 4, ground := Ground.guard }], guard := some (4, true) }) rfl (fun K hK => ?_) ?_
                · skip
                  go_simp
                  go_at_call 82
                  refine (counts_calls _ _).mono ?_
                  rintro e w7 ⟨rfl, rfl⟩
                  go_wp2_with fail
                  refine hK.out _ _ ?_ (fun hH02 => ?_)
                  · (try dsimp only)
                    go_keep
                  clear hK K hH0
                  have hH0 := hH02
                  clear hH02
                  try simp only [Act.put, List.setIfInBounds_toArray, List.set_cons_zero, List.set_cons_succ]
                  refine wpAnyH_take (i := 8) (oi := { dst := some 140, op := Op.unOp UnOp.not 4 (Operand.tmp 139), type := 4, pos := "formula.go:186", after := #[{ on := 7, ground := Ground.data }, { on := 4, ground := Ground.guard }], guard := some (4, true) }) (v := ?vvt7) rfl (by kernel_rfl) (by kernel_rfl) (by kernel_rfl) (fun _ _ _ h => h) (Or.inl ⟨by rfl, ?hyt7⟩) (by assumption) ?_
                  case hyt7 =>
                    intro w hSw
                    (try dsimp only at hSw)
                    go_simp
                    all_goals (try with_reducible rfl)
                  simp only [Act.put, List.setIfInBounds_toArray, List.set_cons_zero, List.set_cons_succ]
                  refine wpAnyH_take (i := 9) (oi := { dst := some 141, op := Op.pick (Operand.tmp 136) (Operand.tmp 140) (Operand.const (Value.bool false)), type := 4, pos := "formula.go:186", after := #[{ on := 4, ground := Ground.data }, { on := 8, ground := Ground.data }], guard := none }) (v := ?vvt8) rfl (by kernel_rfl) (by kernel_rfl) (by kernel_rfl) (fun _ _ _ h => h) (Or.inl ⟨by rfl, ?hyt8⟩) (by assumption) ?_
                  case hyt8 =>
                    intro w hSw
                    (try dsimp only at hSw)
                    go_simp
                    all_goals (try with_reducible rfl)
                  simp only [Act.put, List.setIfInBounds_toArray, List.set_cons_zero, List.set_cons_succ]
                  refine wpAnyH_ready (rs := [10]) (by kernel_rfl) (by simp) ?_
                  refine AllReadyH.cons (o := { dst := some 142, op := Op.call { callee := Callee.value (Operand.func 60), args := #[Operand.tmp 134, Operand.tmp 141], argTypes := #[26, 4] }, type := 26, pos := "formula.go:186", after := #[{ on := 2, ground := Ground.data }, { on := 9, ground := Ground.data }, { on := 7, ground := Ground.chain }], guard := none }) rfl (fun K hK => ?_) ?_
                  · skip
                    go_simp
                    go_at_call 60
                    refine (hRC.out (!counts k) _ (below_ad hbw.out hbw.out.size _)).mono ?_
                    rintro e w5 ⟨D3, f3, D4, f4, D5, f5, rfl, g5, hl5⟩
                    have b85 := Aside0.mk (blk_below g5 (heap_new wr _))
                    have G5 := Aside0.mk ((below_ad (Below.refl wr.heap.size wr) (Nat.le_refl _) _).trans (g5.mono (by simp)))
                    replace hl5 := Aside0.mk hl5
                    have HI5 := Aside0.mk (HI.out.up hsW hBl G5.out)
                    obtain ⟨c0, c1, c2, c3', c4', c5'⟩ := six HI5.out.box
                    have cf := blk_frozen HI5.out.box
                    obtain ⟨o0, o1, o2, o3, o4, o5⟩ := six b85.out
                    have hB5 : B < w5.heap.size := Nat.lt_of_lt_of_le hBr G5.out.size
                    have hr5 : wr.heap.size < w5.heap.size := (Array.getElem?_eq_some_iff.1 b85.out).1
                    have hW5 : W.heap.size < w5.heap.size := Nat.lt_of_lt_of_le hWr G5.out.size
                    have p5 := up_cell G5.out q0
                    go_wp2_with fail
                    refine hK.out _ _ ?_ (fun hH02 => ?_)
                    · (try dsimp only)
                      go_keep
                    clear hK K hH0
                    have hH0 := hH02
                    clear hH02
                    try simp only [Act.put, List.setIfInBounds_toArray, List.set_cons_zero, List.set_cons_succ]
                    refine wpAnyH_ready (rs := [11]) (by kernel_rfl) (by simp) ?_
                    refine AllReadyH.cons (o := { dst := some 143, op := Op.buildSlice 24 1 #[(0, Operand.tmp 142)], type := 24, pos := "formula.go:186", after := #[{ on := 10, ground := Ground.data }], guard := none }) rfl (fun K hK => ?_) ?_
                    · skip
                      go_simp
                      refine hK.out _ _ ?_ (fun hH02 => ?_)
                      · (try dsimp only)
                        go_keep
                      clear hK K hH0
                      have hH0 := hH02
                      clear hH02
                      try simp only [Act.put, List.setIfInBounds_toArray, List.set_cons_zero, List.set_cons_succ]
                      refine wpAnyH_ready (rs := [12]) (by kernel_rfl) (by simp) ?_
                      refine AllReadyH.cons (o := { dst := some 144, op := Op.call { callee := Callee.builtin Builtin.append, args := #[Operand.tmp 133, Operand.tmp 143], argTypes := #[24, 24] }, type := 24, pos := "formula.go:186", after := #[{ on := 1, ground := Ground.data }, { on := 11, ground := Ground.data }, { on := 10, ground := Ground.chain }], guard := none }) rfl (fun K hK => ?_) ?_
                      · skip
                        refine OwnRow.append_step (R := fun y cs => ∀ w1, Agree (fun i => okR w0 W B i ∧ some i ≠ (Value.slice A (rights (l.take j) (true && !counts k)).length c).ownBlock) w5 w1 → k26.K w1 y cs) (w0 := w5) (W := w5) wc.heap.size ?hw_t9 (.tmp 133) (.tmp 143) 24 26 (.agg #[.int .i64 0, .string ⟨#[]⟩, .int .i64 0, .slice none 0 0, .slice none 0 0, .slice none 0 0]) 6 104 ?ho_t9 Tryd.underlying24 info26 rfl (by omega) (by omega) (.slice A (rights (l.take j) (true && !counts k)).length c) (rights (l.take j) (true && !counts k)) (right y (!counts k)) [.int .i64 (right y (!counts k)).f0, .string (right y (!counts k)).f1, .int .i64 (right y (!counts k)).f2, .slice D3 (right y (!counts k)).f3.length f3, .slice D4 (right y (!counts k)).f4.length f4, .slice D5 (right y (!counts k)).f5.length f5] ?hs_t9 ?hx_t9 ?hp_t9 rfl ?h1_t9 ?HO_t9 (Below.refl _ _) ?hbase_t9 ?hl_t9 ?_
                        case hw_t9 => exact wanted_of rfl
                        case ho_t9 => rfl
                        case hs_t9 => rfl
                        case hx_t9 => rfl
                        case hp_t9 => exact HI.out.elem hsW hBl hB0 hs0 (by simp) hl5.out
                        case h1_t9 => intro u hu; simp at hu; rcases hu with rfl | rfl | rfl | rfl | rfl | rfl <;> rfl
                        case HO_t9 => exact HI5.out.row
                        case hbase_t9 => exact Nat.le_trans hszr G5.out.size
                        case hl_t9 => rw [rights_length]; simp; omega
                        intro v1 w6 ho6 hb6 hg6 hat6
                        obtain ⟨A6, c6, rfl, hle6⟩ := OwnRow.slice_ ho6
                        have e6 : Value.slice A6 (rights (l.take j) (true && !counts k) ++ [right y (!counts k)]).length c6 = Value.slice A6 ((rights (l.take j) (!counts k)).length + 1) c6 := by simp
                        rw [e6] at ho6 hat6
                        clear e6 hle6
                        replace ho6 := Aside0.mk ho6
                        replace hb6 := Aside0.mk hb6
                        replace hat6 := Aside0.mk hat6
                        have bx6 := Aside0.mk ((hg6.block B (Array.getElem?_eq_some_iff.1 HI5.out.box).1 (row_ne HI5.out hBl)).trans HI5.out.box)
                        have b86 := Aside0.mk ((hg6.block wr.heap.size (Array.getElem?_eq_some_iff.1 b85.out).1 (row_ne8 HI.out)).trans b85.out)
                        replace hg6 := Aside0.mk hg6
                        obtain ⟨c0, c1, c2, c3', c4', c5'⟩ := six bx6.out
                        have cf := blk_frozen bx6.out
                        obtain ⟨o0, o1, o2, o3, o4, o5⟩ := six b86.out
                        have p6 : w6.cell? ⟨W.heap.size, 0, none⟩ = some (.int .i64 k) := (hg6.out.cell_far _ hW5 (row_neW HI.out hsW)).trans p5
                        refine hK.out _ _ ?_ (fun hH02 => ?_)
                        · (try dsimp only)
                          go_keep
                        clear hK K hH0
                        have hH0 := hH02
                        clear hH02
                        try simp only [Act.put, List.setIfInBounds_toArray, List.set_cons_zero, List.set_cons_succ]
                        refine wpAnyH_take (i := 13) (oi := { dst := some 145, op := Op.fieldAddr 26 (Operand.tmp 6) 5, type := 0, pos := "formula.go:186", after := #[{ on := 0, ground := Ground.phase }, { on := 1, ground := Ground.phase }, { on := 2, ground := Ground.phase }, { on := 3, ground := Ground.phase }, { on := 4, ground := Ground.phase }, { on := 5, ground := Ground.phase }, { on := 6, ground := Ground.phase }, { on := 7, ground := Ground.phase }, { on := 8, ground := Ground.phase }, { on := 9, ground := Ground.phase }, { on := 10, ground := Ground.phase }, { on := 11, ground := Ground.phase }, { on := 12, ground := Ground.phase }], guard := none }) (v := ?vvt10) rfl (by kernel_rfl) (by kernel_rfl) (by kernel_rfl) (fun _ _ _ h => h) (Or.inl ⟨by rfl, ?hyt10⟩) (by assumption) ?_
                        case hyt10 =>
                          intro w hSw
                          (try dsimp only at hSw)
                          go_simp
                          all_goals (try with_reducible rfl)
                        simp only [Act.put, List.setIfInBounds_toArray, List.set_cons_zero, List.set_cons_succ]
                        refine wpAnyH_ready (rs := [14]) (by kernel_rfl) (by simp) ?_
                        refine AllReadyH.cons (o := { dst := none, op := Op.store 24 (Operand.tmp 145) (Operand.tmp 144), type := 0, pos := "formula.go:186", after := #[{ on := 13, ground := Ground.data }, { on := 12, ground := Ground.data }, { on := 12, ground := Ground.chain }, { on := 0, ground := Ground.phase }, { on := 1, ground := Ground.phase }, { on := 2, ground := Ground.phase }, { on := 3, ground := Ground.phase }, { on := 4, ground := Ground.phase }, { on := 5, ground := Ground.phase }, { on := 6, ground := Ground.phase }, { on := 7, ground := Ground.phase }, { on := 8, ground := Ground.phase }, { on := 9, ground := Ground.phase }, { on := 10, ground := Ground.phase }, { on := 11, ground := Ground.phase }, { on := 12, ground := Ground.phase }], guard := none }) rfl (fun K hK => ?_) ?_
                        · skip
                          go_simp
                          refine hK.out _ _ ?_ (fun hH02 => ?_)
                          · (try dsimp only)
                            go_keep
                          clear hK K hH0
                          have hH0 := hH02
                          clear hH02
                          try simp only [Act.put, List.setIfInBounds_toArray, List.set_cons_zero, List.set_cons_succ]
                          refine wpAnyH_done (by kernel_rfl) ?_ _
                          refine NoPanic.normal ?_
                          go_wp2_with fail
                          go_roundg (l.length - (j + 1))
                          case measure => omega
                          case rel => exact ⟨j + 1, by omega, by omega, by go_num, ⟨_, HI5.out.step hlt hsW hBl (by rw [hy.out]; exact ho6.out) (hb6.out.mono (Nat.zero_le _)) hg6.out hat6.out⟩⟩
                        exact AllReadyH.nil
                      exact AllReadyH.nil
                    exact AllReadyH.nil
                  exact AllReadyH.nil
                exact AllReadyH.nil
              refine AllReadyH.cons (o := { dst := some 139, op := Op.call { callee := Callee.value (Operand.func 82), args := #[Operand.tmp 138], argTypes := #[3] }, type := 4, pos := "formula.go:186", after := #[{ on := 6, ground := Ground.data }, { on := 4, ground := Ground.chain }, { on := 4, ground := Ground.guard }], guard := some (4, true) }) rfl (fun K hK => ?_) ?_
              · skip
                go_simp
                go_at_call 82
                refine (counts_calls _ _).mono ?_
                rintro e w7 ⟨rfl, rfl⟩
                go_wp2_with fail
                refine hK.out _ _ ?_ (fun hH02 => ?_)
                · (try dsimp only)
                  go_keep
                clear hK K hH0
                have hH0 := hH02
                clear hH02
                try simp only [Act.put, List.setIfInBounds_toArray, List.set_cons_zero, List.set_cons_succ]
                refine wpAnyH_take (i := 8) (oi := { dst := some 140, op := Op.unOp UnOp.not 4 (Operand.tmp 139), type := 4, pos := "formula.go:186", after := #[{ on := 7, ground := Ground.data }, { on := 4, ground := Ground.guard }], guard := some (4, true) }) (v := ?vvt11) rfl (by kernel_rfl) (by kernel_rfl) (by kernel_rfl) (fun _ _ _ h => h) (Or.inl ⟨by rfl, ?hyt11⟩) (by assumption) ?_
                case hyt11 =>
                  intro w hSw
                  (try dsimp only at hSw)
                  go_simp
                  all_goals (try with_reducible rfl)
                simp only [Act.put, List.setIfInBounds_toArray, List.set_cons_zero, List.set_cons_succ]
                refine wpAnyH_take (i := 9) (oi := { dst := some 141, op := Op.pick (Operand.tmp 136) (Operand.tmp 140) (Operand.const (Value.bool false)), type := 4, pos := "formula.go:186", after := #[{ on := 4, ground := Ground.data }, { on := 8, ground := Ground.data }], guard := none }) (v := ?vvt12) rfl (by kernel_rfl) (by kernel_rfl) (by kernel_rfl) (fun _ _ _ h => h) (Or.inl ⟨by rfl, ?hyt12⟩) (by assumption) ?_
                case hyt12 =>
                  intro w hSw
                  (try dsimp only at hSw)
                  go_simp
                  all_goals (try with_reducible rfl)
                simp only [Act.put, List.setIfInBounds_toArray, List.set_cons_zero, List.set_cons_succ]
                refine wpAnyH_ready (rs := [1, 10]) (by kernel_rfl) (by simp) ?_
                refine AllReadyH.cons (o := { dst := some 133, op := Op.load 24 (Operand.tmp 132), type := 24, pos := "formula.go:186", after := #[{ on := 0, ground := Ground.data }], guard := none }) rfl (fun K hK => ?_) ?_
                · skip
                  go_simp
                  refine hK.out _ _ ?_ (fun hH02 => ?_)
                  · (try dsimp only)
                    go_keep
                  clear hK K hH0
                  have hH0 := hH02
                  clear hH02
                  try simp only [Act.put, List.setIfInBounds_toArray, List.set_cons_zero, List.set_cons_succ]
                  refine wpAnyH_ready (rs := [10]) (by kernel_rfl) (by simp) ?_
                  refine AllReadyH.cons (o := { dst := some 142, op := Op.call { callee := Callee.value (Operand.func 60), args := #[Operand.tmp 134, Operand.tmp 141], argTypes := #[26, 4] }, type := 26, pos := "formula.go:186", after := #[{ on := 2, ground := Ground.data }, { on := 9, ground := Ground.data }, { on := 7, ground := Ground.chain }], guard := none }) rfl (fun K hK => ?_) ?_
                  · skip
                    go_simp
                    go_at_call 60
                    refine (hRC.out (!counts k) _ (below_ad hbw.out hbw.out.size _)).mono ?_
                    rintro e w5 ⟨D3, f3, D4, f4, D5, f5, rfl, g5, hl5⟩
                    have b85 := Aside0.mk (blk_below g5 (heap_new wr _))
                    have G5 := Aside0.mk ((below_ad (Below.refl wr.heap.size wr) (Nat.le_refl _) _).trans (g5.mono (by simp)))
                    replace hl5 := Aside0.mk hl5
                    have HI5 := Aside0.mk (HI.out.up hsW hBl G5.out)
                    obtain ⟨c0, c1, c2, c3', c4', c5'⟩ := six HI5.out.box
                    have cf := blk_frozen HI5.out.box
                    obtain ⟨o0, o1, o2, o3, o4, o5⟩ := six b85.out
                    have hB5 : B < w5.heap.size := Nat.lt_of_lt_of_le hBr G5.out.size
                    have hr5 : wr.heap.size < w5.heap.size := (Array.getElem?_eq_some_iff.1 b85.out).1
                    have hW5 : W.heap.size < w5.heap.size := Nat.lt_of_lt_of_le hWr G5.out.size
                    have p5 := up_cell G5.out q0
                    go_wp2_with fail
                    refine hK.out _ _ ?_ (fun hH02 => ?_)
                    · (try dsimp only)
                      go_keep
                    clear hK K hH0
                    have hH0 := hH02
                    clear hH02
                    try simp only [Act.put, List.setIfInBounds_toArray, List.set_cons_zero, List.set_cons_succ]
                    refine wpAnyH_ready (rs := [11]) (by kernel_rfl) (by simp) ?_
                    refine AllReadyH.cons (o := { dst := some 143, op := Op.buildSlice 24 1 #[(0, Operand.tmp 142)], type := 24, pos := "formula.go:186", after := #[{ on := 10, ground := Ground.data }], guard := none }) rfl (fun K hK => ?_) ?_
                    · skip
                      go_simp
                      refine hK.out _ _ ?_ (fun hH02 => ?_)
                      · (try dsimp only)
                        go_keep
                      clear hK K hH0
                      have hH0 := hH02
                      clear hH02
                      try simp only [Act.put, List.setIfInBounds_toArray, List.set_cons_zero, List.set_cons_succ]
                      refine wpAnyH_ready (rs := [12]) (by kernel_rfl) (by simp) ?_
                      refine AllReadyH.cons (o := { dst := some 144, op := Op.call { callee := Callee.builtin Builtin.append, args := #[Operand.tmp 133, Operand.tmp 143], argTypes := #[24, 24] }, type := 24, pos := "formula.go:186", after := #[{ on := 1, ground := Ground.data }, { on := 11, ground := Ground.data }, { on := 10, ground := Ground.chain }], guard := none }) rfl (fun K hK => ?_) ?_
                      · skip
                        refine OwnRow.append_step (R := fun y cs => ∀ w1, Agree (fun i => okR w0 W B i ∧ some i ≠ (Value.slice A (rights (l.take j) (true && !counts k)).length c).ownBlock) w5 w1 → k26.K w1 y cs) (w0 := w5) (W := w5) wc.heap.size ?hw_t13 (.tmp 133) (.tmp 143) 24 26 (.agg #[.int .i64 0, .string ⟨#[]⟩, .int .i64 0, .slice none 0 0, .slice none 0 0, .slice none 0 0]) 6 104 ?ho_t13 Tryd.underlying24 info26 rfl (by omega) (by omega) (.slice A (rights (l.take j) (true && !counts k)).length c) (rights (l.take j) (true && !counts k)) (right y (!counts k)) [.int .i64 (right y (!counts k)).f0, .string (right y (!counts k)).f1, .int .i64 (right y (!counts k)).f2, .slice D3 (right y (!counts k)).f3.length f3, .slice D4 (right y (!counts k)).f4.length f4, .slice D5 (right y (!counts k)).f5.length f5] ?hs_t13 ?hx_t13 ?hp_t13 rfl ?h1_t13 ?HO_t13 (Below.refl _ _) ?hbase_t13 ?hl_t13 ?_
                        case hw_t13 => exact wanted_of rfl
                        case ho_t13 => rfl
                        case hs_t13 => rfl
                        case hx_t13 => rfl
                        case hp_t13 => exact HI.out.elem hsW hBl hB0 hs0 (by simp) hl5.out
                        case h1_t13 => intro u hu; simp at hu; rcases hu with rfl | rfl | rfl | rfl | rfl | rfl <;> rfl
                        case HO_t13 => exact HI5.out.row
                        case hbase_t13 => exact Nat.le_trans hszr G5.out.size
                        case hl_t13 => rw [rights_length]; simp; omega
                        intro v1 w6 ho6 hb6 hg6 hat6
                        obtain ⟨A6, c6, rfl, hle6⟩ := OwnRow.slice_ ho6
                        have e6 : Value.slice A6 (rights (l.take j) (true && !counts k) ++ [right y (!counts k)]).length c6 = Value.slice A6 ((rights (l.take j) (!counts k)).length + 1) c6 := by simp
                        rw [e6] at ho6 hat6
                        clear e6 hle6
                        replace ho6 := Aside0.mk ho6
                        replace hb6 := Aside0.mk hb6
                        replace hat6 := Aside0.mk hat6
                        have bx6 := Aside0.mk ((hg6.block B (Array.getElem?_eq_some_iff.1 HI5.out.box).1 (row_ne HI5.out hBl)).trans HI5.out.box)
                        have b86 := Aside0.mk ((hg6.block wr.heap.size (Array.getElem?_eq_some_iff.1 b85.out).1 (row_ne8 HI.out)).trans b85.out)
                        replace hg6 := Aside0.mk hg6
                        obtain ⟨c0, c1, c2, c3', c4', c5'⟩ := six bx6.out
                        have cf := blk_frozen bx6.out
                        obtain ⟨o0, o1, o2, o3, o4, o5⟩ := six b86.out
                        have p6 : w6.cell? ⟨W.heap.size, 0, none⟩ = some (.int .i64 k) := (hg6.out.cell_far _ hW5 (row_neW HI.out hsW)).trans p5
                        refine hK.out _ _ ?_ (fun hH02 => ?_)
                        · (try dsimp only)
                          go_keep
                        clear hK K hH0
                        have hH0 := hH02
                        clear hH02
                        try simp only [Act.put, List.setIfInBounds_toArray, List.set_cons_zero, List.set_cons_succ]
                        refine wpAnyH_take (i := 13) (oi := { dst := some 145, op := Op.fieldAddr 26 (Operand.tmp 6) 5, type := 0, pos := "formula.go:186", after := #[{ on := 0, ground := Ground.phase }, { on := 1, ground := Ground.phase }, { on := 2, ground := Ground.phase }, { on := 3, ground := Ground.phase }, { on := 4, ground := Ground.phase }, { on := 5, ground := Ground.phase }, { on := 6, ground := Ground.phase }, { on := 7, ground := Ground.phase }, { on := 8, ground := Ground.phase }, { on := 9, ground := Ground.phase }, { on := 10, ground := Ground.phase }, { on := 11, ground := Ground.phase }, { on := 12, ground := Ground.phase }], guard := none }) (v := ?vvt14) rfl (by kernel_rfl) (by kernel_rfl) (by kernel_rfl) (fun _ _ _ h => h) (Or.inl ⟨by rfl, ?hyt14⟩) (by assumption) ?_
                        case hyt14 =>
                          intro w hSw
                          (try dsimp only at hSw)
                          go_simp
                          all_goals (try with_reducible rfl)
                        simp only [Act.put, List.setIfInBounds_toArray, List.set_cons_zero, List.set_cons_succ]
                        refine wpAnyH_ready (rs := [14]) (by kernel_rfl) (by simp) ?_
                        refine AllReadyH.cons (o := { dst := none, op := Op.store 24 (Operand.tmp 145) (Operand.tmp 144), type := 0, pos := "formula.go:186", after := #[{ on := 13, ground := Ground.data }, { on := 12, ground := Ground.data }, { on := 12, ground := Ground.chain }, { on := 0, ground := Ground.phase }, { on := 1, ground := Ground.phase }, { on := 2, ground := Ground.phase }, { on := 3, ground := Ground.phase }, { on := 4, ground := Ground.phase }, { on := 5, ground := Ground.phase }, { on := 6, ground := Ground.phase }, { on := 7, ground := Ground.phase }, { on := 8, ground := Ground.phase }, { on := 9, ground := Ground.phase }, { on := 10, ground := Ground.phase }, { on := 11, ground := Ground.phase }, { on := 12, ground := Ground.phase }], guard := none }) rfl (fun K hK => ?_) ?_
                        · skip
                          go_simp
                          refine hK.out _ _ ?_ (fun hH02 => ?_)
                          · (try dsimp only)
                            go_keep
                          clear hK K hH0
                          have hH0 := hH02
                          clear hH02
                          try simp only [Act.put, List.setIfInBounds_toArray, List.set_cons_zero, List.set_cons_succ]
                          refine wpAnyH_done (by kernel_rfl) ?_ _
                          refine NoPanic.normal ?_
                          go_wp2_with fail
                          go_roundg (l.length - (j + 1))
                          case measure => omega
                          case rel => exact ⟨j + 1, by omega, by omega, by go_num, ⟨_, HI5.out.step hlt hsW hBl (by rw [hy.out]; exact ho6.out) (hb6.out.mono (Nat.zero_le _)) hg6.out hat6.out⟩⟩
                        exact AllReadyH.nil
                      exact AllReadyH.nil
                    exact AllReadyH.nil
                  exact AllReadyH.nil
                refine AllReadyH.cons (o := { dst := some 142, op := Op.call { callee := Callee.value (Operand.func 60), args := #[Operand.tmp 134, Operand.tmp 141], argTypes := #[26, 4] }, type := 26, pos := "formula.go:186", after := #[{ on := 2, ground := Ground.data }, { on := 9, ground := Ground.data }, { on := 7, ground := Ground.chain }], guard := none }) rfl (fun K hK => ?_) ?_
                · skip
                  go_simp
                  go_at_call 60
                  refine (hRC.out (!counts k) _ (below_ad hbw.out hbw.out.size _)).mono ?_
                  rintro e w5 ⟨D3, f3, D4, f4, D5, f5, rfl, g5, hl5⟩
                  have b85 := Aside0.mk (blk_below g5 (heap_new wr _))
                  have G5 := Aside0.mk ((below_ad (Below.refl wr.heap.size wr) (Nat.le_refl _) _).trans (g5.mono (by simp)))
                  replace hl5 := Aside0.mk hl5
                  have HI5 := Aside0.mk (HI.out.up hsW hBl G5.out)
                  obtain ⟨c0, c1, c2, c3', c4', c5'⟩ := six HI5.out.box
                  have cf := blk_frozen HI5.out.box
                  obtain ⟨o0, o1, o2, o3, o4, o5⟩ := six b85.out
                  have hB5 : B < w5.heap.size := Nat.lt_of_lt_of_le hBr G5.out.size
                  have hr5 : wr.heap.size < w5.heap.size := (Array.getElem?_eq_some_iff.1 b85.out).1
                  have hW5 : W.heap.size < w5.heap.size := Nat.lt_of_lt_of_le hWr G5.out.size
                  have p5 := up_cell G5.out q0
                  go_wp2_with fail
                  refine hK.out _ _ ?_ (fun hH02 => ?_)
                  · (try dsimp only)
                    go_keep
                  clear hK K hH0
                  have hH0 := hH02
                  clear hH02
                  try simp only [Act.put, List.setIfInBounds_toArray, List.set_cons_zero, List.set_cons_succ]
                  refine wpAnyH_ready (rs := [1, 11]) (by kernel_rfl) (by simp) ?_
                  refine AllReadyH.cons (o := { dst := some 133, op := Op.load 24 (Operand.tmp 132), type := 24, pos := "formula.go:186", after := #[{ on := 0, ground := Ground.data }], guard := none }) rfl (fun K hK => ?_) ?_
                  · skip
                    go_simp
                    refine hK.out _ _ ?_ (fun hH02 => ?_)
                    · (try dsimp only)
                      go_keep
                    clear hK K hH0
                    have hH0 := hH02
                    clear hH02
                    try simp only [Act.put, List.setIfInBounds_toArray, List.set_cons_zero, List.set_cons_succ]
                    refine wpAnyH_ready (rs := [11]) (by kernel_rfl) (by simp) ?_
                    refine AllReadyH.cons (o := { dst := some 143, op := Op.buildSlice 24 1 #[(0, Operand.tmp 142)], type := 24, pos := "formula.go:186", after := #[{ on := 10, ground := Ground.data }], guard := none }) rfl (fun K hK => ?_) ?_
                    · skip
                      go_simp
                      refine hK.out _ _ ?_ (fun hH02 => ?_)
                      · (try dsimp only)
                        go_keep
                      clear hK K hH0
                      have hH0 := hH02
                      clear hH02
                      try simp only [Act.put, List.setIfInBounds_toArray, List.set_cons_zero, List.set_cons_succ]
                      refine wpAnyH_ready (rs := [12]) (by kernel_rfl) (by simp) ?_
                      refine AllReadyH.cons (o := { dst := some 144, op := Op.call { callee := Callee.builtin Builtin.append, args := #[Operand.tmp 133, Operand.tmp 143], argTypes := #[24, 24] }, type := 24, pos := "formula.go:186", after := #[{ on := 1, ground := Ground.data }, { on := 11, ground := Ground.data }, { on := 10, ground := Ground.chain }], guard := none }) rfl (fun K hK => ?_) ?_
                      · skip
                        refine OwnRow.append_step (R := fun y cs => ∀ w1, Agree (fun i => okR w0 W B i ∧ some i ≠ (Value.slice A (rights (l.take j) (true && !counts k)).length c).ownBlock) w5 w1 → k26.K w1 y cs) (w0 := w5) (W := w5) wc.heap.size ?hw_t15 (.tmp 133) (.tmp 143) 24 26 (.agg #[.int .i64 0, .string ⟨#[]⟩, .int .i64 0, .slice none 0 0, .slice none 0 0, .slice none 0 0]) 6 104 ?ho_t15 Tryd.underlying24 info26 rfl (by omega) (by omega) (.slice A (rights (l.take j) (true && !counts k)).length c) (rights (l.take j) (true && !counts k)) (right y (!counts k)) [.int .i64 (right y (!counts k)).f0, .string (right y (!counts k)).f1, .int .i64 (right y (!counts k)).f2, .slice D3 (right y (!counts k)).f3.length f3, .slice D4 (right y (!counts k)).f4.length f4, .slice D5 (right y (!counts k)).f5.length f5] ?hs_t15 ?hx_t15 ?hp_t15 rfl ?h1_t15 ?HO_t15 (Below.refl _ _) ?hbase_t15 ?hl_t15 ?_
                        case hw_t15 => exact wanted_of rfl
                        case ho_t15 => rfl
                        case hs_t15 => rfl
                        case hx_t15 => rfl
                        case hp_t15 => exact HI.out.elem hsW hBl hB0 hs0 (by simp) hl5.out
                        case h1_t15 => intro u hu; simp at hu; rcases hu with rfl | rfl | rfl | rfl | rfl | rfl <;> rfl
                        case HO_t15 => exact HI5.out.row
                        case hbase_t15 => exact Nat.le_trans hszr G5.out.size
                        case hl_t15 => rw [rights_length]; simp; omega
                        intro v1 w6 ho6 hb6 hg6 hat6
                        obtain ⟨A6, c6, rfl, hle6⟩ := OwnRow.slice_ ho6
                        have e6 : Value.slice A6 (rights (l.take j) (true && !counts k) ++ [right y (!counts k)]).length c6 = Value.slice A6 ((rights (l.take j) (!counts k)).length + 1) c6 := by simp
                        rw [e6] at ho6 hat6
                        clear e6 hle6
                        replace ho6 := Aside0.mk ho6
                        replace hb6 := Aside0.mk hb6
                        replace hat6 := Aside0.mk hat6
                        have bx6 := Aside0.mk ((hg6.block B (Array.getElem?_eq_some_iff.1 HI5.out.box).1 (row_ne HI5.out hBl)).trans HI5.out.box)
                        have b86 := Aside0.mk ((hg6.block wr.heap.size (Array.getElem?_eq_some_iff.1 b85.out).1 (row_ne8 HI.out)).trans b85.out)
                        replace hg6 := Aside0.mk hg6
                        obtain ⟨c0, c1, c2, c3', c4', c5'⟩ := six bx6.out
                        have cf := blk_frozen bx6.out
                        obtain ⟨o0, o1, o2, o3, o4, o5⟩ := six b86.out
                        have p6 : w6.cell? ⟨W.heap.size, 0, none⟩ = some (.int .i64 k) := (hg6.out.cell_far _ hW5 (row_neW HI.out hsW)).trans p5
                        refine hK.out _ _ ?_ (fun hH02 => ?_)
                        · (try dsimp only)
                          go_keep
                        clear hK K hH0
                        have hH0 := hH02
                        clear hH02
                        try simp only [Act.put, List.setIfInBounds_toArray, List.set_cons_zero, List.set_cons_succ]
                        refine wpAnyH_take (i := 13) (oi := { dst := some 145, op := Op.fieldAddr 26 (Operand.tmp 6) 5, type := 0, pos := "formula.go:186", after := #[{ on := 0, ground := Ground.phase }, { on := 1, ground := Ground.phase }, { on := 2, ground := Ground.phase }, { on := 3, ground := Ground.phase }, { on := 4, ground := Ground.phase }, { on := 5, ground := Ground.phase }, { on := 6, ground := Ground.phase }, { on := 7, ground := Ground.phase }, { on := 8, ground := Ground.phase }, { on := 9, ground := Ground.phase }, { on := 10, ground := Ground.phase }, { on := 11, ground := Ground.phase }, { on := 12, ground := Ground.phase }], guard := none }) (v := ?vvt16) rfl (by kernel_rfl) (by kernel_rfl) (by kernel_rfl) (fun _ _ _ h => h) (Or.inl ⟨by rfl, ?hyt16⟩) (by assumption) ?_
                        case hyt16 =>
                          intro w hSw
                          (try dsimp only at hSw)
                          go_simp
                          all_goals (try with_reducible rfl)
                        simp only [Act.put, List.setIfInBounds_toArray, List.set_cons_zero, List.set_cons_succ]
                        refine wpAnyH_ready (rs := [14]) (by kernel_rfl) (by simp) ?_
                        refine AllReadyH.cons (o := { dst := none, op := Op.store 24 (Operand.tmp 145) (Operand.tmp 144), type := 0, pos := "formula.go:186", after := #[{ on := 13, ground := Ground.data }, { on := 12, ground := Ground.data }, { on := 12, ground := Ground.chain }, { on := 0, ground := Ground.phase }, { on := 1, ground := Ground.phase }, { on := 2, ground := Ground.phase }, { on := 3, ground := Ground.phase }, { on := 4, ground := Ground.phase }, { on := 5, ground := Ground.phase }, { on := 6, ground := Ground.phase }, { on := 7, ground := Ground.phase }, { on := 8, ground := Ground.phase }, { on := 9, ground := Ground.phase }, { on := 10, ground := Ground.phase }, { on := 11, ground := Ground.phase }, { on := 12, ground := Ground.phase }], guard := none }) rfl (fun K hK => ?_) ?_
                        · skip
                          go_simp
                          refine hK.out _ _ ?_ (fun hH02 => ?_)
                          · (try dsimp only)
                            go_keep
                          clear hK K hH0
                          have hH0 := hH02
                          clear hH02
                          try simp only [Act.put, List.setIfInBounds_toArray, List.set_cons_zero, List.set_cons_succ]
                          refine wpAnyH_done (by kernel_rfl) ?_ _
                          refine NoPanic.normal ?_
                          go_wp2_with fail
                          go_roundg (l.length - (j + 1))
                          case measure => omega
                          case rel => exact ⟨j + 1, by omega, by omega, by go_num, ⟨_, HI5.out.step hlt hsW hBl (by rw [hy.out]; exact ho6.out) (hb6.out.mono (Nat.zero_le _)) hg6.out hat6.out⟩⟩
                        exact AllReadyH.nil
                      exact AllReadyH.nil
                    exact AllReadyH.nil
                  refine AllReadyH.cons (o := { dst := some 143, op := Op.buildSlice 24 1 #[(0, Operand.tmp 142)], type := 24, pos := "formula.go:186", after := #[{ on := 10, ground := Ground.data }], guard := none }) rfl (fun K hK => ?_) ?_
                  · skip
                    go_simp
                    refine hK.out _ _ ?_ (fun hH02 => ?_)
                    · (try dsimp only)
                      go_keep
                    clear hK K hH0
                    have hH0 := hH02
                    clear hH02
                    try simp only [Act.put, List.setIfInBounds_toArray, List.set_cons_zero, List.set_cons_succ]
                    refine wpAnyH_ready (rs := [1]) (by kernel_rfl) (by simp) ?_
                    refine AllReadyH.cons (o := { dst := some 133, op := Op.load 24 (Operand.tmp 132), type := 24, pos := "formula.go:186", after := #[{ on := 0, ground := Ground.data }], guard := none }) rfl (fun K hK => ?_) ?_
                    · skip
                      go_simp
                      refine hK.out _ _ ?_ (fun hH02 => ?_)
                      · (try dsimp only)
                        go_keep
                      clear hK K hH0
                      have hH0 := hH02
                      clear hH02
                      try simp only [Act.put, List.setIfInBounds_toArray, List.set_cons_zero, List.set_cons_succ]
                      refine wpAnyH_ready (rs := [12]) (by kernel_rfl) (by simp) ?_
                      refine AllReadyH.cons (o := { dst := some 144, op := Op.call { callee := Callee.builtin Builtin.append, args := #[Operand.tmp 133, Operand.tmp 143], argTypes := #[24, 24] }, type := 24, pos := "formula.go:186", after := #[{ on := 1, ground := Ground.data }, { on := 11, ground := Ground.data }, { on := 10, ground := Ground.chain }], guard := none }) rfl (fun K hK => ?_) ?_
                      · skip
                        refine OwnRow.append_step (R := fun y cs => ∀ w1, Agree (fun i => okR w0 W B i ∧ some i ≠ (Value.slice A (rights (l.take j) (true && !counts k)).length c).ownBlock) w5 w1 → k26.K w1 y cs) (w0 := w5) (W := w5) wc.heap.size ?hw_t17 (.tmp 133) (.tmp 143) 24 26 (.agg #[.int .i64 0, .string ⟨#[]⟩, .int .i64 0, .slice none 0 0, .slice none 0 0, .slice none 0 0]) 6 104 ?ho_t17 Tryd.underlying24 info26 rfl (by omega) (by omega) (.slice A (rights (l.take j) (true && !counts k)).length c) (rights (l.take j) (true && !counts k)) (right y (!counts k)) [.int .i64 (right y (!counts k)).f0, .string (right y (!counts k)).f1, .int .i64 (right y (!counts k)).f2, .slice D3 (right y (!counts k)).f3.length f3, .slice D4 (right y (!counts k)).f4.length f4, .slice D5 (right y (!counts k)).f5.length f5] ?hs_t17 ?hx_t17 ?hp_t17 rfl ?h1_t17 ?HO_t17 (Below.refl _ _) ?hbase_t17 ?hl_t17 ?_
                        case hw_t17 => exact wanted_of rfl
                        case ho_t17 => rfl
                        case hs_t17 => rfl
                        case hx_t17 => rfl
                        case hp_t17 => exact HI.out.elem hsW hBl hB0 hs0 (by simp) hl5.out
                        case h1_t17 => intro u hu; simp at hu; rcases hu with rfl | rfl | rfl | rfl | rfl | rfl <;> rfl
                        case HO_t17 => exact HI5.out.row
                        case hbase_t17 => exact Nat.le_trans hszr G5.out.size
                        case hl_t17 => rw [rights_length]; simp; omega
                        intro v1 w6 ho6 hb6 hg6 hat6
                        obtain ⟨A6, c6, rfl, hle6⟩ := OwnRow.slice_ ho6
                        have e6 : Value.slice A6 (rights (l.take j) (true && !counts k) ++ [right y (!counts k)]).length c6 = Value.slice A6 ((rights (l.take j) (!counts k)).length + 1) c6 := by simp
                        rw [e6] at ho6 hat6
                        clear e6 hle6
                        replace ho6 := Aside0.mk ho6
                        replace hb6 := Aside0.mk hb6
                        replace hat6 := Aside0.mk hat6
                        have bx6 := Aside0.mk ((hg6.block B (Array.getElem?_eq_some_iff.1 HI5.out.box).1 (row_ne HI5.out hBl)).trans HI5.out.box)
                        have b86 := Aside0.mk ((hg6.block wr.heap.size (Array.getElem?_eq_some_iff.1 b85.out).1 (row_ne8 HI.out)).trans b85.out)
                        replace hg6 := Aside0.mk hg6
                        obtain ⟨c0, c1, c2, c3', c4', c5'⟩ := six bx6.out
                        have cf := blk_frozen bx6.out
                        obtain ⟨o0, o1, o2, o3, o4, o5⟩ := six b86.out
                        have p6 : w6.cell? ⟨W.heap.size, 0, none⟩ = some (.int .i64 k) := (hg6.out.cell_far _ hW5 (row_neW HI.out hsW)).trans p5
                        refine hK.out _ _ ?_ (fun hH02 => ?_)
                        · (try dsimp only)
                          go_keep
                        clear hK K hH0
                        have hH0 := hH02
                        clear hH02
                        try simp only [Act.put, List.setIfInBounds_toArray, List.set_cons_zero, List.set_cons_succ]
                        refine wpAnyH_take (i := 13) (oi := { dst := some 145, op := Op.fieldAddr 26 (Operand.tmp 6) 5, type := 0, pos := "formula.go:186", after := #[{ on := 0, ground := Ground.phase }, { on := 1, ground := Ground.phase }, { on := 2, ground := Ground.phase }, { on := 3, ground := Ground.phase }, { on := 4, ground := Ground.phase }, { on := 5, ground := Ground.phase }, { on := 6, ground := Ground.phase }, { on := 7, ground := Ground.phase }, { on := 8, ground := Ground.phase }, { on := 9, ground := Ground.phase }, { on := 10, ground := Ground.phase }, { on := 11, ground := Ground.phase }, { on := 12, ground := Ground.phase }], guard := none }) (v := ?vvt18) rfl (by kernel_rfl) (by kernel_rfl) (by kernel_rfl) (fun _ _ _ h => h) (Or.inl ⟨by rfl, ?hyt18⟩) (by assumption) ?_
                        case hyt18 =>
                          intro w hSw
                          (try dsimp only at hSw)
                          go_simp
                          all_goals (try with_reducible rfl)
                        simp only [Act.put, List.setIfInBounds_toArray, List.set_cons_zero, List.set_cons_succ]
                        refine wpAnyH_ready (rs := [14]) (by kernel_rfl) (by simp) ?_
                        refine AllReadyH.cons (o := { dst := none, op := Op.store 24 (Operand.tmp 145) (Operand.tmp 144), type := 0, pos := "formula.go:186", after := #[{ on := 13, ground := Ground.data }, { on := 12, ground := Ground.data }, { on := 12, ground := Ground.chain }, { on := 0, ground := Ground.phase }, { on := 1, ground := Ground.phase }, { on := 2, ground := Ground.phase }, { on := 3, ground := Ground.phase }, { on := 4, ground := Ground.phase }, { on := 5, ground := Ground.phase }, { on := 6, ground := Ground.phase }, { on := 7, ground := Ground.phase }, { on := 8, ground := Ground.phase }, { on := 9, ground := Ground.phase }, { on := 10, ground := Ground.phase }, { on := 11, ground := Ground.phase }, { on := 12, ground := Ground.phase }], guard := none }) rfl (fun K hK => ?_) ?_
                        · skip
                          go_simp
                          refine hK.out _ _ ?_ (fun hH02 => ?_)
                          · (try dsimp only)
                            go_keep
                          clear hK K hH0
                          have hH0 := hH02
                          clear hH02
                          try simp only [Act.put, List.setIfInBounds_toArray, List.set_cons_zero, List.set_cons_succ]
                          refine wpAnyH_done (by kernel_rfl) ?_ _
                          refine NoPanic.normal ?_
                          go_wp2_with fail
                          go_roundg (l.length - (j + 1))
                          case measure => omega
                          case rel => exact ⟨j + 1, by omega, by omega, by go_num, ⟨_, HI5.out.step hlt hsW hBl (by rw [hy.out]; exact ho6.out) (hb6.out.mono (Nat.zero_le _)) hg6.out hat6.out⟩⟩
                        exact AllReadyH.nil
                      exact AllReadyH.nil
                    exact AllReadyH.nil
                  exact AllReadyH.nil
                exact AllReadyH.nil
              exact AllReadyH.nil
          · have hltz : ¬ (j : Int) < (l.length : Int) := by omega
            obtain rfl : j = l.length := by omega
            have bz : wr.heap[W.heap.size + 1]? = _ := (HI.ag.2 (W.heap.size + 1) (by omega) (by omega)).trans T.out.two.b
            obtain ⟨r0, r1, r2, r3, r4, r5⟩ := six bz
            have rf := blk_frozen bz
            have bz' := Aside0.mk bz
            clear bz hj hg hlt
            have e : l.take l.length = l := List.take_length
            rw [e] at HI b5
            have hfin := Aside0.mk (fun wf (hf : Agree (fun i => i ≠ W.heap.size + 1) wr wf) => LI.fin T.out HI hs0 hf)
            clear e HI HJ
            go_wp2_with fail
            refine bodyPost_ret (results_cell26 rfl _ _ _ (set_six bz'.out _ _ _ _ _ _) rfl) rfl ?_
            obtain ⟨hbel, hlie⟩ := hfin.out _ (Agree.six wr _ _ _ _ _ _ _ _ (fun i hi => hi))
            exact ⟨V3, e3, V4, e4, A, c, rfl, hbel, hlie⟩
end Go.Proofs.YtmlcaecknocpoaaDoor.It
namespace Go.Proofs.YtmlcaecknocpoaaDoor.It
open Go Go.RowKit Go.Shelf Go.Proofs.YtmlcaecknocpoaaDoorW.PrintWords Go.Proofs.YtmlcaecknocpoaaDoorW.PrintLast Go.Proofs.YtmlcaecknocpoaaDoor.Pr Go.Proofs.YtmlcaecknocpoaaDoor.Sp
attribute [local go_sem ↓] Go.wp_at_zero Go.wp_at_succ
set_option maxRecDepth 100000 in
set_option maxHeartbeats 8000000 in
theorem right_leaf (k : Int) (nm : ByteArray) (n : Int) (ts : List S47) (bs : List S42) (l : List S26) (A3 : Option Addr) (c3 : Nat) (A4 : Option Addr) (c4 : Nat) (A5 : Option Addr) (c5 : Nat) (w0 W : World)
    (hat : At w0 ⟨k, nm, n, ts, bs, l⟩ A3 c3 A4 c4 A5 c5) (hb : Below w0.heap.size w0 W) (tn : Bool) (k1 : Int) (hk : always k n = true ∧ k1 = (if tn then 2 else 1) ∨ always k n = false ∧ k = 2 ∧ k1 = (if tn then 1 else 2)) :
    Calls Tryd.prog 60 #[.agg #[.int .i64 k, .string nm, .int .i64 n, .slice A3 ts.length c3, .slice A4 bs.length c4, .slice A5 l.length c5], .bool tn] W fun e w' =>
      e = .returned (.agg #[.int .i64 k1, .string ⟨#[]⟩, .int .i64 0, .slice none 0 0, .slice none 0 0, .slice none 0 0]) ∧ Below W.heap.size W w' := by
  have hu26 := Tryd.underlying26
  have HB := Aside0.mk hb
  have HA := Aside0.mk (fun W1 (h1 : Below w0.heap.size w0 W1) => always_calls ⟨k, nm, n, ts, bs, l⟩ A3 c3 A4 c4 A5 c5 W1 (hat.below h1))
  clear hat hb
  have T0 := Aside0.mk (Two.start HB.out k nm n ts bs l A3 c3 A4 c4 A5 c5)
  rcases hk with ⟨ha, hk1⟩ | ⟨ha, hk, hk1⟩
  · have h2 : k ≠ 2 := by rintro rfl; simp [always] at ha
    rw [ha] at HA
    clear ha
    cases tn
    · obtain rfl : k1 = 1 := by simpa using hk1
      clear hk1
      go_enter Tryd.func60, Tryd.ntmps60
      go_wp2_with (first
        | (go_at_call 93; refine (HA.out _ T0.out.h0).mono ?_; rintro e w1 ⟨rfl, g1⟩; have T1 := Aside0.mk (T0.out.below g1); clear T0 g1; obtain ⟨p0, p1, p2, p3, p4, p5⟩ := six T1.out.a; obtain ⟨r0, r1, r2, r3, r4, r5⟩ := six T1.out.b; have rf := blk_frozen T1.out.b; have ps := T1.out.s)
        | (go_at_call 93; refine (HA.out _ T1.out.h0).mono ?_; rintro e w2 ⟨rfl, g2⟩; have T2 := Aside0.mk (T1.out.below g2); clear T1 g2 p0 p1 p2 p3 p4 p5 ps r0 r1 r2 r3 r4 r5 rf; obtain ⟨q0, q1, q2, q3, q4, q5⟩ := six T2.out.a; obtain ⟨r0, r1, r2, r3, r4, r5⟩ := six T2.out.b; have rf := blk_frozen T2.out.b; have qs := T2.out.s))
      refine bodyPost_ret (results_cell26 rfl _ _ _ (set_six T2.out.b _ _ _ _ _ _) rfl) rfl ?_
      exact ⟨rfl, T2.out.h.trans ((Agree.six _ _ _ _ _ _ _ _ (fun i => i < W.heap.size) (fun i hi => by omega)).low (fun _ h => h) (by have := T2.out.s; omega))⟩
    · obtain rfl : k1 = 2 := by simpa using hk1
      clear hk1
      go_enter Tryd.func60, Tryd.ntmps60
      go_wp2_with (first
        | (go_at_call 93; refine (HA.out _ T0.out.h0).mono ?_; rintro e w1 ⟨rfl, g1⟩; have T1 := Aside0.mk (T0.out.below g1); clear T0 g1; obtain ⟨p0, p1, p2, p3, p4, p5⟩ := six T1.out.a; obtain ⟨r0, r1, r2, r3, r4, r5⟩ := six T1.out.b; have rf := blk_frozen T1.out.b; have ps := T1.out.s)
        | (go_at_call 93; refine (HA.out _ T1.out.h0).mono ?_; rintro e w2 ⟨rfl, g2⟩; have T2 := Aside0.mk (T1.out.below g2); clear T1 g2 p0 p1 p2 p3 p4 p5 ps r0 r1 r2 r3 r4 r5 rf; obtain ⟨q0, q1, q2, q3, q4, q5⟩ := six T2.out.a; obtain ⟨r0, r1, r2, r3, r4, r5⟩ := six T2.out.b; have rf := blk_frozen T2.out.b; have qs := T2.out.s))
      refine bodyPost_ret (results_cell26 rfl _ _ _ (set_six T1.out.b _ _ _ _ _ _) rfl) rfl ?_
      exact ⟨rfl, T1.out.h.trans ((Agree.six _ _ _ _ _ _ _ _ (fun i => i < W.heap.size) (fun i hi => by omega)).low (fun _ h => h) (by have := T1.out.s; omega))⟩
  · rw [ha] at HA
    clear ha
    subst hk
    cases tn
    · obtain rfl : k1 = 2 := by simpa using hk1
      clear hk1
      go_enter Tryd.func60, Tryd.ntmps60
      go_wp2_with (first
        | (go_at_call 93; refine (HA.out _ T0.out.h0).mono ?_; rintro e w1 ⟨rfl, g1⟩; have T1 := Aside0.mk (T0.out.below g1); clear T0 g1; obtain ⟨p0, p1, p2, p3, p4, p5⟩ := six T1.out.a; obtain ⟨r0, r1, r2, r3, r4, r5⟩ := six T1.out.b; have rf := blk_frozen T1.out.b; have ps := T1.out.s)
        | (go_at_call 93; refine (HA.out _ T1.out.h0).mono ?_; rintro e w2 ⟨rfl, g2⟩; have T2 := Aside0.mk (T1.out.below g2); clear T1 g2 p0 p1 p2 p3 p4 p5 ps r0 r1 r2 r3 r4 r5 rf; obtain ⟨q0, q1, q2, q3, q4, q5⟩ := six T2.out.a; obtain ⟨r0, r1, r2, r3, r4, r5⟩ := six T2.out.b; have rf := blk_frozen T2.out.b; have qs := T2.out.s))
      refine bodyPost_ret (results_cell26 rfl _ _ _ (set_six T1.out.b _ _ _ _ _ _) rfl) rfl ?_
      exact ⟨rfl, T1.out.h.trans ((Agree.six _ _ _ _ _ _ _ _ (fun i => i < W.heap.size) (fun i hi => by omega)).low (fun _ h => h) (by have := T1.out.s; omega))⟩
    · obtain rfl : k1 = 1 := by simpa using hk1
      clear hk1
      go_enter Tryd.func60, Tryd.ntmps60
      go_wp2_with (first
        | (go_at_call 93; refine (HA.out _ T0.out.h0).mono ?_; rintro e w1 ⟨rfl, g1⟩; have T1 := Aside0.mk (T0.out.below g1); clear T0 g1; obtain ⟨p0, p1, p2, p3, p4, p5⟩ := six T1.out.a; obtain ⟨r0, r1, r2, r3, r4, r5⟩ := six T1.out.b; have rf := blk_frozen T1.out.b; have ps := T1.out.s)
        | (go_at_call 93; refine (HA.out _ T1.out.h0).mono ?_; rintro e w2 ⟨rfl, g2⟩; have T2 := Aside0.mk (T1.out.below g2); clear T1 g2 p0 p1 p2 p3 p4 p5 ps r0 r1 r2 r3 r4 r5 rf; obtain ⟨q0, q1, q2, q3, q4, q5⟩ := six T2.out.a; obtain ⟨r0, r1, r2, r3, r4, r5⟩ := six T2.out.b; have rf := blk_frozen T2.out.b; have qs := T2.out.s))
      refine bodyPost_ret (results_cell26 rfl _ _ _ (set_six T2.out.b _ _ _ _ _ _) rfl) rfl ?_
      exact ⟨rfl, T2.out.h.trans ((Agree.six _ _ _ _ _ _ _ _ (fun i => i < W.heap.size) (fun i hi => by omega)).low (fun _ h => h) (by have := T2.out.s; omega))⟩
set_option maxRecDepth 100000 in
set_option maxHeartbeats 8000000 in
theorem right_not (s : Nat) (hS : RightOk s) (nm : ByteArray) (n : Int) (ts : List S47) (bs : List S42) (l : List S26) (A3 : Option Addr) (c3 : Nat) (A4 : Option Addr) (c4 : Nat) (A5 : Option Addr) (c5 : Nat) (w0 W : World)
    (hs : sizes l ≤ s) (hat : At w0 ⟨10, nm, n, ts, bs, l⟩ A3 c3 A4 c4 A5 c5) (hf : forms l = true) (hdp : ∀ y ∈ l, Deep y) (ht : Tabs w0) (hd : Duals w0) (hb : Below w0.heap.size w0 W) (hl : l.length = 1) (tn : Bool) :
    Calls Tryd.prog 60 #[.agg #[.int .i64 10, .string nm, .int .i64 n, .slice A3 ts.length c3, .slice A4 bs.length c4, .slice A5 l.length c5], .bool tn] W fun e w' => ∃ B3 d3 B4 d4 B5 d5,
      e = .returned (.agg #[.int .i64 (right (rd_T26 l 0) (!tn)).f0, .string (right (rd_T26 l 0) (!tn)).f1, .int .i64 (right (rd_T26 l 0) (!tn)).f2, .slice B3 (right (rd_T26 l 0) (!tn)).f3.length d3, .slice B4 (right (rd_T26 l 0) (!tn)).f4.length d4, .slice B5 (right (rd_T26 l 0) (!tn)).f5.length d5]) ∧
      Below W.heap.size W w' ∧ Lies (fun k => k < w0.heap.size ∨ W.heap.size ≤ k) w' (right (rd_T26 l 0) (!tn)) B3 d3 B4 d4 B5 d5 := by
  have hu26 := Tryd.underlying26
  have hlt : 0 < l.length := by omega
  have HA := Aside0.mk (fun W1 (h1 : Below w0.heap.size w0 W1) => always_calls ⟨10, nm, n, ts, bs, l⟩ A3 c3 A4 c4 A5 c5 W1 (hat.below h1))
  have ha : always 10 n = false := by simp [always]
  dsimp only at HA
  rw [ha] at HA
  clear ha
  obtain ⟨ad, B3, d3, B4, d4, B5, d5, hA5, hatj, x0, x1, x2, x3, x4, x5⟩ := formAt hat.g5 (Below.refl _ _) 0 hlt
  subst hA5
  obtain ⟨y, hy⟩ : ∃ y, rd_T26 l 0 = y := ⟨_, rfl⟩
  have hy' : rd_T26 l ((0 : Nat) : Int) = y := hy
  rw [hy'] at hatj x0 x1 x2 x3 x4 x5
  rw [hy]
  have HC := Aside0.mk (fun W1 (h1 : Below w0.heap.size w0 W1) => hS y (!tn) B3 d3 B4 d4 B5 d5 w0 W1 (by rw [← hy']; exact Nat.le_trans (by have := sizes_take l 0 hlt; omega) hs) hatj (by rw [← hy']; exact hdp _ (rd26_mem l 0 hlt)) (by rw [← hy']; exact forms_rd l hf 0 hlt) ht hd h1)
  have T0 := Aside0.mk (Two.start hb 10 nm n ts bs l A3 c3 A4 c4 (some ad) c5)
  have HX := Aside0.mk (And.intro x0 (And.intro x1 (And.intro x2 (And.intro x3 (And.intro x4 x5)))))
  have hsW := Aside0.mk hb.size
  clear hS hs hat hf hdp ht hd hatj hy hy' x0 x1 x2 x3 x4 x5 hb
  have hltz : (0 : Int) < (l.length : Int) := by omega
  clear hl hlt
  go_enter Tryd.func60, Tryd.ntmps60
  go_upto_region 6 with (first
        | (go_at_call 93; refine (HA.out _ T0.out.h0).mono ?_; rintro e w1 ⟨rfl, g1⟩; have T1 := Aside0.mk (T0.out.below g1); clear T0 g1; obtain ⟨p0, p1, p2, p3, p4, p5⟩ := six T1.out.a; obtain ⟨r0, r1, r2, r3, r4, r5⟩ := six T1.out.b; have rf := blk_frozen T1.out.b; have ps := T1.out.s)
        | (go_at_call 93; refine (HA.out _ T1.out.h0).mono ?_; rintro e w2 ⟨rfl, g2⟩; have T2 := Aside0.mk (T1.out.below g2); clear T1 g2 p0 p1 p2 p3 p4 p5 ps r0 r1 r2 r3 r4 r5 rf; obtain ⟨q0, q1, q2, q3, q4, q5⟩ := six T2.out.a; obtain ⟨r0, r1, r2, r3, r4, r5⟩ := six T2.out.b; have rf := blk_frozen T2.out.b; have qs := T2.out.s)
        | (go_at_call 60; refine (HC.out _ T2.out.h0).mono ?_; rintro e w3 ⟨D3, f3, D4, f4, D5, f5, rfl, g3, hl3⟩; have T3 := Aside0.mk (T2.out.below g3); replace hl3 := Aside0.mk hl3; clear q0 q1 q2 q3 q4 q5 r0 r1 r2 r3 r4 r5 rf; obtain ⟨r0, r1, r2, r3, r4, r5⟩ := six T3.out.b; have rf := blk_frozen T3.out.b; have ts := T3.out.s))
  obtain ⟨x0, x1, x2, x3, x4, x5⟩ := HX.out
  simp only [Nat.zero_mul, Addr.add_zero'] at x0 x1 x2 x3 x4 x5
  have up := T2.out.h0
  replace x0 := up_cell up x0
  replace x1 := up_cell up x1
  replace x2 := up_cell up x2
  replace x3 := up_cell up x3
  replace x4 := up_cell up x4
  replace x5 := up_cell up x5
  clear up HA HX
  go_wp2_with (go_at_call 60; refine (HC.out _ T2.out.h0).mono ?_; rintro e w3 ⟨D3, f3, D4, f4, D5, f5, rfl, g3, hl3⟩; have T3 := Aside0.mk (T2.out.below g3); replace hl3 := Aside0.mk hl3; clear q0 q1 q2 q3 q4 q5 r0 r1 r2 r3 r4 r5 rf x0 x1 x2 x3 x4 x5; obtain ⟨r0, r1, r2, r3, r4, r5⟩ := six T3.out.b; have rf := blk_frozen T3.out.b; have ts := T3.out.s)
  refine bodyPost_ret (results_cell26 rfl _ _ _ (set_six T3.out.b _ _ _ _ _ _) rfl) rfl ?_
  have hs0 := hsW.out
  exact ⟨D3, f3, D4, f4, D5, f5, rfl, T3.out.h.trans ((Agree.six _ _ _ _ _ _ _ _ (fun i => i < W.heap.size) (fun i hi => by omega)).low (fun _ h => h) (by omega)), hl3.out.move (Agree.six _ _ _ _ _ _ _ _ _ (fun i hi => by omega)) (fun i hi _ => by omega)⟩
theorem row_one {w : World} {B : Nat} {y : S26} {D3 : Option Addr} {f3 : Nat} {D4 : Option Addr} {f4 : Nat} {D5 : Option Addr} {f5 : Nat} (hB : w.heap[B]? = some (.cells #[.int .i64 y.f0, .string y.f1, .int .i64 y.f2, .slice D3 y.f3.length f3, .slice D4 y.f4.length f4, .slice D5 y.f5.length f5] 26 (0, 0))) (hat : At w y D3 f3 D4 f4 D5 f5) :
    Kd.C k26 w (some ⟨B, 0, none⟩) [y].length [y] := by
  refine ⟨rfl, by simp, fun _ => ⟨⟨B, 0, none⟩, rfl, fun j p hj => ?_⟩⟩
  cases j with
  | zero =>
    obtain rfl : y = p := by simpa using hj
    refine ⟨_, rfl, hat.K, fun i u hu => ?_⟩
    have := World.news_of_block hB i u (by simpa [cl] using hu)
    simpa using this
  | succ j => simp at hj
set_option maxRecDepth 100000 in
set_option maxHeartbeats 8000000 in
theorem right_atom (k : Int) (nm : ByteArray) (n : Int) (ts : List S47) (bs : List S42) (l : List S26) (A3 : Option Addr) (c3 : Nat) (A4 : Option Addr) (c4 : Nat) (A5 : Option Addr) (c5 : Nat) (w0 W : World)
    (hat : At w0 ⟨k, nm, n, ts, bs, l⟩ A3 c3 A4 c4 A5 c5) (hb : Below w0.heap.size w0 W) (hk : atom k = true) (h9 : k ≠ 9) :
    Calls Tryd.prog 60 #[.agg #[.int .i64 k, .string nm, .int .i64 n, .slice A3 ts.length c3, .slice A4 bs.length c4, .slice A5 l.length c5], .bool true] W fun e w' => ∃ B3 d3 B4 d4 B5 d5,
      e = .returned (.agg #[.int .i64 10, .string ⟨#[]⟩, .int .i64 0, .slice B3 0 d3, .slice B4 0 d4, .slice B5 1 d5]) ∧
      Below W.heap.size W w' ∧ Lies (fun k => k < w0.heap.size ∨ W.heap.size ≤ k) w' ⟨10, e0, 0, [], [], [⟨k, nm, n, ts, bs, l⟩]⟩ B3 d3 B4 d4 B5 d5 := by
  have hu26 := Tryd.underlying26
  have hk' : 3 ≤ k ∧ k ≤ 9 := by simpa [atom] using hk
  have h2 : k ≠ 2 := by omega
  have h10 : k ≠ 10 := by omega
  have h13 : k ≠ 13 := by omega
  have HA := Aside0.mk (fun W1 (h1 : Below w0.heap.size w0 W1) => always_calls ⟨k, nm, n, ts, bs, l⟩ A3 c3 A4 c4 A5 c5 W1 (hat.below h1))
  have ha : always k n = false := by simp [always]; omega
  dsimp only at HA
  rw [ha] at HA
  clear ha hk'
  have T0 := Aside0.mk (Two.start hb k nm n ts bs l A3 c3 A4 c4 A5 c5)
  have H := Aside0.mk (And.intro hat hb)
  clear hat hb
  go_enter Tryd.func60, Tryd.ntmps60
  go_wp2_with (first
        | (go_at_call 93; refine (HA.out _ T0.out.h0).mono ?_; rintro e w1 ⟨rfl, g1⟩; have T1 := Aside0.mk (T0.out.below g1); clear T0 g1; obtain ⟨p0, p1, p2, p3, p4, p5⟩ := six T1.out.a; obtain ⟨r0, r1, r2, r3, r4, r5⟩ := six T1.out.b; have rf := blk_frozen T1.out.b; have ps := T1.out.s)
        | (go_at_call 93; refine (HA.out _ T1.out.h0).mono ?_; rintro e w2 ⟨rfl, g2⟩; have T2 := Aside0.mk (T1.out.below g2); clear T1 g2 p0 p1 p2 p3 p4 p5 ps r0 r1 r2 r3 r4 r5 rf; obtain ⟨q0, q1, q2, q3, q4, q5⟩ := six T2.out.a; obtain ⟨r0, r1, r2, r3, r4, r5⟩ := six T2.out.b; have rf := blk_frozen T2.out.b; have qs := T2.out.s; have qt : W.heap.size + 1 < w2.heap.size := Nat.lt_of_lt_of_le (Nat.lt_succ_self _) T2.out.s)
        | (go_at_call 80; refine (atom_calls _ _).mono ?_; rintro e w3 ⟨rfl, rfl⟩))
  have hs0 := H.out.2.size
  have sA := fun ok h => Agree.six w2 (W.heap.size + 1) (.int .i64 10) (.string ⟨#[]⟩) (.int .i64 0) (.slice none 0 0) (.slice none 0 0) (.slice (some ⟨w2.heap.size, 0, none⟩) 1 1) ok h
  have sB := set_six T2.out.b (.int .i64 10) (.string ⟨#[]⟩) (.int .i64 0) (.slice none 0 0) (.slice none 0 0) (.slice (some ⟨w2.heap.size, 0, none⟩) 1 1)
  obtain ⟨ws, hws⟩ : ∃ ws, ((((((w2.setCell ⟨W.heap.size + 1, 0, none⟩ (.int .i64 10)).setCell ⟨W.heap.size + 1, 1, none⟩ (.string ⟨#[]⟩)).setCell ⟨W.heap.size + 1, 2, none⟩ (.int .i64 0)).setCell ⟨W.heap.size + 1, 3, none⟩ (.slice none 0 0)).setCell ⟨W.heap.size + 1, 4, none⟩ (.slice none 0 0)).setCell ⟨W.heap.size + 1, 5, none⟩ (.slice (some ⟨w2.heap.size, 0, none⟩) 1 1)) = ws := ⟨_, rfl⟩
  have hsz : ws.heap.size = w2.heap.size := by rw [← hws]; simp
  rw [hws] at sA sB ⊢
  clear hws
  have hn := heap_new ws (.cells #[.int .i64 k, .string nm, .int .i64 n, .slice A3 ts.length c3, .slice A4 bs.length c4, .slice A5 l.length c5] 26)
  rw [hsz] at hn
  refine bodyPost_ret (results_cell26 rfl _ _ _ (blk_below ((Below.refl _ _).alloc (Nat.le_refl _) _) sB) rfl) rfl ?_
  refine ⟨none, 0, none, 0, some ⟨w2.heap.size, 0, none⟩, 1, rfl, T2.out.h.trans (((sA (fun i => i < W.heap.size) (fun i hi => by omega)).low (fun _ h => h) (by omega)).alloc (by omega) _), fun w1 h1 => ?_⟩
  have hx : Lies (fun i => i < w0.heap.size) w2 ⟨k, nm, n, ts, bs, l⟩ A3 c3 A4 c4 A5 c5 := H.out.1.lies T2.out.h0 _ (fun _ h => h)
  have a1 : Agree (fun i => i < w0.heap.size ∨ W.heap.size + 2 ≤ i) w2 w1 := ((sA _ (fun i hi => by omega)).trans (Agree.alloc ws _ (fun _ => True)) (fun _ _ _ => trivial)).trans h1 (fun i hi _ => by omega)
  exact ⟨Nat.le_refl _, Kd.C_nil _ _, Nat.le_refl _, Kd.C_nil _ _, Nat.le_refl _, row_one ((h1.2 w2.heap.size (by omega) (by simp; omega)).trans hn) (hx w1 (a1.mono (fun i hi _ => .inl hi)))⟩
end Go.Proofs.YtmlcaecknocpoaaDoor.It
