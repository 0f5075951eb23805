/- Lemmas and walks for the claim below. -/
import Derived.Test.YtmlcaecknocpoaaDoorQuK2
import Derived.Lib.IndexEntry
import Derived.Deep.RegionHeld3
import Derived.Deep.DrawnRows
import Derived.Deep.DeepCutAuto
import Derived.Maps.OwnSet
import Derived.Carry
import Derived.Laws.EntriesVeiled
namespace Go.Proofs.YtmlcaecknocpoaaDoor.Pr
open Go.RowKit Go.Proofs.YtmlcaecknocpoaaDoorW.PrintWords Go.Proofs.YtmlcaecknocpoaaDoorW.PrintLast Go.Proofs.YtmlcaecknocpoaaDoorW.PrintMore
attribute [local go_sem] max2_int min2_int max_two min_two max_three min_three max_four min_four   
set_option linter.unusedVariables false
set_option linter.unusedSimpArgs false
mutual
def formula_Depth.l0 : Nat → Int → List (S26) → Int → Int → Option (Int)
  | 0, _, _, _, _ => none
  | k + 1, x3, x7, x8, x9 => if x9 < x8 then (if 0 ≤ x9 then (if x9 < (x7.length : Int) then ((formula_Depth.f k ((rd_T26 x7 x9).f0) ((rd_T26 x7 x9).f1) ((rd_T26 x7 x9).f2) ((rd_T26 x7 x9).f3) ((rd_T26 x7 x9).f4) ((rd_T26 x7 x9).f5)).bind fun t188 => (formula_Depth.l0 k (mx x3 t188) x7 x8 (wrap64 (x9 + 1)))) else (none)) else (none)) else (some (wrap64 (x3 + 1)))
def formula_Depth.f : Nat → Int → ByteArray → Int → List (S47) → List (S42) → List (S26) → Option (Int)
  | 0, _, _, _, _, _, _ => none
  | k + 1, a0_0, a0_1, a0_2, l0_3, l0_4, l0_5 => formula_Depth.l0 k 0 l0_5 (l0_5.length : Int) 0
end
set_option maxHeartbeats 8000000 in
set_option maxRecDepth 100000 in
theorem formula_Depth.calls (k : Nat) : ∀ (a0_0 : Int) (a0_1 : ByteArray) (a0_2 : Int) (A0_3 : Option Addr) (c0_3 : Nat) (l0_3 : List (S47)) (A0_4 : Option Addr) (c0_4 : Nat) (l0_4 : List (S42)) (A0_5 : Option Addr) (c0_5 : Nat) (l0_5 : List (S26)) (r : Int) (w : World) (hr0_3 : Kd.C k47 w A0_3 l0_3.length l0_3) (hc0_3 : l0_3.length ≤ c0_3) (hr0_4 : Kd.C k42 w A0_4 l0_4.length l0_4) (hc0_4 : l0_4.length ≤ c0_4) (hr0_5 : Kd.C k26 w A0_5 l0_5.length l0_5) (hc0_5 : l0_5.length ≤ c0_5) (h : formula_Depth.f k a0_0 a0_1 a0_2 l0_3 l0_4 l0_5 = some r),
    Calls Tryd.prog 26 #[.agg #[.int .i64 a0_0, .string a0_1, .int .i64 a0_2, .slice A0_3 l0_3.length c0_3, .slice A0_4 l0_4.length c0_4, .slice A0_5 l0_5.length c0_5]] w fun e w' => e = .returned (.int .i64 r) ∧ Below w.heap.size w w' := by
  induction k using Nat.strongRecOn with
  | _ k ih =>
  intro a0_0 a0_1 a0_2 A0_3 c0_3 l0_3 A0_4 c0_4 l0_4 A0_5 c0_5 l0_5 r w hr0_3 hc0_3 hr0_4 hc0_4 hr0_5 hc0_5 h
  cases k with
  | zero => exact absurd h (by simp [formula_Depth.f])
  | succ k =>
  simp only [formula_Depth.f] at h
  have hu26 := Tryd.underlying26
  have HR0_3 := Aside0.mk hr0_3
  have HC0_3 := Aside0.mk hc0_3
  clear hr0_3 hc0_3
  have HR0_4 := Aside0.mk hr0_4
  have HC0_4 := Aside0.mk hc0_4
  clear hr0_4 hc0_4
  have HR0_5 := Aside0.mk hr0_5
  have HC0_5 := Aside0.mk hc0_5
  clear hr0_5 hc0_5
  have HB := Aside0.mk (Below.refl w.heap.size w)
  have H : (formula_Depth.l0 k 0 l0_5 (l0_5.length : Int) 0) = some r := h
  clear h
  have H' := Aside0.mk H
  clear H
  go_enter Tryd.func26, Tryd.ntmps26
  go_wp2_with (first | ((with_reducible refine gate_dst (N := 1) rfl ?_); refine box_event ?hg (N := 1) ?hd (cs := #[.int .i64 a0_0, .string a0_1, .int .i64 a0_2, .slice A0_3 l0_3.length c0_3, .slice A0_4 l0_4.length c0_4, .slice A0_5 l0_5.length c0_5]) (t := 26) ?hr ?_; (case hd => rfl); (case hg => rfl); (case hr => first | (go_simp; done) | (go_simp; rfl)); intro gb185 hg w2 hbox hb; have n0_ := Aside0.mk (below_step (by repeat (first | (with_reducible first | exact HB.out | apply below_alloc | apply pw_below_drewN | apply below_drew1) | exact HB.out)) hb); have n1_ := Aside0.mk (hbox); have n2_ := Aside0.mk ((by rw [hg]; exact (below_size (by repeat (first | (with_reducible first | exact HB.out | apply below_alloc | apply pw_below_drewN | apply below_drew1) | exact HB.out))) : w.heap.size ≤ gb185)); have n3_ := Aside0.mk ((by rw [hg]; exact (below_size (by repeat (first | (with_reducible first | exact HB.out | apply below_alloc | apply pw_below_drewN | apply below_drew1) | exact HB.out))) : w.heap.size ≤ gb185)); clear HB; have HB := n0_; have BK185 := n1_; have GW185 := n2_; have GE185 := n3_; clear n0_ n1_ n2_ n3_; clear hb hbox hg; have hcz3_0 : w2.cell? ⟨gb185, 0, none⟩ = some (.int .i64 a0_0) := (blk_cell BK185.out 0).trans rfl; have hcz3_1 : w2.cell? ⟨gb185, 1, none⟩ = some (.string a0_1) := (blk_cell BK185.out 1).trans rfl; have hcz3_2 : w2.cell? ⟨gb185, 2, none⟩ = some (.int .i64 a0_2) := (blk_cell BK185.out 2).trans rfl; have hcz3_3 : w2.cell? ⟨gb185, 3, none⟩ = some (.slice A0_3 l0_3.length c0_3) := (blk_cell BK185.out 3).trans rfl; have hcz3_4 : w2.cell? ⟨gb185, 4, none⟩ = some (.slice A0_4 l0_4.length c0_4) := (blk_cell BK185.out 4).trans rfl; have hcz3_5 : w2.cell? ⟨gb185, 5, none⟩ = some (.slice A0_5 l0_5.length c0_5) := (blk_cell BK185.out 5).trans rfl; have hfz3_0 := blk_frozen BK185.out 0; have hfz3_1 := blk_frozen BK185.out 1; have hfz3_2 := blk_frozen BK185.out 2; have hfz3_3 := blk_frozen BK185.out 3; have hfz3_4 := blk_frozen BK185.out 4; have hfz3_5 := blk_frozen BK185.out 5))
  go_loopg [3, 9] k (fun kq v3 v9 w' => ∃ (x3_1 : Int) (x9_1 : Int), v3 = .int .i64 x3_1 ∧ v9 = .int .i64 x9_1 ∧ Aside0 (formula_Depth.l0 kq x3_1 l0_5 (l0_5.length : Int) x9_1 = some r) ∧ Aside0 (kq ≤ k) ∧ Aside0 (w'.heap[gb185]? = some (.cells #[.int .i64 a0_0, .string a0_1, .int .i64 a0_2, (.slice A0_3 l0_3.length c0_3), (.slice A0_4 l0_4.length c0_4), (.slice A0_5 l0_5.length c0_5)] 26 (0, 0))) ∧ Aside0 (Below w.heap.size w w'))
  case atStart => exact ⟨(0), (0), (by first | rfl | (simp; done) | (simp [*]; done)), (by first | rfl | (simp; done) | (simp [*]; done)), H', ⟨Nat.le_refl _⟩, ⟨by (with_reducible repeat (first | refine blk_drewN ?_ _ | refine blk_drew ?_ | refine blk_alloc ?_ _)); exact BK185.out⟩, ⟨by repeat (first | (with_reducible first | exact HB.out | apply below_alloc | apply pw_below_drewN | apply below_drew1 | refine below_set ?_ GE185.out) | exact HB.out)⟩⟩
  case round =>
    clear H'
    try clear c2
    try clear p2
    try clear hcz3_0
    try clear hcz3_1
    try clear hcz3_2
    try clear hcz3_3
    try clear hcz3_4
    try clear hcz3_5
    try clear hfz3_0
    try clear hfz3_1
    try clear hfz3_2
    try clear hfz3_3
    try clear hfz3_4
    try clear hfz3_5
    obtain ⟨x3_1, x9_1, rfl, rfl, HA, HK1, BK185, HB⟩ := hrel
    cases gk with
    | zero => exact absurd HA.out (by simp [formula_Depth.l0])
    | succ k1 =>
      have H := HA.out
      clear HA
      simp only [formula_Depth.l0] at H
      by_cases c4 : x9_1 < (l0_5.length : Int)
      · rw [if_pos c4] at H
        have c4b0 : decide (x9_1 < (l0_5.length : Int)) = true := decide_eq_true c4
        clear c4
        by_cases c5 : 0 ≤ x9_1
        · rw [if_pos c5] at H
          have c5b0 : decide (0 ≤ x9_1) = true := decide_eq_true c5
          clear c5
          by_cases c6 : x9_1 < (l0_5.length : Int)
          · rw [if_pos c6] at H
            have c6b0 : decide (x9_1 < (l0_5.length : Int)) = true := decide_eq_true c6
            clear c6
            replace H := Option.bind_eq_some_iff.mp H
            obtain ⟨t188, A70, H⟩ := H
            replace H : (formula_Depth.l0 k1 (mx x3_1 t188) l0_5 (l0_5.length : Int) (wrap64 (x9_1 + 1))) = some r := H
            have A7 := Aside0.mk A70
            clear A70
            obtain ⟨ji8, hji8⟩ : ∃ j_ : Int, (mx x3_1 t188) = j_ := ⟨_, rfl⟩
            replace H : (formula_Depth.l0 k1 ji8 l0_5 (l0_5.length : Int) (wrap64 (x9_1 + 1))) = some r := by first | (rw [hji8] at H; exact H) | (simp only [hji8] at H ⊢; exact H)
            (try rw [hji8] at A7)
            have hji8_ : (if x3_1 < t188 then t188 else x3_1) = ji8 := hji8
            have H' := Aside0.mk H
            clear H
            have p186 : 0 ≤ (x9_1 : Int) := of_decide_eq_true (by first | (with_reducible assumption) | assumption)
            have q186 : x9_1 < (l0_5.length : Int) := of_decide_eq_true (by first | (with_reducible assumption) | assumption)
            obtain ⟨ad186, A186_3, c186_3, A186_4, c186_4, A186_5, c186_5, e186, hx186_0, hx186_1, hx186_2, hx186_3, hx186_4, hx186_5, hl186_3, hi186_3, hl186_4, hi186_4, hl186_5, hi186_5⟩ := at_T26 HR0_5.out x9_1 p186 q186
            cases e186
            replace hx186_0 := (HB.out.cell (World.block_lt_of_cell? w _ hx186_0)).trans hx186_0
            replace hx186_1 := (HB.out.cell (World.block_lt_of_cell? w _ hx186_1)).trans hx186_1
            replace hx186_2 := (HB.out.cell (World.block_lt_of_cell? w _ hx186_2)).trans hx186_2
            replace hx186_3 := (HB.out.cell (World.block_lt_of_cell? w _ hx186_3)).trans hx186_3
            replace hx186_4 := (HB.out.cell (World.block_lt_of_cell? w _ hx186_4)).trans hx186_4
            replace hx186_5 := (HB.out.cell (World.block_lt_of_cell? w _ hx186_5)).trans hx186_5
            have HR186_3 := Aside0.mk hi186_3
            have HC186_3 := Aside0.mk hl186_3
            clear hi186_3 hl186_3
            have HR186_4 := Aside0.mk hi186_4
            have HC186_4 := Aside0.mk hl186_4
            clear hi186_4 hl186_4
            have HR186_5 := Aside0.mk hi186_5
            have HC186_5 := Aside0.mk hl186_5
            clear hi186_5 hl186_5
            replace p186 := eq_true p186
            replace q186 := eq_true q186
            go_wp2_with (first | ((with_reducible refine gate_dst (N := 5) rfl ?_); refine box_event ?hg (N := 5) ?hd (cs := #[.int .i64 0, .string (⟨#[]⟩ : ByteArray), .int .i64 0, .slice none 0 0, .slice none 0 0, .slice none 0 0]) (t := 26) ?hr ?_; (case hd => rfl); (case hg => rfl); (case hr => first | (go_simp; done) | (go_simp; rfl)); intro gb187 hg w9 hbox hb; have n0_ := Aside0.mk (blk_below (g := gb185) (o := .cells #[.int .i64 a0_0, .string a0_1, .int .i64 a0_2, .slice A0_3 l0_3.length c0_3, .slice A0_4 l0_4.length c0_4, .slice (some ad186) l0_5.length c0_5] 26 (0, 0)) (by (with_reducible repeat (first | refine blk_drewN ?_ _ | refine blk_drew ?_ | refine blk_alloc ?_ _)); exact BK185.out) hb); have n1_ := Aside0.mk (below_step (by repeat (first | (with_reducible first | exact HB.out | apply below_alloc | apply pw_below_drewN | apply below_drew1 | refine below_set ?_ GE185.out) | exact HB.out)) hb); have n2_ := Aside0.mk (hbox); have n3_ := Aside0.mk ((by rw [hg]; exact (below_size (by repeat (first | (with_reducible first | exact HB.out | apply below_alloc | apply pw_below_drewN | apply below_drew1 | refine below_set ?_ GE185.out) | exact HB.out))) : w.heap.size ≤ gb187)); have n4_ := Aside0.mk ((by rw [hg]; exact (below_size (by repeat (first | (with_reducible first | exact HB.out | apply below_alloc | apply pw_below_drewN | apply below_drew1 | refine below_set ?_ GE185.out) | exact HB.out))) : w.heap.size ≤ gb187)); have n5_ := Aside0.mk ((by rw [hg]; exact Nat.ne_of_lt (blk_lt (g := gb185) (o := .cells #[.int .i64 a0_0, .string a0_1, .int .i64 a0_2, .slice A0_3 l0_3.length c0_3, .slice A0_4 l0_4.length c0_4, .slice (some ad186) l0_5.length c0_5] 26 (0, 0)) (by (with_reducible repeat (first | refine blk_drewN ?_ _ | refine blk_drew ?_ | refine blk_alloc ?_ _)); exact BK185.out)) : gb185 ≠ gb187)); have n6_ := Aside0.mk ((by rw [hg]; exact Nat.ne_of_gt (blk_lt (g := gb185) (o := .cells #[.int .i64 a0_0, .string a0_1, .int .i64 a0_2, .slice A0_3 l0_3.length c0_3, .slice A0_4 l0_4.length c0_4, .slice (some ad186) l0_5.length c0_5] 26 (0, 0)) (by (with_reducible repeat (first | refine blk_drewN ?_ _ | refine blk_drew ?_ | refine blk_alloc ?_ _)); exact BK185.out)) : gb187 ≠ gb185)); clear BK185; clear HB; have BK185 := n0_; have HB := n1_; have BK187 := n2_; have GW187 := n3_; have GE187 := n4_; have NB185_187 := n5_; have NB187_185 := n6_; clear n0_ n1_ n2_ n3_ n4_ n5_ n6_; clear hb hbox hg; have hnb10 := NB187_185.out; have hnc10 := NB185_187.out; have hcz11_0 : w9.cell? ⟨gb187, 0, none⟩ = some (.int .i64 0) := (blk_cell BK187.out 0).trans rfl; have hcz11_1 : w9.cell? ⟨gb187, 1, none⟩ = some (.string (⟨#[]⟩ : ByteArray)) := (blk_cell BK187.out 1).trans rfl; have hcz11_2 : w9.cell? ⟨gb187, 2, none⟩ = some (.int .i64 0) := (blk_cell BK187.out 2).trans rfl; have hcz11_3 : w9.cell? ⟨gb187, 3, none⟩ = some (.slice none 0 0) := (blk_cell BK187.out 3).trans rfl; have hcz11_4 : w9.cell? ⟨gb187, 4, none⟩ = some (.slice none 0 0) := (blk_cell BK187.out 4).trans rfl; have hcz11_5 : w9.cell? ⟨gb187, 5, none⟩ = some (.slice none 0 0) := (blk_cell BK187.out 5).trans rfl; have hfz11_0 := blk_frozen BK187.out 0; have hfz11_1 := blk_frozen BK187.out 1; have hfz11_2 := blk_frozen BK187.out 2; have hfz11_3 := blk_frozen BK187.out 3; have hfz11_4 := blk_frozen BK187.out 4; have hfz11_5 := blk_frozen BK187.out 5) | ((with_reducible refine gate_callee (f := 26) rfl ?_); refine goesL_ (some 15) rfl rfl Tryd.func26 (by kernel_rfl) rfl #[.agg #[.int .i64 ((rd_T26 l0_5 x9_1).f0), .string ((rd_T26 l0_5 x9_1).f1), .int .i64 ((rd_T26 l0_5 x9_1).f2), .slice A186_3 ((rd_T26 l0_5 x9_1).f3).length c186_3, .slice A186_4 ((rd_T26 l0_5 x9_1).f4).length c186_4, .slice A186_5 ((rd_T26 l0_5 x9_1).f5).length c186_5]] rfl (by (try simp only [List.map_toArray, List.map_cons, List.map_nil]); first | done | rfl | (simp only [List.length_drop, List.length_take]; rfl)) ?_; (with_reducible refine (ih k1 (by have := HK1.out; omega) ((rd_T26 l0_5 x9_1).f0) ((rd_T26 l0_5 x9_1).f1) ((rd_T26 l0_5 x9_1).f2) _ _ ((rd_T26 l0_5 x9_1).f3) _ _ ((rd_T26 l0_5 x9_1).f4) _ _ ((rd_T26 l0_5 x9_1).f5) t188 _ ?side1 ?side2 ?side3 ?side4 ?side5 ?side6 A7.out).mono ?_); (case side1 => exact Kd.C_below HR186_3.out (by repeat (first | (with_reducible first | exact HB.out | apply below_alloc | apply pw_below_drewN | apply below_drew1 | refine below_set ?_ GE185.out | refine below_set ?_ GE187.out) | exact HB.out))); (case side2 => exact HC186_3.out); (case side3 => exact Kd.C_below HR186_4.out (by repeat (first | (with_reducible first | exact HB.out | apply below_alloc | apply pw_below_drewN | apply below_drew1 | refine below_set ?_ GE185.out | refine below_set ?_ GE187.out) | exact HB.out))); (case side4 => exact HC186_4.out); (case side5 => exact Kd.C_below HR186_5.out (by repeat (first | (with_reducible first | exact HB.out | apply below_alloc | apply pw_below_drewN | apply below_drew1 | refine below_set ?_ GE185.out | refine below_set ?_ GE187.out) | exact HB.out))); (case side6 => exact HC186_5.out); rintro e w12 ⟨rfl, hb⟩; refine ⟨_, rfl, ?_⟩; have n0_ := Aside0.mk (blk_below (g := gb185) (o := .cells #[.int .i64 a0_0, .string a0_1, .int .i64 a0_2, .slice A0_3 l0_3.length c0_3, .slice A0_4 l0_4.length c0_4, .slice (some ad186) l0_5.length c0_5] 26 (0, 0)) (by (with_reducible repeat (first | refine blk_drewN ?_ _ | refine blk_drew ?_ | refine blk_alloc ?_ _)); refine blk_far ?_ NB185_187.out _; (with_reducible repeat (first | refine blk_drewN ?_ _ | refine blk_drew ?_ | refine blk_alloc ?_ _)); refine blk_far ?_ NB185_187.out _; (with_reducible repeat (first | refine blk_drewN ?_ _ | refine blk_drew ?_ | refine blk_alloc ?_ _)); refine blk_far ?_ NB185_187.out _; (with_reducible repeat (first | refine blk_drewN ?_ _ | refine blk_drew ?_ | refine blk_alloc ?_ _)); refine blk_far ?_ NB185_187.out _; (with_reducible repeat (first | refine blk_drewN ?_ _ | refine blk_drew ?_ | refine blk_alloc ?_ _)); refine blk_far ?_ NB185_187.out _; (with_reducible repeat (first | refine blk_drewN ?_ _ | refine blk_drew ?_ | refine blk_alloc ?_ _)); refine blk_far ?_ NB185_187.out _; (with_reducible repeat (first | refine blk_drewN ?_ _ | refine blk_drew ?_ | refine blk_alloc ?_ _)); exact BK185.out) hb); have n1_ := Aside0.mk (blk_below (g := gb187) (o := .cells #[.int .i64 ((rd_T26 l0_5 x9_1).f0), .string ((rd_T26 l0_5 x9_1).f1), .int .i64 ((rd_T26 l0_5 x9_1).f2), .slice A186_3 ((rd_T26 l0_5 x9_1).f3).length c186_3, .slice A186_4 ((rd_T26 l0_5 x9_1).f4).length c186_4, .slice A186_5 ((rd_T26 l0_5 x9_1).f5).length c186_5] 26 (0, 0)) (by (with_reducible repeat (first | refine blk_drewN ?_ _ | refine blk_drew ?_ | refine blk_alloc ?_ _)); refine blk_put (cs := #[.int .i64 ((rd_T26 l0_5 x9_1).f0), .string ((rd_T26 l0_5 x9_1).f1), .int .i64 ((rd_T26 l0_5 x9_1).f2), .slice A186_3 ((rd_T26 l0_5 x9_1).f3).length c186_3, .slice A186_4 ((rd_T26 l0_5 x9_1).f4).length c186_4, .slice none 0 0]) ?_ 5 _ rfl; (with_reducible repeat (first | refine blk_drewN ?_ _ | refine blk_drew ?_ | refine blk_alloc ?_ _)); refine blk_put (cs := #[.int .i64 ((rd_T26 l0_5 x9_1).f0), .string ((rd_T26 l0_5 x9_1).f1), .int .i64 ((rd_T26 l0_5 x9_1).f2), .slice A186_3 ((rd_T26 l0_5 x9_1).f3).length c186_3, .slice none 0 0, .slice none 0 0]) ?_ 4 _ rfl; (with_reducible repeat (first | refine blk_drewN ?_ _ | refine blk_drew ?_ | refine blk_alloc ?_ _)); refine blk_put (cs := #[.int .i64 ((rd_T26 l0_5 x9_1).f0), .string ((rd_T26 l0_5 x9_1).f1), .int .i64 ((rd_T26 l0_5 x9_1).f2), .slice none 0 0, .slice none 0 0, .slice none 0 0]) ?_ 3 _ rfl; (with_reducible repeat (first | refine blk_drewN ?_ _ | refine blk_drew ?_ | refine blk_alloc ?_ _)); refine blk_put (cs := #[.int .i64 ((rd_T26 l0_5 x9_1).f0), .string ((rd_T26 l0_5 x9_1).f1), .int .i64 0, .slice none 0 0, .slice none 0 0, .slice none 0 0]) ?_ 2 _ rfl; (with_reducible repeat (first | refine blk_drewN ?_ _ | refine blk_drew ?_ | refine blk_alloc ?_ _)); refine blk_put (cs := #[.int .i64 ((rd_T26 l0_5 x9_1).f0), .string (⟨#[]⟩ : ByteArray), .int .i64 0, .slice none 0 0, .slice none 0 0, .slice none 0 0]) ?_ 1 _ rfl; (with_reducible repeat (first | refine blk_drewN ?_ _ | refine blk_drew ?_ | refine blk_alloc ?_ _)); refine blk_put (cs := #[.int .i64 0, .string (⟨#[]⟩ : ByteArray), .int .i64 0, .slice none 0 0, .slice none 0 0, .slice none 0 0]) ?_ 0 _ rfl; (with_reducible repeat (first | refine blk_drewN ?_ _ | refine blk_drew ?_ | refine blk_alloc ?_ _)); exact BK187.out) hb); have n2_ := Aside0.mk (below_step (by repeat (first | (with_reducible first | exact HB.out | apply below_alloc | apply pw_below_drewN | apply below_drew1 | refine below_set ?_ GE185.out | refine below_set ?_ GE187.out) | exact HB.out)) hb); clear BK185; clear BK187; clear HB; have BK185 := n0_; have BK187 := n1_; have HB := n2_; clear n0_ n1_ n2_; (try clear hb); (try clear hb2); (try clear hk); (try clear hi)))
            go_roundg k1
            case measure => have := HK1.out; omega
            case rel => exact ⟨(ji8), (wrap64 (x9_1 + 1)), (by first | rfl | (simp; done) | (simp only [← hji8] <;> (first | rfl | simp)) | (simp [*]; done)), (by first | rfl | (simp; done) | (simp [*]; done)), H', ⟨by have := HK1.out; omega⟩, ⟨by (with_reducible repeat (first | refine blk_drewN ?_ _ | refine blk_drew ?_ | refine blk_alloc ?_ _)); exact BK185.out⟩, ⟨by repeat (first | (with_reducible first | exact HB.out | apply below_alloc | apply pw_below_drewN | apply below_drew1 | refine below_set ?_ GE185.out | refine below_set ?_ GE187.out) | exact HB.out)⟩⟩
          · rw [if_neg c6] at H
            exact absurd H (by simp)
        · rw [if_neg c5] at H
          exact absurd H (by simp)
      · rw [if_neg c4] at H
        have c4b0 : decide (x9_1 < (l0_5.length : Int)) = false := decide_eq_false c4
        clear c4
        obtain rfl := Option.some.inj H
        go_wp2
        go_ret
        exact ⟨by first | rfl | (simp [errW_none, errW_some] <;> rfl) | (simp [*, errW_none, errW_some] <;> rfl), by repeat (first | (with_reducible first | exact HB.out | apply below_alloc | apply pw_below_drewN | apply below_drew1 | refine below_set ?_ GE185.out) | exact HB.out)⟩
end Go.Proofs.YtmlcaecknocpoaaDoor.Pr
namespace Go.Proofs.YtmlcaecknocpoaaDoor.It
open Go Go.RowKit Go.Shelf Go.Proofs.YtmlcaecknocpoaaDoorW.PrintWords Go.Proofs.YtmlcaecknocpoaaDoorW.PrintLast Go.Proofs.YtmlcaecknocpoaaDoor.Pr Go.Proofs.YtmlcaecknocpoaaDoor.Sp
attribute [local go_sem] Oper.semAt_some
mutual
theorem form_nodes : ∀ x : S26, form x = (nodes x).all here
  | ⟨k, nm, n, ts, bs, l⟩ => by simp [form, nodes, forms_nodes l]
theorem forms_nodes : ∀ l : List S26, forms l = (nodesL l).all here
  | [] => rfl
  | x :: l => by simp [forms, nodesL, form_nodes x, forms_nodes l]
end
mutual
theorem depth_le : ∀ x : S26, depth x ≤ size x
  | ⟨_, _, _, _, _, l⟩ => by have := depths_le l; simp [depth, size]; omega
theorem depths_le : ∀ l : List S26, depths l ≤ sizes l
  | [] => by simp [depths, sizes]
  | x :: l => by have := depth_le x; have := depths_le l; simp [depths, sizes]; omega
end
theorem size_child (l : List S26) (j : Nat) (h : j < l.length) : size (rd_T26 l j) ≤ sizes l := by
  have := sizes_take l j h
  omega
theorem depths_take (l : List S26) (j : Nat) (h : j < l.length) : depths (l.take (j + 1)) = max (depths (l.take j)) (depth (rd_T26 l j)) := by
  induction l generalizing j with
  | nil => simp at h
  | cons x l ih =>
    cases j with
    | zero => simp [depths, rd_T26]
    | succ j =>
      have := ih j (by simpa using h)
      have e : rd_T26 (x :: l) ((j + 1 : Nat) : Int) = rd_T26 l j := by simp [rd_T26]
      rw [e]
      simp only [List.take_succ_cons, depths]
      rw [this]
      omega
theorem own_block {β : Type} (B : Nat) (cs : Array Value) (t : TypeId) (fr : Nat × Nat) : Own (fun (_ : β) W => W.heap[B]? = some (.cells cs t fr)) := fun s X Y row hs hg hrow =>
  (hg.block B (Array.getElem?_eq_some_iff.1 hs).1 (fun e' => by obtain ⟨o, ho, hc⟩ := hrow B e'.symm; rw [hs] at ho; cases ho; cases hc)).trans hs
theorem wrap_in {n : Int} (h : -9223372036854775808 ≤ n ∧ n ≤ 9223372036854775807) : wrap64 n = n := by unfold wrap64; omega
theorem depth_ev (s : Nat) : ∀ x : S26, size x ≤ s → size x ≤ 4611686018427387904 → Ev (fun k => formula_Depth.f k x.f0 x.f1 x.f2 x.f3 x.f4 x.f5) (depth x : Int) := by
  induction s with
  | zero => intro x h; rw [size_eq] at h; omega
  | succ s ih =>
    rintro ⟨k, nm, n, ts, bs, l⟩ hs hb
    simp only [size] at hs hb
    have hd := depths_le l
    have loop : ∀ d j : Nat, j + d = l.length → Ev (fun k => formula_Depth.l0 k (depths (l.take j) : Int) l (l.length : Int) (j : Int)) ((depths l + 1 : Nat) : Int) := by
      intro d
      induction d with
      | zero =>
        intro j hj
        have e : j = l.length := by omega
        subst e
        refine Ev.step (f := fun _ => some ((depths l + 1 : Nat) : Int)) (fun k => ?_) (Ev.now _)
        simp only [formula_Depth.l0]
        rw [if_neg (by omega), List.take_length, wrap_in (by omega)]
        simp
      | succ d ihd =>
        intro j hj
        have hlt : j < l.length := by omega
        have hc := size_child l j hlt
        refine Ev.step (f := fun k => (formula_Depth.f k (rd_T26 l j).f0 (rd_T26 l j).f1 (rd_T26 l j).f2 (rd_T26 l j).f3 (rd_T26 l j).f4 (rd_T26 l j).f5).bind fun t => formula_Depth.l0 k (mx (depths (l.take j) : Int) t) l (l.length : Int) (wrap64 ((j : Int) + 1))) (fun k => ?_) ?_
        · simp only [formula_Depth.l0]
          rw [if_pos (by omega), if_pos (by omega), if_pos (by omega)]
        · refine Ev.bind (ih (rd_T26 l j) (by omega) (by omega)) ?_
          have hlen : l.length ≤ sizes l := by
            clear ihd ih hs hb hd hj hlt hc
            induction l with
            | nil => simp
            | cons x l ihl => simp only [List.length_cons, sizes]; rw [size_eq]; omega
          have e1 : mx (depths (l.take j) : Int) (depth (rd_T26 l j) : Int) = (depths (l.take (j + 1)) : Int) := by
            rw [depths_take l j hlt]
            unfold mx
            split <;> omega
          have e2 : wrap64 ((j : Int) + 1) = ((j + 1 : Nat) : Int) := by rw [wrap_in (by omega)]; simp
          rw [e1, e2]
          exact ihd (j + 1) (by omega)
    refine Ev.step (f := fun k => formula_Depth.l0 k 0 l (l.length : Int) 0) (fun k => rfl) ?_
    exact loop l.length 0 (by omega)
theorem depth_calls (x : S26) (A3 : Option Addr) (c3 : Nat) (A4 : Option Addr) (c4 : Nat) (A5 : Option Addr) (c5 : Nat) (w : World) (hat : At w x A3 c3 A4 c4 A5 c5) (hs : size x ≤ 4611686018427387904) :
    Calls Tryd.prog 26 #[.agg #[.int .i64 x.f0, .string x.f1, .int .i64 x.f2, .slice A3 x.f3.length c3, .slice A4 x.f4.length c4, .slice A5 x.f5.length c5]] w fun e w' => e = .returned (.int .i64 (depth x)) ∧ Below w.heap.size w w' := by
  obtain ⟨k, hk⟩ := (depth_ev (size x) x (Nat.le_refl _) hs).rounds
  exact formula_Depth.calls k _ _ _ _ _ _ _ _ _ _ _ _ _ _ hat.g3 hat.l3 hat.g4 hat.l4 hat.g5 hat.l5 hk
theorem size_calls (x : S26) (A3 : Option Addr) (c3 : Nat) (A4 : Option Addr) (c4 : Nat) (A5 : Option Addr) (c5 : Nat) (w : World) (hat : At w x A3 c3 A4 c4 A5 c5) (hs : size x ≤ 4611686018427387904) (hok : Deep x) :
    Calls Tryd.prog 24 #[.agg #[.int .i64 x.f0, .string x.f1, .int .i64 x.f2, .slice A3 x.f3.length c3, .slice A4 x.f4.length c4, .slice A5 x.f5.length c5]] w fun e w' => e = .returned (.int .i64 (size x)) ∧ Below w.heap.size w w' :=
  callsIn_wide.1 (size_in Fence.wide rfl 3 trivial trivial trivial trivial rfl (Nat.le_refl _) x A3 c3 A4 c4 A5 c5 w hat hs hok)
theorem results_cell29 {fn : Func} (h : fn.results = #[.cell 2 29]) (tmps : Array Value) (w : World) (B : Nat) (v : Value) (hB : Boxed w B 29 v) (ht : tmps[2]?.getD undef = .pointer (some ⟨B, 0, none⟩)) :
    (results fn tmps).run Tryd.prog w = .ok v w := by
  have hc := hB.cell
  simp [results, h, ht, hc, loadVar, asAddr, go_sem]
set_option maxRecDepth 100000 in
set_option maxHeartbeats 8000000 in
theorem check_calls (x : S26) (A3 : Option Addr) (c3 : Nat) (A4 : Option Addr) (c4 : Nat) (A5 : Option Addr) (c5 : Nat) (w : World)
    (hat : At w x A3 c3 A4 c4 A5 c5) (hs : size x ≤ 4611686018427387904) (hd : Deep x) (ht : Tabs w) :
    Calls Tryd.prog 22 #[.agg #[.int .i64 x.f0, .string x.f1, .int .i64 x.f2, .slice A3 x.f3.length c3, .slice A4 x.f4.length c4, .slice A5 x.f5.length c5]] w fun e w' => e = .returned (.int .i64 (check x)) ∧ Below w.heap.size w w' := by
  refine callsIn_wide.1 (?_ : CallsIn Fence.wide 3 _ _ _ _ _)
  have h1 : 1 ≤ 3 := by omega
  have h52 : Fence.wide.fn 52 := trivial
  have h53 : Fence.wide.fn 53 := trivial
  have h24 : Fence.wide.fn 24 := trivial
  have h26 : Fence.wide.fn 26 := trivial
  refine callsIn_of_wp_marks Tryd.func22 rfl trivial ?_ rfl
  simp only [Tryd.ntmps22, List.size_toArray, List.length_cons, List.length_nil, Nat.reduceAdd, Nat.reduceSub, Array.replicate_succ, Array.replicate_zero, List.push_toArray, List.append_toArray, List.nil_append, List.cons_append]
  gi_wp2_with (gi_at_call 52; refine (all_in Fence.wide (3 - 1) trivial rfl _ x A3 c3 A4 c4 A5 c5 _ rfl).mono ?_; rintro e w' ⟨rfl, rfl⟩)
  obtain ⟨W0, hW0⟩ : ∃ W0, (((w.alloc (.cells #[.int .i64 x.f0, .string x.f1, .int .i64 x.f2, .slice A3 x.f3.length c3, .slice A4 x.f4.length c4, .slice A5 x.f5.length c5] 26)).alloc (.cells #[.int .i64 0] 29)).alloc
    (.cells #[.int .i64 x.f0, .string x.f1, .int .i64 x.f2, .slice A3 x.f3.length c3, .slice A4 x.f4.length c4, .slice A5 x.f5.length c5] 26)) = W0 := ⟨_, rfl⟩
  have hB : Below w.heap.size w W0 := by rw [← hW0]; exact (((Below.refl _ w).alloc (Nat.le_refl _) _).alloc (by simp) _).alloc (by simp; omega) _
  have hsz : W0.heap.size = w.heap.size + 3 := by rw [← hW0]; simp
  have hn : Boxed W0 (w.heap.size + 1) 29 (.int .i64 0) := by
    rw [← hW0]
    refine Boxed.alloc ?_ _
    have h := heap_new (w.alloc (.cells #[.int .i64 x.f0, .string x.f1, .int .i64 x.f2, .slice A3 x.f3.length c3, .slice A4 x.f4.length c4, .slice A5 x.f5.length c5] 26)) (.cells #[.int .i64 0] 29)
    rw [World.size_alloc] at h
    exact h
  have h0 : W0.heap[w.heap.size]? = some (.cells #[.int .i64 x.f0, .string x.f1, .int .i64 x.f2, .slice A3 x.f3.length c3, .slice A4 x.f4.length c4, .slice A5 x.f5.length c5] 26 (0, 0)) := by
    rw [← hW0]
    refine (Below.heap_alloc _ _ _ (by simp; omega)).trans ((Below.heap_alloc _ _ _ (by simp)).trans (heap_new w _))
  have hf : W0.heap[w.heap.size + 2]? = some (.cells #[.int .i64 x.f0, .string x.f1, .int .i64 x.f2, .slice A3 x.f3.length c3, .slice A4 x.f4.length c4, .slice A5 x.f5.length c5] 26 (0, 0)) := by
    rw [← hW0]
    have h := heap_new ((w.alloc (.cells #[.int .i64 x.f0, .string x.f1, .int .i64 x.f2, .slice A3 x.f3.length c3, .slice A4 x.f4.length c4, .slice A5 x.f5.length c5] 26)).alloc (.cells #[.int .i64 0] 29)) (.cells #[.int .i64 x.f0, .string x.f1, .int .i64 x.f2, .slice A3 x.f3.length c3, .slice A4 x.f4.length c4, .slice A5 x.f5.length c5] 26)
    rw [World.size_alloc, World.size_alloc] at h
    exact h
  rw [hW0]
  clear hW0
  refine wpIn_rangeFunc_ownH rfl h1 (gf := 78) (lb := #[.pointer (some ⟨w.heap.size + 1 + 1, 0, none⟩)]) rfl trivial (enters_of Tryd.func78 (by kernel_rfl) rfl)
    (all1_stops Fence.wide rfl (3 - 1) trivial trivial rfl w ⟨x, A3, c3, A4, c4, A5, c5, hat, hd⟩ (w.heap.size + 1 + 1) W0 hB (by omega) hf) (fun h k => h.trans k) (fun W l o o' hl h hc hw => Kp.put (w := W0) hB.size W l o o' hl h hc hw) (Below.refl _ _) (fun _ => rfl)
    (fun pre W => (W.heap[w.heap.size]? = some (.cells #[.int .i64 x.f0, .string x.f1, .int .i64 x.f2, .slice A3 x.f3.length c3, .slice A4 x.f4.length c4, .slice A5 x.f5.length c5] 26 (0, 0)) ∧ Boxed W (w.heap.size + 1) 29 (.int .i64 0)) ∧ (Below w.heap.size w W ∧ (∀ p ∈ pre, here p.x = true)))
    (fun c pre W => (c = Code.ret ∧ Boxed W (w.heap.size + 1) 29 (.int .i64 1)) ∧ (Below w.heap.size w W ∧ (∃ p ∈ pre, here p.x = false)))
    (OwnFrom.and (OwnFrom.and (Own.from (own_block _ _ _ _) _) (Own.from (boxed_own _ _ _) _)) (OwnFrom.and (ownFrom_below (Nat.le_refl _) (by omega)) (ownFrom_pure _ _)))
    (fun c => OwnFrom.and (OwnFrom.and (ownFrom_pure _ _) (Own.from (boxed_own _ _ _) _)) (OwnFrom.and (ownFrom_below (Nat.le_refl _) (by omega)) (ownFrom_pure _ _)))
    ⟨⟨h0, hn⟩, hB, by simp⟩
    (fun p a' W => ∃ Bx, w.heap.size + 1 < Bx ∧ W.heap[Bx]? = some (.cells #[.int .i64 p.x.f0, .string p.x.f1, .int .i64 p.x.f2, .slice p.A3 p.x.f3.length p.c3, .slice p.A4 p.x.f4.length p.c4, .slice p.A5 p.x.f5.length p.c5] 26 (0, 0)) ∧
      a' = { tmps := #[.agg #[.int .i64 x.f0, .string x.f1, .int .i64 x.f2, .slice A3 x.f3.length c3, .slice A4 x.f4.length c4, .slice A5 x.f5.length c5], .pointer (some ⟨w.heap.size, 0, none⟩), .pointer (some ⟨w.heap.size + 1, 0, none⟩), .pointer (some ⟨Bx, 0, none⟩),
      .agg #[.int .i64 x.f0, .string x.f1, .int .i64 x.f2, .slice A3 x.f3.length c3, .slice A4 x.f4.length c4, .slice A5 x.f5.length c5], .func (.func 78) #[] #[.pointer (some ⟨w.heap.size + 1 + 1, 0, none⟩)], p.val, undef, undef, undef, undef, undef, undef, undef, undef, undef, undef, undef], defers := [] })
    (fun p a' _ X Y row hs hg hr => by obtain ⟨Bx, h1, h2, h3⟩ := hs; exact ⟨Bx, h1, own_block Bx _ 26 (0, 0) () X Y row h2 hg (fun r e => (hr r e).2), h3⟩)
    ?assign ?body ?done ?stop
  case assign =>
    rintro l pre p W K ⟨⟨k0, k1⟩, k2, k3⟩ hK
    have hlt : w.heap.size + 1 < W.heap.size := k1.lt
    obtain ⟨px, pA3, pc3, pA4, pc4, pA5, pc5, pat, pok⟩ := p
    dsimp only [FA.val] at hK ⊢
    gi_wp2
    refine hK _ _ ((KeepsOthers.alloc _ _).from _) (Kp.alloc k2.size _) ⟨⟨(Below.heap_alloc _ _ _ (by omega)).trans k0, k1.alloc _⟩, k2.alloc k2.size _, k3⟩ ⟨W.heap.size, hlt, heap_new W _, rfl⟩
  case body =>
    rintro l pre p a' W hl ⟨r, hr⟩ ⟨⟨k0, k1⟩, k2, k3⟩ ⟨Bx, hBx, kx, rfl⟩ hlen
    obtain ⟨px, pA3, pc3, pA4, pc4, pA5, pc5, pat, pok⟩ := p
    have hlt : w.heap.size + 1 < W.heap.size := k1.lt
    have hc1 := (cell_blk k1).1
    have hf1 := (cell_blk k1).2
    have b0 := blk_cell kx 0
    have b1 := blk_cell kx 1
    have b2 := blk_cell kx 2
    have b3 := blk_cell kx 3
    have b4 := blk_cell kx 4
    have b5 := blk_cell kx 5
    simp only [List.getElem?_toArray, List.getElem?_cons_zero, List.getElem?_cons_succ] at b0 b1 b2 b3 b4 b5
    have hfm : CallsIn (Fence.wide.inRound l) 0 Tryd.prog 53 #[.agg #[.int .i64 px.f0, .string px.f1, .int .i64 px.f2, .slice pA3 px.f3.length pc3, .slice pA4 px.f4.length pc4, .slice pA5 px.f5.length pc5]] W fun e w' => e = .returned (.bool (here px)) ∧ Below W.heap.size W w' :=
      CallsIn.inRound l (callsIn_wide.2 (formed_calls px pA3 pc3 pA4 pc4 pA5 pc5 W (pat.below k2) pok.self (ht.below k2)))
    replace hfm := Aside0.mk hfm
    dsimp only [FA.val]
    gi_wp2
    gi_at_call 53
    refine hfm.out.mono ?_
    clear hfm
    rintro e W2 ⟨rfl, hbl⟩
    have z1 : Boxed W2 (w.heap.size + 1) 29 (.int .i64 0) := (hbl.block _ hlt).trans k1
    have z0 := (hbl.block _ (show w.heap.size < W.heap.size by omega)).trans k0
    have c1 := (cell_blk z1).1
    have f1 := (cell_blk z1).2
    have Z := Aside0.mk (And.intro z0 (And.intro z1 (k2.trans (hbl.mono k2.size))))
    have KF := Aside0.mk (show KeepsFrom W0.heap.size W W2 from ⟨hbl.size, fun k o _ hk _ => (hbl.block k (Array.getElem?_eq_some_iff.1 hk).1).trans hk⟩)
    clear z0 z1 k0 k1 k2 kx hc1 hf1 b0 b1 b2 b3 b4 b5
    obtain ⟨g, hg⟩ : ∃ g, here px = g := ⟨_, rfl⟩
    rw [hg]
    replace hg := Aside0.mk hg
    cases g
    · gi_wp2
      obtain ⟨z0, z1, k2⟩ := Z.out
      refine ⟨KF.out.trans ((KeepsOthers.setCell _ _ _).from _), ⟨rfl, ?_⟩, ?_, ?_⟩
      · exact z1.set _
      · exact k2.setCell (by simp) _
      · exact ⟨_, List.mem_append_right _ (List.mem_singleton.2 rfl), hg.out⟩
    · gi_wp2
      obtain ⟨z0, z1, k2⟩ := Z.out
      refine ⟨KF.out, Kp.of_below (by omega) hbl, ⟨z0, z1⟩, k2, ?_⟩
      intro q hq
      rcases List.mem_append.1 hq with h | h
      · exact k3 q h
      · obtain rfl := List.mem_singleton.1 h
        exact hg.out
  case done =>
    rintro D ys W hD hys ⟨⟨k0, k1⟩, k2, k3⟩ hK
    have b0 := blk_cell k0 0
    have b1 := blk_cell k0 1
    have b2 := blk_cell k0 2
    have b3 := blk_cell k0 3
    have b4 := blk_cell k0 4
    have b5 := blk_cell k0 5
    simp only [List.getElem?_toArray, List.getElem?_cons_zero, List.getElem?_cons_succ] at b0 b1 b2 b3 b4 b5
    have hlt : w.heap.size + 1 < W.heap.size := k1.lt
    have hDl : D < W.heap.size := (Array.getElem?_eq_some_iff.1 hK).1
    have hy : form x = true := by
      rw [form_nodes, List.all_eq_true]
      intro y hy
      rw [← hys, List.mem_map] at hy
      obtain ⟨p, hp, rfl⟩ := hy
      exact k3 p hp
    replace hy := Aside0.mk hy
    replace k3 := Aside0.mk k3
    gi_wp2
    gi_at_call 24
    refine (callsIn_wide.2 (size_calls x A3 c3 A4 c4 A5 c5 W (hat.below k2) hs hd)).mono ?_
    rintro e W1 ⟨rfl, hb1⟩
    have z1 : Boxed W1 (w.heap.size + 1) 29 (.int .i64 0) := (hb1.block _ hlt).trans k1
    have z0 := (hb1.block _ (show w.heap.size < W.heap.size by omega)).trans k0
    have zK := (hb1.block _ hDl).trans hK
    have zb := k2.trans (hb1.mono k2.size)
    have zl : w.heap.size + 1 < W1.heap.size := z1.lt
    have zD : D < W1.heap.size := (Array.getElem?_eq_some_iff.1 zK).1
    have c1 := (cell_blk z1).1
    have f1 := (cell_blk z1).2
    clear b0 b1 b2 b3 b4 b5 k0 k1 k2 hK hb1
    have b0 := blk_cell z0 0
    have b1 := blk_cell z0 1
    have b2 := blk_cell z0 2
    have b3 := blk_cell z0 3
    have b4 := blk_cell z0 4
    have b5 := blk_cell z0 5
    simp only [List.getElem?_toArray, List.getElem?_cons_zero, List.getElem?_cons_succ] at b0 b1 b2 b3 b4 b5
    gi_wp2
    · gi_at_call 26
      refine (callsIn_wide.2 (depth_calls x A3 c3 A4 c4 A5 c5 W1 (hat.below zb) hs)).mono ?_
      rintro e W2 ⟨rfl, hb2⟩
      have y1 : Boxed W2 (w.heap.size + 1) 29 (.int .i64 0) := (hb2.block _ zl).trans z1
      have yK := (hb2.block _ zD).trans zK
      have yb := zb.trans (hb2.mono zb.size)
      have yD : D < W2.heap.size := (Array.getElem?_eq_some_iff.1 yK).1
      clear c1 f1 b0 b1 b2 b3 b4 b5 z0 z1 zb zK hb2
      have c1 := (cell_blk y1).1
      have f1 := (cell_blk y1).2
      gi_wp2
      · rename_i hh
        have hne : D ≠ w.heap.size + 1 := fun he => by rw [he] at yK; rw [show _ = _ from y1] at yK; cases yK
        have hK' : (W2.setCell ⟨w.heap.size + 1, 0, none⟩ (.int .i64 2)).heap[D]? = some (.deferred (some [])) := (Below.heap_setCell _ _ _ _ hne).trans yK
        have yb' := yb.setCell (p := ⟨w.heap.size + 1, 0, none⟩) (Nat.le_add_right _ _) (.int .i64 2)
        have q1 : Boxed ((W2.setCell ⟨w.heap.size + 1, 0, none⟩ (.int .i64 2)).putObj D (.deferred none)) (w.heap.size + 1) 29 (.int .i64 2) := (World.putObj_heap_other (fun e => hne e.symm)).trans (y1.set _)
        refine ⟨by simp, .inl ⟨_, _, rfl, run_takeDeferred hK', ?_⟩⟩
        refine ⟨_, results_cell29 rfl _ _ _ _ q1 rfl, ?_, yb'.trans (belowK_b (w := w) (Nat.le_refl _) _ D _ _ (by omega) hK' rfl rfl)⟩
        rw [check, if_pos hy.out, if_pos (by omega)]
      · rename_i hh
        have hne : D ≠ w.heap.size + 1 := fun he => by rw [he] at yK; rw [show _ = _ from y1] at yK; cases yK
        have hK' : (W2.setCell ⟨w.heap.size + 1, 0, none⟩ (.int .i64 0)).heap[D]? = some (.deferred (some [])) := (Below.heap_setCell _ _ _ _ hne).trans yK
        have yb' := yb.setCell (p := ⟨w.heap.size + 1, 0, none⟩) (Nat.le_add_right _ _) (.int .i64 0)
        have q1 : Boxed ((W2.setCell ⟨w.heap.size + 1, 0, none⟩ (.int .i64 0)).putObj D (.deferred none)) (w.heap.size + 1) 29 (.int .i64 0) := (World.putObj_heap_other (fun e => hne e.symm)).trans (y1.set _)
        refine ⟨by simp, .inl ⟨_, _, rfl, run_takeDeferred hK', ?_⟩⟩
        refine ⟨_, results_cell29 rfl _ _ _ _ q1 rfl, ?_, yb'.trans (belowK_b (w := w) (Nat.le_refl _) _ D _ _ (by omega) hK' rfl rfl)⟩
        rw [check, if_pos hy.out, if_neg (by omega)]
    · rename_i hh
      have hne : D ≠ w.heap.size + 1 := fun he => by rw [he] at zK; rw [show _ = _ from z1] at zK; cases zK
      have hK' : (W1.setCell ⟨w.heap.size + 1, 0, none⟩ (.int .i64 2)).heap[D]? = some (.deferred (some [])) := (Below.heap_setCell _ _ _ _ hne).trans zK
      have yb' := zb.setCell (p := ⟨w.heap.size + 1, 0, none⟩) (Nat.le_add_right _ _) (.int .i64 2)
      have q1 : Boxed ((W1.setCell ⟨w.heap.size + 1, 0, none⟩ (.int .i64 2)).putObj D (.deferred none)) (w.heap.size + 1) 29 (.int .i64 2) := (World.putObj_heap_other (fun e => hne e.symm)).trans (z1.set _)
      refine ⟨by simp, .inl ⟨_, _, rfl, run_takeDeferred hK', ?_⟩⟩
      refine ⟨_, results_cell29 rfl _ _ _ _ q1 rfl, ?_, yb'.trans (belowK_b (w := w) (Nat.le_refl _) _ D _ _ (by omega) hK' rfl rfl)⟩
      rw [check, if_pos hy.out, if_pos (by omega)]
  case stop =>
    rintro D c pre W hD ⟨q, hq⟩ ⟨⟨rfl, k1⟩, k2, p, hp, hf⟩ hK
    gi_wp2
    have hne : D ≠ w.heap.size + 1 := fun he => by rw [he] at hK; rw [show _ = _ from k1] at hK; cases hK
    have q1 : Boxed (W.putObj D (.deferred none)) (w.heap.size + 1) 29 (.int .i64 1) := (World.putObj_heap_other (fun e => hne e.symm)).trans k1
    refine ⟨by simp, .inl ⟨_, _, rfl, run_takeDeferred hK, ?_⟩⟩
    refine ⟨_, results_cell29 rfl _ _ _ _ q1 rfl, ?_, k2.trans (belowK_b (w := w) (Nat.le_refl _) _ D _ _ (by omega) hK rfl rfl)⟩
    have hn : form x = false := by
      rw [form_nodes, List.all_eq_false]
      refine ⟨p.x, ?_, by simp [hf]⟩
      rw [← hq]
      exact List.mem_append_left _ (List.mem_map_of_mem hp)
    rw [check, if_neg (by simp [hn])]
end Go.Proofs.YtmlcaecknocpoaaDoor.It
namespace Go.Proofs.YtmlcaecknocpoaaDoor.Pr
open Go.RowKit Go.Proofs.YtmlcaecknocpoaaDoorW.PrintWords Go.Proofs.YtmlcaecknocpoaaDoorW.PrintLast Go.Proofs.YtmlcaecknocpoaaDoorW.PrintMore
attribute [local go_sem] max2_int min2_int max_two min_two max_three min_three max_four min_four   
set_option linter.unusedVariables false
set_option linter.unusedSimpArgs false
end Go.Proofs.YtmlcaecknocpoaaDoor.Pr
namespace Go.Proofs.YtmlcaecknocpoaaDoor.Pr
open Go.RowKit Go.Proofs.YtmlcaecknocpoaaDoorW.PrintWords Go.Proofs.YtmlcaecknocpoaaDoorW.PrintLast Go.Proofs.YtmlcaecknocpoaaDoorW.PrintMore
attribute [local go_sem] max2_int min2_int max_two min_two max_three min_three max_four min_four   
set_option linter.unusedVariables false
set_option linter.unusedSimpArgs false
end Go.Proofs.YtmlcaecknocpoaaDoor.Pr
namespace Go.Proofs.YtmlcaecknocpoaaDoor.Pr
open Go.RowKit Go.Proofs.YtmlcaecknocpoaaDoorW.PrintWords Go.Proofs.YtmlcaecknocpoaaDoorW.PrintLast Go.Proofs.YtmlcaecknocpoaaDoorW.PrintMore
attribute [local go_sem] max2_int min2_int max_two min_two max_three min_three max_four min_four   
set_option linter.unusedVariables false
set_option linter.unusedSimpArgs false
end Go.Proofs.YtmlcaecknocpoaaDoor.Pr
namespace Go.Proofs.YtmlcaecknocpoaaDoor.Pr
open Go.RowKit Go.Proofs.YtmlcaecknocpoaaDoorW.PrintWords Go.Proofs.YtmlcaecknocpoaaDoorW.PrintLast Go.Proofs.YtmlcaecknocpoaaDoorW.PrintMore
attribute [local go_sem] max2_int min2_int max_two min_two max_three min_three max_four min_four   
set_option linter.unusedVariables false
set_option linter.unusedSimpArgs false
end Go.Proofs.YtmlcaecknocpoaaDoor.Pr
namespace Go.Proofs.YtmlcaecknocpoaaDoor.It
set_option linter.unusedVariables false
set_option linter.unusedSimpArgs false
open Go Go.RowKit Go.Shelf Go.Proofs.YtmlcaecknocpoaaDoorW.PrintWords Go.Proofs.YtmlcaecknocpoaaDoorW.PrintLast Go.Proofs.YtmlcaecknocpoaaDoor.Pr Go.Proofs.YtmlcaecknocpoaaDoor.Sp
theorem Ev.ite {α : Type} {p : Prop} [Decidable p] {f g : Nat → Option α} {r : α} (h : p → Ev f r) (h' : ¬ p → Ev g r) : Ev (fun k => if p then f k else g k) r := by
  by_cases hp : p
  · exact Ev.congr (fun k => if_pos hp) (h hp)
  · exact Ev.congr (fun k => if_neg hp) (h' hp)
theorem Ev.val {α : Type} {r s : α} (h : r = s) : Ev (fun _ => some r) s := h ▸ Ev.now r
theorem wrap_one (j : Nat) (h : j < 9223372036854775807) : wrap64 ((j : Int) + 1) = ((j + 1 : Nat) : Int) := by rw [wrap_in (by omega)]; omega
end Go.Proofs.YtmlcaecknocpoaaDoor.It
namespace Go.Proofs.YtmlcaecknocpoaaDoor.Pr
open Go.RowKit Go.Proofs.YtmlcaecknocpoaaDoorW.PrintWords Go.Proofs.YtmlcaecknocpoaaDoorW.PrintLast Go.Proofs.YtmlcaecknocpoaaDoorW.PrintMore
attribute [local go_sem] max2_int min2_int max_two min_two max_three min_three max_four min_four   
set_option linter.unusedVariables false
set_option linter.unusedSimpArgs false
mutual
def chalklineref06_Size.l0 : Nat → Int → Int → Int → ByteArray → Int → List (S47) → List (S42) → List (S26) → Option (Int)
  | 0, _, _, _, _, _, _, _, _ => none
  | k + 1, x3, x4, x109000, x109001, x109002, x109003, x109004, x109005 => if x4 < (x109005.length : Int) then (if 0 ≤ x4 then ((chalklineref06_Size.f k ((rd_T26 x109005 x4).f0) ((rd_T26 x109005 x4).f1) ((rd_T26 x109005 x4).f2) ((rd_T26 x109005 x4).f3) ((rd_T26 x109005 x4).f4) ((rd_T26 x109005 x4).f5)).bind fun t110 => (chalklineref06_Size.l0 k (wrap64 (x3 + t110)) (wrap64 (x4 + 1)) x109000 x109001 x109002 x109003 x109004 x109005)) else (none)) else (some x3)
def chalklineref06_Size.f : Nat → Int → ByteArray → Int → List (S47) → List (S42) → List (S26) → Option (Int)
  | 0, _, _, _, _, _, _ => none
  | k + 1, a0_0, a0_1, a0_2, l0_3, l0_4, l0_5 => chalklineref06_Size.l0 k 1 0 a0_0 a0_1 a0_2 l0_3 l0_4 l0_5
end
set_option maxHeartbeats 8000000 in
set_option maxRecDepth 100000 in
theorem chalklineref06_Size.calls (k : Nat) : ∀ (a0_0 : Int) (a0_1 : ByteArray) (a0_2 : Int) (A0_3 : Option Addr) (c0_3 : Nat) (l0_3 : List (S47)) (A0_4 : Option Addr) (c0_4 : Nat) (l0_4 : List (S42)) (A0_5 : Option Addr) (c0_5 : Nat) (l0_5 : List (S26)) (r : Int) (w : World) (hr0_3 : Kd.C k47 w A0_3 l0_3.length l0_3) (hc0_3 : l0_3.length ≤ c0_3) (hr0_4 : Kd.C k42 w A0_4 l0_4.length l0_4) (hc0_4 : l0_4.length ≤ c0_4) (hr0_5 : Kd.C k26 w A0_5 l0_5.length l0_5) (hc0_5 : l0_5.length ≤ c0_5) (h : chalklineref06_Size.f k a0_0 a0_1 a0_2 l0_3 l0_4 l0_5 = some r),
    Calls Tryd.prog 25 #[.agg #[.int .i64 a0_0, .string a0_1, .int .i64 a0_2, .slice A0_3 l0_3.length c0_3, .slice A0_4 l0_4.length c0_4, .slice A0_5 l0_5.length c0_5]] w fun e w' => e = .returned (.int .i64 r) ∧ Below w.heap.size w w' := by
  induction k using Nat.strongRecOn with
  | _ k ih =>
  intro a0_0 a0_1 a0_2 A0_3 c0_3 l0_3 A0_4 c0_4 l0_4 A0_5 c0_5 l0_5 r w hr0_3 hc0_3 hr0_4 hc0_4 hr0_5 hc0_5 h
  cases k with
  | zero => exact absurd h (by simp [chalklineref06_Size.f])
  | succ k =>
  simp only [chalklineref06_Size.f] at h
  have hu26 := Tryd.underlying26
  have HR0_3 := Aside0.mk hr0_3
  have HC0_3 := Aside0.mk hc0_3
  clear hr0_3 hc0_3
  have HR0_4 := Aside0.mk hr0_4
  have HC0_4 := Aside0.mk hc0_4
  clear hr0_4 hc0_4
  have HR0_5 := Aside0.mk hr0_5
  have HC0_5 := Aside0.mk hc0_5
  clear hr0_5 hc0_5
  have HB := Aside0.mk (Below.refl w.heap.size w)
  have H : (chalklineref06_Size.l0 k 1 0 a0_0 a0_1 a0_2 l0_3 l0_4 l0_5) = some r := h
  clear h
  have H' := Aside0.mk H
  clear H
  go_enter Tryd.func25, Tryd.ntmps25
  go_wp2_with (first | ((with_reducible refine gate_dst (N := 1) rfl ?_); refine box_event ?hg (N := 1) ?hd (cs := #[.int .i64 a0_0, .string a0_1, .int .i64 a0_2, .slice A0_3 l0_3.length c0_3, .slice A0_4 l0_4.length c0_4, .slice A0_5 l0_5.length c0_5]) (t := 26) ?hr ?_; (case hd => rfl); (case hg => rfl); (case hr => first | (go_simp; done) | (go_simp; rfl)); intro gb108 hg w2 hbox hb; have n0_ := Aside0.mk (below_step (by repeat (first | (with_reducible first | exact HB.out | apply below_alloc | apply pw_below_drewN | apply below_drew1) | exact HB.out)) hb); have n1_ := Aside0.mk (hbox); have n2_ := Aside0.mk ((by rw [hg]; exact (below_size (by repeat (first | (with_reducible first | exact HB.out | apply below_alloc | apply pw_below_drewN | apply below_drew1) | exact HB.out))) : w.heap.size ≤ gb108)); have n3_ := Aside0.mk ((by rw [hg]; exact (below_size (by repeat (first | (with_reducible first | exact HB.out | apply below_alloc | apply pw_below_drewN | apply below_drew1) | exact HB.out))) : w.heap.size ≤ gb108)); clear HB; have HB := n0_; have BK108 := n1_; have GW108 := n2_; have GE108 := n3_; clear n0_ n1_ n2_ n3_; clear hb hbox hg))
  go_loopg [3, 4] k (fun kq v3 v4 w' => ∃ (x3_1 : Int) (x4_1 : Int), v3 = .int .i64 x3_1 ∧ v4 = .int .i64 x4_1 ∧ Aside0 (chalklineref06_Size.l0 kq x3_1 x4_1 a0_0 a0_1 a0_2 l0_3 l0_4 l0_5 = some r) ∧ Aside0 (kq ≤ k) ∧ Aside0 (w'.heap[gb108]? = some (.cells #[.int .i64 a0_0, .string a0_1, .int .i64 a0_2, (.slice A0_3 l0_3.length c0_3), (.slice A0_4 l0_4.length c0_4), (.slice A0_5 l0_5.length c0_5)] 26 (0, 0))) ∧ Aside0 (Below w.heap.size w w'))
  case atStart => exact ⟨(1), (0), (by first | rfl | (simp; done) | (simp [*]; done)), (by first | rfl | (simp; done) | (simp [*]; done)), H', ⟨Nat.le_refl _⟩, ⟨by (with_reducible repeat (first | refine blk_drewN ?_ _ | refine blk_drew ?_ | refine blk_alloc ?_ _)); exact BK108.out⟩, ⟨by repeat (first | (with_reducible first | exact HB.out | apply below_alloc | apply pw_below_drewN | apply below_drew1 | refine below_set ?_ GE108.out) | exact HB.out)⟩⟩
  case round =>
    clear H'
    try clear c2
    try clear p2
    obtain ⟨x3_1, x4_1, rfl, rfl, HA, HK1, BK108, HB⟩ := hrel
    cases gk with
    | zero => exact absurd HA.out (by simp [chalklineref06_Size.l0])
    | succ k1 =>
      have H := HA.out
      clear HA
      simp only [chalklineref06_Size.l0] at H
      by_cases c3 : x4_1 < (l0_5.length : Int)
      · rw [if_pos c3] at H
        have c3b0 : decide (x4_1 < (l0_5.length : Int)) = true := decide_eq_true c3
        clear c3
        by_cases c4 : 0 ≤ x4_1
        · rw [if_pos c4] at H
          have c4b0 : decide (0 ≤ x4_1) = true := decide_eq_true c4
          clear c4
          replace H := Option.bind_eq_some_iff.mp H
          obtain ⟨t110, A50, H⟩ := H
          replace H : (chalklineref06_Size.l0 k1 (wrap64 (x3_1 + t110)) (wrap64 (x4_1 + 1)) a0_0 a0_1 a0_2 l0_3 l0_4 l0_5) = some r := H
          have A5 := Aside0.mk A50
          clear A50
          have H' := Aside0.mk H
          clear H
          have hcz6_0 : wr.cell? ⟨gb108, 0, none⟩ = some (.int .i64 a0_0) := (blk_cell BK108.out 0).trans rfl
          have hcz6_1 : wr.cell? ⟨gb108, 1, none⟩ = some (.string a0_1) := (blk_cell BK108.out 1).trans rfl
          have hcz6_2 : wr.cell? ⟨gb108, 2, none⟩ = some (.int .i64 a0_2) := (blk_cell BK108.out 2).trans rfl
          have hcz6_3 : wr.cell? ⟨gb108, 3, none⟩ = some (.slice A0_3 l0_3.length c0_3) := (blk_cell BK108.out 3).trans rfl
          have hcz6_4 : wr.cell? ⟨gb108, 4, none⟩ = some (.slice A0_4 l0_4.length c0_4) := (blk_cell BK108.out 4).trans rfl
          have hcz6_5 : wr.cell? ⟨gb108, 5, none⟩ = some (.slice A0_5 l0_5.length c0_5) := (blk_cell BK108.out 5).trans rfl
          have hfz6_0 := blk_frozen BK108.out 0
          have hfz6_1 := blk_frozen BK108.out 1
          have hfz6_2 := blk_frozen BK108.out 2
          have hfz6_3 := blk_frozen BK108.out 3
          have hfz6_4 := blk_frozen BK108.out 4
          have hfz6_5 := blk_frozen BK108.out 5
          have p109 : 0 ≤ (x4_1 : Int) := of_decide_eq_true (by first | (with_reducible assumption) | assumption)
          have q109 : x4_1 < (l0_5.length : Int) := of_decide_eq_true (by first | (with_reducible assumption) | assumption)
          obtain ⟨ad109, A109_3, c109_3, A109_4, c109_4, A109_5, c109_5, e109, hx109_0, hx109_1, hx109_2, hx109_3, hx109_4, hx109_5, hl109_3, hi109_3, hl109_4, hi109_4, hl109_5, hi109_5⟩ := at_T26 HR0_5.out x4_1 p109 q109
          cases e109
          replace hx109_0 := (HB.out.cell (World.block_lt_of_cell? w _ hx109_0)).trans hx109_0
          replace hx109_1 := (HB.out.cell (World.block_lt_of_cell? w _ hx109_1)).trans hx109_1
          replace hx109_2 := (HB.out.cell (World.block_lt_of_cell? w _ hx109_2)).trans hx109_2
          replace hx109_3 := (HB.out.cell (World.block_lt_of_cell? w _ hx109_3)).trans hx109_3
          replace hx109_4 := (HB.out.cell (World.block_lt_of_cell? w _ hx109_4)).trans hx109_4
          replace hx109_5 := (HB.out.cell (World.block_lt_of_cell? w _ hx109_5)).trans hx109_5
          have HR109_3 := Aside0.mk hi109_3
          have HC109_3 := Aside0.mk hl109_3
          clear hi109_3 hl109_3
          have HR109_4 := Aside0.mk hi109_4
          have HC109_4 := Aside0.mk hl109_4
          clear hi109_4 hl109_4
          have HR109_5 := Aside0.mk hi109_5
          have HC109_5 := Aside0.mk hl109_5
          clear hi109_5 hl109_5
          replace p109 := eq_true p109
          replace q109 := eq_true q109
          go_wp2_with (first | ((with_reducible refine gate_callee (f := 25) rfl ?_); refine goesL_ (some 18) rfl rfl Tryd.func25 (by kernel_rfl) rfl #[.agg #[.int .i64 ((rd_T26 l0_5 x4_1).f0), .string ((rd_T26 l0_5 x4_1).f1), .int .i64 ((rd_T26 l0_5 x4_1).f2), .slice A109_3 ((rd_T26 l0_5 x4_1).f3).length c109_3, .slice A109_4 ((rd_T26 l0_5 x4_1).f4).length c109_4, .slice A109_5 ((rd_T26 l0_5 x4_1).f5).length c109_5]] rfl (by (try simp only [List.map_toArray, List.map_cons, List.map_nil]); first | done | rfl | (simp only [List.length_drop, List.length_take]; rfl)) ?_; (with_reducible refine (ih k1 (by have := HK1.out; omega) ((rd_T26 l0_5 x4_1).f0) ((rd_T26 l0_5 x4_1).f1) ((rd_T26 l0_5 x4_1).f2) _ _ ((rd_T26 l0_5 x4_1).f3) _ _ ((rd_T26 l0_5 x4_1).f4) _ _ ((rd_T26 l0_5 x4_1).f5) t110 _ ?side1 ?side2 ?side3 ?side4 ?side5 ?side6 A5.out).mono ?_); (case side1 => repeat (first | exact (Kd.C_below HR109_3.out HB.out) | (with_reducible refine Kd.C_alloc ?_ _) | (with_reducible refine Kd.C_drewN ?_ _) | (with_reducible refine Kd.C_drew ?_))); (case side2 => exact HC109_3.out); (case side3 => repeat (first | exact (Kd.C_below HR109_4.out HB.out) | (with_reducible refine Kd.C_alloc ?_ _) | (with_reducible refine Kd.C_drewN ?_ _) | (with_reducible refine Kd.C_drew ?_))); (case side4 => exact HC109_4.out); (case side5 => repeat (first | exact (Kd.C_below HR109_5.out HB.out) | (with_reducible refine Kd.C_alloc ?_ _) | (with_reducible refine Kd.C_drewN ?_ _) | (with_reducible refine Kd.C_drew ?_))); (case side6 => exact HC109_5.out); rintro e w7 ⟨rfl, hb⟩; refine ⟨_, rfl, ?_⟩; have n0_ := Aside0.mk (blk_below (g := gb108) (o := .cells #[.int .i64 a0_0, .string a0_1, .int .i64 a0_2, .slice A0_3 l0_3.length c0_3, .slice A0_4 l0_4.length c0_4, .slice (some ad109) l0_5.length c0_5] 26 (0, 0)) (by (with_reducible repeat (first | refine blk_drewN ?_ _ | refine blk_drew ?_ | refine blk_alloc ?_ _)); exact BK108.out) hb); have n1_ := Aside0.mk (below_step (by repeat (first | (with_reducible first | exact HB.out | apply below_alloc | apply pw_below_drewN | apply below_drew1 | refine below_set ?_ GE108.out) | exact HB.out)) hb); clear BK108; clear HB; have BK108 := n0_; have HB := n1_; clear n0_ n1_; (try clear hb); (try clear hb2); (try clear hk); (try clear hi)))
          go_roundg k1
          case measure => have := HK1.out; omega
          case rel => exact ⟨(wrap64 (x3_1 + t110)), (wrap64 (x4_1 + 1)), (by first | rfl | (simp; done) | (simp [*]; done)), (by first | rfl | (simp; done) | (simp [*]; done)), H', ⟨by have := HK1.out; omega⟩, ⟨by (with_reducible repeat (first | refine blk_drewN ?_ _ | refine blk_drew ?_ | refine blk_alloc ?_ _)); exact BK108.out⟩, ⟨by repeat (first | (with_reducible first | exact HB.out | apply below_alloc | apply pw_below_drewN | apply below_drew1 | refine below_set ?_ GE108.out) | exact HB.out)⟩⟩
        · rw [if_neg c4] at H
          exact absurd H (by simp)
      · rw [if_neg c3] at H
        have c3b0 : decide (x4_1 < (l0_5.length : Int)) = false := decide_eq_false c3
        clear c3
        obtain rfl := Option.some.inj H
        have hcz8_0 : wr.cell? ⟨gb108, 0, none⟩ = some (.int .i64 a0_0) := (blk_cell BK108.out 0).trans rfl
        have hcz8_1 : wr.cell? ⟨gb108, 1, none⟩ = some (.string a0_1) := (blk_cell BK108.out 1).trans rfl
        have hcz8_2 : wr.cell? ⟨gb108, 2, none⟩ = some (.int .i64 a0_2) := (blk_cell BK108.out 2).trans rfl
        have hcz8_3 : wr.cell? ⟨gb108, 3, none⟩ = some (.slice A0_3 l0_3.length c0_3) := (blk_cell BK108.out 3).trans rfl
        have hcz8_4 : wr.cell? ⟨gb108, 4, none⟩ = some (.slice A0_4 l0_4.length c0_4) := (blk_cell BK108.out 4).trans rfl
        have hcz8_5 : wr.cell? ⟨gb108, 5, none⟩ = some (.slice A0_5 l0_5.length c0_5) := (blk_cell BK108.out 5).trans rfl
        have hfz8_0 := blk_frozen BK108.out 0
        have hfz8_1 := blk_frozen BK108.out 1
        have hfz8_2 := blk_frozen BK108.out 2
        have hfz8_3 := blk_frozen BK108.out 3
        have hfz8_4 := blk_frozen BK108.out 4
        have hfz8_5 := blk_frozen BK108.out 5
        go_wp2
        go_ret
        exact ⟨by first | rfl | (simp [errW_none, errW_some] <;> rfl) | (simp [*, errW_none, errW_some] <;> rfl), by repeat (first | (with_reducible first | exact HB.out | apply below_alloc | apply pw_below_drewN | apply below_drew1 | refine below_set ?_ GE108.out) | exact HB.out)⟩
end Go.Proofs.YtmlcaecknocpoaaDoor.Pr
namespace Go.Proofs.YtmlcaecknocpoaaDoor.Pr
open Go.RowKit Go.Proofs.YtmlcaecknocpoaaDoorW.PrintWords Go.Proofs.YtmlcaecknocpoaaDoorW.PrintLast Go.Proofs.YtmlcaecknocpoaaDoorW.PrintMore
attribute [local go_sem] max2_int min2_int max_two min_two max_three min_three max_four min_four   
set_option linter.unusedVariables false
set_option linter.unusedSimpArgs false
end Go.Proofs.YtmlcaecknocpoaaDoor.Pr
namespace Go.Proofs.YtmlcaecknocpoaaDoor.Pr
open Go.RowKit Go.Proofs.YtmlcaecknocpoaaDoorW.PrintWords Go.Proofs.YtmlcaecknocpoaaDoorW.PrintLast Go.Proofs.YtmlcaecknocpoaaDoorW.PrintMore
attribute [local go_sem] max2_int min2_int max_two min_two max_three min_three max_four min_four   
set_option linter.unusedVariables false
set_option linter.unusedSimpArgs false
end Go.Proofs.YtmlcaecknocpoaaDoor.Pr
namespace Go.Proofs.YtmlcaecknocpoaaDoor.Pr
open Go.RowKit Go.Proofs.YtmlcaecknocpoaaDoorW.PrintWords Go.Proofs.YtmlcaecknocpoaaDoorW.PrintLast Go.Proofs.YtmlcaecknocpoaaDoorW.PrintMore
attribute [local go_sem] max2_int min2_int max_two min_two max_three min_three max_four min_four   
set_option linter.unusedVariables false
set_option linter.unusedSimpArgs false
end Go.Proofs.YtmlcaecknocpoaaDoor.Pr
namespace Go.Proofs.YtmlcaecknocpoaaDoor.Pr
open Go.RowKit Go.Proofs.YtmlcaecknocpoaaDoorW.PrintWords Go.Proofs.YtmlcaecknocpoaaDoorW.PrintLast Go.Proofs.YtmlcaecknocpoaaDoorW.PrintMore
attribute [local go_sem] max2_int min2_int max_two min_two max_three min_three max_four min_four   
set_option linter.unusedVariables false
set_option linter.unusedSimpArgs false
end Go.Proofs.YtmlcaecknocpoaaDoor.Pr
namespace Go.Proofs.YtmlcaecknocpoaaDoor.Pr
open Go.RowKit Go.Proofs.YtmlcaecknocpoaaDoorW.PrintWords Go.Proofs.YtmlcaecknocpoaaDoorW.PrintLast Go.Proofs.YtmlcaecknocpoaaDoorW.PrintMore
attribute [local go_sem] max2_int min2_int max_two min_two max_three min_three max_four min_four   
set_option linter.unusedVariables false
set_option linter.unusedSimpArgs false
end Go.Proofs.YtmlcaecknocpoaaDoor.Pr
namespace Go.Proofs.YtmlcaecknocpoaaDoor.Pr
open Go.RowKit Go.Proofs.YtmlcaecknocpoaaDoorW.PrintWords Go.Proofs.YtmlcaecknocpoaaDoorW.PrintLast Go.Proofs.YtmlcaecknocpoaaDoorW.PrintMore
attribute [local go_sem] max2_int min2_int max_two min_two max_three min_three max_four min_four   
set_option linter.unusedVariables false
set_option linter.unusedSimpArgs false
end Go.Proofs.YtmlcaecknocpoaaDoor.Pr
namespace Go.Proofs.YtmlcaecknocpoaaDoor.Pr
open Go.RowKit Go.Proofs.YtmlcaecknocpoaaDoorW.PrintWords Go.Proofs.YtmlcaecknocpoaaDoorW.PrintLast Go.Proofs.YtmlcaecknocpoaaDoorW.PrintMore
attribute [local go_sem] max2_int min2_int max_two min_two max_three min_three max_four min_four   
set_option linter.unusedVariables false
set_option linter.unusedSimpArgs false
end Go.Proofs.YtmlcaecknocpoaaDoor.Pr
namespace Go.Proofs.YtmlcaecknocpoaaDoor.Pr
open Go.RowKit Go.Proofs.YtmlcaecknocpoaaDoorW.PrintWords Go.Proofs.YtmlcaecknocpoaaDoorW.PrintLast Go.Proofs.YtmlcaecknocpoaaDoorW.PrintMore
attribute [local go_sem] max2_int min2_int max_two min_two max_three min_three max_four min_four   
set_option linter.unusedVariables false
set_option linter.unusedSimpArgs false
end Go.Proofs.YtmlcaecknocpoaaDoor.Pr
namespace Go.Proofs.YtmlcaecknocpoaaDoor.Pr
open Go.RowKit Go.Proofs.YtmlcaecknocpoaaDoorW.PrintWords Go.Proofs.YtmlcaecknocpoaaDoorW.PrintLast Go.Proofs.YtmlcaecknocpoaaDoorW.PrintMore
attribute [local go_sem] max2_int min2_int max_two min_two max_three min_three max_four min_four   
set_option linter.unusedVariables false
set_option linter.unusedSimpArgs false
end Go.Proofs.YtmlcaecknocpoaaDoor.Pr
namespace Go.Proofs.YtmlcaecknocpoaaDoor.It
set_option linter.unusedVariables false
set_option linter.unusedSimpArgs false
open Go Go.RowKit Go.Shelf Go.Proofs.YtmlcaecknocpoaaDoorW.PrintWords Go.Proofs.YtmlcaecknocpoaaDoorW.PrintLast Go.Proofs.YtmlcaecknocpoaaDoor.Pr Go.Proofs.YtmlcaecknocpoaaDoor.Sp
theorem len_sizes (l : List S26) : l.length ≤ sizes l := by
  induction l with
  | nil => simp
  | cons x l ih => simp only [List.length_cons, sizes]; rw [size_eq]; omega
theorem drop_rd (l : List S26) (j : Nat) (h : j < l.length) : l.drop j = rd_T26 l j :: l.drop (j + 1) := by
  rw [List.drop_eq_getElem_cons h]
  simp [rd_T26, List.getD, h]
def NmOk (x : S26) : Prop := ∀ y ∈ nodes x, (∀ t ∈ y.f3, t.f1.size ≤ 9223372036854775807) ∧ (∀ b ∈ y.f4, b.f0.size ≤ 9223372036854775807) ∧ y.f4.length ≤ 9223372036854775807 ∧ y.f3.length ≤ 9223372036854775807
theorem NmOk.child {x : S26} (h : NmOk x) (j : Nat) (hj : j < x.f5.length) : NmOk (rd_T26 x.f5 j) := fun y hy => h y (by
  rw [nodes_eq]
  refine .tail _ (nodes_mem (x := rd_T26 x.f5 j) ?_ hy)
  simp [rd_T26, List.getD, hj])
theorem NmOk.self {x : S26} (h : NmOk x) : (∀ t ∈ x.f3, t.f1.size ≤ 9223372036854775807) ∧ (∀ b ∈ x.f4, b.f0.size ≤ 9223372036854775807) ∧ x.f4.length ≤ 9223372036854775807 ∧ x.f3.length ≤ 9223372036854775807 := h x (by rw [nodes_eq]; exact .head _)
theorem refSize_ev (s : Nat) : ∀ x : S26, size x ≤ s → size x ≤ 4611686018427387904 → Ev (fun k => chalklineref06_Size.f k x.f0 x.f1 x.f2 x.f3 x.f4 x.f5) (size x : Int) := by
  induction s with
  | zero => intro x h; rw [size_eq] at h; omega
  | succ s ih =>
    rintro ⟨k, nm, n, ts, bs, l⟩ hs hb
    simp only [size] at hs hb
    have hlen := len_sizes l
    have loop : ∀ d j : Nat, j + d = l.length → Ev (fun K => chalklineref06_Size.l0 K ((1 + sizes (l.take j) : Nat) : Int) (j : Int) k nm n ts bs l) ((1 + sizes l : Nat) : Int) := by
      intro d
      induction d with
      | zero =>
        intro j hj
        have e : j = l.length := by omega
        subst e
        refine Ev.step (f := fun _ => some ((1 + sizes l : Nat) : Int)) (fun K => ?_) (Ev.now _)
        simp only [chalklineref06_Size.l0]
        rw [if_neg (by omega), List.take_length]
      | succ d ihd =>
        intro j hj
        have hlt : j < l.length := by omega
        have hc := sizes_take l j hlt
        refine Ev.step (f := fun K => (chalklineref06_Size.f K (rd_T26 l (j : Int)).f0 (rd_T26 l (j : Int)).f1 (rd_T26 l (j : Int)).f2 (rd_T26 l (j : Int)).f3 (rd_T26 l (j : Int)).f4 (rd_T26 l (j : Int)).f5).bind fun t110 => chalklineref06_Size.l0 K (wrap64 (((1 + sizes (l.take j) : Nat) : Int) + t110)) ((j + 1 : Nat) : Int) k nm n ts bs l) (fun K => ?_) (Ev.bind (ih _ (by omega) (by omega)) ?_)
        · simp only [chalklineref06_Size.l0]
          rw [if_pos (by omega), if_pos (by omega), wrap_one j (by omega)]
        · have h := ihd (j + 1) (by omega)
          rw [show wrap64 (((1 + sizes (l.take j) : Nat) : Int) + (size (rd_T26 l j) : Int)) = ((1 + sizes (l.take (j + 1)) : Nat) : Int) by rw [wrap_in (by omega)]; omega]
          exact h
    refine Ev.step (f := fun K => chalklineref06_Size.l0 K 1 0 k nm n ts bs l) (fun K => rfl) ?_
    simpa [size, sizes] using loop l.length 0 (by omega)
end Go.Proofs.YtmlcaecknocpoaaDoor.It
namespace Go.Proofs.YtmlcaecknocpoaaDoor.It
open Go Go.RowKit Go.Shelf Go.Proofs.YtmlcaecknocpoaaDoorW.PrintWords Go.Proofs.YtmlcaecknocpoaaDoorW.PrintLast Go.Proofs.YtmlcaecknocpoaaDoor.Pr Go.Proofs.YtmlcaecknocpoaaDoor.Sp
theorem nil22 (w : World) (n c : Nat) (ad : Addr) : (binOp BinOp.eql 22 (.slice (some ad) n c) (.slice none 0 0)).run Tryd.prog w = .ok (.bool false) w := by kernel_rfl
theorem nil22' (w : World) (n c : Nat) : (binOp BinOp.eql 22 (.slice none n c) (.slice none 0 0)).run Tryd.prog w = .ok (.bool true) w := by kernel_rfl
theorem nil23 (w : World) (n c : Nat) (ad : Addr) : (binOp BinOp.eql 23 (.slice (some ad) n c) (.slice none 0 0)).run Tryd.prog w = .ok (.bool false) w := by kernel_rfl
theorem nil23' (w : World) (n c : Nat) : (binOp BinOp.eql 23 (.slice none n c) (.slice none 0 0)).run Tryd.prog w = .ok (.bool true) w := by kernel_rfl
attribute [local go_sem] nil22 nil22' nil23 nil23'
end Go.Proofs.YtmlcaecknocpoaaDoor.It
namespace Go.Proofs.YtmlcaecknocpoaaDoor.Pr
open Go.RowKit Go.Proofs.YtmlcaecknocpoaaDoorW.PrintWords Go.Proofs.YtmlcaecknocpoaaDoorW.PrintLast Go.Proofs.YtmlcaecknocpoaaDoorW.PrintMore
attribute [local go_sem] max2_int min2_int max_two min_two max_three min_three max_four min_four   
set_option linter.unusedVariables false
set_option linter.unusedSimpArgs false
end Go.Proofs.YtmlcaecknocpoaaDoor.Pr
namespace Go.Proofs.YtmlcaecknocpoaaDoor.It
open Go Go.RowKit Go.Shelf Go.Proofs.YtmlcaecknocpoaaDoorW.PrintWords Go.Proofs.YtmlcaecknocpoaaDoorW.PrintLast Go.Proofs.YtmlcaecknocpoaaDoor.Pr Go.Proofs.YtmlcaecknocpoaaDoor.Sp
def Agree (ok : Nat → Prop) (w w1 : World) : Prop := Below 0 w w1 ∧ ∀ k, ok k → k < w.heap.size → w1.heap[k]? = w.heap[k]?
theorem Agree.of_below {ok : Nat → Prop} {w w1 : World} {n : Nat} (h : Below n w w1) (hok : ∀ k, ok k → k < w.heap.size → k < n) : Agree ok w w1 := ⟨h.mono (Nat.zero_le _), fun k hk hl => h.block k (hok k hk hl)⟩
theorem Agree.trans {ok ok' : Nat → Prop} {w w1 w2 : World} (h : Agree ok w w1) (k : Agree ok' w1 w2) (hok : ∀ i, ok i → i < w.heap.size → ok' i) : Agree ok w w2 :=
  ⟨h.1.trans k.1, fun i hi hl => (k.2 i (hok i hi hl) (Nat.lt_of_lt_of_le hl h.1.size)).trans (h.2 i hi hl)⟩
theorem Agree.refl (ok : Nat → Prop) (w : World) : Agree ok w w := ⟨Below.refl _ _, fun _ _ _ => rfl⟩
theorem Agree.mono {ok ok' : Nat → Prop} {w w1 : World} (h : Agree ok w w1) (hok : ∀ i, ok' i → i < w.heap.size → ok i) : Agree ok' w w1 := ⟨h.1, fun i hi hl => h.2 i (hok i hi hl) hl⟩
theorem Agree.below {w w1 : World} (h : Agree (fun _ => True) w w1) : Below w.heap.size w w1 := ⟨h.1.os, h.1.tape, h.1.output, h.1.size, fun k hk => h.2 k trivial hk⟩
def Lies (ok : Nat → Prop) (w : World) (y : S26) (B3 : Option Addr) (d3 : Nat) (B4 : Option Addr) (d4 : Nat) (B5 : Option Addr) (d5 : Nat) : Prop := ∀ w1, Agree ok w w1 → At w1 y B3 d3 B4 d4 B5 d5
theorem Lies.at_ {ok : Nat → Prop} {w : World} {y : S26} {B3 : Option Addr} {d3 : Nat} {B4 : Option Addr} {d4 : Nat} {B5 : Option Addr} {d5 : Nat} (h : Lies ok w y B3 d3 B4 d4 B5 d5) : At w y B3 d3 B4 d4 B5 d5 := h w (Agree.refl _ _)
theorem Lies.move {ok ok' : Nat → Prop} {w w1 : World} {y : S26} {B3 : Option Addr} {d3 : Nat} {B4 : Option Addr} {d4 : Nat} {B5 : Option Addr} {d5 : Nat} (h : Lies ok w y B3 d3 B4 d4 B5 d5) (ha : Agree ok w w1) (hok : ∀ i, ok i → i < w.heap.size → ok' i) : Lies ok' w1 y B3 d3 B4 d4 B5 d5 :=
  fun w2 h2 => h w2 (ha.trans h2 hok)
theorem Lies.mono {ok ok' : Nat → Prop} {w : World} {y : S26} {B3 : Option Addr} {d3 : Nat} {B4 : Option Addr} {d4 : Nat} {B5 : Option Addr} {d5 : Nat} (h : Lies ok w y B3 d3 B4 d4 B5 d5) (hok : ∀ i, ok i → i < w.heap.size → ok' i) : Lies ok' w y B3 d3 B4 d4 B5 d5 := h.move (Agree.refl _ _) hok
def cl (y : S26) (B3 : Option Addr) (d3 : Nat) (B4 : Option Addr) (d4 : Nat) (B5 : Option Addr) (d5 : Nat) : List Value :=
  [.int .i64 y.f0, .string y.f1, .int .i64 y.f2, .slice B3 y.f3.length d3, .slice B4 y.f4.length d4, .slice B5 y.f5.length d5]
theorem At.K {w : World} {y : S26} {B3 : Option Addr} {d3 : Nat} {B4 : Option Addr} {d4 : Nat} {B5 : Option Addr} {d5 : Nat} (h : At w y B3 d3 B4 d4 B5 d5) : k26.K w y (cl y B3 d3 B4 d4 B5 d5) := k26_mk w y h.l3 h.g3 h.l4 h.g4 h.l5 h.g5
def Row (ok : Nat → Prop) (w : World) (base : Nat) (v : Value) (l : List S26) : Prop :=
  OwnRow (fun y cs => ∀ w1, Agree (fun k => ok k ∧ some k ≠ v.ownBlock) w w1 → k26.K w1 y cs) 26 6 w base v l
theorem Row.nil (ok : Nat → Prop) (w : World) (base : Nat) : Row ok w base (.slice none 0 0) [] := OwnRow.none_ _ _ _ _ _
theorem own_lt {w : World} {base : Nat} {e : TypeId} {size n : Nat} {v : Value} {xs : List Value} (h : w.ownsRow base e size v n xs) (k : Nat) (hk : v.ownBlock = some k) : k < w.heap.size ∧ base ≤ k := by
  rcases h.2 with ⟨rfl, _⟩ | ⟨g, cap, cur, rfl, hg, hh, r⟩
  · simp [Value.ownBlock] at hk
  · have : g = k := by simpa [Value.ownBlock] using hk
    subst this
    exact ⟨(Array.getElem?_eq_some_iff.1 hh).1, hg⟩
theorem Row.lt {ok : Nat → Prop} {w : World} {base : Nat} {v : Value} {l : List S26} (h : Row ok w base v l) (k : Nat) (hk : v.ownBlock = some k) : k < w.heap.size ∧ base ≤ k := by
  obtain ⟨inner, ho, _⟩ := h
  exact own_lt ho k hk
theorem Row.move {ok ok' : Nat → Prop} {w w1 : World} {base : Nat} {v : Value} {l : List S26} (h : Row ok w base v l) (ha : Agree ok w w1) (hv : ∀ k, v.ownBlock = some k → ok k) (hok : ∀ i, ok i → i < w.heap.size → ok' i) : Row ok' w1 base v l := by
  obtain ⟨inner, ho, hr⟩ := h
  refine ⟨inner, own_move ho (fun k hk => ha.2 k (hv k hk) (own_lt ho k hk).1), hr.imp_ (fun y cs hy w2 h2 => hy w2 ?_)⟩
  exact (ha.mono (fun i hi _ => hi.1)).trans h2 (fun i hi hl => ⟨hok i hi.1 hl, hi.2⟩)
theorem Row.slice {ok : Nat → Prop} {w : World} {base : Nat} {v : Value} {l : List S26} (h : Row ok w base v l) : ∃ A c, v = .slice A l.length c := by
  obtain ⟨A, c, e, _⟩ := OwnRow.slice_ h
  exact ⟨A, c, e⟩
theorem Row.reads {ok : Nat → Prop} {w w1 : World} {base : Nat} {A : Option Addr} {c : Nat} {l : List S26} (h : Row ok w base (.slice A l.length c) l) (ha : Agree ok w w1) (hv : ∀ k, (Value.slice A l.length c).ownBlock = some k → ok k) : l.length ≤ c ∧ Kd.C k26 w1 A l.length l := by
  have h1 := h.move (ok' := ok) ha hv (fun _ hi _ => hi)
  obtain ⟨A', c', e, hl, hr⟩ := OwnRow.reads h1
  injection e with e1 e2 e3
  subst e1
  refine ⟨by omega, hr.1, hr.2.1, fun hp => ?_⟩
  obtain ⟨ad, ea, hc⟩ := hr.2.2 hp
  refine ⟨ad, ea, fun j p hj => ?_⟩
  obtain ⟨cs, hcs, hR, hcell⟩ := hc j p hj
  exact ⟨cs, hcs, hR w1 (Agree.refl _ _), hcell⟩
theorem Row.snoc {ok : Nat → Prop} {W w1 : World} {base : Nat} {v v1 : Value} {l : List S26} {R : S26 → List Value → Prop}
    (hR : ∀ y cs, R y cs → ∀ w2, Agree (fun k => ok k ∧ some k ≠ v.ownBlock) W w2 → k26.K w2 y cs)
    (ho : OwnRow R 26 6 w1 base v1 l) (hb : Below 0 W w1) (hg : W.grownBy w1 v.ownBlock) (hat : v1.ownBlock = v.ownBlock ∨ ∃ b, v1.ownBlock = some b ∧ W.heap.size ≤ b) : Row ok w1 base v1 l := by
  obtain ⟨inner, ho, hr⟩ := ho
  refine ⟨inner, ho, hr.imp_ (fun y cs hy w2 h2 => hR y cs hy w2 ?_)⟩
  refine ⟨hb.trans h2.1, fun k hk hl => ?_⟩
  have h3 : some k ≠ v1.ownBlock := by
    rcases hat with e | ⟨b, e, hle⟩
    · rw [e]; exact hk.2
    · rw [e]; intro h; injection h with h; omega
  exact (h2.2 k ⟨hk.1, h3⟩ (Nat.lt_of_lt_of_le hl hb.size)).trans (hg.block k hl hk.2)
end Go.Proofs.YtmlcaecknocpoaaDoor.It
namespace Go.Proofs.YtmlcaecknocpoaaDoor.It
open Go Go.RowKit Go.Shelf Go.Proofs.YtmlcaecknocpoaaDoorW.PrintWords Go.Proofs.YtmlcaecknocpoaaDoorW.PrintLast Go.Proofs.YtmlcaecknocpoaaDoor.Pr Go.Proofs.YtmlcaecknocpoaaDoor.Sp
attribute [local go_sem ↓] Go.wp_at_zero Go.wp_at_succ
theorem six {w : World} {B : Nat} {a0 a1 a2 a3 a4 a5 : Value} (h : w.heap[B]? = some (.cells #[a0, a1, a2, a3, a4, a5] 26 (0, 0))) :
    w.cell? ⟨B, 0, none⟩ = some a0 ∧ w.cell? ⟨B, 1, none⟩ = some a1 ∧ w.cell? ⟨B, 2, none⟩ = some a2 ∧ w.cell? ⟨B, 3, none⟩ = some a3 ∧ w.cell? ⟨B, 4, none⟩ = some a4 ∧ w.cell? ⟨B, 5, none⟩ = some a5 :=
  ⟨(blk_cell h 0).trans rfl, (blk_cell h 1).trans rfl, (blk_cell h 2).trans rfl, (blk_cell h 3).trans rfl, (blk_cell h 4).trans rfl, (blk_cell h 5).trans rfl⟩
structure Two (w0 W w : World) (k : Int) (nm : ByteArray) (n : Int) (ts : List S47) (bs : List S42) (l : List S26) (A3 : Option Addr) (c3 : Nat) (A4 : Option Addr) (c4 : Nat) (A5 : Option Addr) (c5 : Nat) : Prop where
  a : w.heap[W.heap.size]? = some (.cells #[.int .i64 k, .string nm, .int .i64 n, .slice A3 ts.length c3, .slice A4 bs.length c4, .slice A5 l.length c5] 26 (0, 0))
  b : w.heap[W.heap.size + 1]? = some (.cells #[.int .i64 0, .string ⟨#[]⟩, .int .i64 0, .slice none 0 0, .slice none 0 0, .slice none 0 0] 26 (0, 0))
  h0 : Below w0.heap.size w0 w
  h : Below W.heap.size W w
  s : W.heap.size + 2 ≤ w.heap.size
theorem Two.start {w0 W : World} (hb : Below w0.heap.size w0 W) (k : Int) (nm : ByteArray) (n : Int) (ts : List S47) (bs : List S42) (l : List S26) (A3 : Option Addr) (c3 : Nat) (A4 : Option Addr) (c4 : Nat) (A5 : Option Addr) (c5 : Nat) :
    Two w0 W ((W.alloc (.cells #[.int .i64 k, .string nm, .int .i64 n, .slice A3 ts.length c3, .slice A4 bs.length c4, .slice A5 l.length c5] 26)).alloc (.cells #[.int .i64 0, .string ⟨#[]⟩, .int .i64 0, .slice none 0 0, .slice none 0 0, .slice none 0 0] 26)) k nm n ts bs l A3 c3 A4 c4 A5 c5 :=
  ⟨heap_new2a _ _ _, heap_new2b _ _ _, (hb.alloc hb.size _).alloc ((hb.alloc hb.size _).size) _, ((Below.refl _ _).alloc (Nat.le_refl _) _).alloc (by simp) _, by simp⟩
theorem Two.below {w0 W w w1 : World} {k : Int} {nm : ByteArray} {n : Int} {ts : List S47} {bs : List S42} {l : List S26} {A3 : Option Addr} {c3 : Nat} {A4 : Option Addr} {c4 : Nat} {A5 : Option Addr} {c5 : Nat} (h : Two w0 W w k nm n ts bs l A3 c3 A4 c4 A5 c5) (hb : Below w.heap.size w w1) : Two w0 W w1 k nm n ts bs l A3 c3 A4 c4 A5 c5 :=
  ⟨blk_below hb h.a, blk_below hb h.b, h.h0.trans (hb.mono h.h0.size), h.h.trans (hb.mono h.h.size), Nat.le_trans h.s hb.size⟩
theorem Two.drew {w0 W w : World} {k : Int} {nm : ByteArray} {n : Int} {ts : List S47} {bs : List S42} {l : List S26} {A3 : Option Addr} {c3 : Nat} {A4 : Option Addr} {c4 : Nat} {A5 : Option Addr} {c5 : Nat} (h : Two w0 W w k nm n ts bs l A3 c3 A4 c4 A5 c5) : Two w0 W w.drew k nm n ts bs l A3 c3 A4 c4 A5 c5 := h.below (below_drew (Below.refl _ _))
theorem Two.alloc {w0 W w : World} {k : Int} {nm : ByteArray} {n : Int} {ts : List S47} {bs : List S42} {l : List S26} {A3 : Option Addr} {c3 : Nat} {A4 : Option Addr} {c4 : Nat} {A5 : Option Addr} {c5 : Nat} (h : Two w0 W w k nm n ts bs l A3 c3 A4 c4 A5 c5) (o : Obj) : Two w0 W (w.alloc o) k nm n ts bs l A3 c3 A4 c4 A5 c5 := h.below ((Below.refl _ _).alloc (Nat.le_refl _) _)
theorem set_one {w : World} {B : Nat} {cs : Array Value} {t : TypeId} (h : w.heap[B]? = some (.cells cs t (0, 0))) (j : Nat) (v : Value) : (w.setCell ⟨B, j, none⟩ v).heap[B]? = some (.cells (cs.setIfInBounds j v) t (0, 0)) := by
  simp [World.setCell, Array.getElem?_modify, h]
theorem Agree.set (w : World) (B j : Nat) (v : Value) (ok : Nat → Prop) (h : ∀ k, ok k → k ≠ B) : Agree ok w (w.setCell ⟨B, j, none⟩ v) :=
  ⟨(Below.refl _ _).setCell (Nat.zero_le _) _, fun k hk _ => Below.heap_setCell _ _ _ _ (h k hk)⟩
theorem Agree.six (w : World) (B : Nat) (v0 v1 v2 v3 v4 v5 : Value) (ok : Nat → Prop) (h : ∀ k, ok k → k ≠ B) :
    Agree ok w ((((((w.setCell ⟨B, 0, none⟩ v0).setCell ⟨B, 1, none⟩ v1).setCell ⟨B, 2, none⟩ v2).setCell ⟨B, 3, none⟩ v3).setCell ⟨B, 4, none⟩ v4).setCell ⟨B, 5, none⟩ v5) :=
  (((((Agree.set w B 0 v0 ok h).trans (Agree.set _ B 1 v1 ok h) (fun _ h _ => h)).trans (Agree.set _ B 2 v2 ok h) (fun _ h _ => h)).trans (Agree.set _ B 3 v3 ok h) (fun _ h _ => h)).trans (Agree.set _ B 4 v4 ok h) (fun _ h _ => h)).trans (Agree.set _ B 5 v5 ok h) (fun _ h _ => h)
theorem Agree.alloc (w : World) (o : Obj) (ok : Nat → Prop) : Agree ok w (w.alloc o) := Agree.of_below ((Below.refl w.heap.size w).alloc (Nat.le_refl _) o) (fun _ _ h => h)
theorem Agree.low {ok : Nat → Prop} {n : Nat} {w w1 : World} (h : Agree ok w w1) (hok : ∀ k, k < n → ok k) (hn : n ≤ w.heap.size) : Below n w w1 :=
  ⟨h.1.os, h.1.tape, h.1.output, h.1.size, fun k hk => h.2 k (hok k hk) (by omega)⟩
theorem Two.agree {w0 W w w1 : World} {k : Int} {nm : ByteArray} {n : Int} {ts : List S47} {bs : List S42} {l : List S26} {A3 : Option Addr} {c3 : Nat} {A4 : Option Addr} {c4 : Nat} {A5 : Option Addr} {c5 : Nat} (h : Two w0 W w k nm n ts bs l A3 c3 A4 c4 A5 c5) (hw : w0.heap.size ≤ W.heap.size) (ha : Agree (fun i => i < W.heap.size + 2) w w1) : Two w0 W w1 k nm n ts bs l A3 c3 A4 c4 A5 c5 := by
  have hs := h.s
  exact ⟨(ha.2 _ (by omega) (by omega)).trans h.a, (ha.2 _ (by omega) (by omega)).trans h.b, h.h0.trans (ha.low (fun k hk => by omega) (by omega)), h.h.trans (ha.low (fun k hk => by omega) (by omega)), Nat.le_trans h.s ha.1.size⟩
structure Three (w0 W wx : World) (B : Nat) (V3 : Option Addr) (e3 : Nat) (V4 : Option Addr) (e4 : Nat) (k : Int) (nm : ByteArray) (n : Int) (ts : List S47) (bs : List S42) (l : List S26) (A3 : Option Addr) (c3 : Nat) (A4 : Option Addr) (c4 : Nat) (A5 : Option Addr) (c5 : Nat) (k1 : Int) (nm1 : ByteArray) (n1 : Int) : Prop where
  two : Two w0 W wx k nm n ts bs l A3 c3 A4 c4 A5 c5
  hB : W.heap.size + 2 ≤ B
  box : wx.heap[B]? = some (.cells #[.int .i64 k1, .string nm1, .int .i64 n1, .slice V3 ts.length e3, .slice V4 bs.length e4, .slice none 0 0] 26 (0, 0))
  r3 : ∀ w1, Agree (fun i => W.heap.size + 2 ≤ i ∧ i ≠ B) wx w1 → ts.length ≤ e3 ∧ Kd.C k47 w1 V3 ts.length ts
  r4 : ∀ w1, Agree (fun i => W.heap.size + 2 ≤ i ∧ i ≠ B) wx w1 → bs.length ≤ e4 ∧ Kd.C k42 w1 V4 bs.length bs
def okR (w0 W : World) (B i : Nat) : Prop := (i < w0.heap.size ∨ W.heap.size + 2 ≤ i) ∧ i ≠ B
structure LI (w0 W wx wr : World) (B : Nat) (V3 : Option Addr) (e3 : Nat) (V4 : Option Addr) (e4 : Nat) (ts : List S47) (bs : List S42) (k1 : Int) (nm1 : ByteArray) (n1 : Int) (b : Bool) (l : List S26) (j : Nat) (v : Value) : Prop where
  ag : Agree (fun i => i ≠ B) wx wr
  box : wr.heap[B]? = some (.cells #[.int .i64 k1, .string nm1, .int .i64 n1, .slice V3 ts.length e3, .slice V4 bs.length e4, v] 26 (0, 0))
  row : Row (okR w0 W B) wr wx.heap.size v (rights (l.take j) b)
theorem okR_own {w0 W wx wr : World} {B : Nat} {v : Value} {l : List S26} (hs : W.heap.size + 2 ≤ wx.heap.size) (hB : B < wx.heap.size) (h : Row (okR w0 W B) wr wx.heap.size v l) : ∀ k, v.ownBlock = some k → okR w0 W B k := fun k hk => by
  have := (h.lt k hk).2
  exact ⟨by omega, by omega⟩
theorem rights_take (l : List S26) (b : Bool) (j : Nat) (hj : j < l.length) : rights (l.take (j + 1)) b = rights (l.take j) b ++ [right (rd_T26 l j) b] := by
  induction l generalizing j with
  | nil => simp at hj
  | cons x l ih =>
    cases j with
    | zero => simp [rights, rd_T26]
    | succ j =>
      have := ih j (by simpa using hj)
      have e : rd_T26 (x :: l) ((j + 1 : Nat) : Int) = rd_T26 l j := by simp [rd_T26]
      rw [e]
      simp only [List.take_succ_cons, rights, this, List.cons_append]
theorem LI.up {w0 W wx wr : World} {B : Nat} {V3 : Option Addr} {e3 : Nat} {V4 : Option Addr} {e4 : Nat} {ts : List S47} {bs : List S42} {k1 : Int} {nm1 : ByteArray} {n1 : Int} {b : Bool} {l : List S26} {j : Nat} {v : Value} (h : LI w0 W wx wr B V3 e3 V4 e4 ts bs k1 nm1 n1 b l j v) (hs : W.heap.size + 2 ≤ wx.heap.size) (hB : B < wx.heap.size) {w5 : World} (g : Below wr.heap.size wr w5) : LI w0 W wx w5 B V3 e3 V4 e4 ts bs k1 nm1 n1 b l j v :=
  ⟨h.ag.trans (Agree.of_below g (fun _ _ h => h)) (fun _ h _ => h), blk_below g h.box, h.row.move (Agree.of_below g (fun _ _ h => h)) (okR_own hs hB h.row) (fun _ h _ => h)⟩
theorem LI.step {w0 W wx wr : World} {B : Nat} {V3 : Option Addr} {e3 : Nat} {V4 : Option Addr} {e4 : Nat} {ts : List S47} {bs : List S42} {k1 : Int} {nm1 : ByteArray} {n1 : Int} {b : Bool} {l : List S26} {j : Nat} {v : Value} (h : LI w0 W wx wr B V3 e3 V4 e4 ts bs k1 nm1 n1 b l j v) (hj : j < l.length) (hs : W.heap.size + 2 ≤ wx.heap.size) (hB : B < wx.heap.size)
    {v1 : Value} {w1 : World} (ho : OwnRow (fun y cs => ∀ w1, Agree (fun k => okR w0 W B k ∧ some k ≠ v.ownBlock) wr w1 → k26.K w1 y cs) 26 6 w1 wx.heap.size v1 (rights (l.take j) b ++ [right (rd_T26 l j) b])) (hb : Below 0 wr w1) (hg : wr.grownBy w1 v.ownBlock) (hat : v1.ownBlock = v.ownBlock ∨ ∃ b, v1.ownBlock = some b ∧ wr.heap.size ≤ b) :
    LI w0 W wx (w1.setCell ⟨B, 5, none⟩ v1) B V3 e3 V4 e4 ts bs k1 nm1 n1 b l (j + 1) v1 := by
  have hv : some B ≠ v.ownBlock := fun e => by have := (h.row.lt B e.symm).2; omega
  have hr : Row (okR w0 W B) w1 wx.heap.size v1 (rights (l.take (j + 1)) b) := by
    rw [rights_take l b j hj]
    exact Row.snoc (fun y cs h => h) ho hb hg hat
  refine ⟨?_, ?_, hr.move (Agree.set w1 B 5 v1 (okR w0 W B) (fun _ h => h.2)) (okR_own hs hB hr) (fun _ h _ => h)⟩
  · refine ⟨(h.ag.1.trans hb).trans ((Below.refl _ _).setCell (Nat.zero_le _) _), fun k hk hl => ?_⟩
    rw [Below.heap_setCell _ _ _ _ (by simpa using hk), hg.block k (Nat.lt_of_lt_of_le hl h.ag.1.size) (fun e => by have := (h.row.lt k e.symm).2; omega)]
    exact h.ag.2 k hk hl
  · have hb1 : w1.heap[B]? = _ := (hg.block B (Array.getElem?_eq_some_iff.1 h.box).1 hv).trans h.box
    exact (set_one hb1 5 v1).trans rfl
theorem LI.fin {w0 W wx wr : World} {B : Nat} {V3 : Option Addr} {e3 : Nat} {V4 : Option Addr} {e4 : Nat} {k : Int} {nm : ByteArray} {n : Int} {ts : List S47} {bs : List S42} {l : List S26} {A3 : Option Addr} {c3 : Nat} {A4 : Option Addr} {c4 : Nat} {A5 : Option Addr} {c5 : Nat} {k1 : Int} {nm1 : ByteArray} {n1 : Int} {b : Bool} {A : Option Addr} {c : Nat}
    (T : Three w0 W wx B V3 e3 V4 e4 k nm n ts bs l A3 c3 A4 c4 A5 c5 k1 nm1 n1) (h : LI w0 W wx wr B V3 e3 V4 e4 ts bs k1 nm1 n1 b l l.length (.slice A (rights l b).length c)) (hw : w0.heap.size ≤ W.heap.size) {wf : World} (hf : Agree (fun i => i ≠ W.heap.size + 1) wr wf) :
    Below W.heap.size W wf ∧ Lies (fun i => i < w0.heap.size ∨ W.heap.size ≤ i) wf ⟨k1, nm1, n1, ts, bs, rights l b⟩ V3 e3 V4 e4 A c := by
  have hB := T.hB
  have hs := T.two.s
  have hlt : B < wx.heap.size := (Array.getElem?_eq_some_iff.1 T.box).1
  have hsz := h.ag.1.size
  refine ⟨T.two.h.trans ((h.ag.low (fun k hk => by omega) (by omega)).trans (hf.low (fun k hk => by omega) (by omega))), fun w1 h1 => ?_⟩
  have hrow := h.row
  rw [List.take_length] at hrow
  have a1 : Agree (fun i => W.heap.size + 2 ≤ i ∧ i ≠ B) wx w1 := ((h.ag.mono (ok' := fun i => W.heap.size + 2 ≤ i ∧ i ≠ B) (fun i hi _ => hi.2)).trans hf (fun i hi _ => by omega)).trans h1 (fun i hi _ => .inr (by omega))
  have a2 : Agree (okR w0 W B) wr w1 := (hf.mono (ok' := okR w0 W B) (fun i hi _ => by unfold okR at hi; omega)).trans h1 (fun i hi _ => by unfold okR at hi; omega)
  obtain ⟨l3, g3⟩ := T.r3 w1 a1
  obtain ⟨l4, g4⟩ := T.r4 w1 a1
  obtain ⟨l5, g5⟩ := hrow.reads a2 (okR_own hs hlt hrow)
  exact ⟨l3, g3, l4, g4, l5, g5⟩
theorem Three.set {w0 W wx w1 : World} {B : Nat} {V3 : Option Addr} {e3 : Nat} {V4 : Option Addr} {e4 : Nat} {k : Int} {nm : ByteArray} {n : Int} {ts : List S47} {bs : List S42} {l : List S26} {A3 : Option Addr} {c3 : Nat} {A4 : Option Addr} {c4 : Nat} {A5 : Option Addr} {c5 : Nat} {k1 : Int} {nm1 : ByteArray} {n1 : Int}
    (T : Three w0 W wx B V3 e3 V4 e4 k nm n ts bs l A3 c3 A4 c4 A5 c5 k1 nm1 n1) (hw : w0.heap.size ≤ W.heap.size) (ha : Agree (fun i => i ≠ B) wx w1) (k2 : Int) (nm2 : ByteArray) (n2 : Int)
    (hbox : w1.heap[B]? = some (.cells #[.int .i64 k2, .string nm2, .int .i64 n2, .slice V3 ts.length e3, .slice V4 bs.length e4, .slice none 0 0] 26 (0, 0))) : Three w0 W w1 B V3 e3 V4 e4 k nm n ts bs l A3 c3 A4 c4 A5 c5 k2 nm2 n2 :=
  ⟨T.two.agree hw (ha.mono (fun i hi _ => by have := T.hB; omega)), T.hB, hbox, fun w2 h2 => T.r3 w2 ((ha.mono (fun i hi _ => hi.2)).trans h2 (fun _ h _ => h)), fun w2 h2 => T.r4 w2 ((ha.mono (fun i hi _ => hi.2)).trans h2 (fun _ h _ => h))⟩
theorem forms_rd (l : List S26) (h : forms l = true) (j : Nat) (hj : j < l.length) : form (rd_T26 l j) = true := by
  induction l generalizing j with
  | nil => simp at hj
  | cons x l ih =>
    simp only [forms, Bool.and_eq_true] at h
    cases j with
    | zero => simpa [rd_T26] using h.1
    | succ j => simpa [rd_T26] using ih h.2 j (by simpa using hj)
theorem leaf_at (w : World) (k : Int) : At w (leaf k) none 0 none 0 none 0 := ⟨Nat.le_refl _, Kd.C_nil _ _, Nat.le_refl _, Kd.C_nil _ _, Nat.le_refl _, Kd.C_nil _ _⟩
end Go.Proofs.YtmlcaecknocpoaaDoor.It
namespace Go.Proofs.YtmlcaecknocpoaaDoor.It
open Go Go.RowKit Go.Shelf Go.Proofs.YtmlcaecknocpoaaDoorW.PrintWords Go.Proofs.YtmlcaecknocpoaaDoorW.PrintLast Go.Proofs.YtmlcaecknocpoaaDoor.Pr Go.Proofs.YtmlcaecknocpoaaDoor.Sp
open Go.ChangeMaps Go.MapKept Go.WideShapes
theorem key9 (s : ByteArray) (hs : s.size ≤ maxLen) : keyOf Tryd.prog 9 (.string s) = some (.string s.data.toList) := by
  have h9 := Tryd.underlying9
  simp [keyOf, mapKey, h9, hs]
theorem keyed9 : Maps.Keyed Tryd.prog 9 := Maps.string_keyed Tryd.underlying9
def cnt (l : List ByteArray) (s : ByteArray) : Nat := (l.filter fun x => decide (x = s)).length
theorem cnt_append (a b : List ByteArray) (s : ByteArray) : cnt (a ++ b) s = cnt a s + cnt b s := by simp [cnt]
theorem cnt_one (s : ByteArray) : cnt [s] s = 1 := by simp [cnt]
theorem cnt_other {s s' : ByteArray} (h : s' ≠ s) : cnt [s] s' = 0 := by simp [cnt, Ne.symm h]
theorem cnt_le (l : List ByteArray) (s : ByteArray) : cnt l s ≤ l.length := List.length_filter_le _ _
theorem cnt_zero (l : List ByteArray) (s : ByteArray) : cnt l s = 0 ↔ among l s = false := by
  simp [cnt, among, List.filter_eq_nil_iff]
def MapIs (w : World) (M n : Nat) (bl : List ByteArray) : Prop :=
  ∃ D : DataW Unit, w.ownsMap Tryd.prog 9 (plainElem Tryd.prog 3) M n D ∧ ∀ s : ByteArray, D.atKey (.string s.data.toList) (.lit (.int .i64 0)) = .lit (.int .i64 (cnt bl s))
theorem MapIs.look {w : World} {M n : Nat} {bl : List ByteArray} (h : MapIs w M n bl) (s : ByteArray) (hs : s.size ≤ maxLen) : (Instr.lookup 68 (.map (some M)) (.string s) false).run Tryd.prog w = .ok (.int .i64 (cnt bl s)) w := by
  obtain ⟨D, ho, hD⟩ := h
  obtain ⟨c, hrun, hat, _⟩ := ho.lookup_int keyed9 Tryd.underlying68 Tryd.underlying3 (by kernel_rfl) (key := .string s) (kl := .string s.data.toList) (key9 s hs)
  have e := (hD s).symm.trans hat
  have e2 : ((cnt bl s : Nat) : Int) = c := (Lit.int.inj (DataW.lit.inj e)).2
  rw [hrun, ← e2]
theorem MapIs.kept {w w1 : World} {M n : Nat} {bl : List ByteArray} (h : MapIs w M n bl) {row : Option Nat} (hg : w.grownBy w1 row) (hne : some M ≠ row) : MapIs w1 M n bl := by
  obtain ⟨D, ho, hD⟩ := h
  exact ⟨D, ho.kept hg hne, hD⟩
theorem MapIs.congr {w : World} {M n : Nat} {bl bl' : List ByteArray} (h : MapIs w M n bl) (hc : ∀ s, cnt bl' s = cnt bl s) : MapIs w M n bl' := by
  obtain ⟨D, ho, hD⟩ := h
  exact ⟨D, ho, fun s => by rw [hc s]; exact hD s⟩
theorem MapIs.put {w : World} {M n : Nat} {bl bl' : List ByteArray} (h : MapIs w M n bl) (hn : n < maxLen) (s : ByteArray) (hs : s.size ≤ maxLen) (hI : I64 (cnt bl' s : Nat)) (hc : ∀ s', s' ≠ s → cnt bl' s' = cnt bl s') :
    ∃ w1, (Instr.mapUpdate 68 (.map (some M)) (.string s) (.int .i64 (cnt bl' s))).run Tryd.prog w = .ok () w1 ∧ MapIs w1 M (n + 1) bl' ∧ w.grownBy w1 (some M) := by
  obtain ⟨D, ho, hD⟩ := h
  obtain ⟨w1, hrun, h1, h2⟩ := ho.update keyed9 Tryd.underlying68 hn (key9 s hs) (plainElem_int Tryd.underlying3 hI)
  refine ⟨w1, hrun, ⟨_, h1, fun s' => ?_⟩, h2⟩
  by_cases e : s' = s
  · subst e
    exact Maps.atKey_put_same ho.isMap (by simp [WideAt.IsKeyLit]) _ _
  · rw [Maps.atKey_put_other (fun he => e ?_), hD s', hc s' e]
    have he' := Lit.string.inj he
    cases s'; cases s
    simpa [Array.toList_inj] using he'
theorem MapIs.new (w : World) : MapIs (w.alloc (.map #[] 0)) w.heap.size 0 [] := ⟨.map [], World.ownsMap_made w _ _ _, fun _ => rfl⟩
end Go.Proofs.YtmlcaecknocpoaaDoor.It
namespace Go.Proofs.YtmlcaecknocpoaaDoor.Pr
open Go.RowKit Go.Proofs.YtmlcaecknocpoaaDoorW.PrintWords Go.Proofs.YtmlcaecknocpoaaDoorW.PrintLast Go.Proofs.YtmlcaecknocpoaaDoorW.PrintMore
attribute [local go_sem] max2_int min2_int max_two min_two max_three min_three max_four min_four   
set_option linter.unusedVariables false
set_option linter.unusedSimpArgs false
def slices_Index_string_string.l0 : Nat → List ByteArray → ByteArray → Int → Int → Option (Int)
  | 0, _, _, _, _ => none
  | k + 1, x0, x1, x7, x8 => if x8 < x7 then (if 0 ≤ x8 then (if x8 < (x0.length : Int) then (if x1.toList = (rdOf ByteArray.empty x0 x8).toList then (some x8) else (slices_Index_string_string.l0 k x0 x1 x7 (wrap64 (x8 + 1)))) else (none)) else (none)) else (some (-1))
def slices_Index_string_string.f (k : Nat) (l0 : List ByteArray) (a1 : ByteArray) : Option (Int) := slices_Index_string_string.l0 k l0 a1 (l0.length : Int) 0
set_option maxHeartbeats 8000000 in
set_option maxRecDepth 100000 in
theorem slices_Index_string_string.calls (k : Nat) (A0 : Option Addr) (c0 : Nat) (l0 : List ByteArray) (a1 : ByteArray) (r : Int) (w : World) (hr0 : Kd.C Kd.string w A0 l0.length l0) (hc0 : l0.length ≤ c0) (h : slices_Index_string_string.f k l0 a1 = some r) :
    Calls Tryd.prog 92 #[.slice A0 l0.length c0, .string a1] w fun e w' => e = .returned (.int .i64 r) ∧ Drawn0 w w' := by
  have HR0 := Aside0.mk hr0
  have HC0 := Aside0.mk hc0
  clear hr0 hc0
  have H : (slices_Index_string_string.l0 k l0 a1 (l0.length : Int) 0) = some r := h
  clear h
  have H' := Aside0.mk H
  clear H
  go_enter Tryd.func92, Tryd.ntmps92
  go_wp2
  go_loopg [8] k (fun kq v8 w' => ∃ (x8_1 : Int), v8 = .int .i64 x8_1 ∧ Aside0 (slices_Index_string_string.l0 kq l0 a1 (l0.length : Int) x8_1 = some r) ∧ Aside0 (kq ≤ k) ∧ Drawn0 w w')
  case atStart => exact ⟨(0), (by first | rfl | (simp; done) | (simp [*]; done)), H', ⟨Nat.le_refl _⟩, by repeat (first | exact Drawn0.refl _ | apply Drawn0.step)⟩
  case round =>
    clear H'
    try clear p2
    obtain ⟨x8_1, rfl, HA, HK1, ⟨m1, rfl⟩⟩ := hrel
    cases gk with
    | zero => exact absurd HA.out (by simp [slices_Index_string_string.l0])
    | succ k1 =>
      have H := HA.out
      clear HA
      simp only [slices_Index_string_string.l0] at H
      by_cases c3 : x8_1 < (l0.length : Int)
      · rw [if_pos c3] at H
        have c3b0 : decide (x8_1 < (l0.length : Int)) = true := decide_eq_true c3
        clear c3
        by_cases c4 : 0 ≤ x8_1
        · rw [if_pos c4] at H
          have c4b0 : decide (0 ≤ x8_1) = true := decide_eq_true c4
          clear c4
          by_cases c5 : x8_1 < (l0.length : Int)
          · rw [if_pos c5] at H
            have c5b0 : decide (x8_1 < (l0.length : Int)) = true := decide_eq_true c5
            clear c5
            by_cases c6 : a1.toList = (rdOf ByteArray.empty l0 x8_1).toList
            · rw [if_pos c6] at H
              have c6b0 : (a1.toList == (rdOf ByteArray.empty l0 x8_1).toList) = true := beq_iff_eq.mpr c6
              have c6b1 : (a1.toList != (rdOf ByteArray.empty l0 x8_1).toList) = false := bne_eq_false_iff_eq.mpr c6
              clear c6
              obtain rfl := Option.some.inj H
              have p190 : 0 ≤ (x8_1 : Int) := of_decide_eq_true (by first | (with_reducible assumption) | assumption)
              have q190 : x8_1 < (l0.length : Int) := of_decide_eq_true (by first | (with_reducible assumption) | assumption)
              obtain ⟨ad190, e190, hx190_0⟩ := Kd.at_string HR0.out x8_1 p190 q190
              cases e190
              replace p190 := eq_true p190
              replace q190 := eq_true q190
              go_wp2
              go_ret
              exact ⟨by first | rfl | (simp; done) | (simp [*]; done), by repeat (first | exact Drawn0.refl _ | apply Drawn0.step)⟩
            · rw [if_neg c6] at H
              have c6b0 : (a1.toList == (rdOf ByteArray.empty l0 x8_1).toList) = false := beq_eq_false_iff_ne.mpr c6
              have c6b1 : (a1.toList != (rdOf ByteArray.empty l0 x8_1).toList) = true := bne_iff_ne.mpr c6
              have H' := Aside0.mk H
              clear H
              have p190 : 0 ≤ (x8_1 : Int) := of_decide_eq_true (by first | (with_reducible assumption) | assumption)
              have q190 : x8_1 < (l0.length : Int) := of_decide_eq_true (by first | (with_reducible assumption) | assumption)
              obtain ⟨ad190, e190, hx190_0⟩ := Kd.at_string HR0.out x8_1 p190 q190
              cases e190
              replace p190 := eq_true p190
              replace q190 := eq_true q190
              go_wp2
              go_roundg k1
              case measure => have := HK1.out; omega
              case rel => exact ⟨(wrap64 (x8_1 + 1)), (by first | rfl | (simp; done) | (simp [*]; done)), H', ⟨by have := HK1.out; omega⟩, by repeat (first | exact Drawn0.refl _ | apply Drawn0.step)⟩
          · rw [if_neg c5] at H
            exact absurd H (by simp)
        · rw [if_neg c4] at H
          exact absurd H (by simp)
      · rw [if_neg c3] at H
        have c3b0 : decide (x8_1 < (l0.length : Int)) = false := decide_eq_false c3
        clear c3
        obtain rfl := Option.some.inj H
        go_wp2
        go_ret
        exact ⟨by first | rfl | (simp; done) | (simp [*]; done), by repeat (first | exact Drawn0.refl _ | apply Drawn0.step)⟩
end Go.Proofs.YtmlcaecknocpoaaDoor.Pr
namespace Go.Proofs.YtmlcaecknocpoaaDoor.Pr
open Go.RowKit Go.Proofs.YtmlcaecknocpoaaDoorW.PrintWords Go.Proofs.YtmlcaecknocpoaaDoorW.PrintLast Go.Proofs.YtmlcaecknocpoaaDoorW.PrintMore
attribute [local go_sem] max2_int min2_int max_two min_two max_three min_three max_four min_four   
set_option linter.unusedVariables false
set_option linter.unusedSimpArgs false
def slices_Contains_string_string.f (k : Nat) (l0 : List ByteArray) (a1 : ByteArray) : Option (Bool) := (slices_Index_string_string.f k l0 a1).bind fun t191 => (some (decide (t191 ≥ 0)))
set_option maxHeartbeats 8000000 in
set_option maxRecDepth 100000 in
theorem slices_Contains_string_string.calls (k : Nat) (A0 : Option Addr) (c0 : Nat) (l0 : List ByteArray) (a1 : ByteArray) (r : Bool) (w : World) (hr0 : Kd.C Kd.string w A0 l0.length l0) (hc0 : l0.length ≤ c0) (h : slices_Contains_string_string.f k l0 a1 = some r) :
    Calls Tryd.prog 56 #[.slice A0 l0.length c0, .string a1] w fun e w' => e = .returned (.bool r) ∧ Drawn0 w w' := by
  have HR0 := Aside0.mk hr0
  have HC0 := Aside0.mk hc0
  clear hr0 hc0
  have H : ((slices_Index_string_string.f k l0 a1).bind fun t191 => (some (decide (t191 ≥ 0)))) = some r := h
  clear h
  replace H := Option.bind_eq_some_iff.mp H
  obtain ⟨t191, A30, H⟩ := H
  replace H : (some (decide (t191 ≥ 0))) = some r := H
  have A3 := Aside0.mk A30
  clear A30
  obtain rfl := Option.some.inj H
  go_enter Tryd.func56, Tryd.ntmps56
  go_wp2_with (first | ((with_reducible refine gate_callee (f := 92) rfl ?_); refine goesL_ (some 7) rfl rfl Tryd.func92 (by kernel_rfl) rfl #[.slice A0 l0.length c0, .string a1] rfl (by (try simp only [List.map_toArray, List.map_cons, List.map_nil]); first | done | rfl | (simp only [List.length_drop, List.length_take]; rfl)) ?_; (with_reducible refine (slices_Index_string_string.calls k _ _ l0 a1 t191 _ ?side1 ?side2 A3.out).mono ?_); (case side1 => repeat (first | exact HR0.out | (with_reducible refine Kd.C_alloc ?_ _) | (with_reducible refine Kd.C_drewN ?_ _) | (with_reducible refine Kd.C_drew ?_))); (case side2 => exact HC0.out); rintro e w' ⟨rfl, ⟨nd, rfl⟩⟩; refine ⟨_, rfl, ?_⟩))
  go_ret
  exact ⟨by first | rfl | (simp; done) | (simp [*]; done), by repeat (first | exact Drawn0.refl _ | apply Drawn0.step)⟩
end Go.Proofs.YtmlcaecknocpoaaDoor.Pr
namespace Go.Proofs.YtmlcaecknocpoaaDoor.It
open Go Go.RowKit Go.Shelf Go.Proofs.YtmlcaecknocpoaaDoorW.PrintWords Go.Proofs.YtmlcaecknocpoaaDoorW.PrintLast Go.Proofs.YtmlcaecknocpoaaDoor.Pr Go.Proofs.YtmlcaecknocpoaaDoor.Sp
mutual
def nb : S26 → Nat
  | ⟨_, _, _, _, bs, l⟩ => bs.length + nbs l
def nbs : List S26 → Nat
  | [] => 0
  | x :: l => nb x + nbs l
end
mutual
def nt : S26 → Nat
  | ⟨_, _, _, ts, _, l⟩ => ts.length + nts l
def nts : List S26 → Nat
  | [] => 0
  | x :: l => nt x + nts l
end
theorem addAll_length (B out a : List ByteArray) : (addAll B out a).length ≤ out.length + a.length := by
  induction a generalizing out with
  | nil => simp [addAll]
  | cons s a ih =>
    simp only [addAll]
    split
    · have := ih out; simp; omega
    · have := ih (out ++ [s]); simp at this ⊢; omega
theorem names_length (ts : List S47) : (names ts).length ≤ ts.length := by
  unfold names
  rw [List.length_map]
  exact List.length_filter_le _ _
mutual
theorem gath_length (bl out : List ByteArray) : ∀ x : S26, (gath bl out x).length ≤ out.length + nt x
  | ⟨_, _, _, ts, bs, l⟩ => by
    rw [gath, nt]
    have h1 := gaths_length (bl ++ bs.map (·.f0)) (addAll (bl ++ bs.map (·.f0)) out (names ts)) l
    have h2 := addAll_length (bl ++ bs.map (·.f0)) out (names ts)
    have h3 := names_length ts
    omega
theorem gaths_length (bl out : List ByteArray) : ∀ l : List S26, (gaths bl out l).length ≤ out.length + nts l
  | [] => by simp [gaths, nts]
  | x :: l => by
    rw [gaths, nts]
    have h1 := gaths_length bl (gath bl out x) l
    have h2 := gath_length bl out x
    omega
end
structure FS (w0 W : World) (Bm Bo Bl M n : Nat) (bl out : List ByteArray) (v : Value) : Prop where
  bm : W.heap[Bm]? = some (.cells #[.map (some M)] 68 (0, 0))
  bo : W.heap[Bo]? = some (.cells #[v] 32 (0, 0))
  bf : W.heap[Bl]? = some (.cells #[.func (.func 55) #[] #[.pointer (some ⟨Bm, 0, none⟩), .pointer (some ⟨Bo, 0, none⟩), .pointer (some ⟨Bl, 0, none⟩)]] 69 (0, 0))
  map : MapIs W M n bl
  row : Kd.R Kd.string 9 W w0.heap.size (fun _ => True) v out
  h0 : Below w0.heap.size w0 W
  gM : w0.heap.size ≤ M
  gO : w0.heap.size ≤ Bo
theorem MapIs.obj {w : World} {M n : Nat} {bl : List ByteArray} (h : MapIs w M n bl) : ∃ es c, w.heap[M]? = some (.map es c) := by
  obtain ⟨D, ⟨es, c, h, _⟩, _⟩ := h
  exact ⟨es, c, h⟩
theorem MapIs.ne {w : World} {M n : Nat} {bl : List ByteArray} (h : MapIs w M n bl) {B : Nat} {cs : Array Value} {t : TypeId} (hB : w.heap[B]? = some (.cells cs t (0, 0))) : B ≠ M := by
  rintro rfl
  obtain ⟨es, c, h⟩ := h.obj
  rw [h] at hB
  cases hB
theorem own_cells {w : World} {base : Nat} {v : Value} {out : List ByteArray} (h : Kd.R Kd.string 9 w base (fun _ => True) v out) (k : Nat) (hk : v.ownBlock = some k) : base ≤ k ∧ ∃ cs, w.heap[k]? = some (.cells cs 9 (0, 0)) := by
  obtain ⟨inner, ho⟩ := Kd.R_own h
  exact ⟨(own_lt ho k hk).2, own_typed ho k hk⟩
theorem FS.up {w0 W W1 : World} {Bm Bo Bl M n : Nat} {bl out : List ByteArray} {v : Value} (h : FS w0 W Bm Bo Bl M n bl out v) (g : Below W.heap.size W W1) : FS w0 W1 Bm Bo Bl M n bl out v := by
  have hg : W.grownBy W1 none := ⟨g.os, g.tape, g.output, g.size, fun k hk _ => g.block k hk⟩
  exact ⟨blk_below g h.bm, blk_below g h.bo, blk_below g h.bf, h.map.kept hg (by simp), Kd.R_below h.row g, h.h0.trans (g.mono h.h0.size), h.gM, h.gO⟩
theorem FS.mapped {w0 W W1 : World} {Bm Bo Bl M n n' : Nat} {bl bl' out : List ByteArray} {v : Value} (h : FS w0 W Bm Bo Bl M n bl out v) (g : W.grownBy W1 (some M)) (hm : MapIs W1 M n' bl') : FS w0 W1 Bm Bo Bl M n' bl' out v := by
  have keep : ∀ {B : Nat} {cs : Array Value} {t : TypeId}, W.heap[B]? = some (.cells cs t (0, 0)) → W1.heap[B]? = some (.cells cs t (0, 0)) := fun {B cs t} hB =>
    (g.block B (Array.getElem?_eq_some_iff.1 hB).1 (fun e => h.map.ne hB (by injection e))).trans hB
  refine ⟨keep h.bm, keep h.bo, keep h.bf, hm, ?_, ?_, h.gM, h.gO⟩
  · obtain ⟨es, c, hM⟩ := h.map.obj
    refine Kd.R_mono (Kd.R_grown (Kd.R_bound h.row) g (fun k hk e => ?_)) (fun _ _ => trivial)
    obtain ⟨_, _, _, q, _, cells, hc⟩ := hk
    have : k = M := by injection e
    subst this
    rw [hM] at hc
    cases hc
  · refine ⟨g.os.trans h.h0.os, g.tape.trans h.h0.tape, g.output.trans h.h0.output, Nat.le_trans h.h0.size g.size, fun k hk => (g.block k (Nat.lt_of_lt_of_le hk h.h0.size) (fun e => ?_)).trans (h.h0.block k hk)⟩
    have : k = M := by injection e
    have := h.gM
    omega
theorem MapIs.setCell {w : World} {M n : Nat} {bl : List ByteArray} (h : MapIs w M n bl) {a : Addr} (ha : M ≠ a.block) (u : Value) : MapIs (w.setCell a u) M n bl := by
  obtain ⟨D, ho, hD⟩ := h
  exact ⟨D, ho.setCell ha u, hD⟩
theorem FS.gathered {w0 W W1 : World} {Bm Bo Bl M n : Nat} {bl out out' : List ByteArray} {v v1 : Value} (h : FS w0 W Bm Bo Bl M n bl out v) (ho : Kd.R Kd.string 9 W1 w0.heap.size (fun _ => True) v1 out') (hb : Below w0.heap.size W W1) (hg : W.grownBy W1 v.ownBlock) :
    FS w0 (W1.setCell ⟨Bo, 0, none⟩ v1) Bm Bo Bl M n bl out' v1 := by
  have keep : ∀ {B : Nat} {cs : Array Value} {t : TypeId}, 9 ≠ t → W.heap[B]? = some (.cells cs t (0, 0)) → W1.heap[B]? = some (.cells cs t (0, 0)) := fun {B cs t} ht hB =>
    (hg.block B (Array.getElem?_eq_some_iff.1 hB).1 (Kd.R_ne h.row hB ht)).trans hB
  have hM : some M ≠ v.ownBlock := fun e => by
    obtain ⟨es, c, hM⟩ := h.map.obj
    obtain ⟨_, cs, hc⟩ := own_cells h.row M e.symm
    rw [hM] at hc
    cases hc
  have bm := keep (by decide) h.bm
  have bo := keep (by decide) h.bo
  have bf := keep (by decide) h.bf
  have far : ∀ {B : Nat} {cs : Array Value} {t : TypeId}, t ≠ 32 → W1.heap[B]? = some (.cells cs t (0, 0)) → (W1.setCell ⟨Bo, 0, none⟩ v1).heap[B]? = some (.cells cs t (0, 0)) := fun {B cs t} ht hB =>
    (Below.heap_setCell _ _ _ _ (blk_ne hB bo ht)).trans hB
  exact ⟨far (by decide) bm, (set_one bo 0 v1).trans rfl, far (by decide) bf, (h.map.kept hg hM).setCell (h.map.ne h.bo).symm v1, Kd.R_set ho bo (by decide) 0 v1, (h.h0.trans hb).setCell h.gO v1, h.gM, h.gO⟩
end Go.Proofs.YtmlcaecknocpoaaDoor.It
namespace Go.Proofs.YtmlcaecknocpoaaDoor.It
open Go Go.RowKit Go.Shelf Go.Proofs.YtmlcaecknocpoaaDoorW.PrintWords Go.Proofs.YtmlcaecknocpoaaDoorW.PrintLast Go.Proofs.YtmlcaecknocpoaaDoor.Pr Go.Proofs.YtmlcaecknocpoaaDoor.Sp
theorem rdS (l : List ByteArray) (j : Nat) : rdOf ByteArray.empty l (j : Int) = l.getD j ByteArray.empty := by simp [rdOf]
theorem contains_ev (l : List ByteArray) (s : ByteArray) (hl : l.length ≤ 9223372036854775807) : Ev (fun k => slices_Contains_string_string.f k l s) (among l s) := by
  have loop : ∀ d j : Nat, j + d = l.length → ∃ r : Int, Ev (fun k => slices_Index_string_string.l0 k l s (l.length : Int) (j : Int)) r ∧ decide (r ≥ 0) = among (l.drop j) s := by
    intro d
    induction d with
    | zero =>
      intro j hj
      refine ⟨-1, Ev.step (f := fun _ => some (-1)) (fun k => ?_) (Ev.now _), ?_⟩
      · simp only [slices_Index_string_string.l0]
        rw [if_neg (by omega)]
      · rw [List.drop_of_length_le (by omega)]
        rfl
    | succ d ih =>
      intro j hj
      by_cases e : s = l.getD j ByteArray.empty
      · refine ⟨(j : Int), Ev.step (f := fun _ => some (j : Int)) (fun k => ?_) (Ev.now _), ?_⟩
        · simp only [slices_Index_string_string.l0]
          rw [if_pos (by omega), if_pos (by omega), if_pos (by omega), if_pos (by rw [rdS, ← e])]
        · rw [drop_cons l ByteArray.empty j (by omega), ← e]
          simp [among]
      · obtain ⟨r, hr, hd⟩ := ih (j + 1) (by omega)
        refine ⟨r, Ev.step (f := fun k => slices_Index_string_string.l0 k l s (l.length : Int) ((j + 1 : Nat) : Int)) (fun k => ?_) hr, ?_⟩
        · simp only [slices_Index_string_string.l0]
          rw [if_pos (by omega), if_pos (by omega), if_pos (by omega), if_neg (by rw [rdS, toList_inj]; exact e), wrap_up j (by omega)]
        · rw [hd, drop_cons l ByteArray.empty j (by omega)]
          have e' : ¬ l.getD j ByteArray.empty = s := fun h => e h.symm
          simp only [among, List.any_cons, decide_eq_false e', Bool.false_or]
  obtain ⟨r, hr, hd⟩ := loop l.length 0 (by omega)
  refine Ev.bind (f := fun _ t => some (decide (t ≥ 0))) (a := r) hr ?_
  rw [show among l s = decide (r ≥ 0) by rw [hd]; rfl]
  exact Ev.now _
theorem contains_calls (l : List ByteArray) (s : ByteArray) (A : Option Addr) (c : Nat) (w : World) (hr : Kd.C Kd.string w A l.length l) (hc : l.length ≤ c) :
    Calls Tryd.prog 56 #[.slice A l.length c, .string s] w fun e w' => e = .returned (.bool (among l s)) ∧ Below w.heap.size w w' := by
  obtain ⟨k, hk⟩ := (contains_ev l s hr.2.1).rounds
  exact (slices_Contains_string_string.calls k _ _ _ _ _ _ hr hc hk).mono fun e w' h => ⟨h.1, h.2.below⟩
end Go.Proofs.YtmlcaecknocpoaaDoor.It
namespace Go.Proofs.YtmlcaecknocpoaaDoor.It
open Go Go.RowKit Go.Shelf Go.Proofs.YtmlcaecknocpoaaDoorW.PrintWords Go.Proofs.YtmlcaecknocpoaaDoorW.PrintLast Go.Proofs.YtmlcaecknocpoaaDoor.Pr Go.Proofs.YtmlcaecknocpoaaDoor.Sp
def Kept26 (W w : World) : Prop := ∀ (B : Nat) (cs : Array Value), W.heap[B]? = some (.cells cs 26 (0, 0)) → w.heap[B]? = some (.cells cs 26 (0, 0))
theorem Kept26.refl (W : World) : Kept26 W W := fun _ _ h => h
theorem Kept26.below {W w w1 : World} (h : Kept26 W w) (g : Below w.heap.size w w1) : Kept26 W w1 := fun B cs hB => blk_below g (h B cs hB)
theorem Kept26.trans {W w w1 : World} (h : Kept26 W w) (g : Kept26 w w1) : Kept26 W w1 := fun B cs hB => g B cs (h B cs hB)
theorem Kept26.map {W w w1 : World} {M n : Nat} {bl : List ByteArray} (h : Kept26 W w) (hm : MapIs w M n bl) (g : w.grownBy w1 (some M)) : Kept26 W w1 := fun B cs hB =>
  (g.block B (Array.getElem?_eq_some_iff.1 (h B cs hB)).1 (fun e => hm.ne (h B cs hB) (by injection e))).trans (h B cs hB)
theorem Kept26.app {W w w1 : World} {base Bo : Nat} {ok : Nat → Prop} {out : List ByteArray} {v v0 v1 : Value} (h : Kept26 W w) (row : Kd.R Kd.string 9 w base ok v out) (bo : w1.heap[Bo]? = some (.cells #[v0] 32 (0, 0))) (g : w.grownBy w1 v.ownBlock) : Kept26 W (w1.setCell ⟨Bo, 0, none⟩ v1) := fun B cs hB => by
  have h1 : w1.heap[B]? = some (.cells cs 26 (0, 0)) := (g.block B (Array.getElem?_eq_some_iff.1 (h B cs hB)).1 (Kd.R_ne row (h B cs hB) (by decide))).trans (h B cs hB)
  exact (Below.heap_setCell _ _ _ _ (blk_ne h1 bo (by decide))).trans h1
def BoxAt (W w : World) (k : Int) (nm : ByteArray) (nn : Int) (ts : List S47) (bs : List S42) (l : List S26) (A3 : Option Addr) (c3 : Nat) (A4 : Option Addr) (c4 : Nat) (A5 : Option Addr) (c5 : Nat) : Prop :=
  Kept26 (W.alloc (.cells #[.int .i64 k, .string nm, .int .i64 nn, .slice A3 ts.length c3, .slice A4 bs.length c4, .slice A5 l.length c5] 26)) w
theorem BoxAt.box {W w : World} {k : Int} {nm : ByteArray} {nn : Int} {ts : List S47} {bs : List S42} {l : List S26} {A3 : Option Addr} {c3 : Nat} {A4 : Option Addr} {c4 : Nat} {A5 : Option Addr} {c5 : Nat} (h : BoxAt W w k nm nn ts bs l A3 c3 A4 c4 A5 c5) :
    w.heap[W.heap.size]? = some (.cells #[.int .i64 k, .string nm, .int .i64 nn, .slice A3 ts.length c3, .slice A4 bs.length c4, .slice A5 l.length c5] 26 (0, 0)) := h _ _ (heap_new W _)
theorem BoxAt.kept {W w : World} {k : Int} {nm : ByteArray} {nn : Int} {ts : List S47} {bs : List S42} {l : List S26} {A3 : Option Addr} {c3 : Nat} {A4 : Option Addr} {c4 : Nat} {A5 : Option Addr} {c5 : Nat} (h : BoxAt W w k nm nn ts bs l A3 c3 A4 c4 A5 c5) : Kept26 W w :=
  ((Kept26.refl W).below ((Below.refl _ W).alloc (Nat.le_refl _) _)).trans h
theorem take_names (bl : List ByteArray) (bs : List S42) (j : Nat) (hj : j < bs.length) : bl ++ (bs.take (j + 1)).map (·.f0) = (bl ++ (bs.take j).map (·.f0)) ++ [(rd_T42 bs j).f0] := by
  rw [List.take_succ_eq_append_getElem hj, List.map_append, ← List.append_assoc]
  simp [rd_T42, List.getD, hj]
theorem i64_nat (n : Nat) (h : n ≤ 4000000) : I64 (n : Nat) := by
  have h1 : IntKind.i64.min = -9223372036854775808 := rfl
  have h2 : IntKind.i64.max = 9223372036854775807 := rfl
  unfold I64 Lit.wf
  simp [h1, h2]
  omega
theorem FS.bind_up {w0 W : World} {Bm Bo Bl M n : Nat} {bl out : List ByteArray} {v : Value} (h : FS w0 W Bm Bo Bl M n bl out v) (hn : n ≤ 2000000) (hbl : bl.length ≤ 2000000) (s : ByteArray) (hs : s.size ≤ maxLen) :
    (Instr.lookup 68 (.map (some M)) (.string s) false).run Tryd.prog W = .ok (.int .i64 (cnt bl s)) W ∧
    ∃ w1, (Instr.mapUpdate 68 (.map (some M)) (.string s) (.int .i64 ((cnt bl s : Int) + 1))).run Tryd.prog W = .ok () w1 ∧ W.grownBy w1 (some M) ∧ FS w0 w1 Bm Bo Bl M (n + 1) (bl ++ [s]) out v := by
  have hc : cnt (bl ++ [s]) s = cnt bl s + 1 := by rw [cnt_append, cnt_one]
  have hle := cnt_le bl s
  obtain ⟨w1, hrun, hm, hg⟩ := h.map.put (bl' := bl ++ [s]) (by simp [maxLen]; omega) s hs (i64_nat _ (by rw [hc]; omega)) (fun s' he => by rw [cnt_append, cnt_other he]; rfl)
  refine ⟨h.map.look s hs, w1, ?_, hg, h.mapped hg hm⟩
  rw [hc] at hrun
  simpa using hrun
theorem FS.bind_down {w0 W : World} {Bm Bo Bl M n : Nat} {bl bl' out : List ByteArray} {v : Value} (h : FS w0 W Bm Bo Bl M n bl out v) (hn : n ≤ 4000000) (hbl : bl'.length ≤ 2000000) (s : ByteArray) (hs : s.size ≤ maxLen) (hc : cnt bl s = cnt bl' s + 1 ∧ ∀ s', s' ≠ s → cnt bl' s' = cnt bl s') :
    (Instr.lookup 68 (.map (some M)) (.string s) false).run Tryd.prog W = .ok (.int .i64 ((cnt bl' s : Int) + 1)) W ∧
    ∃ w1, (Instr.mapUpdate 68 (.map (some M)) (.string s) (.int .i64 (cnt bl' s : Int))).run Tryd.prog W = .ok () w1 ∧ W.grownBy w1 (some M) ∧ FS w0 w1 Bm Bo Bl M (n + 1) bl' out v := by
  have hle := cnt_le bl' s
  obtain ⟨w1, hrun, hm, hg⟩ := h.map.put (bl' := bl') (by simp [maxLen]; omega) s hs (i64_nat _ (by omega)) hc.2
  have hl := h.map.look s hs
  rw [hc.1] at hl
  exact ⟨by simpa using hl, w1, hrun, hg, h.mapped hg hm⟩
theorem drop_names (bl : List ByteArray) (bs : List S42) (j : Nat) (hj : j < bs.length) : (cnt (bl ++ (bs.drop j).map (·.f0)) (rd_T42 bs j).f0 = cnt (bl ++ (bs.drop (j + 1)).map (·.f0)) (rd_T42 bs j).f0 + 1) ∧ ∀ s', s' ≠ (rd_T42 bs j).f0 → cnt (bl ++ (bs.drop (j + 1)).map (·.f0)) s' = cnt (bl ++ (bs.drop j).map (·.f0)) s' := by
  have e : bs.drop j = rd_T42 bs j :: bs.drop (j + 1) := by
    rw [List.drop_eq_getElem_cons hj]
    simp [rd_T42, List.getD, hj]
  rw [e, List.map_cons]
  have c : ∀ (a : ByteArray) (l : List ByteArray) (s : ByteArray), cnt (a :: l) s = cnt [a] s + cnt l s := fun a l s => cnt_append [a] l s
  refine ⟨?_, fun s' hs' => ?_⟩
  · rw [cnt_append, cnt_append, c, cnt_one]; omega
  · rw [cnt_append, cnt_append, c, cnt_other hs']; omega
theorem names_take (ts : List S47) (j : Nat) (hj : j < ts.length) : names (ts.take (j + 1)) = names (ts.take j) ++ (if (rd_T47 ts j).f0 = 1 then [] else [(rd_T47 ts j).f1]) := by
  rw [List.take_succ_eq_append_getElem hj]
  have e : ts[j] = rd_T47 ts j := by simp [rd_T47, List.getD, hj]
  rw [e]
  unfold names
  rw [List.filter_append, List.map_append]
  congr 1
  by_cases h : (rd_T47 ts j).f0 = 1 <;> simp [h]
theorem gaths_take (BL out : List ByteArray) (l : List S26) (j : Nat) (hj : j < l.length) : gaths BL out (l.take (j + 1)) = gath BL (gaths BL out (l.take j)) (rd_T26 l j) := by
  induction l generalizing j out with
  | nil => simp at hj
  | cons x l ih =>
    cases j with
    | zero => simp [gaths, rd_T26]
    | succ j =>
      have e : rd_T26 (x :: l) ((j + 1 : Nat) : Int) = rd_T26 l j := by simp [rd_T26]
      rw [e]
      simp only [List.take_succ_cons, gaths]
      exact ih _ j (by simpa using hj)
theorem nbs_take (l : List S26) (j : Nat) (hj : j < l.length) : nbs (l.take (j + 1)) = nbs (l.take j) + nb (rd_T26 l j) ∧ nbs (l.take (j + 1)) ≤ nbs l := by
  induction l generalizing j with
  | nil => simp at hj
  | cons x l ih =>
    cases j with
    | zero => simp [nbs, rd_T26]
    | succ j =>
      have e : rd_T26 (x :: l) ((j + 1 : Nat) : Int) = rd_T26 l j := by simp [rd_T26]
      have := ih j (by simpa using hj)
      rw [e]
      simp only [List.take_succ_cons, nbs]
      omega
theorem nts_take (l : List S26) (j : Nat) (hj : j < l.length) : nts (l.take (j + 1)) = nts (l.take j) + nt (rd_T26 l j) ∧ nts (l.take (j + 1)) ≤ nts l := by
  induction l generalizing j with
  | nil => simp at hj
  | cons x l ih =>
    cases j with
    | zero => simp [nts, rd_T26]
    | succ j =>
      have e : rd_T26 (x :: l) ((j + 1 : Nat) : Int) = rd_T26 l j := by simp [rd_T26]
      have := ih j (by simpa using hj)
      rw [e]
      simp only [List.take_succ_cons, nts]
      omega
theorem enters55 : ∀ args w, (callFunc 55 args).run Tryd.prog w = .ok (.enter 55 args) w := enters_of Tryd.func55 (by kernel_rfl) rfl
theorem snoc_len (O : List ByteArray) (s : ByteArray) : (O ++ [s]).length = O.length + 1 := by simp
def FreeOk (s : Nat) : Prop := ∀ (x : S26) (A3 : Option Addr) (c3 : Nat) (A4 : Option Addr) (c4 : Nat) (A5 : Option Addr) (c5 : Nat) (w0 W : World) (Bm Bo Bl M n : Nat) (bl out : List ByteArray) (v : Value),
  size x ≤ s → At w0 x A3 c3 A4 c4 A5 c5 → Deep x → FS w0 W Bm Bo Bl M n bl out v → n + 2 * nb x ≤ 1000000 → bl.length + nb x ≤ 1000000 → out.length + nt x ≤ 1000000 →
  Calls Tryd.prog 55 #[.agg #[.int .i64 x.f0, .string x.f1, .int .i64 x.f2, .slice A3 x.f3.length c3, .slice A4 x.f4.length c4, .slice A5 x.f5.length c5], .pointer (some ⟨Bm, 0, none⟩), .pointer (some ⟨Bo, 0, none⟩), .pointer (some ⟨Bl, 0, none⟩)] W fun e W' =>
    (∃ r, e = .returned r) ∧ Kept26 W W' ∧ ∃ v' n', n' ≤ n + 2 * nb x ∧ FS w0 W' Bm Bo Bl M n' bl (gath bl out x) v'
set_option maxRecDepth 100000 in
set_option maxHeartbeats 8000000 in
theorem free_step (s : Nat) (hS : FreeOk s) : FreeOk (s + 1) := by
  rintro ⟨k, nm, nn, ts, bs, l⟩ A3 c3 A4 c4 A5 c5 w0 W Bm Bo Bl M n bl out v hs hat hdp hF hn hbl hout
  have hu26 := Tryd.underlying26
  have hu42 := Tryd.underlying42
  have hu47 := Tryd.underlying47
  have hl4 : bs.length ≤ 1000000 := by simp only [nb] at hbl; omega
  have hl3 : ts.length ≤ 1000000 := by simp only [nt] at hout; omega
  have hl5 : l.length ≤ 9223372036854775807 := hat.g5.2.1
  have H := Aside0.mk (And.intro hS (And.intro hs (And.intro hat (And.intro hdp (And.intro hF (And.intro hn (And.intro hbl hout)))))))
  clear hS hs hat hdp hF hn hbl hout
  go_enter Tryd.func55, Tryd.ntmps55
  go_wp2_with fail
  have F1 := Aside0.mk (And.intro (H.out.2.2.2.2.1.up ((Below.refl W.heap.size W).alloc (Nat.le_refl _) (.cells #[.int .i64 k, .string nm, .int .i64 nn, .slice A3 ts.length c3, .slice A4 bs.length c4, .slice A5 l.length c5] 26))) (Kept26.refl _ : BoxAt W _ k nm nn ts bs l A3 c3 A4 c4 A5 c5))
  go_loopg [6, 16] bs.length (fun gg _ s16 wr => ∃ j : Nat, j ≤ bs.length ∧ bs.length - j ≤ gg ∧ s16 = .int .i64 j ∧ Aside0 (FS w0 wr Bm Bo Bl M (n + j) (bl ++ (bs.take j).map (·.f0)) out v ∧ BoxAt W wr k nm nn ts bs l A3 c3 A4 c4 A5 c5))
  case atStart => exact ⟨0, Nat.zero_le _, by omega, rfl, ⟨by simpa using F1.out.1, F1.out.2⟩⟩
  case round =>
    obtain ⟨j, hj, hg, rfl, HJ⟩ := hrel
    by_cases hlt : j < bs.length
    · have hltz : (j : Int) < (bs.length : Int) := by omega
      obtain ⟨ad, rfl, x0, x1⟩ := bindAt H.out.2.2.1.g4 HJ.out.1.h0 j hlt
      obtain ⟨b, hb⟩ : ∃ b, rd_T42 bs j = b := ⟨_, rfl⟩
      rw [hb] at x0 x1
      have up := (Below.refl wr.heap.size wr).alloc (Nat.le_refl _) (.cells #[.string b.f0, .int .i64 b.f1] 42)
      have FU := HJ.out.1.up up
      have hbm := (blk_cell FU.bm 0).trans rfl
      have hsz : b.f0.size ≤ maxLen := by rw [← hb]; exact H.out.2.2.2.1.self.bs _ (rd42_mem bs j hlt)
      have hq := H.out
      simp only [nb] at hq
      obtain ⟨hlook, w1, hput, hg1, FN⟩ := FU.bind_up (by omega) (by simp; omega) b.f0 hsz
      obtain ⟨q, hcq⟩ : ∃ q, cnt (bl ++ (bs.take j).map (·.f0)) b.f0 = q := ⟨_, rfl⟩
      have hqle : q ≤ 2000000 := by rw [← hcq]; exact Nat.le_trans (cnt_le _ _) (by simp; omega)
      rw [hcq] at hlook hput
      clear hcq
      have FN' := Aside0.mk FN
      have hg1' := Aside0.mk hg1
      have hbx := Aside0.mk (show BoxAt W w1 k nm nn ts bs l A3 c3 (some ad) c4 A5 c5 from (HJ.out.2.below up).map FU.map hg1)
      replace hb := Aside0.mk hb
      clear hq FN hg1 FU up hsz
      go_wp2_with fail
      go_roundg (bs.length - (j + 1))
      case measure => omega
      case rel => exact ⟨j + 1, by omega, by omega, by go_num, ⟨by rw [take_names bl bs j hlt, hb.out]; exact FN'.out, hbx.out⟩⟩
    · have hltz : ¬ (j : Int) < (bs.length : Int) := by omega
      have he : j = bs.length := by omega
      have HE := Aside0.mk he
      clear he hj
      obtain ⟨q0, q1, q2, q3, q4, q5⟩ := six HJ.out.2.box
      go_wp2_with fail
      have HL := Aside0.mk (And.intro HJ.out.1 HE.out)
      obtain ⟨BL, hBL⟩ : ∃ BL, bl ++ bs.map (·.f0) = BL := ⟨_, rfl⟩
      obtain ⟨n1, hn1⟩ : ∃ n1, n + bs.length = n1 := ⟨_, rfl⟩
      have F2 : FS w0 wr Bm Bo Bl M n1 BL out v := by
        have h := HL.out.1
        rw [HL.out.2, List.take_length, hBL, hn1] at h
        exact h
      have F2' := Aside0.mk (And.intro F2 HJ.out.2)
      replace hBL := Aside0.mk hBL
      replace hn1 := Aside0.mk hn1
      clear HL HE F2
      rename_i wr1
      go_loopg [8, 29] ts.length (fun gg _ s29 wr => ∃ j : Nat, j ≤ ts.length ∧ ts.length - j ≤ gg ∧ s29 = .int .i64 j ∧ Aside0 ((∃ v', FS w0 wr Bm Bo Bl M n1 BL (addAll BL out (names (ts.take j))) v') ∧ BoxAt W wr k nm nn ts bs l A3 c3 A4 c4 A5 c5))
      case atStart => exact ⟨0, Nat.zero_le _, by omega, rfl, ⟨⟨v, by simpa [names, addAll] using F2'.out.1⟩, F2'.out.2⟩⟩
      case round =>
        obtain ⟨j, hj, hg, rfl, HJ⟩ := hrel
        obtain ⟨⟨v', FJ⟩, HB⟩ := HJ.out
        by_cases hlt : j < ts.length
        · have hltz : (j : Int) < (ts.length : Int) := by omega
          obtain ⟨ad, rfl, x0, x1, x2⟩ := termAt H.out.2.2.1.g3 FJ.h0 j hlt
          have hnt := names_take ts j hlt
          obtain ⟨t, ht⟩ : ∃ t, rd_T47 ts j = t := ⟨_, rfl⟩
          rw [ht] at x0 x1 x2 hnt
          replace hnt := Aside0.mk hnt
          by_cases h1 : t.f0 = 1
          · have FJ' := Aside0.mk FJ
            have HB' := Aside0.mk HB
            have hup := Aside0.mk ((Below.refl wr.heap.size wr).alloc (Nat.le_refl _) (.cells #[.int .i64 t.f0, .string t.f1, .int .i64 t.f2] 47))
            clear FJ HB HJ
            go_wp2_with fail
            go_roundg (ts.length - (j + 1))
            case measure => omega
            case rel => exact ⟨j + 1, by omega, by omega, by go_num, ⟨⟨v', by rw [hnt.out, if_pos h1, List.append_nil]; rw [h1] at hup; exact FJ'.out.up hup.out⟩, by rw [h1] at hup; exact HB'.out.below hup.out⟩⟩
          · have up := (Below.refl wr.heap.size wr).alloc (Nat.le_refl _) (.cells #[.int .i64 t.f0, .string t.f1, .int .i64 t.f2] 47)
            have FU := FJ.up up
            have hbm := (blk_cell FU.bm 0).trans rfl
            have hbo := (blk_cell FU.bo 0).trans rfl
            have hsz : t.f1.size ≤ maxLen := by rw [← ht]; exact H.out.2.2.2.1.self.ts _ (rd47_mem ts j hlt)
            have hlook := FU.map.look t.f1 hsz
            have hz := Aside0.mk (cnt_zero BL t.f1)
            obtain ⟨A', c', rfl⟩ := Kd.R_slice FU.row
            have hCt := Aside0.mk (contains_calls (addAll BL out (names (ts.take j))) t.f1 A' c' _ (Kd.R_reads' FU.row).2.2 (Kd.R_reads' FU.row).2.1)
            have hadd : Aside0 (addAll BL out (names (ts.take (j + 1))) = if among BL t.f1 || among (addAll BL out (names (ts.take j))) t.f1 then addAll BL out (names (ts.take j)) else addAll BL out (names (ts.take j)) ++ [t.f1]) := ⟨by rw [hnt.out, if_neg h1, addAll_append]; rfl⟩
            obtain ⟨q, hq⟩ : ∃ q, cnt BL t.f1 = q := ⟨_, rfl⟩
            rw [hq] at hlook hz
            have hOl : Aside0 (((addAll BL out (names (ts.take j))).length + 1) * 16 ≤ 140737488355328) := ⟨by
              have h1 := addAll_length BL out (names (ts.take j))
              have h2 := names_length (ts.take j)
              have h3 : (ts.take j).length ≤ ts.length := by simp; omega
              have h4 := H.out.2.2.2.2.2.2.2
              simp only [nt] at h4
              omega⟩
            obtain ⟨O, hO⟩ : ∃ O, addAll BL out (names (ts.take j)) = O := ⟨_, rfl⟩
            rw [hO] at hadd hCt FU hbo FJ hOl
            have FU' := Aside0.mk FU
            have HB' := Aside0.mk (HB.below up)
            replace up := Aside0.mk up
            clear FU FJ HB HJ hO hq hsz hnt
            by_cases hq0 : q = 0
            · subst hq0
              have hbf : among BL t.f1 = false := hz.out.1 rfl
              replace hbf := Aside0.mk hbf
              have hb47 := Aside0.mk (heap_new wr (.cells #[.int .i64 t.f0, .string t.f1, .int .i64 t.f2] 47))
              cases hO : among O t.f1 with
              | true =>
                rw [hO] at hCt
                replace hO := Aside0.mk hO
                go_wp2_with (go_at_call 56; with_reducible refine hCt.out.mono ?_; rintro e w5 ⟨rfl, g5⟩)
                go_roundg (ts.length - (j + 1))
                case measure => omega
                case rel => exact ⟨j + 1, by omega, by omega, by go_num, ⟨⟨_, by rw [hadd.out, if_pos (by rw [hO.out, Bool.or_true])]; exact FU'.out.up g5⟩, HB'.out.below g5⟩⟩
              | false =>
                rw [hO] at hCt
                replace hO := Aside0.mk hO
                go_wp2_with (first
                  | (go_at_call 56; with_reducible refine hCt.out.mono ?_; rintro e w5 ⟨rfl, g5⟩; have F5 := Aside0.mk (FU'.out.up g5); have B5 := Aside0.mk (HB'.out.below g5); have z5 := blk_below g5 hb47.out; have o1 : w5.cell? ⟨wr.heap.size, 1, none⟩ = some (.string t.f1) := (blk_cell z5 1).trans rfl; have o2 := (blk_cell F5.out.bo 0).trans rfl; replace z5 := Aside0.mk z5; have sz5 : Bo < w5.heap.size := (Array.getElem?_eq_some_iff.1 F5.out.bo).1; have sz6 : wr.heap.size < w5.heap.size := (Array.getElem?_eq_some_iff.1 z5.out).1)
                  | ((with_reducible refine gate_builtin (b := .append) (xs := #[.tmp 50, .tmp 53]) rfl ?_); at_builtin; refine Kd.R_append Kd.string (w0 := w5) w0.heap.size rfl (.tmp 50) (.tmp 53) 32 9 (.string ⟨#[]⟩) 16 rfl Tryd.underlying32 info9 rfl (by decide) (by omega) (.slice A' O.length c') O t.f1 [.string t.f1] (fun _ => True) (fun _ => False) rfl rfl ?hp (fun _ h => h.elim) (fun _ _ => trivial) ?HO (Below.refl _ _) ?hbase ?hl ?_; (case hp => rfl); (case HO => exact F5.out.row); (case hbase => exact F5.out.h0.size); (case hl => exact hOl.out); intro v1 w6 ho6 hb6 hg6 hat6; obtain ⟨A6, c6, rfl⟩ := Kd.R_slice ho6; have e6 := snoc_len O t.f1; rw [e6] at ho6; clear e6; replace ho6 := Aside0.mk ho6; replace hb6 := Aside0.mk hb6; have bo6 := (hg6.block Bo sz5 (Kd.R_ne F5.out.row F5.out.bo (by decide))).trans F5.out.bo; have o6 := (blk_cell bo6 0).trans rfl; have f6 := blk_frozen bo6; have bx6 := Aside0.mk (fun v1 => B5.out.app (v1 := v1) F5.out.row bo6 hg6); replace hg6 := Aside0.mk hg6; replace bo6 := Aside0.mk bo6; clear hat6))
                go_roundg (ts.length - (j + 1))
                case measure => omega
                case rel =>
                  refine ⟨j + 1, by omega, by omega, by go_num, ⟨⟨_, by rw [hadd.out, if_neg (by rw [hbf.out, hO.out]; simp)]; exact F5.out.gathered ho6.out hb6.out hg6.out⟩, bx6.out _⟩⟩
            · have hbt : among BL t.f1 = true := by
                cases h : among BL t.f1 with
                | true => rfl
                | false => exact absurd (hz.out.2 h) hq0
              replace hbt := Aside0.mk hbt
              go_wp2_with fail
              go_roundg (ts.length - (j + 1))
              case measure => omega
              case rel => exact ⟨j + 1, by omega, by omega, by go_num, ⟨⟨_, by rw [hadd.out, if_pos (by rw [hbt.out]; rfl)]; exact FU'.out⟩, HB'.out⟩⟩
        · have hltz : ¬ (j : Int) < (ts.length : Int) := by omega
          have he : j = ts.length := by omega
          have HE := Aside0.mk he
          clear he hj
          obtain ⟨O2, hO2⟩ : ∃ O2, addAll BL out (names ts) = O2 := ⟨_, rfl⟩
          have F3 : FS w0 wr Bm Bo Bl M n1 BL O2 v' := by
            have h := FJ
            rw [HE.out, List.take_length, hO2] at h
            exact h
          have F3' := Aside0.mk (And.intro F3 HB)
          have hO2l : O2.length + nts l ≤ 1000000 := by
            have h1 := addAll_length BL out (names ts)
            have h2 := names_length ts
            have h4 := H.out.2.2.2.2.2.2.2
            simp only [nt] at h4
            rw [hO2] at h1
            omega
          have HN := Aside0.mk (show n1 + 2 * nbs l ≤ 1000000 ∧ BL.length + nbs l ≤ 1000000 ∧ O2.length + nts l ≤ 1000000 from by
            have h1 := H.out.2.2.2.2.2.1
            have h2 := H.out.2.2.2.2.2.2.1
            simp only [nb] at h1 h2
            have h3 := hn1.out
            have h5 : BL.length = bl.length + bs.length := by rw [← hBL.out]; simp
            omega)
          replace hO2 := Aside0.mk hO2
          obtain ⟨q0, q1, q2, q3, q4, q5⟩ := six HB.box
          clear FJ HJ F3 HE hO2l
          go_wp2_with fail
          go_loopg [10, 59] l.length (fun gg _ s59 wr => ∃ j : Nat, j ≤ l.length ∧ l.length - j ≤ gg ∧ s59 = .int .i64 j ∧ Aside0 ((∃ v' n', n' ≤ n1 + 2 * nbs (l.take j) ∧ FS w0 wr Bm Bo Bl M n' BL (gaths BL O2 (l.take j)) v') ∧ BoxAt W wr k nm nn ts bs l A3 c3 A4 c4 A5 c5))
          case atStart => exact ⟨0, Nat.zero_le _, by omega, rfl, ⟨⟨v', n1, by simp [nbs], by simpa [gaths] using F3'.out.1⟩, F3'.out.2⟩⟩
          case round =>
            obtain ⟨j, hj, hg, rfl, HJ⟩ := hrel
            obtain ⟨⟨v2, n2, hn2, FJ⟩, HB3⟩ := HJ.out
            by_cases hlt : j < l.length
            · have hltz : (j : Int) < (l.length : Int) := by omega
              obtain ⟨ad, B3, d3, B4, d4, B5, d5, rfl, hatj, x0, x1, x2, x3, x4, x5⟩ := formAt H.out.2.2.1.g5 FJ.h0 j hlt
              obtain ⟨y, hy⟩ : ∃ y, rd_T26 l j = y := ⟨_, rfl⟩
              rw [hy] at hatj x0 x1 x2 x3 x4 x5
              have up := (Below.refl wr.heap.size wr).alloc (Nat.le_refl _) (.cells #[.int .i64 y.f0, .string y.f1, .int .i64 y.f2, .slice B3 y.f3.length d3, .slice B4 y.f4.length d4, .slice B5 y.f5.length d5] 26)
              have FU := FJ.up up
              have hbf := (blk_cell FU.bf 0).trans rfl
              have hgt := Aside0.mk (gaths_take BL O2 l j hlt)
              have hnb := nbs_take l j hlt
              have hnt := nts_take l j hlt
              have hgl := gaths_length BL O2 (l.take j)
              rw [hy] at hgt hnb hnt
              have hN := HN.out
              have hcall := Aside0.mk (H.out.1 y B3 d3 B4 d4 B5 d5 w0 _ Bm Bo Bl M n2 BL (gaths BL O2 (l.take j)) v2 (by have := H.out.2.1; have h2 := sizes_take l j hlt; rw [hy] at h2; simp only [size] at this; omega) hatj (by rw [← hy]; exact H.out.2.2.2.1.child j hlt) FU (by omega) (by omega) (by omega))
              have HB4 := Aside0.mk (HB3.below up)
              have hn3 := Aside0.mk (show ∀ n', n' ≤ n2 + 2 * nb y → n' ≤ n1 + 2 * nbs (l.take (j + 1)) from fun n' h => by omega)
              have eg := enters55
              replace up := Aside0.mk up
              clear hN hgl hnt hnb FU FJ HJ HB3 hatj hy hn2
              go_wp2_with (go_at_fn 55; with_reducible refine hcall.out.mono ?_; rintro e w5 ⟨⟨r, rfl⟩, k5, v5, n5, hn5, F5⟩; replace k5 := Aside0.mk k5; replace F5 := Aside0.mk F5; replace hn5 := Aside0.mk hn5)
              go_roundg (l.length - (j + 1))
              case measure => omega
              case rel => exact ⟨j + 1, by omega, by omega, by go_num, ⟨⟨v5, n5, hn3.out n5 hn5.out, by rw [hgt.out]; exact F5.out⟩, HB4.out.trans k5.out⟩⟩
            · have hltz : ¬ (j : Int) < (l.length : Int) := by omega
              have he : j = l.length := by omega
              have HE := Aside0.mk he
              clear he hj
              obtain ⟨O3, hO3⟩ : ∃ O3, gaths BL O2 l = O3 := ⟨_, rfl⟩
              have F4 : FS w0 wr Bm Bo Bl M n2 BL O3 v2 := by
                have h := FJ
                rw [HE.out, List.take_length, hO3] at h
                exact h
              have F4' := Aside0.mk (And.intro F4 HB3)
              have hn4 := Aside0.mk (show n2 ≤ n1 + 2 * nbs l by have h := hn2; rw [HE.out, List.take_length] at h; exact h)
              replace hO3 := Aside0.mk hO3
              obtain ⟨q0, q1, q2, q3, q4, q5⟩ := six HB3.box
              clear FJ HJ F4 HE HB3 hn2
              go_wp2_with fail
              go_loopg [12, 70] bs.length (fun gg _ s70 wr => ∃ j : Nat, j ≤ bs.length ∧ bs.length - j ≤ gg ∧ s70 = .int .i64 j ∧ Aside0 (FS w0 wr Bm Bo Bl M (n2 + j) (bl ++ (bs.drop j).map (·.f0)) O3 v2 ∧ BoxAt W wr k nm nn ts bs l A3 c3 A4 c4 A5 c5))
              case atStart => exact ⟨0, Nat.zero_le _, by omega, rfl, ⟨by have h := F4'.out.1; rw [← hBL.out] at h; simpa using h, F4'.out.2⟩⟩
              case round =>
                obtain ⟨j, hj, hg, rfl, HJ⟩ := hrel
                by_cases hlt : j < bs.length
                · have hltz : (j : Int) < (bs.length : Int) := by omega
                  obtain ⟨ad, rfl, x0, x1⟩ := bindAt H.out.2.2.1.g4 HJ.out.1.h0 j hlt
                  have hdn := Aside0.mk (drop_names bl bs j hlt)
                  obtain ⟨b, hb⟩ : ∃ b, rd_T42 bs j = b := ⟨_, rfl⟩
                  rw [hb] at x0 x1 hdn
                  have up := (Below.refl wr.heap.size wr).alloc (Nat.le_refl _) (.cells #[.string b.f0, .int .i64 b.f1] 42)
                  have FU := HJ.out.1.up up
                  have hbm := (blk_cell FU.bm 0).trans rfl
                  have hsz : b.f0.size ≤ maxLen := by rw [← hb]; exact H.out.2.2.2.1.self.bs _ (rd42_mem bs j hlt)
                  have hq := H.out
                  simp only [nb] at hq
                  have h6 := hn4.out
                  have h7 := hn1.out
                  obtain ⟨hlook, w1, hput, hg1, FN⟩ := FU.bind_down (by omega) (by simp; omega) b.f0 hsz hdn.out
                  obtain ⟨q, hcq⟩ : ∃ q, cnt (bl ++ (bs.drop (j + 1)).map (·.f0)) b.f0 = q := ⟨_, rfl⟩
                  have hqle : q ≤ 2000000 := by rw [← hcq]; exact Nat.le_trans (cnt_le _ _) (by simp; omega)
                  rw [hcq] at hlook hput
                  clear hcq
                  have FN' := Aside0.mk FN
                  have hg1' := Aside0.mk hg1
                  have hbx := Aside0.mk (show BoxAt W w1 k nm nn ts bs l A3 c3 (some ad) c4 A5 c5 from (HJ.out.2.below up).map FU.map hg1)
                  replace hb := Aside0.mk hb
                  clear hq FN hg1 FU up hsz hdn h6 h7
                  go_wp2_with fail
                  go_roundg (bs.length - (j + 1))
                  case measure => omega
                  case rel => exact ⟨j + 1, by omega, by omega, by go_num, ⟨by have h := FN'.out; rw [Nat.add_assoc] at h; exact h, hbx.out⟩⟩
                · have hltz : ¬ (j : Int) < (bs.length : Int) := by omega
                  have he : j = bs.length := by omega
                  have HE := Aside0.mk he
                  clear he hj
                  go_wp2_with fail
                  go_end0
                  have h6 := hn4.out
                  have h7 := hn1.out
                  refine ⟨⟨_, rfl⟩, HJ.out.2.kept, v2, n2 + j, ?_, ?_⟩
                  · rw [HE.out, nb]; omega
                  · have h := HJ.out.1
                    rw [HE.out, List.drop_length, List.map_nil, List.append_nil] at h
                    rw [gath, hBL.out, hO2.out, hO3.out, HE.out]
                    exact h
theorem free_ok : ∀ s, FreeOk s
  | 0 => fun x A3 c3 A4 c4 A5 c5 w0 W Bm Bo Bl M n bl out v h => by rw [size_eq] at h; omega
  | s + 1 => free_step s (free_ok s)
end Go.Proofs.YtmlcaecknocpoaaDoor.It
namespace Go.Proofs.YtmlcaecknocpoaaDoor.It
set_option linter.unusedVariables false
set_option linter.unusedSimpArgs false
open Go Go.RowKit Go.Shelf Go.Proofs.YtmlcaecknocpoaaDoorW.PrintWords Go.Proofs.YtmlcaecknocpoaaDoorW.PrintLast Go.Proofs.YtmlcaecknocpoaaDoor.Pr Go.Proofs.YtmlcaecknocpoaaDoor.Sp
theorem MapIs.of_empty {w : World} {M : Nat} (h : w.heap[M]? = some (.map #[] 0)) : MapIs w M 0 [] := ⟨.map [], ⟨#[], 0, h, ⟨by simp, Go.MapKept.stamped_empty 0, by simp⟩, Nat.le_refl _, rfl⟩, fun _ => rfl⟩
theorem five_blocks (W : World) (o1 o2 o3 o4 o5 : Obj) (W5 : World) (h : ((((W.alloc o1).alloc o2).alloc o3).alloc o4).alloc o5 = W5) :
    W5.heap[W.heap.size]? = some o1 ∧ W5.heap[W.heap.size + 1]? = some o2 ∧ W5.heap[W.heap.size + 1 + 1]? = some o3 ∧ W5.heap[W.heap.size + 1 + 1 + 1]? = some o4 ∧ W5.heap[W.heap.size + 1 + 1 + 1 + 1]? = some o5 ∧ Below W.heap.size W W5 ∧ W5.heap.size = W.heap.size + 5 := by
  subst h
  have up : ∀ (w : World) (o : Obj), Below w.heap.size w (w.alloc o) := fun w o => (Below.refl _ _).alloc (Nat.le_refl _) o
  have nw : ∀ (w : World) (o : Obj) (n : Nat), w.heap.size = n → (w.alloc o).heap[n]? = some o := fun w o n e => e ▸ heap_new w o
  refine ⟨?_, ?_, ?_, ?_, ?_, ?_, ?_⟩
  · exact blk_below (up _ _) (blk_below (up _ _) (blk_below (up _ _) (blk_below (up _ _) (heap_new _ _))))
  · exact blk_below (up _ _) (blk_below (up _ _) (blk_below (up _ _) (nw _ _ _ (by simp))))
  · exact blk_below (up _ _) (blk_below (up _ _) (nw _ _ _ (by simp)))
  · exact blk_below (up _ _) (nw _ _ _ (by simp))
  · exact nw _ _ _ (by simp)
  · exact ((((up _ _).alloc (by simp) _).alloc (by simp; omega) _).alloc (by simp; omega) _).alloc (by simp; omega) _
  · simp
set_option maxRecDepth 100000 in
set_option maxHeartbeats 4000000 in
theorem free_calls (x : S26) (A3 : Option Addr) (c3 : Nat) (A4 : Option Addr) (c4 : Nat) (A5 : Option Addr) (c5 : Nat) (W : World) (hat : At W x A3 c3 A4 c4 A5 c5) (hdp : Deep x) (hnb : nb x ≤ 400000) (hnt : nt x ≤ 1000000) :
    Calls Tryd.prog 28 #[.agg #[.int .i64 x.f0, .string x.f1, .int .i64 x.f2, .slice A3 x.f3.length c3, .slice A4 x.f4.length c4, .slice A5 x.f5.length c5]] W fun e W' =>
      ∃ v, e = .returned v ∧ Below W.heap.size W W' ∧ Kd.R Kd.string 9 W' W.heap.size (fun _ => True) v (free x) := by
  have hu26 := Tryd.underlying26
  have eg := enters55
  have hmm := @run_makeMap Tryd.prog
  have H := Aside0.mk (And.intro hat (And.intro hdp (And.intro hnb hnt)))
  clear hat hdp hnb hnt
  go_enter Tryd.func28, Tryd.ntmps28
  obtain ⟨W5, hW5⟩ : ∃ W5, (((((W.alloc (.cells #[.int .i64 x.f0, .string x.f1, .int .i64 x.f2, .slice A3 x.f3.length c3, .slice A4 x.f4.length c4, .slice A5 x.f5.length c5] 26)).alloc (.map #[] 0)).alloc (.cells #[.map (some (W.heap.size + 1))] 68)).alloc (.cells #[.slice none 0 0] 32)).alloc (.cells #[(.func (.func 55) #[] #[.pointer (some ⟨W.heap.size + 1 + 1, 0, none⟩), .pointer (some ⟨W.heap.size + 1 + 1 + 1, 0, none⟩), .pointer (some ⟨W.heap.size + 1 + 1 + 1 + 1, 0, none⟩)])] 69)) = W5 := ⟨_, rfl⟩
  have h5 := five_blocks _ _ _ _ _ _ _ hW5
  obtain ⟨b1, b2, b3, b4, b5, hb, hsz⟩ := h5
  obtain ⟨q0, q1, q2, q3, q4, q5⟩ := six b1
  have q6 := (blk_cell b5 0).trans rfl
  have hF : FS W W5 (W.heap.size + 1 + 1) (W.heap.size + 1 + 1 + 1) (W.heap.size + 1 + 1 + 1 + 1) (W.heap.size + 1) 0 [] [] (.slice none 0 0) := by
    refine ⟨b3, b4, b5, ?_, ?_, hb, by omega, by omega⟩
    · exact MapIs.of_empty b2
    · exact Kd.R_nil _ _ _ _ _
  have hcall := Aside0.mk (free_ok (size x) x A3 c3 A4 c4 A5 c5 W _ _ _ _ _ 0 [] [] _ (Nat.le_refl _) H.out.1 H.out.2.1 hF (by have := H.out.2.2.1; omega) (by have := H.out.2.2.1; simp; omega) (by have := H.out.2.2.2; simp; omega))
  subst hW5
  clear hF b1 b2 b3 b4 b5 hb hsz
  go_wp2_with (go_at_fn 55; with_reducible refine hcall.out.mono ?_; rintro e w6 ⟨⟨r, rfl⟩, k6, v6, n6, hn6, F6⟩; have r6 := (blk_cell F6.bo 0).trans rfl; replace k6 := Aside0.mk k6; replace F6 := Aside0.mk F6; replace hn6 := Aside0.mk hn6)
  go_ret
  exact ⟨v6, rfl, F6.out.h0, by have h := F6.out.row; rw [free_gath] at h; exact h⟩
end Go.Proofs.YtmlcaecknocpoaaDoor.It
namespace Go.Proofs.YtmlcaecknocpoaaDoor.Pr
open Go.RowKit Go.Proofs.YtmlcaecknocpoaaDoorW.PrintWords Go.Proofs.YtmlcaecknocpoaaDoorW.PrintLast Go.Proofs.YtmlcaecknocpoaaDoorW.PrintMore
attribute [local go_sem] max2_int min2_int max_two min_two max_three min_three max_four min_four   
set_option linter.unusedVariables false
set_option linter.unusedSimpArgs false
end Go.Proofs.YtmlcaecknocpoaaDoor.Pr
namespace Go.Proofs.YtmlcaecknocpoaaDoor.Pr
open Go.RowKit Go.Proofs.YtmlcaecknocpoaaDoorW.PrintWords Go.Proofs.YtmlcaecknocpoaaDoorW.PrintLast Go.Proofs.YtmlcaecknocpoaaDoorW.PrintMore
attribute [local go_sem] max2_int min2_int max_two min_two max_three min_three max_four min_four   
set_option linter.unusedVariables false
set_option linter.unusedSimpArgs false
end Go.Proofs.YtmlcaecknocpoaaDoor.Pr
namespace Go.Proofs.YtmlcaecknocpoaaDoor.Pr
open Go.RowKit Go.Proofs.YtmlcaecknocpoaaDoorW.PrintWords Go.Proofs.YtmlcaecknocpoaaDoorW.PrintLast Go.Proofs.YtmlcaecknocpoaaDoorW.PrintMore
attribute [local go_sem] max2_int min2_int max_two min_two max_three min_three max_four min_four   
set_option linter.unusedVariables false
set_option linter.unusedSimpArgs false
attribute [local go_sem high] eqA42 eqA47
end Go.Proofs.YtmlcaecknocpoaaDoor.Pr
namespace Go.Proofs.YtmlcaecknocpoaaDoor.Pr
open Go.RowKit Go.Proofs.YtmlcaecknocpoaaDoorW.PrintWords Go.Proofs.YtmlcaecknocpoaaDoorW.PrintLast Go.Proofs.YtmlcaecknocpoaaDoorW.PrintMore
attribute [local go_sem] max2_int min2_int max_two min_two max_three min_three max_four min_four   
set_option linter.unusedVariables false
set_option linter.unusedSimpArgs false
end Go.Proofs.YtmlcaecknocpoaaDoor.Pr
namespace Go.Proofs.YtmlcaecknocpoaaDoor.Pr
open Go.RowKit Go.Proofs.YtmlcaecknocpoaaDoorW.PrintWords Go.Proofs.YtmlcaecknocpoaaDoorW.PrintLast Go.Proofs.YtmlcaecknocpoaaDoorW.PrintMore
attribute [local go_sem] max2_int min2_int max_two min_two max_three min_three max_four min_four   
set_option linter.unusedVariables false
set_option linter.unusedSimpArgs false
end Go.Proofs.YtmlcaecknocpoaaDoor.Pr
