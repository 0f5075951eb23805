/- Lemmas and walks for the claim below. -/
import Derived.Test.YtmlcaecknocpoaaDoorQ3K5
import Derived.Deep.RegionHeld3
import Derived.Deep.DrawnRows
import Derived.Deep.DeepCutAuto
import Derived.Maps.OwnSet
import Derived.Carry
import Derived.Laws.EntriesVeiled
namespace Go.Proofs.YtmlcaecknocpoaaDoor.Pr
open Go.RowKit Go.Proofs.YtmlcaecknocpoaaDoorW.PrintWords Go.Proofs.YtmlcaecknocpoaaDoorW.PrintLast Go.Proofs.YtmlcaecknocpoaaDoorW.PrintMore
attribute [local go_sem] max2_int min2_int max_two min_two max_three min_three max_four min_four   
set_option linter.unusedVariables false
set_option linter.unusedSimpArgs false
def formula_always.f (a0_0 : Int) (a0_1 : ByteArray) (a0_2 : Int) (l0_3 : List (S47)) (l0_4 : List (S42)) (l0_5 : List (S26)) : Option (Bool) := if a0_0 = 1 then (some true) else (if a0_0 = 16 then (if a0_2 = 0 then (some true) else (if a0_0 = 17 then (some (a0_2 == 1099511627776)) else (some false))) else (if a0_0 = 17 then (some (a0_2 == 1099511627776)) else (some false)))
set_option maxHeartbeats 8000000 in
set_option maxRecDepth 100000 in
theorem formula_always.calls (a0_0 : Int) (a0_1 : ByteArray) (a0_2 : Int) (A0_3 : Option Addr) (c0_3 : Nat) (l0_3 : List (S47)) (A0_4 : Option Addr) (c0_4 : Nat) (l0_4 : List (S42)) (A0_5 : Option Addr) (c0_5 : Nat) (l0_5 : List (S26)) (r : Bool) (w : World) (hr0_3 : Kd.C k47 w A0_3 l0_3.length l0_3) (hc0_3 : l0_3.length ≤ c0_3) (hr0_4 : Kd.C k42 w A0_4 l0_4.length l0_4) (hc0_4 : l0_4.length ≤ c0_4) (hr0_5 : Kd.C k26 w A0_5 l0_5.length l0_5) (hc0_5 : l0_5.length ≤ c0_5) (h : formula_always.f a0_0 a0_1 a0_2 l0_3 l0_4 l0_5 = some r) :
    Calls Tryd.prog 93 #[.agg #[.int .i64 a0_0, .string a0_1, .int .i64 a0_2, .slice A0_3 l0_3.length c0_3, .slice A0_4 l0_4.length c0_4, .slice A0_5 l0_5.length c0_5]] w fun e w' => e = .returned (.bool r) ∧ Below w.heap.size w w' := by
  have hu26 := Tryd.underlying26
  have HR0_3 := Aside0.mk hr0_3
  have HC0_3 := Aside0.mk hc0_3
  clear hr0_3 hc0_3
  have HR0_4 := Aside0.mk hr0_4
  have HC0_4 := Aside0.mk hc0_4
  clear hr0_4 hc0_4
  have HR0_5 := Aside0.mk hr0_5
  have HC0_5 := Aside0.mk hc0_5
  clear hr0_5 hc0_5
  have HB := Aside0.mk (Below.refl w.heap.size w)
  have H : (if a0_0 = 1 then (some true) else (if a0_0 = 16 then (if a0_2 = 0 then (some true) else (if a0_0 = 17 then (some (a0_2 == 1099511627776)) else (some false))) else (if a0_0 = 17 then (some (a0_2 == 1099511627776)) else (some false)))) = some r := h
  clear h
  by_cases c2 : a0_0 = 1
  · rw [if_pos c2] at H
    have c2b0 : (a0_0 == 1) = true := beq_iff_eq.mpr c2
    have c2b1 : (a0_0 != 1) = false := bne_eq_false_iff_eq.mpr c2
    clear c2
    obtain rfl := Option.some.inj H
    go_enter Tryd.func93, Tryd.ntmps93
    go_wp2_with (first | ((with_reducible refine gate_dst (N := 1) rfl ?_); refine box_event ?hg (N := 1) ?hd (cs := #[.int .i64 a0_0, .string a0_1, .int .i64 a0_2, .slice A0_3 l0_3.length c0_3, .slice A0_4 l0_4.length c0_4, .slice A0_5 l0_5.length c0_5]) (t := 26) ?hr ?_; (case hd => rfl); (case hg => rfl); (case hr => first | (go_simp; done) | (go_simp; rfl)); intro gb189 hg w3 hbox hb; have n0_ := Aside0.mk (below_step (by repeat (first | (with_reducible first | exact HB.out | apply below_alloc | apply pw_below_drewN | apply below_drew1) | exact HB.out)) hb); have n1_ := Aside0.mk (hbox); have n2_ := Aside0.mk ((by rw [hg]; exact (below_size (by repeat (first | (with_reducible first | exact HB.out | apply below_alloc | apply pw_below_drewN | apply below_drew1) | exact HB.out))) : w.heap.size ≤ gb189)); have n3_ := Aside0.mk ((by rw [hg]; exact (below_size (by repeat (first | (with_reducible first | exact HB.out | apply below_alloc | apply pw_below_drewN | apply below_drew1) | exact HB.out))) : w.heap.size ≤ gb189)); clear HB; have HB := n0_; have BK189 := n1_; have GW189 := n2_; have GE189 := n3_; clear n0_ n1_ n2_ n3_; clear hb hbox hg; have hcz4_0 : w3.cell? ⟨gb189, 0, none⟩ = some (.int .i64 a0_0) := (blk_cell BK189.out 0).trans rfl; have hcz4_1 : w3.cell? ⟨gb189, 1, none⟩ = some (.string a0_1) := (blk_cell BK189.out 1).trans rfl; have hcz4_2 : w3.cell? ⟨gb189, 2, none⟩ = some (.int .i64 a0_2) := (blk_cell BK189.out 2).trans rfl; have hcz4_3 : w3.cell? ⟨gb189, 3, none⟩ = some (.slice A0_3 l0_3.length c0_3) := (blk_cell BK189.out 3).trans rfl; have hcz4_4 : w3.cell? ⟨gb189, 4, none⟩ = some (.slice A0_4 l0_4.length c0_4) := (blk_cell BK189.out 4).trans rfl; have hcz4_5 : w3.cell? ⟨gb189, 5, none⟩ = some (.slice A0_5 l0_5.length c0_5) := (blk_cell BK189.out 5).trans rfl; have hfz4_0 := blk_frozen BK189.out 0; have hfz4_1 := blk_frozen BK189.out 1; have hfz4_2 := blk_frozen BK189.out 2; have hfz4_3 := blk_frozen BK189.out 3; have hfz4_4 := blk_frozen BK189.out 4; have hfz4_5 := blk_frozen BK189.out 5))
    go_ret
    exact ⟨by first | rfl | (simp [errW_none, errW_some] <;> rfl) | (simp [*, errW_none, errW_some] <;> rfl), by repeat (first | (with_reducible first | exact HB.out | apply below_alloc | apply pw_below_drewN | apply below_drew1 | refine below_set ?_ GE189.out) | exact HB.out)⟩
  · rw [if_neg c2] at H
    have c2b0 : (a0_0 == 1) = false := beq_eq_false_iff_ne.mpr c2
    have c2b1 : (a0_0 != 1) = true := bne_iff_ne.mpr c2
    by_cases c5 : a0_0 = 16
    · rw [if_pos c5] at H
      have c5b0 : (a0_0 == 16) = true := beq_iff_eq.mpr c5
      have c5b1 : (a0_0 != 16) = false := bne_eq_false_iff_eq.mpr c5
      clear c5
      by_cases c6 : a0_2 = 0
      · rw [if_pos c6] at H
        have c6b0 : (a0_2 == 0) = true := beq_iff_eq.mpr c6
        have c6b1 : (a0_2 != 0) = false := bne_eq_false_iff_eq.mpr c6
        clear c6
        obtain rfl := Option.some.inj H
        go_enter Tryd.func93, Tryd.ntmps93
        go_wp2_with (first | ((with_reducible refine gate_dst (N := 1) rfl ?_); refine box_event ?hg (N := 1) ?hd (cs := #[.int .i64 a0_0, .string a0_1, .int .i64 a0_2, .slice A0_3 l0_3.length c0_3, .slice A0_4 l0_4.length c0_4, .slice A0_5 l0_5.length c0_5]) (t := 26) ?hr ?_; (case hd => rfl); (case hg => rfl); (case hr => first | (go_simp; done) | (go_simp; rfl)); intro gb189 hg w7 hbox hb; have n0_ := Aside0.mk (below_step (by repeat (first | (with_reducible first | exact HB.out | apply below_alloc | apply pw_below_drewN | apply below_drew1) | exact HB.out)) hb); have n1_ := Aside0.mk (hbox); have n2_ := Aside0.mk ((by rw [hg]; exact (below_size (by repeat (first | (with_reducible first | exact HB.out | apply below_alloc | apply pw_below_drewN | apply below_drew1) | exact HB.out))) : w.heap.size ≤ gb189)); have n3_ := Aside0.mk ((by rw [hg]; exact (below_size (by repeat (first | (with_reducible first | exact HB.out | apply below_alloc | apply pw_below_drewN | apply below_drew1) | exact HB.out))) : w.heap.size ≤ gb189)); clear HB; have HB := n0_; have BK189 := n1_; have GW189 := n2_; have GE189 := n3_; clear n0_ n1_ n2_ n3_; clear hb hbox hg; have hcz8_0 : w7.cell? ⟨gb189, 0, none⟩ = some (.int .i64 a0_0) := (blk_cell BK189.out 0).trans rfl; have hcz8_1 : w7.cell? ⟨gb189, 1, none⟩ = some (.string a0_1) := (blk_cell BK189.out 1).trans rfl; have hcz8_2 : w7.cell? ⟨gb189, 2, none⟩ = some (.int .i64 a0_2) := (blk_cell BK189.out 2).trans rfl; have hcz8_3 : w7.cell? ⟨gb189, 3, none⟩ = some (.slice A0_3 l0_3.length c0_3) := (blk_cell BK189.out 3).trans rfl; have hcz8_4 : w7.cell? ⟨gb189, 4, none⟩ = some (.slice A0_4 l0_4.length c0_4) := (blk_cell BK189.out 4).trans rfl; have hcz8_5 : w7.cell? ⟨gb189, 5, none⟩ = some (.slice A0_5 l0_5.length c0_5) := (blk_cell BK189.out 5).trans rfl; have hfz8_0 := blk_frozen BK189.out 0; have hfz8_1 := blk_frozen BK189.out 1; have hfz8_2 := blk_frozen BK189.out 2; have hfz8_3 := blk_frozen BK189.out 3; have hfz8_4 := blk_frozen BK189.out 4; have hfz8_5 := blk_frozen BK189.out 5))
        go_ret
        exact ⟨by first | rfl | (simp [errW_none, errW_some] <;> rfl) | (simp [*, errW_none, errW_some] <;> rfl), by repeat (first | (with_reducible first | exact HB.out | apply below_alloc | apply pw_below_drewN | apply below_drew1 | refine below_set ?_ GE189.out) | exact HB.out)⟩
      · rw [if_neg c6] at H
        have c6b0 : (a0_2 == 0) = false := beq_eq_false_iff_ne.mpr c6
        have c6b1 : (a0_2 != 0) = true := bne_iff_ne.mpr c6
        by_cases c9 : a0_0 = 17
        · rw [if_pos c9] at H
          have c9b0 : (a0_0 == 17) = true := beq_iff_eq.mpr c9
          have c9b1 : (a0_0 != 17) = false := bne_eq_false_iff_eq.mpr c9
          clear c9
          obtain rfl := Option.some.inj H
          go_enter Tryd.func93, Tryd.ntmps93
          go_wp2_with (first | ((with_reducible refine gate_dst (N := 1) rfl ?_); refine box_event ?hg (N := 1) ?hd (cs := #[.int .i64 a0_0, .string a0_1, .int .i64 a0_2, .slice A0_3 l0_3.length c0_3, .slice A0_4 l0_4.length c0_4, .slice A0_5 l0_5.length c0_5]) (t := 26) ?hr ?_; (case hd => rfl); (case hg => rfl); (case hr => first | (go_simp; done) | (go_simp; rfl)); intro gb189 hg w10 hbox hb; have n0_ := Aside0.mk (below_step (by repeat (first | (with_reducible first | exact HB.out | apply below_alloc | apply pw_below_drewN | apply below_drew1) | exact HB.out)) hb); have n1_ := Aside0.mk (hbox); have n2_ := Aside0.mk ((by rw [hg]; exact (below_size (by repeat (first | (with_reducible first | exact HB.out | apply below_alloc | apply pw_below_drewN | apply below_drew1) | exact HB.out))) : w.heap.size ≤ gb189)); have n3_ := Aside0.mk ((by rw [hg]; exact (below_size (by repeat (first | (with_reducible first | exact HB.out | apply below_alloc | apply pw_below_drewN | apply below_drew1) | exact HB.out))) : w.heap.size ≤ gb189)); clear HB; have HB := n0_; have BK189 := n1_; have GW189 := n2_; have GE189 := n3_; clear n0_ n1_ n2_ n3_; clear hb hbox hg; have hcz11_0 : w10.cell? ⟨gb189, 0, none⟩ = some (.int .i64 a0_0) := (blk_cell BK189.out 0).trans rfl; have hcz11_1 : w10.cell? ⟨gb189, 1, none⟩ = some (.string a0_1) := (blk_cell BK189.out 1).trans rfl; have hcz11_2 : w10.cell? ⟨gb189, 2, none⟩ = some (.int .i64 a0_2) := (blk_cell BK189.out 2).trans rfl; have hcz11_3 : w10.cell? ⟨gb189, 3, none⟩ = some (.slice A0_3 l0_3.length c0_3) := (blk_cell BK189.out 3).trans rfl; have hcz11_4 : w10.cell? ⟨gb189, 4, none⟩ = some (.slice A0_4 l0_4.length c0_4) := (blk_cell BK189.out 4).trans rfl; have hcz11_5 : w10.cell? ⟨gb189, 5, none⟩ = some (.slice A0_5 l0_5.length c0_5) := (blk_cell BK189.out 5).trans rfl; have hfz11_0 := blk_frozen BK189.out 0; have hfz11_1 := blk_frozen BK189.out 1; have hfz11_2 := blk_frozen BK189.out 2; have hfz11_3 := blk_frozen BK189.out 3; have hfz11_4 := blk_frozen BK189.out 4; have hfz11_5 := blk_frozen BK189.out 5))
          go_ret
          exact ⟨by first | rfl | (simp [errW_none, errW_some] <;> rfl) | (simp [*, errW_none, errW_some] <;> rfl), by repeat (first | (with_reducible first | exact HB.out | apply below_alloc | apply pw_below_drewN | apply below_drew1 | refine below_set ?_ GE189.out) | exact HB.out)⟩
        · rw [if_neg c9] at H
          have c9b0 : (a0_0 == 17) = false := beq_eq_false_iff_ne.mpr c9
          have c9b1 : (a0_0 != 17) = true := bne_iff_ne.mpr c9
          obtain rfl := Option.some.inj H
          go_enter Tryd.func93, Tryd.ntmps93
          go_wp2_with (first | ((with_reducible refine gate_dst (N := 1) rfl ?_); refine box_event ?hg (N := 1) ?hd (cs := #[.int .i64 a0_0, .string a0_1, .int .i64 a0_2, .slice A0_3 l0_3.length c0_3, .slice A0_4 l0_4.length c0_4, .slice A0_5 l0_5.length c0_5]) (t := 26) ?hr ?_; (case hd => rfl); (case hg => rfl); (case hr => first | (go_simp; done) | (go_simp; rfl)); intro gb189 hg w12 hbox hb; have n0_ := Aside0.mk (below_step (by repeat (first | (with_reducible first | exact HB.out | apply below_alloc | apply pw_below_drewN | apply below_drew1) | exact HB.out)) hb); have n1_ := Aside0.mk (hbox); have n2_ := Aside0.mk ((by rw [hg]; exact (below_size (by repeat (first | (with_reducible first | exact HB.out | apply below_alloc | apply pw_below_drewN | apply below_drew1) | exact HB.out))) : w.heap.size ≤ gb189)); have n3_ := Aside0.mk ((by rw [hg]; exact (below_size (by repeat (first | (with_reducible first | exact HB.out | apply below_alloc | apply pw_below_drewN | apply below_drew1) | exact HB.out))) : w.heap.size ≤ gb189)); clear HB; have HB := n0_; have BK189 := n1_; have GW189 := n2_; have GE189 := n3_; clear n0_ n1_ n2_ n3_; clear hb hbox hg; have hcz13_0 : w12.cell? ⟨gb189, 0, none⟩ = some (.int .i64 a0_0) := (blk_cell BK189.out 0).trans rfl; have hcz13_1 : w12.cell? ⟨gb189, 1, none⟩ = some (.string a0_1) := (blk_cell BK189.out 1).trans rfl; have hcz13_2 : w12.cell? ⟨gb189, 2, none⟩ = some (.int .i64 a0_2) := (blk_cell BK189.out 2).trans rfl; have hcz13_3 : w12.cell? ⟨gb189, 3, none⟩ = some (.slice A0_3 l0_3.length c0_3) := (blk_cell BK189.out 3).trans rfl; have hcz13_4 : w12.cell? ⟨gb189, 4, none⟩ = some (.slice A0_4 l0_4.length c0_4) := (blk_cell BK189.out 4).trans rfl; have hcz13_5 : w12.cell? ⟨gb189, 5, none⟩ = some (.slice A0_5 l0_5.length c0_5) := (blk_cell BK189.out 5).trans rfl; have hfz13_0 := blk_frozen BK189.out 0; have hfz13_1 := blk_frozen BK189.out 1; have hfz13_2 := blk_frozen BK189.out 2; have hfz13_3 := blk_frozen BK189.out 3; have hfz13_4 := blk_frozen BK189.out 4; have hfz13_5 := blk_frozen BK189.out 5))
          go_ret
          exact ⟨by first | rfl | (simp [errW_none, errW_some] <;> rfl) | (simp [*, errW_none, errW_some] <;> rfl), by repeat (first | (with_reducible first | exact HB.out | apply below_alloc | apply pw_below_drewN | apply below_drew1 | refine below_set ?_ GE189.out) | exact HB.out)⟩
    · rw [if_neg c5] at H
      have c5b0 : (a0_0 == 16) = false := beq_eq_false_iff_ne.mpr c5
      have c5b1 : (a0_0 != 16) = true := bne_iff_ne.mpr c5
      by_cases c14 : a0_0 = 17
      · rw [if_pos c14] at H
        have c14b0 : (a0_0 == 17) = true := beq_iff_eq.mpr c14
        have c14b1 : (a0_0 != 17) = false := bne_eq_false_iff_eq.mpr c14
        clear c14
        obtain rfl := Option.some.inj H
        go_enter Tryd.func93, Tryd.ntmps93
        go_wp2_with (first | ((with_reducible refine gate_dst (N := 1) rfl ?_); refine box_event ?hg (N := 1) ?hd (cs := #[.int .i64 a0_0, .string a0_1, .int .i64 a0_2, .slice A0_3 l0_3.length c0_3, .slice A0_4 l0_4.length c0_4, .slice A0_5 l0_5.length c0_5]) (t := 26) ?hr ?_; (case hd => rfl); (case hg => rfl); (case hr => first | (go_simp; done) | (go_simp; rfl)); intro gb189 hg w15 hbox hb; have n0_ := Aside0.mk (below_step (by repeat (first | (with_reducible first | exact HB.out | apply below_alloc | apply pw_below_drewN | apply below_drew1) | exact HB.out)) hb); have n1_ := Aside0.mk (hbox); have n2_ := Aside0.mk ((by rw [hg]; exact (below_size (by repeat (first | (with_reducible first | exact HB.out | apply below_alloc | apply pw_below_drewN | apply below_drew1) | exact HB.out))) : w.heap.size ≤ gb189)); have n3_ := Aside0.mk ((by rw [hg]; exact (below_size (by repeat (first | (with_reducible first | exact HB.out | apply below_alloc | apply pw_below_drewN | apply below_drew1) | exact HB.out))) : w.heap.size ≤ gb189)); clear HB; have HB := n0_; have BK189 := n1_; have GW189 := n2_; have GE189 := n3_; clear n0_ n1_ n2_ n3_; clear hb hbox hg; have hcz16_0 : w15.cell? ⟨gb189, 0, none⟩ = some (.int .i64 a0_0) := (blk_cell BK189.out 0).trans rfl; have hcz16_1 : w15.cell? ⟨gb189, 1, none⟩ = some (.string a0_1) := (blk_cell BK189.out 1).trans rfl; have hcz16_2 : w15.cell? ⟨gb189, 2, none⟩ = some (.int .i64 a0_2) := (blk_cell BK189.out 2).trans rfl; have hcz16_3 : w15.cell? ⟨gb189, 3, none⟩ = some (.slice A0_3 l0_3.length c0_3) := (blk_cell BK189.out 3).trans rfl; have hcz16_4 : w15.cell? ⟨gb189, 4, none⟩ = some (.slice A0_4 l0_4.length c0_4) := (blk_cell BK189.out 4).trans rfl; have hcz16_5 : w15.cell? ⟨gb189, 5, none⟩ = some (.slice A0_5 l0_5.length c0_5) := (blk_cell BK189.out 5).trans rfl; have hfz16_0 := blk_frozen BK189.out 0; have hfz16_1 := blk_frozen BK189.out 1; have hfz16_2 := blk_frozen BK189.out 2; have hfz16_3 := blk_frozen BK189.out 3; have hfz16_4 := blk_frozen BK189.out 4; have hfz16_5 := blk_frozen BK189.out 5))
        go_ret
        exact ⟨by first | rfl | (simp [errW_none, errW_some] <;> rfl) | (simp [*, errW_none, errW_some] <;> rfl), by repeat (first | (with_reducible first | exact HB.out | apply below_alloc | apply pw_below_drewN | apply below_drew1 | refine below_set ?_ GE189.out) | exact HB.out)⟩
      · rw [if_neg c14] at H
        have c14b0 : (a0_0 == 17) = false := beq_eq_false_iff_ne.mpr c14
        have c14b1 : (a0_0 != 17) = true := bne_iff_ne.mpr c14
        obtain rfl := Option.some.inj H
        go_enter Tryd.func93, Tryd.ntmps93
        go_wp2_with (first | ((with_reducible refine gate_dst (N := 1) rfl ?_); refine box_event ?hg (N := 1) ?hd (cs := #[.int .i64 a0_0, .string a0_1, .int .i64 a0_2, .slice A0_3 l0_3.length c0_3, .slice A0_4 l0_4.length c0_4, .slice A0_5 l0_5.length c0_5]) (t := 26) ?hr ?_; (case hd => rfl); (case hg => rfl); (case hr => first | (go_simp; done) | (go_simp; rfl)); intro gb189 hg w17 hbox hb; have n0_ := Aside0.mk (below_step (by repeat (first | (with_reducible first | exact HB.out | apply below_alloc | apply pw_below_drewN | apply below_drew1) | exact HB.out)) hb); have n1_ := Aside0.mk (hbox); have n2_ := Aside0.mk ((by rw [hg]; exact (below_size (by repeat (first | (with_reducible first | exact HB.out | apply below_alloc | apply pw_below_drewN | apply below_drew1) | exact HB.out))) : w.heap.size ≤ gb189)); have n3_ := Aside0.mk ((by rw [hg]; exact (below_size (by repeat (first | (with_reducible first | exact HB.out | apply below_alloc | apply pw_below_drewN | apply below_drew1) | exact HB.out))) : w.heap.size ≤ gb189)); clear HB; have HB := n0_; have BK189 := n1_; have GW189 := n2_; have GE189 := n3_; clear n0_ n1_ n2_ n3_; clear hb hbox hg; have hcz18_0 : w17.cell? ⟨gb189, 0, none⟩ = some (.int .i64 a0_0) := (blk_cell BK189.out 0).trans rfl; have hcz18_1 : w17.cell? ⟨gb189, 1, none⟩ = some (.string a0_1) := (blk_cell BK189.out 1).trans rfl; have hcz18_2 : w17.cell? ⟨gb189, 2, none⟩ = some (.int .i64 a0_2) := (blk_cell BK189.out 2).trans rfl; have hcz18_3 : w17.cell? ⟨gb189, 3, none⟩ = some (.slice A0_3 l0_3.length c0_3) := (blk_cell BK189.out 3).trans rfl; have hcz18_4 : w17.cell? ⟨gb189, 4, none⟩ = some (.slice A0_4 l0_4.length c0_4) := (blk_cell BK189.out 4).trans rfl; have hcz18_5 : w17.cell? ⟨gb189, 5, none⟩ = some (.slice A0_5 l0_5.length c0_5) := (blk_cell BK189.out 5).trans rfl; have hfz18_0 := blk_frozen BK189.out 0; have hfz18_1 := blk_frozen BK189.out 1; have hfz18_2 := blk_frozen BK189.out 2; have hfz18_3 := blk_frozen BK189.out 3; have hfz18_4 := blk_frozen BK189.out 4; have hfz18_5 := blk_frozen BK189.out 5))
        go_ret
        exact ⟨by first | rfl | (simp [errW_none, errW_some] <;> rfl) | (simp [*, errW_none, errW_some] <;> rfl), by repeat (first | (with_reducible first | exact HB.out | apply below_alloc | apply pw_below_drewN | apply below_drew1 | refine below_set ?_ GE189.out) | exact HB.out)⟩
end Go.Proofs.YtmlcaecknocpoaaDoor.Pr
namespace Go.Proofs.YtmlcaecknocpoaaDoor.It
open Go Go.RowKit Go.Shelf Go.Proofs.YtmlcaecknocpoaaDoorW.PrintWords Go.Proofs.YtmlcaecknocpoaaDoorW.PrintLast Go.Proofs.YtmlcaecknocpoaaDoor.Pr Go.Proofs.YtmlcaecknocpoaaDoor.Sp
def Agree (ok : Nat → Prop) (w w1 : World) : Prop := Below 0 w w1 ∧ ∀ k, ok k → k < w.heap.size → w1.heap[k]? = w.heap[k]?
theorem Agree.of_below {ok : Nat → Prop} {w w1 : World} {n : Nat} (h : Below n w w1) (hok : ∀ k, ok k → k < w.heap.size → k < n) : Agree ok w w1 := ⟨h.mono (Nat.zero_le _), fun k hk hl => h.block k (hok k hk hl)⟩
theorem Agree.trans {ok ok' : Nat → Prop} {w w1 w2 : World} (h : Agree ok w w1) (k : Agree ok' w1 w2) (hok : ∀ i, ok i → i < w.heap.size → ok' i) : Agree ok w w2 :=
  ⟨h.1.trans k.1, fun i hi hl => (k.2 i (hok i hi hl) (Nat.lt_of_lt_of_le hl h.1.size)).trans (h.2 i hi hl)⟩
theorem Agree.refl (ok : Nat → Prop) (w : World) : Agree ok w w := ⟨Below.refl _ _, fun _ _ _ => rfl⟩
theorem Agree.mono {ok ok' : Nat → Prop} {w w1 : World} (h : Agree ok w w1) (hok : ∀ i, ok' i → i < w.heap.size → ok i) : Agree ok' w w1 := ⟨h.1, fun i hi hl => h.2 i (hok i hi hl) hl⟩
theorem Agree.below {w w1 : World} (h : Agree (fun _ => True) w w1) : Below w.heap.size w w1 := ⟨h.1.os, h.1.tape, h.1.output, h.1.size, fun k hk => h.2 k trivial hk⟩
theorem Agree.to {n : Nat} {w W w1 : World} (hb : Below n w W) (h : Agree (fun k => k < n) W w1) (hn : n ≤ W.heap.size) : Below n w w1 :=
  ⟨h.1.os.trans hb.os, h.1.tape.trans hb.tape, h.1.output.trans hb.output, Nat.le_trans hb.size h.1.size, fun k hk => (h.2 k hk (by omega)).trans (hb.block k hk)⟩
def Lies (ok : Nat → Prop) (w : World) (y : S26) (B3 : Option Addr) (d3 : Nat) (B4 : Option Addr) (d4 : Nat) (B5 : Option Addr) (d5 : Nat) : Prop := ∀ w1, Agree ok w w1 → At w1 y B3 d3 B4 d4 B5 d5
theorem Lies.at_ {ok : Nat → Prop} {w : World} {y : S26} {B3 : Option Addr} {d3 : Nat} {B4 : Option Addr} {d4 : Nat} {B5 : Option Addr} {d5 : Nat} (h : Lies ok w y B3 d3 B4 d4 B5 d5) : At w y B3 d3 B4 d4 B5 d5 := h w (Agree.refl _ _)
theorem Lies.move {ok ok' : Nat → Prop} {w w1 : World} {y : S26} {B3 : Option Addr} {d3 : Nat} {B4 : Option Addr} {d4 : Nat} {B5 : Option Addr} {d5 : Nat} (h : Lies ok w y B3 d3 B4 d4 B5 d5) (ha : Agree ok w w1) (hok : ∀ i, ok i → i < w.heap.size → ok' i) : Lies ok' w1 y B3 d3 B4 d4 B5 d5 :=
  fun w2 h2 => h w2 (ha.trans h2 hok)
theorem Lies.mono {ok ok' : Nat → Prop} {w : World} {y : S26} {B3 : Option Addr} {d3 : Nat} {B4 : Option Addr} {d4 : Nat} {B5 : Option Addr} {d5 : Nat} (h : Lies ok w y B3 d3 B4 d4 B5 d5) (hok : ∀ i, ok i → i < w.heap.size → ok' i) : Lies ok' w y B3 d3 B4 d4 B5 d5 := h.move (Agree.refl _ _) hok
theorem At.lies {w W : World} {y : S26} {B3 : Option Addr} {d3 : Nat} {B4 : Option Addr} {d4 : Nat} {B5 : Option Addr} {d5 : Nat} (h : At w y B3 d3 B4 d4 B5 d5) (hb : Below w.heap.size w W) (ok : Nat → Prop) (hok : ∀ k, k < w.heap.size → ok k) : Lies ok W y B3 d3 B4 d4 B5 d5 :=
  fun _w1 h1 => h.below ((h1.mono (fun i hi _ => hok i hi)).to hb hb.size)
def cl (y : S26) (B3 : Option Addr) (d3 : Nat) (B4 : Option Addr) (d4 : Nat) (B5 : Option Addr) (d5 : Nat) : List Value :=
  [.int .i64 y.f0, .string y.f1, .int .i64 y.f2, .slice B3 y.f3.length d3, .slice B4 y.f4.length d4, .slice B5 y.f5.length d5]
theorem At.K {w : World} {y : S26} {B3 : Option Addr} {d3 : Nat} {B4 : Option Addr} {d4 : Nat} {B5 : Option Addr} {d5 : Nat} (h : At w y B3 d3 B4 d4 B5 d5) : k26.K w y (cl y B3 d3 B4 d4 B5 d5) := k26_mk w y h.l3 h.g3 h.l4 h.g4 h.l5 h.g5
def Row (ok : Nat → Prop) (w : World) (base : Nat) (v : Value) (l : List S26) : Prop :=
  OwnRow (fun y cs => ∀ w1, Agree (fun k => ok k ∧ some k ≠ v.ownBlock) w w1 → k26.K w1 y cs) 26 6 w base v l
theorem Row.nil (ok : Nat → Prop) (w : World) (base : Nat) : Row ok w base (.slice none 0 0) [] := OwnRow.none_ _ _ _ _ _
theorem own_lt {w : World} {base : Nat} {e : TypeId} {size n : Nat} {v : Value} {xs : List Value} (h : w.ownsRow base e size v n xs) (k : Nat) (hk : v.ownBlock = some k) : k < w.heap.size ∧ base ≤ k := by
  rcases h.2 with ⟨rfl, _⟩ | ⟨g, cap, cur, rfl, hg, hh, r⟩
  · simp [Value.ownBlock] at hk
  · have : g = k := by simpa [Value.ownBlock] using hk
    subst this
    exact ⟨(Array.getElem?_eq_some_iff.1 hh).1, hg⟩
theorem Row.lt {ok : Nat → Prop} {w : World} {base : Nat} {v : Value} {l : List S26} (h : Row ok w base v l) (k : Nat) (hk : v.ownBlock = some k) : k < w.heap.size ∧ base ≤ k := by
  obtain ⟨inner, ho, _⟩ := h
  exact own_lt ho k hk
theorem Row.move {ok ok' : Nat → Prop} {w w1 : World} {base : Nat} {v : Value} {l : List S26} (h : Row ok w base v l) (ha : Agree ok w w1) (hv : ∀ k, v.ownBlock = some k → ok k) (hok : ∀ i, ok i → i < w.heap.size → ok' i) : Row ok' w1 base v l := by
  obtain ⟨inner, ho, hr⟩ := h
  refine ⟨inner, own_move ho (fun k hk => ha.2 k (hv k hk) (own_lt ho k hk).1), hr.imp_ (fun y cs hy w2 h2 => hy w2 ?_)⟩
  exact (ha.mono (fun i hi _ => hi.1)).trans h2 (fun i hi hl => ⟨hok i hi.1 hl, hi.2⟩)
theorem Row.slice {ok : Nat → Prop} {w : World} {base : Nat} {v : Value} {l : List S26} (h : Row ok w base v l) : ∃ A c, v = .slice A l.length c := by
  obtain ⟨A, c, e, _⟩ := OwnRow.slice_ h
  exact ⟨A, c, e⟩
theorem Row.reads {ok : Nat → Prop} {w w1 : World} {base : Nat} {A : Option Addr} {c : Nat} {l : List S26} (h : Row ok w base (.slice A l.length c) l) (ha : Agree ok w w1) (hv : ∀ k, (Value.slice A l.length c).ownBlock = some k → ok k) : l.length ≤ c ∧ Kd.C k26 w1 A l.length l := by
  have h1 := h.move (ok' := ok) ha hv (fun _ hi _ => hi)
  obtain ⟨A', c', e, hl, hr⟩ := OwnRow.reads h1
  injection e with e1 e2 e3
  subst e1
  refine ⟨by omega, hr.1, hr.2.1, fun hp => ?_⟩
  obtain ⟨ad, ea, hc⟩ := hr.2.2 hp
  refine ⟨ad, ea, fun j p hj => ?_⟩
  obtain ⟨cs, hcs, hR, hcell⟩ := hc j p hj
  exact ⟨cs, hcs, hR w1 (Agree.refl _ _), hcell⟩
theorem Row.snoc {ok : Nat → Prop} {W w1 : World} {base : Nat} {v v1 : Value} {l : List S26} {R : S26 → List Value → Prop}
    (hR : ∀ y cs, R y cs → ∀ w2, Agree (fun k => ok k ∧ some k ≠ v.ownBlock) W w2 → k26.K w2 y cs)
    (ho : OwnRow R 26 6 w1 base v1 l) (hb : Below 0 W w1) (hg : W.grownBy w1 v.ownBlock) (hat : v1.ownBlock = v.ownBlock ∨ ∃ b, v1.ownBlock = some b ∧ W.heap.size ≤ b) : Row ok w1 base v1 l := by
  obtain ⟨inner, ho, hr⟩ := ho
  refine ⟨inner, ho, hr.imp_ (fun y cs hy w2 h2 => hR y cs hy w2 ?_)⟩
  refine ⟨hb.trans h2.1, fun k hk hl => ?_⟩
  have h3 : some k ≠ v1.ownBlock := by
    rcases hat with e | ⟨b, e, hle⟩
    · rw [e]; exact hk.2
    · rw [e]; intro h; injection h with h; omega
  exact (h2.2 k ⟨hk.1, h3⟩ (Nat.lt_of_lt_of_le hl hb.size)).trans (hg.block k hl hk.2)
theorem clone_at {n : Nat} {w w1 : World} {A : Option Addr} {c : Nat} {ts : List S47} (h : Kd.R k47 47 w n (fun k => n ≤ k) (.slice A ts.length c) ts) (ha : Agree (fun k => n ≤ k) w w1) : ts.length ≤ c ∧ Kd.C k47 w1 A ts.length ts :=
  (Kd.R_reads' (Kd.R_step h (fun k hk hl => ha.2 k hk hl))).2
theorem clone_at' {n : Nat} {w w1 : World} {A : Option Addr} {c : Nat} {ts : List S42} (h : Kd.R k42 42 w n (fun k => n ≤ k) (.slice A ts.length c) ts) (ha : Agree (fun k => n ≤ k) w w1) : ts.length ≤ c ∧ Kd.C k42 w1 A ts.length ts :=
  (Kd.R_reads' (Kd.R_step h (fun k hk hl => ha.2 k hk hl))).2
theorem always_calls (x : S26) (A3 : Option Addr) (c3 : Nat) (A4 : Option Addr) (c4 : Nat) (A5 : Option Addr) (c5 : Nat) (w : World) (hat : At w x A3 c3 A4 c4 A5 c5) :
    Calls Tryd.prog 93 #[.agg #[.int .i64 x.f0, .string x.f1, .int .i64 x.f2, .slice A3 x.f3.length c3, .slice A4 x.f4.length c4, .slice A5 x.f5.length c5]] w fun e w' => e = .returned (.bool (always x.f0 x.f2)) ∧ Below w.heap.size w w' := by
  refine formula_always.calls _ _ _ _ _ _ _ _ _ _ _ _ _ _ hat.g3 hat.l3 hat.g4 hat.l4 hat.g5 hat.l5 ?_
  unfold formula_always.f always most
  generalize x.f0 = k
  generalize x.f2 = n
  by_cases h1 : k = 1
  · simp [h1]
  · by_cases h2 : k = 16
    · subst h2
      by_cases h3 : n = 0 <;> simp [h3]
    · by_cases h3 : k = 17
      · subst h3
        by_cases h4 : n = 1099511627776 <;> simp [h4]
      · simp [h1, h2, h3]
end Go.Proofs.YtmlcaecknocpoaaDoor.It
namespace Go.Proofs.YtmlcaecknocpoaaDoor.It
open Go Go.RowKit Go.Shelf Go.Proofs.YtmlcaecknocpoaaDoorW.PrintWords Go.Proofs.YtmlcaecknocpoaaDoorW.PrintLast Go.Proofs.YtmlcaecknocpoaaDoor.Pr Go.Proofs.YtmlcaecknocpoaaDoor.Sp
attribute [local go_sem ↓] Go.wp_at_zero Go.wp_at_succ
def RightOk (s : Nat) : Prop := ∀ (x : S26) (turn : Bool) (A3 : Option Addr) (c3 : Nat) (A4 : Option Addr) (c4 : Nat) (A5 : Option Addr) (c5 : Nat) (w0 W : World), size x ≤ s → At w0 x A3 c3 A4 c4 A5 c5 → Deep x → form x = true → Tabs w0 → Duals w0 → Below w0.heap.size w0 W →
  Calls Tryd.prog 60 #[.agg #[.int .i64 x.f0, .string x.f1, .int .i64 x.f2, .slice A3 x.f3.length c3, .slice A4 x.f4.length c4, .slice A5 x.f5.length c5], .bool turn] W fun e w' => ∃ B3 d3 B4 d4 B5 d5,
    e = .returned (.agg #[.int .i64 (right x turn).f0, .string (right x turn).f1, .int .i64 (right x turn).f2, .slice B3 (right x turn).f3.length d3, .slice B4 (right x turn).f4.length d4, .slice B5 (right x turn).f5.length d5]) ∧
    Below W.heap.size W w' ∧ Lies (fun k => k < w0.heap.size ∨ W.heap.size ≤ k) w' (right x turn) B3 d3 B4 d4 B5 d5
theorem six {w : World} {B : Nat} {a0 a1 a2 a3 a4 a5 : Value} (h : w.heap[B]? = some (.cells #[a0, a1, a2, a3, a4, a5] 26 (0, 0))) :
    w.cell? ⟨B, 0, none⟩ = some a0 ∧ w.cell? ⟨B, 1, none⟩ = some a1 ∧ w.cell? ⟨B, 2, none⟩ = some a2 ∧ w.cell? ⟨B, 3, none⟩ = some a3 ∧ w.cell? ⟨B, 4, none⟩ = some a4 ∧ w.cell? ⟨B, 5, none⟩ = some a5 :=
  ⟨(blk_cell h 0).trans rfl, (blk_cell h 1).trans rfl, (blk_cell h 2).trans rfl, (blk_cell h 3).trans rfl, (blk_cell h 4).trans rfl, (blk_cell h 5).trans rfl⟩
structure Two (w0 W w : World) (k : Int) (nm : ByteArray) (n : Int) (ts : List S47) (bs : List S42) (l : List S26) (A3 : Option Addr) (c3 : Nat) (A4 : Option Addr) (c4 : Nat) (A5 : Option Addr) (c5 : Nat) : Prop where
  a : w.heap[W.heap.size]? = some (.cells #[.int .i64 k, .string nm, .int .i64 n, .slice A3 ts.length c3, .slice A4 bs.length c4, .slice A5 l.length c5] 26 (0, 0))
  b : w.heap[W.heap.size + 1]? = some (.cells #[.int .i64 0, .string ⟨#[]⟩, .int .i64 0, .slice none 0 0, .slice none 0 0, .slice none 0 0] 26 (0, 0))
  h0 : Below w0.heap.size w0 w
  h : Below W.heap.size W w
  s : W.heap.size + 2 ≤ w.heap.size
theorem Two.start {w0 W : World} (hb : Below w0.heap.size w0 W) (k : Int) (nm : ByteArray) (n : Int) (ts : List S47) (bs : List S42) (l : List S26) (A3 : Option Addr) (c3 : Nat) (A4 : Option Addr) (c4 : Nat) (A5 : Option Addr) (c5 : Nat) :
    Two w0 W ((W.alloc (.cells #[.int .i64 k, .string nm, .int .i64 n, .slice A3 ts.length c3, .slice A4 bs.length c4, .slice A5 l.length c5] 26)).alloc (.cells #[.int .i64 0, .string ⟨#[]⟩, .int .i64 0, .slice none 0 0, .slice none 0 0, .slice none 0 0] 26)) k nm n ts bs l A3 c3 A4 c4 A5 c5 :=
  ⟨heap_new2a _ _ _, heap_new2b _ _ _, (hb.alloc hb.size _).alloc ((hb.alloc hb.size _).size) _, ((Below.refl _ _).alloc (Nat.le_refl _) _).alloc (by simp) _, by simp⟩
theorem Two.below {w0 W w w1 : World} {k : Int} {nm : ByteArray} {n : Int} {ts : List S47} {bs : List S42} {l : List S26} {A3 : Option Addr} {c3 : Nat} {A4 : Option Addr} {c4 : Nat} {A5 : Option Addr} {c5 : Nat} (h : Two w0 W w k nm n ts bs l A3 c3 A4 c4 A5 c5) (hb : Below w.heap.size w w1) : Two w0 W w1 k nm n ts bs l A3 c3 A4 c4 A5 c5 :=
  ⟨blk_below hb h.a, blk_below hb h.b, h.h0.trans (hb.mono h.h0.size), h.h.trans (hb.mono h.h.size), Nat.le_trans h.s hb.size⟩
theorem Two.drew {w0 W w : World} {k : Int} {nm : ByteArray} {n : Int} {ts : List S47} {bs : List S42} {l : List S26} {A3 : Option Addr} {c3 : Nat} {A4 : Option Addr} {c4 : Nat} {A5 : Option Addr} {c5 : Nat} (h : Two w0 W w k nm n ts bs l A3 c3 A4 c4 A5 c5) : Two w0 W w.drew k nm n ts bs l A3 c3 A4 c4 A5 c5 := h.below (below_drew (Below.refl _ _))
theorem Two.alloc {w0 W w : World} {k : Int} {nm : ByteArray} {n : Int} {ts : List S47} {bs : List S42} {l : List S26} {A3 : Option Addr} {c3 : Nat} {A4 : Option Addr} {c4 : Nat} {A5 : Option Addr} {c5 : Nat} (h : Two w0 W w k nm n ts bs l A3 c3 A4 c4 A5 c5) (o : Obj) : Two w0 W (w.alloc o) k nm n ts bs l A3 c3 A4 c4 A5 c5 := h.below ((Below.refl _ _).alloc (Nat.le_refl _) _)
theorem set_six {w : World} {B : Nat} {a0 a1 a2 a3 a4 a5 : Value} (h : w.heap[B]? = some (.cells #[a0, a1, a2, a3, a4, a5] 26 (0, 0))) (v0 v1 v2 v3 v4 v5 : Value) :
    ((((((w.setCell ⟨B, 0, none⟩ v0).setCell ⟨B, 1, none⟩ v1).setCell ⟨B, 2, none⟩ v2).setCell ⟨B, 3, none⟩ v3).setCell ⟨B, 4, none⟩ v4).setCell ⟨B, 5, none⟩ v5).heap[B]? = some (.cells #[v0, v1, v2, v3, v4, v5] 26 (0, 0)) := by
  simp [World.setCell, Array.getElem?_modify, h]
theorem set_one {w : World} {B : Nat} {cs : Array Value} {t : TypeId} (h : w.heap[B]? = some (.cells cs t (0, 0))) (j : Nat) (v : Value) : (w.setCell ⟨B, j, none⟩ v).heap[B]? = some (.cells (cs.setIfInBounds j v) t (0, 0)) := by
  simp [World.setCell, Array.getElem?_modify, h]
theorem Agree.set (w : World) (B j : Nat) (v : Value) (ok : Nat → Prop) (h : ∀ k, ok k → k ≠ B) : Agree ok w (w.setCell ⟨B, j, none⟩ v) :=
  ⟨(Below.refl _ _).setCell (Nat.zero_le _) _, fun k hk _ => Below.heap_setCell _ _ _ _ (h k hk)⟩
theorem Agree.six (w : World) (B : Nat) (v0 v1 v2 v3 v4 v5 : Value) (ok : Nat → Prop) (h : ∀ k, ok k → k ≠ B) :
    Agree ok w ((((((w.setCell ⟨B, 0, none⟩ v0).setCell ⟨B, 1, none⟩ v1).setCell ⟨B, 2, none⟩ v2).setCell ⟨B, 3, none⟩ v3).setCell ⟨B, 4, none⟩ v4).setCell ⟨B, 5, none⟩ v5) :=
  (((((Agree.set w B 0 v0 ok h).trans (Agree.set _ B 1 v1 ok h) (fun _ h _ => h)).trans (Agree.set _ B 2 v2 ok h) (fun _ h _ => h)).trans (Agree.set _ B 3 v3 ok h) (fun _ h _ => h)).trans (Agree.set _ B 4 v4 ok h) (fun _ h _ => h)).trans (Agree.set _ B 5 v5 ok h) (fun _ h _ => h)
theorem Agree.alloc (w : World) (o : Obj) (ok : Nat → Prop) : Agree ok w (w.alloc o) := Agree.of_below ((Below.refl w.heap.size w).alloc (Nat.le_refl _) o) (fun _ _ h => h)
theorem Agree.low {ok : Nat → Prop} {n : Nat} {w w1 : World} (h : Agree ok w w1) (hok : ∀ k, k < n → ok k) (hn : n ≤ w.heap.size) : Below n w w1 :=
  ⟨h.1.os, h.1.tape, h.1.output, h.1.size, fun k hk => h.2 k (hok k hk) (by omega)⟩
theorem Two.agree {w0 W w w1 : World} {k : Int} {nm : ByteArray} {n : Int} {ts : List S47} {bs : List S42} {l : List S26} {A3 : Option Addr} {c3 : Nat} {A4 : Option Addr} {c4 : Nat} {A5 : Option Addr} {c5 : Nat} (h : Two w0 W w k nm n ts bs l A3 c3 A4 c4 A5 c5) (hw : w0.heap.size ≤ W.heap.size) (ha : Agree (fun i => i < W.heap.size + 2) w w1) : Two w0 W w1 k nm n ts bs l A3 c3 A4 c4 A5 c5 := by
  have hs := h.s
  exact ⟨(ha.2 _ (by omega) (by omega)).trans h.a, (ha.2 _ (by omega) (by omega)).trans h.b, h.h0.trans (ha.low (fun k hk => by omega) (by omega)), h.h.trans (ha.low (fun k hk => by omega) (by omega)), Nat.le_trans h.s ha.1.size⟩
theorem two_ne {w0 W w : World} {k : Int} {nm : ByteArray} {n : Int} {ts : List S47} {bs : List S42} {l : List S26} {A3 : Option Addr} {c3 : Nat} {A4 : Option Addr} {c4 : Nat} {A5 : Option Addr} {c5 : Nat} (h : Two w0 W w k nm n ts bs l A3 c3 A4 c4 A5 c5) : W.heap.size ≠ w.heap.size := by have := h.s; omega
structure Three (w0 W wx : World) (B : Nat) (V3 : Option Addr) (e3 : Nat) (V4 : Option Addr) (e4 : Nat) (k : Int) (nm : ByteArray) (n : Int) (ts : List S47) (bs : List S42) (l : List S26) (A3 : Option Addr) (c3 : Nat) (A4 : Option Addr) (c4 : Nat) (A5 : Option Addr) (c5 : Nat) (k1 : Int) (nm1 : ByteArray) (n1 : Int) : Prop where
  two : Two w0 W wx k nm n ts bs l A3 c3 A4 c4 A5 c5
  hB : W.heap.size + 2 ≤ B
  box : wx.heap[B]? = some (.cells #[.int .i64 k1, .string nm1, .int .i64 n1, .slice V3 ts.length e3, .slice V4 bs.length e4, .slice none 0 0] 26 (0, 0))
  r3 : ∀ w1, Agree (fun i => W.heap.size + 2 ≤ i ∧ i ≠ B) wx w1 → ts.length ≤ e3 ∧ Kd.C k47 w1 V3 ts.length ts
  r4 : ∀ w1, Agree (fun i => W.heap.size + 2 ≤ i ∧ i ≠ B) wx w1 → bs.length ≤ e4 ∧ Kd.C k42 w1 V4 bs.length bs
theorem keep3 {n m B : Nat} {w3 wx : World} {V : Option Addr} {e : Nat} {ts : List S47} (r : Kd.R k47 47 w3 n (fun k => n ≤ k) (.slice V ts.length e) ts) (hn : m ≤ n) (ha : Agree (fun k => k ≠ B) w3 wx) (hB : B < n ∨ w3.heap.size ≤ B) :
    ∀ w1, Agree (fun i => m ≤ i ∧ i ≠ B) wx w1 → ts.length ≤ e ∧ Kd.C k47 w1 V ts.length ts := fun _ h1 =>
  clone_at r ((ha.mono (ok' := fun k => n ≤ k) (fun i hi hl => by omega)).trans h1 (fun i hi hl => ⟨by omega, by omega⟩))
theorem keep4 {n m B : Nat} {w3 wx : World} {V : Option Addr} {e : Nat} {ts : List S42} (r : Kd.R k42 42 w3 n (fun k => n ≤ k) (.slice V ts.length e) ts) (hn : m ≤ n) (ha : Agree (fun k => k ≠ B) w3 wx) (hB : B < n ∨ w3.heap.size ≤ B) :
    ∀ w1, Agree (fun i => m ≤ i ∧ i ≠ B) wx w1 → ts.length ≤ e ∧ Kd.C k42 w1 V ts.length ts := fun _ h1 =>
  clone_at' r ((ha.mono (ok' := fun k => n ≤ k) (fun i hi hl => by omega)).trans h1 (fun i hi hl => ⟨by omega, by omega⟩))
def okR (w0 W : World) (B i : Nat) : Prop := (i < w0.heap.size ∨ W.heap.size + 2 ≤ i) ∧ i ≠ B
structure LI (w0 W wx wr : World) (B : Nat) (V3 : Option Addr) (e3 : Nat) (V4 : Option Addr) (e4 : Nat) (ts : List S47) (bs : List S42) (k1 : Int) (nm1 : ByteArray) (n1 : Int) (b : Bool) (l : List S26) (j : Nat) (v : Value) : Prop where
  ag : Agree (fun i => i ≠ B) wx wr
  box : wr.heap[B]? = some (.cells #[.int .i64 k1, .string nm1, .int .i64 n1, .slice V3 ts.length e3, .slice V4 bs.length e4, v] 26 (0, 0))
  row : Row (okR w0 W B) wr wx.heap.size v (rights (l.take j) b)
theorem okR_own {w0 W wx wr : World} {B : Nat} {v : Value} {l : List S26} (hs : W.heap.size + 2 ≤ wx.heap.size) (hB : B < wx.heap.size) (h : Row (okR w0 W B) wr wx.heap.size v l) : ∀ k, v.ownBlock = some k → okR w0 W B k := fun k hk => by
  have := (h.lt k hk).2
  exact ⟨by omega, by omega⟩
theorem rights_take (l : List S26) (b : Bool) (j : Nat) (hj : j < l.length) : rights (l.take (j + 1)) b = rights (l.take j) b ++ [right (rd_T26 l j) b] := by
  induction l generalizing j with
  | nil => simp at hj
  | cons x l ih =>
    cases j with
    | zero => simp [rights, rd_T26]
    | succ j =>
      have := ih j (by simpa using hj)
      have e : rd_T26 (x :: l) ((j + 1 : Nat) : Int) = rd_T26 l j := by simp [rd_T26]
      rw [e]
      simp only [List.take_succ_cons, rights, this, List.cons_append]
theorem rights_length (l : List S26) (b : Bool) : (rights l b).length = l.length := by
  induction l with
  | nil => rfl
  | cons x l ih => simp [rights, ih]
theorem LI.up {w0 W wx wr : World} {B : Nat} {V3 : Option Addr} {e3 : Nat} {V4 : Option Addr} {e4 : Nat} {ts : List S47} {bs : List S42} {k1 : Int} {nm1 : ByteArray} {n1 : Int} {b : Bool} {l : List S26} {j : Nat} {v : Value} (h : LI w0 W wx wr B V3 e3 V4 e4 ts bs k1 nm1 n1 b l j v) (hs : W.heap.size + 2 ≤ wx.heap.size) (hB : B < wx.heap.size) {w5 : World} (g : Below wr.heap.size wr w5) : LI w0 W wx w5 B V3 e3 V4 e4 ts bs k1 nm1 n1 b l j v :=
  ⟨h.ag.trans (Agree.of_below g (fun _ _ h => h)) (fun _ h _ => h), blk_below g h.box, h.row.move (Agree.of_below g (fun _ _ h => h)) (okR_own hs hB h.row) (fun _ h _ => h)⟩
theorem LI.step {w0 W wx wr : World} {B : Nat} {V3 : Option Addr} {e3 : Nat} {V4 : Option Addr} {e4 : Nat} {ts : List S47} {bs : List S42} {k1 : Int} {nm1 : ByteArray} {n1 : Int} {b : Bool} {l : List S26} {j : Nat} {v : Value} (h : LI w0 W wx wr B V3 e3 V4 e4 ts bs k1 nm1 n1 b l j v) (hj : j < l.length) (hs : W.heap.size + 2 ≤ wx.heap.size) (hB : B < wx.heap.size)
    {v1 : Value} {w1 : World} (ho : OwnRow (fun y cs => ∀ w1, Agree (fun k => okR w0 W B k ∧ some k ≠ v.ownBlock) wr w1 → k26.K w1 y cs) 26 6 w1 wx.heap.size v1 (rights (l.take j) b ++ [right (rd_T26 l j) b])) (hb : Below 0 wr w1) (hg : wr.grownBy w1 v.ownBlock) (hat : v1.ownBlock = v.ownBlock ∨ ∃ b, v1.ownBlock = some b ∧ wr.heap.size ≤ b) :
    LI w0 W wx (w1.setCell ⟨B, 5, none⟩ v1) B V3 e3 V4 e4 ts bs k1 nm1 n1 b l (j + 1) v1 := by
  have hv : some B ≠ v.ownBlock := fun e => by have := (h.row.lt B e.symm).2; omega
  have hr : Row (okR w0 W B) w1 wx.heap.size v1 (rights (l.take (j + 1)) b) := by
    rw [rights_take l b j hj]
    exact Row.snoc (fun y cs h => h) ho hb hg hat
  refine ⟨?_, ?_, hr.move (Agree.set w1 B 5 v1 (okR w0 W B) (fun _ h => h.2)) (okR_own hs hB hr) (fun _ h _ => h)⟩
  · refine ⟨(h.ag.1.trans hb).trans ((Below.refl _ _).setCell (Nat.zero_le _) _), fun k hk hl => ?_⟩
    rw [Below.heap_setCell _ _ _ _ (by simpa using hk), hg.block k (Nat.lt_of_lt_of_le hl h.ag.1.size) (fun e => by have := (h.row.lt k e.symm).2; omega)]
    exact h.ag.2 k hk hl
  · have hb1 : w1.heap[B]? = _ := (hg.block B (Array.getElem?_eq_some_iff.1 h.box).1 hv).trans h.box
    exact (set_one hb1 5 v1).trans rfl
theorem LI.fin {w0 W wx wr : World} {B : Nat} {V3 : Option Addr} {e3 : Nat} {V4 : Option Addr} {e4 : Nat} {k : Int} {nm : ByteArray} {n : Int} {ts : List S47} {bs : List S42} {l : List S26} {A3 : Option Addr} {c3 : Nat} {A4 : Option Addr} {c4 : Nat} {A5 : Option Addr} {c5 : Nat} {k1 : Int} {nm1 : ByteArray} {n1 : Int} {b : Bool} {A : Option Addr} {c : Nat}
    (T : Three w0 W wx B V3 e3 V4 e4 k nm n ts bs l A3 c3 A4 c4 A5 c5 k1 nm1 n1) (h : LI w0 W wx wr B V3 e3 V4 e4 ts bs k1 nm1 n1 b l l.length (.slice A (rights l b).length c)) (hw : w0.heap.size ≤ W.heap.size) {wf : World} (hf : Agree (fun i => i ≠ W.heap.size + 1) wr wf) :
    Below W.heap.size W wf ∧ Lies (fun i => i < w0.heap.size ∨ W.heap.size ≤ i) wf ⟨k1, nm1, n1, ts, bs, rights l b⟩ V3 e3 V4 e4 A c := by
  have hB := T.hB
  have hs := T.two.s
  have hlt : B < wx.heap.size := (Array.getElem?_eq_some_iff.1 T.box).1
  have hsz := h.ag.1.size
  refine ⟨T.two.h.trans ((h.ag.low (fun k hk => by omega) (by omega)).trans (hf.low (fun k hk => by omega) (by omega))), fun w1 h1 => ?_⟩
  have hrow := h.row
  rw [List.take_length] at hrow
  have a1 : Agree (fun i => W.heap.size + 2 ≤ i ∧ i ≠ B) wx w1 := ((h.ag.mono (ok' := fun i => W.heap.size + 2 ≤ i ∧ i ≠ B) (fun i hi _ => hi.2)).trans hf (fun i hi _ => by omega)).trans h1 (fun i hi _ => .inr (by omega))
  have a2 : Agree (okR w0 W B) wr w1 := (hf.mono (ok' := okR w0 W B) (fun i hi _ => by unfold okR at hi; omega)).trans h1 (fun i hi _ => by unfold okR at hi; omega)
  obtain ⟨l3, g3⟩ := T.r3 w1 a1
  obtain ⟨l4, g4⟩ := T.r4 w1 a1
  obtain ⟨l5, g5⟩ := hrow.reads a2 (okR_own hs hlt hrow)
  exact ⟨l3, g3, l4, g4, l5, g5⟩
theorem Three.set {w0 W wx w1 : World} {B : Nat} {V3 : Option Addr} {e3 : Nat} {V4 : Option Addr} {e4 : Nat} {k : Int} {nm : ByteArray} {n : Int} {ts : List S47} {bs : List S42} {l : List S26} {A3 : Option Addr} {c3 : Nat} {A4 : Option Addr} {c4 : Nat} {A5 : Option Addr} {c5 : Nat} {k1 : Int} {nm1 : ByteArray} {n1 : Int}
    (T : Three w0 W wx B V3 e3 V4 e4 k nm n ts bs l A3 c3 A4 c4 A5 c5 k1 nm1 n1) (hw : w0.heap.size ≤ W.heap.size) (ha : Agree (fun i => i ≠ B) wx w1) (k2 : Int) (nm2 : ByteArray) (n2 : Int)
    (hbox : w1.heap[B]? = some (.cells #[.int .i64 k2, .string nm2, .int .i64 n2, .slice V3 ts.length e3, .slice V4 bs.length e4, .slice none 0 0] 26 (0, 0))) : Three w0 W w1 B V3 e3 V4 e4 k nm n ts bs l A3 c3 A4 c4 A5 c5 k2 nm2 n2 :=
  ⟨T.two.agree hw (ha.mono (fun i hi _ => by have := T.hB; omega)), T.hB, hbox, fun w2 h2 => T.r3 w2 ((ha.mono (fun i hi _ => hi.2)).trans h2 (fun _ h _ => h)), fun w2 h2 => T.r4 w2 ((ha.mono (fun i hi _ => hi.2)).trans h2 (fun _ h _ => h))⟩
theorem forms_rd (l : List S26) (h : forms l = true) (j : Nat) (hj : j < l.length) : form (rd_T26 l j) = true := by
  induction l generalizing j with
  | nil => simp at hj
  | cons x l ih =>
    simp only [forms, Bool.and_eq_true] at h
    cases j with
    | zero => simpa [rd_T26] using h.1
    | succ j => simpa [rd_T26] using ih h.2 j (by simpa using hj)
theorem LI.elem {w0 W wx wr : World} {B : Nat} {V3 : Option Addr} {e3 : Nat} {V4 : Option Addr} {e4 : Nat} {ts : List S47} {bs : List S42} {k1 : Int} {nm1 : ByteArray} {n1 : Int} {b : Bool} {l : List S26} {j : Nat} {v : Value} (h : LI w0 W wx wr B V3 e3 V4 e4 ts bs k1 nm1 n1 b l j v) (_hs : W.heap.size + 2 ≤ wx.heap.size) (hB : B < wx.heap.size) (hB0 : W.heap.size + 2 ≤ B) (hn : w0.heap.size ≤ W.heap.size)
    {w5 : World} {n : Nat} (hn5 : wr.heap.size ≤ n) {y : S26} {D3 : Option Addr} {f3 : Nat} {D4 : Option Addr} {f4 : Nat} {D5 : Option Addr} {f5 : Nat} (hl : Lies (fun k => k < w0.heap.size ∨ n ≤ k) w5 y D3 f3 D4 f4 D5 f5) :
    ∀ w1, Agree (fun k => okR w0 W B k ∧ some k ≠ v.ownBlock) w5 w1 → k26.K w1 y [.int .i64 y.f0, .string y.f1, .int .i64 y.f2, .slice D3 y.f3.length f3, .slice D4 y.f4.length f4, .slice D5 y.f5.length f5] := fun w1 h1 => by
  have hsz := h.ag.1.size
  refine (hl w1 (h1.mono (fun i hi _ => ⟨⟨?_, ?_⟩, fun e => ?_⟩))).K
  · omega
  · omega
  · have := h.row.lt i e.symm
    omega
theorem row_ne {w0 W wx wr : World} {B : Nat} {V3 : Option Addr} {e3 : Nat} {V4 : Option Addr} {e4 : Nat} {ts : List S47} {bs : List S42} {k1 : Int} {nm1 : ByteArray} {n1 : Int} {b : Bool} {l : List S26} {j : Nat} {v : Value} (h : LI w0 W wx wr B V3 e3 V4 e4 ts bs k1 nm1 n1 b l j v) (hB : B < wx.heap.size) : some B ≠ v.ownBlock := fun e => by have := h.row.lt B e.symm; omega
theorem row_ne8 {w0 W wx wr : World} {B : Nat} {V3 : Option Addr} {e3 : Nat} {V4 : Option Addr} {e4 : Nat} {ts : List S47} {bs : List S42} {k1 : Int} {nm1 : ByteArray} {n1 : Int} {b : Bool} {l : List S26} {j : Nat} {v : Value} (h : LI w0 W wx wr B V3 e3 V4 e4 ts bs k1 nm1 n1 b l j v) : some wr.heap.size ≠ v.ownBlock := fun e => by have := h.row.lt _ e.symm; omega
theorem row_neW {w0 W wx wr : World} {B : Nat} {V3 : Option Addr} {e3 : Nat} {V4 : Option Addr} {e4 : Nat} {ts : List S47} {bs : List S42} {k1 : Int} {nm1 : ByteArray} {n1 : Int} {b : Bool} {l : List S26} {j : Nat} {v : Value} (h : LI w0 W wx wr B V3 e3 V4 e4 ts bs k1 nm1 n1 b l j v) (hs : W.heap.size + 2 ≤ wx.heap.size) : some W.heap.size ≠ v.ownBlock := fun e => by have := h.row.lt _ e.symm; omega
theorem info26 : (Tryd.prog.info? 26).map (fun i => (i.zero, i.size, i.bytes)) = some (some (.agg #[.int .i64 0, .string ⟨#[]⟩, .int .i64 0, .slice none 0 0, .slice none 0 0, .slice none 0 0]), 6, 104) := by kernel_rfl
theorem below_ad {n : Nat} {w0 wr : World} (h : Below n w0 wr) (hn : n ≤ wr.heap.size) (o : Obj) : Below n w0 (wr.alloc o).drew := below_drew (h.alloc hn o)
theorem results_cell26 {fn : Func} (h : fn.results = #[.cell 4 26]) (tmps : Array Value) (w : World) (B : Nat) {v0 v1 v2 v3 v4 v5 : Value} (hB : w.heap[B]? = some (.cells #[v0, v1, v2, v3, v4, v5] 26 (0, 0))) (ht : tmps[4]?.getD undef = .pointer (some ⟨B, 0, none⟩)) :
    (results fn tmps).run Tryd.prog w = .ok (.agg #[v0, v1, v2, v3, v4, v5]) w := by
  obtain ⟨b0, b1, b2, b3, b4, b5⟩ := six hB
  have hu26 := Tryd.underlying26
  simp [results, h, ht, loadVar, asAddr, go_sem, b0, b1, b2, b3, b4, b5]
theorem leaf_at (w : World) (k : Int) : At w (leaf k) none 0 none 0 none 0 := ⟨Nat.le_refl _, Kd.C_nil _ _, Nat.le_refl _, Kd.C_nil _ _, Nat.le_refl _, Kd.C_nil _ _⟩
theorem wanted_of {o : Oper} {l : Nat → Option Bool} (hgd : o.guard = none) : Region.wanted o l = true := by simp [Region.wanted, hgd]
end Go.Proofs.YtmlcaecknocpoaaDoor.It
namespace Go.Proofs.YtmlcaecknocpoaaDoor.It
open Go Go.RowKit Go.Shelf Go.Proofs.YtmlcaecknocpoaaDoorW.PrintWords Go.Proofs.YtmlcaecknocpoaaDoorW.PrintLast Go.Proofs.YtmlcaecknocpoaaDoor.Pr Go.Proofs.YtmlcaecknocpoaaDoor.Sp
open Go.ChangeMaps Go.MapKept Go.WideShapes
theorem key9 (s : ByteArray) (hs : s.size ≤ maxLen) : keyOf Tryd.prog 9 (.string s) = some (.string s.data.toList) := by
  have h9 := Tryd.underlying9
  simp [keyOf, mapKey, h9, hs]
theorem keyed9 : Maps.Keyed Tryd.prog 9 := Maps.string_keyed Tryd.underlying9
def cnt (l : List ByteArray) (s : ByteArray) : Nat := (l.filter fun x => decide (x = s)).length
theorem cnt_append (a b : List ByteArray) (s : ByteArray) : cnt (a ++ b) s = cnt a s + cnt b s := by simp [cnt]
theorem cnt_one (s : ByteArray) : cnt [s] s = 1 := by simp [cnt]
theorem cnt_other {s s' : ByteArray} (h : s' ≠ s) : cnt [s] s' = 0 := by simp [cnt, Ne.symm h]
theorem cnt_le (l : List ByteArray) (s : ByteArray) : cnt l s ≤ l.length := List.length_filter_le _ _
theorem cnt_zero (l : List ByteArray) (s : ByteArray) : cnt l s = 0 ↔ among l s = false := by
  simp [cnt, among, List.filter_eq_nil_iff]
def MapIs (w : World) (M n : Nat) (bl : List ByteArray) : Prop :=
  ∃ D : DataW Unit, w.ownsMap Tryd.prog 9 (plainElem Tryd.prog 3) M n D ∧ ∀ s : ByteArray, D.atKey (.string s.data.toList) (.lit (.int .i64 0)) = .lit (.int .i64 (cnt bl s))
theorem MapIs.look {w : World} {M n : Nat} {bl : List ByteArray} (h : MapIs w M n bl) (s : ByteArray) (hs : s.size ≤ maxLen) : (Instr.lookup 68 (.map (some M)) (.string s) false).run Tryd.prog w = .ok (.int .i64 (cnt bl s)) w := by
  obtain ⟨D, ho, hD⟩ := h
  obtain ⟨c, hrun, hat, _⟩ := ho.lookup_int keyed9 Tryd.underlying68 Tryd.underlying3 (by kernel_rfl) (key := .string s) (kl := .string s.data.toList) (key9 s hs)
  have e := (hD s).symm.trans hat
  have e2 : ((cnt bl s : Nat) : Int) = c := (Lit.int.inj (DataW.lit.inj e)).2
  rw [hrun, ← e2]
theorem MapIs.kept {w w1 : World} {M n : Nat} {bl : List ByteArray} (h : MapIs w M n bl) {row : Option Nat} (hg : w.grownBy w1 row) (hne : some M ≠ row) : MapIs w1 M n bl := by
  obtain ⟨D, ho, hD⟩ := h
  exact ⟨D, ho.kept hg hne, hD⟩
theorem MapIs.congr {w : World} {M n : Nat} {bl bl' : List ByteArray} (h : MapIs w M n bl) (hc : ∀ s, cnt bl' s = cnt bl s) : MapIs w M n bl' := by
  obtain ⟨D, ho, hD⟩ := h
  exact ⟨D, ho, fun s => by rw [hc s]; exact hD s⟩
theorem MapIs.put {w : World} {M n : Nat} {bl bl' : List ByteArray} (h : MapIs w M n bl) (hn : n < maxLen) (s : ByteArray) (hs : s.size ≤ maxLen) (hI : I64 (cnt bl' s : Nat)) (hc : ∀ s', s' ≠ s → cnt bl' s' = cnt bl s') :
    ∃ w1, (Instr.mapUpdate 68 (.map (some M)) (.string s) (.int .i64 (cnt bl' s))).run Tryd.prog w = .ok () w1 ∧ MapIs w1 M (n + 1) bl' ∧ w.grownBy w1 (some M) := by
  obtain ⟨D, ho, hD⟩ := h
  obtain ⟨w1, hrun, h1, h2⟩ := ho.update keyed9 Tryd.underlying68 hn (key9 s hs) (plainElem_int Tryd.underlying3 hI)
  refine ⟨w1, hrun, ⟨_, h1, fun s' => ?_⟩, h2⟩
  by_cases e : s' = s
  · subst e
    exact Maps.atKey_put_same ho.isMap (by simp [WideAt.IsKeyLit]) _ _
  · rw [Maps.atKey_put_other (fun he => e ?_), hD s', hc s' e]
    have he' := Lit.string.inj he
    cases s'; cases s
    simpa [Array.toList_inj] using he'
end Go.Proofs.YtmlcaecknocpoaaDoor.It
namespace Go.Proofs.YtmlcaecknocpoaaDoor.Pr
open Go.RowKit Go.Proofs.YtmlcaecknocpoaaDoorW.PrintWords Go.Proofs.YtmlcaecknocpoaaDoorW.PrintLast Go.Proofs.YtmlcaecknocpoaaDoorW.PrintMore
attribute [local go_sem] max2_int min2_int max_two min_two max_three min_three max_four min_four   
set_option linter.unusedVariables false
set_option linter.unusedSimpArgs false
def slices_Index_string_string.l0 : Nat → List ByteArray → ByteArray → Int → Int → Option (Int)
  | 0, _, _, _, _ => none
  | k + 1, x0, x1, x7, x8 => if x8 < x7 then (if 0 ≤ x8 then (if x8 < (x0.length : Int) then (if x1.toList = (rdOf ByteArray.empty x0 x8).toList then (some x8) else (slices_Index_string_string.l0 k x0 x1 x7 (wrap64 (x8 + 1)))) else (none)) else (none)) else (some (-1))
def slices_Index_string_string.f (k : Nat) (l0 : List ByteArray) (a1 : ByteArray) : Option (Int) := slices_Index_string_string.l0 k l0 a1 (l0.length : Int) 0
set_option maxHeartbeats 8000000 in
set_option maxRecDepth 100000 in
theorem slices_Index_string_string.calls (k : Nat) (A0 : Option Addr) (c0 : Nat) (l0 : List ByteArray) (a1 : ByteArray) (r : Int) (w : World) (hr0 : Kd.C Kd.string w A0 l0.length l0) (hc0 : l0.length ≤ c0) (h : slices_Index_string_string.f k l0 a1 = some r) :
    Calls Tryd.prog 92 #[.slice A0 l0.length c0, .string a1] w fun e w' => e = .returned (.int .i64 r) ∧ Drawn0 w w' := by
  have HR0 := Aside0.mk hr0
  have HC0 := Aside0.mk hc0
  clear hr0 hc0
  have H : (slices_Index_string_string.l0 k l0 a1 (l0.length : Int) 0) = some r := h
  clear h
  have H' := Aside0.mk H
  clear H
  go_enter Tryd.func92, Tryd.ntmps92
  go_wp2
  go_loopg [8] k (fun kq v8 w' => ∃ (x8_1 : Int), v8 = .int .i64 x8_1 ∧ Aside0 (slices_Index_string_string.l0 kq l0 a1 (l0.length : Int) x8_1 = some r) ∧ Aside0 (kq ≤ k) ∧ Drawn0 w w')
  case atStart => exact ⟨(0), (by first | rfl | (simp; done) | (simp [*]; done)), H', ⟨Nat.le_refl _⟩, by repeat (first | exact Drawn0.refl _ | apply Drawn0.step)⟩
  case round =>
    clear H'
    try clear p2
    obtain ⟨x8_1, rfl, HA, HK1, ⟨m1, rfl⟩⟩ := hrel
    cases gk with
    | zero => exact absurd HA.out (by simp [slices_Index_string_string.l0])
    | succ k1 =>
      have H := HA.out
      clear HA
      simp only [slices_Index_string_string.l0] at H
      by_cases c3 : x8_1 < (l0.length : Int)
      · rw [if_pos c3] at H
        have c3b0 : decide (x8_1 < (l0.length : Int)) = true := decide_eq_true c3
        clear c3
        by_cases c4 : 0 ≤ x8_1
        · rw [if_pos c4] at H
          have c4b0 : decide (0 ≤ x8_1) = true := decide_eq_true c4
          clear c4
          by_cases c5 : x8_1 < (l0.length : Int)
          · rw [if_pos c5] at H
            have c5b0 : decide (x8_1 < (l0.length : Int)) = true := decide_eq_true c5
            clear c5
            by_cases c6 : a1.toList = (rdOf ByteArray.empty l0 x8_1).toList
            · rw [if_pos c6] at H
              have c6b0 : (a1.toList == (rdOf ByteArray.empty l0 x8_1).toList) = true := beq_iff_eq.mpr c6
              have c6b1 : (a1.toList != (rdOf ByteArray.empty l0 x8_1).toList) = false := bne_eq_false_iff_eq.mpr c6
              clear c6
              obtain rfl := Option.some.inj H
              have p190 : 0 ≤ (x8_1 : Int) := of_decide_eq_true (by first | (with_reducible assumption) | assumption)
              have q190 : x8_1 < (l0.length : Int) := of_decide_eq_true (by first | (with_reducible assumption) | assumption)
              obtain ⟨ad190, e190, hx190_0⟩ := Kd.at_string HR0.out x8_1 p190 q190
              cases e190
              replace p190 := eq_true p190
              replace q190 := eq_true q190
              go_wp2
              go_ret
              exact ⟨by first | rfl | (simp; done) | (simp [*]; done), by repeat (first | exact Drawn0.refl _ | apply Drawn0.step)⟩
            · rw [if_neg c6] at H
              have c6b0 : (a1.toList == (rdOf ByteArray.empty l0 x8_1).toList) = false := beq_eq_false_iff_ne.mpr c6
              have c6b1 : (a1.toList != (rdOf ByteArray.empty l0 x8_1).toList) = true := bne_iff_ne.mpr c6
              have H' := Aside0.mk H
              clear H
              have p190 : 0 ≤ (x8_1 : Int) := of_decide_eq_true (by first | (with_reducible assumption) | assumption)
              have q190 : x8_1 < (l0.length : Int) := of_decide_eq_true (by first | (with_reducible assumption) | assumption)
              obtain ⟨ad190, e190, hx190_0⟩ := Kd.at_string HR0.out x8_1 p190 q190
              cases e190
              replace p190 := eq_true p190
              replace q190 := eq_true q190
              go_wp2
              go_roundg k1
              case measure => have := HK1.out; omega
              case rel => exact ⟨(wrap64 (x8_1 + 1)), (by first | rfl | (simp; done) | (simp [*]; done)), H', ⟨by have := HK1.out; omega⟩, by repeat (first | exact Drawn0.refl _ | apply Drawn0.step)⟩
          · rw [if_neg c5] at H
            exact absurd H (by simp)
        · rw [if_neg c4] at H
          exact absurd H (by simp)
      · rw [if_neg c3] at H
        have c3b0 : decide (x8_1 < (l0.length : Int)) = false := decide_eq_false c3
        clear c3
        obtain rfl := Option.some.inj H
        go_wp2
        go_ret
        exact ⟨by first | rfl | (simp; done) | (simp [*]; done), by repeat (first | exact Drawn0.refl _ | apply Drawn0.step)⟩
end Go.Proofs.YtmlcaecknocpoaaDoor.Pr
namespace Go.Proofs.YtmlcaecknocpoaaDoor.Pr
open Go.RowKit Go.Proofs.YtmlcaecknocpoaaDoorW.PrintWords Go.Proofs.YtmlcaecknocpoaaDoorW.PrintLast Go.Proofs.YtmlcaecknocpoaaDoorW.PrintMore
attribute [local go_sem] max2_int min2_int max_two min_two max_three min_three max_four min_four   
set_option linter.unusedVariables false
set_option linter.unusedSimpArgs false
def slices_Contains_string_string.f (k : Nat) (l0 : List ByteArray) (a1 : ByteArray) : Option (Bool) := (slices_Index_string_string.f k l0 a1).bind fun t191 => (some (decide (t191 ≥ 0)))
set_option maxHeartbeats 8000000 in
set_option maxRecDepth 100000 in
theorem slices_Contains_string_string.calls (k : Nat) (A0 : Option Addr) (c0 : Nat) (l0 : List ByteArray) (a1 : ByteArray) (r : Bool) (w : World) (hr0 : Kd.C Kd.string w A0 l0.length l0) (hc0 : l0.length ≤ c0) (h : slices_Contains_string_string.f k l0 a1 = some r) :
    Calls Tryd.prog 56 #[.slice A0 l0.length c0, .string a1] w fun e w' => e = .returned (.bool r) ∧ Drawn0 w w' := by
  have HR0 := Aside0.mk hr0
  have HC0 := Aside0.mk hc0
  clear hr0 hc0
  have H : ((slices_Index_string_string.f k l0 a1).bind fun t191 => (some (decide (t191 ≥ 0)))) = some r := h
  clear h
  replace H := Option.bind_eq_some_iff.mp H
  obtain ⟨t191, A30, H⟩ := H
  replace H : (some (decide (t191 ≥ 0))) = some r := H
  have A3 := Aside0.mk A30
  clear A30
  obtain rfl := Option.some.inj H
  go_enter Tryd.func56, Tryd.ntmps56
  go_wp2_with (first | ((with_reducible refine gate_callee (f := 92) rfl ?_); refine goesL_ (some 7) rfl rfl Tryd.func92 (by kernel_rfl) rfl #[.slice A0 l0.length c0, .string a1] rfl (by (try simp only [List.map_toArray, List.map_cons, List.map_nil]); first | done | rfl | (simp only [List.length_drop, List.length_take]; rfl)) ?_; (with_reducible refine (slices_Index_string_string.calls k _ _ l0 a1 t191 _ ?side1 ?side2 A3.out).mono ?_); (case side1 => repeat (first | exact HR0.out | (with_reducible refine Kd.C_alloc ?_ _) | (with_reducible refine Kd.C_drewN ?_ _) | (with_reducible refine Kd.C_drew ?_))); (case side2 => exact HC0.out); rintro e w' ⟨rfl, ⟨nd, rfl⟩⟩; refine ⟨_, rfl, ?_⟩))
  go_ret
  exact ⟨by first | rfl | (simp; done) | (simp [*]; done), by repeat (first | exact Drawn0.refl _ | apply Drawn0.step)⟩
end Go.Proofs.YtmlcaecknocpoaaDoor.Pr
namespace Go.Proofs.YtmlcaecknocpoaaDoor.It
open Go Go.RowKit Go.Shelf Go.Proofs.YtmlcaecknocpoaaDoorW.PrintWords Go.Proofs.YtmlcaecknocpoaaDoorW.PrintLast Go.Proofs.YtmlcaecknocpoaaDoor.Pr Go.Proofs.YtmlcaecknocpoaaDoor.Sp
mutual
def nb : S26 → Nat
  | ⟨_, _, _, _, bs, l⟩ => bs.length + nbs l
def nbs : List S26 → Nat
  | [] => 0
  | x :: l => nb x + nbs l
end
mutual
def nt : S26 → Nat
  | ⟨_, _, _, ts, _, l⟩ => ts.length + nts l
def nts : List S26 → Nat
  | [] => 0
  | x :: l => nt x + nts l
end
theorem addAll_length (B out a : List ByteArray) : (addAll B out a).length ≤ out.length + a.length := by
  induction a generalizing out with
  | nil => simp [addAll]
  | cons s a ih =>
    simp only [addAll]
    split
    · have := ih out; simp; omega
    · have := ih (out ++ [s]); simp at this ⊢; omega
theorem names_length (ts : List S47) : (names ts).length ≤ ts.length := by
  unfold names
  rw [List.length_map]
  exact List.length_filter_le _ _
mutual
theorem gath_length (bl out : List ByteArray) : ∀ x : S26, (gath bl out x).length ≤ out.length + nt x
  | ⟨_, _, _, ts, bs, l⟩ => by
    rw [gath, nt]
    have h1 := gaths_length (bl ++ bs.map (·.f0)) (addAll (bl ++ bs.map (·.f0)) out (names ts)) l
    have h2 := addAll_length (bl ++ bs.map (·.f0)) out (names ts)
    have h3 := names_length ts
    omega
theorem gaths_length (bl out : List ByteArray) : ∀ l : List S26, (gaths bl out l).length ≤ out.length + nts l
  | [] => by simp [gaths, nts]
  | x :: l => by
    rw [gaths, nts]
    have h1 := gaths_length bl (gath bl out x) l
    have h2 := gath_length bl out x
    omega
end
structure FS (w0 W : World) (Bm Bo Bl M n : Nat) (bl out : List ByteArray) (v : Value) : Prop where
  bm : W.heap[Bm]? = some (.cells #[.map (some M)] 68 (0, 0))
  bo : W.heap[Bo]? = some (.cells #[v] 32 (0, 0))
  bf : W.heap[Bl]? = some (.cells #[.func (.func 55) #[] #[.pointer (some ⟨Bm, 0, none⟩), .pointer (some ⟨Bo, 0, none⟩), .pointer (some ⟨Bl, 0, none⟩)]] 69 (0, 0))
  map : MapIs W M n bl
  row : Kd.R Kd.string 9 W w0.heap.size (fun _ => True) v out
  h0 : Below w0.heap.size w0 W
  gM : w0.heap.size ≤ M
  gO : w0.heap.size ≤ Bo
theorem MapIs.obj {w : World} {M n : Nat} {bl : List ByteArray} (h : MapIs w M n bl) : ∃ es c, w.heap[M]? = some (.map es c) := by
  obtain ⟨D, ⟨es, c, h, _⟩, _⟩ := h
  exact ⟨es, c, h⟩
theorem MapIs.ne {w : World} {M n : Nat} {bl : List ByteArray} (h : MapIs w M n bl) {B : Nat} {cs : Array Value} {t : TypeId} (hB : w.heap[B]? = some (.cells cs t (0, 0))) : B ≠ M := by
  rintro rfl
  obtain ⟨es, c, h⟩ := h.obj
  rw [h] at hB
  cases hB
theorem own_cells {w : World} {base : Nat} {v : Value} {out : List ByteArray} (h : Kd.R Kd.string 9 w base (fun _ => True) v out) (k : Nat) (hk : v.ownBlock = some k) : base ≤ k ∧ ∃ cs, w.heap[k]? = some (.cells cs 9 (0, 0)) := by
  obtain ⟨inner, ho⟩ := Kd.R_own h
  exact ⟨(own_lt ho k hk).2, own_typed ho k hk⟩
theorem FS.up {w0 W W1 : World} {Bm Bo Bl M n : Nat} {bl out : List ByteArray} {v : Value} (h : FS w0 W Bm Bo Bl M n bl out v) (g : Below W.heap.size W W1) : FS w0 W1 Bm Bo Bl M n bl out v := by
  have hg : W.grownBy W1 none := ⟨g.os, g.tape, g.output, g.size, fun k hk _ => g.block k hk⟩
  exact ⟨blk_below g h.bm, blk_below g h.bo, blk_below g h.bf, h.map.kept hg (by simp), Kd.R_below h.row g, h.h0.trans (g.mono h.h0.size), h.gM, h.gO⟩
theorem FS.mapped {w0 W W1 : World} {Bm Bo Bl M n n' : Nat} {bl bl' out : List ByteArray} {v : Value} (h : FS w0 W Bm Bo Bl M n bl out v) (g : W.grownBy W1 (some M)) (hm : MapIs W1 M n' bl') : FS w0 W1 Bm Bo Bl M n' bl' out v := by
  have keep : ∀ {B : Nat} {cs : Array Value} {t : TypeId}, W.heap[B]? = some (.cells cs t (0, 0)) → W1.heap[B]? = some (.cells cs t (0, 0)) := fun {B cs t} hB =>
    (g.block B (Array.getElem?_eq_some_iff.1 hB).1 (fun e => h.map.ne hB (by injection e))).trans hB
  refine ⟨keep h.bm, keep h.bo, keep h.bf, hm, ?_, ?_, h.gM, h.gO⟩
  · obtain ⟨es, c, hM⟩ := h.map.obj
    refine Kd.R_mono (Kd.R_grown (Kd.R_bound h.row) g (fun k hk e => ?_)) (fun _ _ => trivial)
    obtain ⟨_, _, _, q, _, cells, hc⟩ := hk
    have : k = M := by injection e
    subst this
    rw [hM] at hc
    cases hc
  · refine ⟨g.os.trans h.h0.os, g.tape.trans h.h0.tape, g.output.trans h.h0.output, Nat.le_trans h.h0.size g.size, fun k hk => (g.block k (Nat.lt_of_lt_of_le hk h.h0.size) (fun e => ?_)).trans (h.h0.block k hk)⟩
    have : k = M := by injection e
    have := h.gM
    omega
theorem MapIs.setCell {w : World} {M n : Nat} {bl : List ByteArray} (h : MapIs w M n bl) {a : Addr} (ha : M ≠ a.block) (u : Value) : MapIs (w.setCell a u) M n bl := by
  obtain ⟨D, ho, hD⟩ := h
  exact ⟨D, ho.setCell ha u, hD⟩
theorem FS.gathered {w0 W W1 : World} {Bm Bo Bl M n : Nat} {bl out out' : List ByteArray} {v v1 : Value} (h : FS w0 W Bm Bo Bl M n bl out v) (ho : Kd.R Kd.string 9 W1 w0.heap.size (fun _ => True) v1 out') (hb : Below w0.heap.size W W1) (hg : W.grownBy W1 v.ownBlock) :
    FS w0 (W1.setCell ⟨Bo, 0, none⟩ v1) Bm Bo Bl M n bl out' v1 := by
  have keep : ∀ {B : Nat} {cs : Array Value} {t : TypeId}, 9 ≠ t → W.heap[B]? = some (.cells cs t (0, 0)) → W1.heap[B]? = some (.cells cs t (0, 0)) := fun {B cs t} ht hB =>
    (hg.block B (Array.getElem?_eq_some_iff.1 hB).1 (Kd.R_ne h.row hB ht)).trans hB
  have hM : some M ≠ v.ownBlock := fun e => by
    obtain ⟨es, c, hM⟩ := h.map.obj
    obtain ⟨_, cs, hc⟩ := own_cells h.row M e.symm
    rw [hM] at hc
    cases hc
  have bm := keep (by decide) h.bm
  have bo := keep (by decide) h.bo
  have bf := keep (by decide) h.bf
  have far : ∀ {B : Nat} {cs : Array Value} {t : TypeId}, t ≠ 32 → W1.heap[B]? = some (.cells cs t (0, 0)) → (W1.setCell ⟨Bo, 0, none⟩ v1).heap[B]? = some (.cells cs t (0, 0)) := fun {B cs t} ht hB =>
    (Below.heap_setCell _ _ _ _ (blk_ne hB bo ht)).trans hB
  exact ⟨far (by decide) bm, (set_one bo 0 v1).trans rfl, far (by decide) bf, (h.map.kept hg hM).setCell (h.map.ne h.bo).symm v1, Kd.R_set ho bo (by decide) 0 v1, (h.h0.trans hb).setCell h.gO v1, h.gM, h.gO⟩
end Go.Proofs.YtmlcaecknocpoaaDoor.It
namespace Go.Proofs.YtmlcaecknocpoaaDoor.It
open Go Go.RowKit Go.Shelf Go.Proofs.YtmlcaecknocpoaaDoorW.PrintWords Go.Proofs.YtmlcaecknocpoaaDoorW.PrintLast Go.Proofs.YtmlcaecknocpoaaDoor.Pr Go.Proofs.YtmlcaecknocpoaaDoor.Sp
theorem rdS (l : List ByteArray) (j : Nat) : rdOf ByteArray.empty l (j : Int) = l.getD j ByteArray.empty := by simp [rdOf]
theorem contains_ev (l : List ByteArray) (s : ByteArray) (hl : l.length ≤ 9223372036854775807) : Ev (fun k => slices_Contains_string_string.f k l s) (among l s) := by
  have loop : ∀ d j : Nat, j + d = l.length → ∃ r : Int, Ev (fun k => slices_Index_string_string.l0 k l s (l.length : Int) (j : Int)) r ∧ decide (r ≥ 0) = among (l.drop j) s := by
    intro d
    induction d with
    | zero =>
      intro j hj
      refine ⟨-1, Ev.step (f := fun _ => some (-1)) (fun k => ?_) (Ev.now _), ?_⟩
      · simp only [slices_Index_string_string.l0]
        rw [if_neg (by omega)]
      · rw [List.drop_of_length_le (by omega)]
        rfl
    | succ d ih =>
      intro j hj
      by_cases e : s = l.getD j ByteArray.empty
      · refine ⟨(j : Int), Ev.step (f := fun _ => some (j : Int)) (fun k => ?_) (Ev.now _), ?_⟩
        · simp only [slices_Index_string_string.l0]
          rw [if_pos (by omega), if_pos (by omega), if_pos (by omega), if_pos (by rw [rdS, ← e])]
        · rw [drop_cons l ByteArray.empty j (by omega), ← e]
          simp [among]
      · obtain ⟨r, hr, hd⟩ := ih (j + 1) (by omega)
        refine ⟨r, Ev.step (f := fun k => slices_Index_string_string.l0 k l s (l.length : Int) ((j + 1 : Nat) : Int)) (fun k => ?_) hr, ?_⟩
        · simp only [slices_Index_string_string.l0]
          rw [if_pos (by omega), if_pos (by omega), if_pos (by omega), if_neg (by rw [rdS, toList_inj]; exact e), wrap_up j (by omega)]
        · rw [hd, drop_cons l ByteArray.empty j (by omega)]
          have e' : ¬ l.getD j ByteArray.empty = s := fun h => e h.symm
          simp only [among, List.any_cons, decide_eq_false e', Bool.false_or]
  obtain ⟨r, hr, hd⟩ := loop l.length 0 (by omega)
  refine Ev.bind (f := fun _ t => some (decide (t ≥ 0))) (a := r) hr ?_
  rw [show among l s = decide (r ≥ 0) by rw [hd]; rfl]
  exact Ev.now _
theorem contains_calls (l : List ByteArray) (s : ByteArray) (A : Option Addr) (c : Nat) (w : World) (hr : Kd.C Kd.string w A l.length l) (hc : l.length ≤ c) :
    Calls Tryd.prog 56 #[.slice A l.length c, .string s] w fun e w' => e = .returned (.bool (among l s)) ∧ Below w.heap.size w w' := by
  obtain ⟨k, hk⟩ := (contains_ev l s hr.2.1).rounds
  exact (slices_Contains_string_string.calls k _ _ _ _ _ _ hr hc hk).mono fun e w' h => ⟨h.1, h.2.below⟩
end Go.Proofs.YtmlcaecknocpoaaDoor.It
namespace Go.Proofs.YtmlcaecknocpoaaDoor.It
open Go Go.RowKit Go.Shelf Go.Proofs.YtmlcaecknocpoaaDoorW.PrintWords Go.Proofs.YtmlcaecknocpoaaDoorW.PrintLast Go.Proofs.YtmlcaecknocpoaaDoor.Pr Go.Proofs.YtmlcaecknocpoaaDoor.Sp
def Kept26 (W w : World) : Prop := ∀ (B : Nat) (cs : Array Value), W.heap[B]? = some (.cells cs 26 (0, 0)) → w.heap[B]? = some (.cells cs 26 (0, 0))
theorem Kept26.refl (W : World) : Kept26 W W := fun _ _ h => h
theorem Kept26.below {W w w1 : World} (h : Kept26 W w) (g : Below w.heap.size w w1) : Kept26 W w1 := fun B cs hB => blk_below g (h B cs hB)
theorem Kept26.trans {W w w1 : World} (h : Kept26 W w) (g : Kept26 w w1) : Kept26 W w1 := fun B cs hB => g B cs (h B cs hB)
theorem Kept26.map {W w w1 : World} {M n : Nat} {bl : List ByteArray} (h : Kept26 W w) (hm : MapIs w M n bl) (g : w.grownBy w1 (some M)) : Kept26 W w1 := fun B cs hB =>
  (g.block B (Array.getElem?_eq_some_iff.1 (h B cs hB)).1 (fun e => hm.ne (h B cs hB) (by injection e))).trans (h B cs hB)
theorem Kept26.app {W w w1 : World} {base Bo : Nat} {ok : Nat → Prop} {out : List ByteArray} {v v0 v1 : Value} (h : Kept26 W w) (row : Kd.R Kd.string 9 w base ok v out) (bo : w1.heap[Bo]? = some (.cells #[v0] 32 (0, 0))) (g : w.grownBy w1 v.ownBlock) : Kept26 W (w1.setCell ⟨Bo, 0, none⟩ v1) := fun B cs hB => by
  have h1 : w1.heap[B]? = some (.cells cs 26 (0, 0)) := (g.block B (Array.getElem?_eq_some_iff.1 (h B cs hB)).1 (Kd.R_ne row (h B cs hB) (by decide))).trans (h B cs hB)
  exact (Below.heap_setCell _ _ _ _ (blk_ne h1 bo (by decide))).trans h1
def BoxAt (W w : World) (k : Int) (nm : ByteArray) (nn : Int) (ts : List S47) (bs : List S42) (l : List S26) (A3 : Option Addr) (c3 : Nat) (A4 : Option Addr) (c4 : Nat) (A5 : Option Addr) (c5 : Nat) : Prop :=
  Kept26 (W.alloc (.cells #[.int .i64 k, .string nm, .int .i64 nn, .slice A3 ts.length c3, .slice A4 bs.length c4, .slice A5 l.length c5] 26)) w
theorem BoxAt.box {W w : World} {k : Int} {nm : ByteArray} {nn : Int} {ts : List S47} {bs : List S42} {l : List S26} {A3 : Option Addr} {c3 : Nat} {A4 : Option Addr} {c4 : Nat} {A5 : Option Addr} {c5 : Nat} (h : BoxAt W w k nm nn ts bs l A3 c3 A4 c4 A5 c5) :
    w.heap[W.heap.size]? = some (.cells #[.int .i64 k, .string nm, .int .i64 nn, .slice A3 ts.length c3, .slice A4 bs.length c4, .slice A5 l.length c5] 26 (0, 0)) := h _ _ (heap_new W _)
theorem BoxAt.kept {W w : World} {k : Int} {nm : ByteArray} {nn : Int} {ts : List S47} {bs : List S42} {l : List S26} {A3 : Option Addr} {c3 : Nat} {A4 : Option Addr} {c4 : Nat} {A5 : Option Addr} {c5 : Nat} (h : BoxAt W w k nm nn ts bs l A3 c3 A4 c4 A5 c5) : Kept26 W w :=
  ((Kept26.refl W).below ((Below.refl _ W).alloc (Nat.le_refl _) _)).trans h
theorem take_names (bl : List ByteArray) (bs : List S42) (j : Nat) (hj : j < bs.length) : bl ++ (bs.take (j + 1)).map (·.f0) = (bl ++ (bs.take j).map (·.f0)) ++ [(rd_T42 bs j).f0] := by
  rw [List.take_succ_eq_append_getElem hj, List.map_append, ← List.append_assoc]
  simp [rd_T42, List.getD, hj]
theorem i64_nat (n : Nat) (h : n ≤ 4000000) : I64 (n : Nat) := by
  have h1 : IntKind.i64.min = -9223372036854775808 := rfl
  have h2 : IntKind.i64.max = 9223372036854775807 := rfl
  unfold I64 Lit.wf
  simp [h1, h2]
  omega
theorem FS.bind_up {w0 W : World} {Bm Bo Bl M n : Nat} {bl out : List ByteArray} {v : Value} (h : FS w0 W Bm Bo Bl M n bl out v) (hn : n ≤ 2000000) (hbl : bl.length ≤ 2000000) (s : ByteArray) (hs : s.size ≤ maxLen) :
    (Instr.lookup 68 (.map (some M)) (.string s) false).run Tryd.prog W = .ok (.int .i64 (cnt bl s)) W ∧
    ∃ w1, (Instr.mapUpdate 68 (.map (some M)) (.string s) (.int .i64 ((cnt bl s : Int) + 1))).run Tryd.prog W = .ok () w1 ∧ W.grownBy w1 (some M) ∧ FS w0 w1 Bm Bo Bl M (n + 1) (bl ++ [s]) out v := by
  have hc : cnt (bl ++ [s]) s = cnt bl s + 1 := by rw [cnt_append, cnt_one]
  have hle := cnt_le bl s
  obtain ⟨w1, hrun, hm, hg⟩ := h.map.put (bl' := bl ++ [s]) (by simp [maxLen]; omega) s hs (i64_nat _ (by rw [hc]; omega)) (fun s' he => by rw [cnt_append, cnt_other he]; rfl)
  refine ⟨h.map.look s hs, w1, ?_, hg, h.mapped hg hm⟩
  rw [hc] at hrun
  simpa using hrun
theorem FS.bind_down {w0 W : World} {Bm Bo Bl M n : Nat} {bl bl' out : List ByteArray} {v : Value} (h : FS w0 W Bm Bo Bl M n bl out v) (hn : n ≤ 4000000) (hbl : bl'.length ≤ 2000000) (s : ByteArray) (hs : s.size ≤ maxLen) (hc : cnt bl s = cnt bl' s + 1 ∧ ∀ s', s' ≠ s → cnt bl' s' = cnt bl s') :
    (Instr.lookup 68 (.map (some M)) (.string s) false).run Tryd.prog W = .ok (.int .i64 ((cnt bl' s : Int) + 1)) W ∧
    ∃ w1, (Instr.mapUpdate 68 (.map (some M)) (.string s) (.int .i64 (cnt bl' s : Int))).run Tryd.prog W = .ok () w1 ∧ W.grownBy w1 (some M) ∧ FS w0 w1 Bm Bo Bl M (n + 1) bl' out v := by
  have hle := cnt_le bl' s
  obtain ⟨w1, hrun, hm, hg⟩ := h.map.put (bl' := bl') (by simp [maxLen]; omega) s hs (i64_nat _ (by omega)) hc.2
  have hl := h.map.look s hs
  rw [hc.1] at hl
  exact ⟨by simpa using hl, w1, hrun, hg, h.mapped hg hm⟩
theorem drop_names (bl : List ByteArray) (bs : List S42) (j : Nat) (hj : j < bs.length) : (cnt (bl ++ (bs.drop j).map (·.f0)) (rd_T42 bs j).f0 = cnt (bl ++ (bs.drop (j + 1)).map (·.f0)) (rd_T42 bs j).f0 + 1) ∧ ∀ s', s' ≠ (rd_T42 bs j).f0 → cnt (bl ++ (bs.drop (j + 1)).map (·.f0)) s' = cnt (bl ++ (bs.drop j).map (·.f0)) s' := by
  have e : bs.drop j = rd_T42 bs j :: bs.drop (j + 1) := by
    rw [List.drop_eq_getElem_cons hj]
    simp [rd_T42, List.getD, hj]
  rw [e, List.map_cons]
  have c : ∀ (a : ByteArray) (l : List ByteArray) (s : ByteArray), cnt (a :: l) s = cnt [a] s + cnt l s := fun a l s => cnt_append [a] l s
  refine ⟨?_, fun s' hs' => ?_⟩
  · rw [cnt_append, cnt_append, c, cnt_one]; omega
  · rw [cnt_append, cnt_append, c, cnt_other hs']; omega
theorem names_take (ts : List S47) (j : Nat) (hj : j < ts.length) : names (ts.take (j + 1)) = names (ts.take j) ++ (if (rd_T47 ts j).f0 = 1 then [] else [(rd_T47 ts j).f1]) := by
  rw [List.take_succ_eq_append_getElem hj]
  have e : ts[j] = rd_T47 ts j := by simp [rd_T47, List.getD, hj]
  rw [e]
  unfold names
  rw [List.filter_append, List.map_append]
  congr 1
  by_cases h : (rd_T47 ts j).f0 = 1 <;> simp [h]
theorem gaths_take (BL out : List ByteArray) (l : List S26) (j : Nat) (hj : j < l.length) : gaths BL out (l.take (j + 1)) = gath BL (gaths BL out (l.take j)) (rd_T26 l j) := by
  induction l generalizing j out with
  | nil => simp at hj
  | cons x l ih =>
    cases j with
    | zero => simp [gaths, rd_T26]
    | succ j =>
      have e : rd_T26 (x :: l) ((j + 1 : Nat) : Int) = rd_T26 l j := by simp [rd_T26]
      rw [e]
      simp only [List.take_succ_cons, gaths]
      exact ih _ j (by simpa using hj)
theorem nbs_take (l : List S26) (j : Nat) (hj : j < l.length) : nbs (l.take (j + 1)) = nbs (l.take j) + nb (rd_T26 l j) ∧ nbs (l.take (j + 1)) ≤ nbs l := by
  induction l generalizing j with
  | nil => simp at hj
  | cons x l ih =>
    cases j with
    | zero => simp [nbs, rd_T26]
    | succ j =>
      have e : rd_T26 (x :: l) ((j + 1 : Nat) : Int) = rd_T26 l j := by simp [rd_T26]
      have := ih j (by simpa using hj)
      rw [e]
      simp only [List.take_succ_cons, nbs]
      omega
theorem nts_take (l : List S26) (j : Nat) (hj : j < l.length) : nts (l.take (j + 1)) = nts (l.take j) + nt (rd_T26 l j) ∧ nts (l.take (j + 1)) ≤ nts l := by
  induction l generalizing j with
  | nil => simp at hj
  | cons x l ih =>
    cases j with
    | zero => simp [nts, rd_T26]
    | succ j =>
      have e : rd_T26 (x :: l) ((j + 1 : Nat) : Int) = rd_T26 l j := by simp [rd_T26]
      have := ih j (by simpa using hj)
      rw [e]
      simp only [List.take_succ_cons, nts]
      omega
theorem enters55 : ∀ args w, (callFunc 55 args).run Tryd.prog w = .ok (.enter 55 args) w := enters_of Tryd.func55 (by kernel_rfl) rfl
theorem snoc_len (O : List ByteArray) (s : ByteArray) : (O ++ [s]).length = O.length + 1 := by simp
def FreeOk (s : Nat) : Prop := ∀ (x : S26) (A3 : Option Addr) (c3 : Nat) (A4 : Option Addr) (c4 : Nat) (A5 : Option Addr) (c5 : Nat) (w0 W : World) (Bm Bo Bl M n : Nat) (bl out : List ByteArray) (v : Value),
  size x ≤ s → At w0 x A3 c3 A4 c4 A5 c5 → Deep x → FS w0 W Bm Bo Bl M n bl out v → n + 2 * nb x ≤ 1000000 → bl.length + nb x ≤ 1000000 → out.length + nt x ≤ 1000000 →
  Calls Tryd.prog 55 #[.agg #[.int .i64 x.f0, .string x.f1, .int .i64 x.f2, .slice A3 x.f3.length c3, .slice A4 x.f4.length c4, .slice A5 x.f5.length c5], .pointer (some ⟨Bm, 0, none⟩), .pointer (some ⟨Bo, 0, none⟩), .pointer (some ⟨Bl, 0, none⟩)] W fun e W' =>
    (∃ r, e = .returned r) ∧ Kept26 W W' ∧ ∃ v' n', n' ≤ n + 2 * nb x ∧ FS w0 W' Bm Bo Bl M n' bl (gath bl out x) v'
set_option maxRecDepth 100000 in
set_option maxHeartbeats 8000000 in
theorem free_step (s : Nat) (hS : FreeOk s) : FreeOk (s + 1) := by
  rintro ⟨k, nm, nn, ts, bs, l⟩ A3 c3 A4 c4 A5 c5 w0 W Bm Bo Bl M n bl out v hs hat hdp hF hn hbl hout
  have hu26 := Tryd.underlying26
  have hu42 := Tryd.underlying42
  have hu47 := Tryd.underlying47
  have hl4 : bs.length ≤ 1000000 := by simp only [nb] at hbl; omega
  have hl3 : ts.length ≤ 1000000 := by simp only [nt] at hout; omega
  have hl5 : l.length ≤ 9223372036854775807 := hat.g5.2.1
  have H := Aside0.mk (And.intro hS (And.intro hs (And.intro hat (And.intro hdp (And.intro hF (And.intro hn (And.intro hbl hout)))))))
  clear hS hs hat hdp hF hn hbl hout
  go_enter Tryd.func55, Tryd.ntmps55
  go_wp2_with fail
  have F1 := Aside0.mk (And.intro (H.out.2.2.2.2.1.up ((Below.refl W.heap.size W).alloc (Nat.le_refl _) (.cells #[.int .i64 k, .string nm, .int .i64 nn, .slice A3 ts.length c3, .slice A4 bs.length c4, .slice A5 l.length c5] 26))) (Kept26.refl _ : BoxAt W _ k nm nn ts bs l A3 c3 A4 c4 A5 c5))
  go_loopg [6, 16] bs.length (fun gg _ s16 wr => ∃ j : Nat, j ≤ bs.length ∧ bs.length - j ≤ gg ∧ s16 = .int .i64 j ∧ Aside0 (FS w0 wr Bm Bo Bl M (n + j) (bl ++ (bs.take j).map (·.f0)) out v ∧ BoxAt W wr k nm nn ts bs l A3 c3 A4 c4 A5 c5))
  case atStart => exact ⟨0, Nat.zero_le _, by omega, rfl, ⟨by simpa using F1.out.1, F1.out.2⟩⟩
  case round =>
    obtain ⟨j, hj, hg, rfl, HJ⟩ := hrel
    by_cases hlt : j < bs.length
    · have hltz : (j : Int) < (bs.length : Int) := by omega
      obtain ⟨ad, rfl, x0, x1⟩ := bindAt H.out.2.2.1.g4 HJ.out.1.h0 j hlt
      obtain ⟨b, hb⟩ : ∃ b, rd_T42 bs j = b := ⟨_, rfl⟩
      rw [hb] at x0 x1
      have up := (Below.refl wr.heap.size wr).alloc (Nat.le_refl _) (.cells #[.string b.f0, .int .i64 b.f1] 42)
      have FU := HJ.out.1.up up
      have hbm := (blk_cell FU.bm 0).trans rfl
      have hsz : b.f0.size ≤ maxLen := by rw [← hb]; exact H.out.2.2.2.1.self.bs _ (rd42_mem bs j hlt)
      have hq := H.out
      simp only [nb] at hq
      obtain ⟨hlook, w1, hput, hg1, FN⟩ := FU.bind_up (by omega) (by simp; omega) b.f0 hsz
      obtain ⟨q, hcq⟩ : ∃ q, cnt (bl ++ (bs.take j).map (·.f0)) b.f0 = q := ⟨_, rfl⟩
      have hqle : q ≤ 2000000 := by rw [← hcq]; exact Nat.le_trans (cnt_le _ _) (by simp; omega)
      rw [hcq] at hlook hput
      clear hcq
      have FN' := Aside0.mk FN
      have hg1' := Aside0.mk hg1
      have hbx := Aside0.mk (show BoxAt W w1 k nm nn ts bs l A3 c3 (some ad) c4 A5 c5 from (HJ.out.2.below up).map FU.map hg1)
      replace hb := Aside0.mk hb
      clear hq FN hg1 FU up hsz
      go_wp2_with fail
      go_roundg (bs.length - (j + 1))
      case measure => omega
      case rel => exact ⟨j + 1, by omega, by omega, by go_num, ⟨by rw [take_names bl bs j hlt, hb.out]; exact FN'.out, hbx.out⟩⟩
    · have hltz : ¬ (j : Int) < (bs.length : Int) := by omega
      have he : j = bs.length := by omega
      have HE := Aside0.mk he
      clear he hj
      obtain ⟨q0, q1, q2, q3, q4, q5⟩ := six HJ.out.2.box
      go_wp2_with fail
      have HL := Aside0.mk (And.intro HJ.out.1 HE.out)
      obtain ⟨BL, hBL⟩ : ∃ BL, bl ++ bs.map (·.f0) = BL := ⟨_, rfl⟩
      obtain ⟨n1, hn1⟩ : ∃ n1, n + bs.length = n1 := ⟨_, rfl⟩
      have F2 : FS w0 wr Bm Bo Bl M n1 BL out v := by
        have h := HL.out.1
        rw [HL.out.2, List.take_length, hBL, hn1] at h
        exact h
      have F2' := Aside0.mk (And.intro F2 HJ.out.2)
      replace hBL := Aside0.mk hBL
      replace hn1 := Aside0.mk hn1
      clear HL HE F2
      rename_i wr1
      go_loopg [8, 29] ts.length (fun gg _ s29 wr => ∃ j : Nat, j ≤ ts.length ∧ ts.length - j ≤ gg ∧ s29 = .int .i64 j ∧ Aside0 ((∃ v', FS w0 wr Bm Bo Bl M n1 BL (addAll BL out (names (ts.take j))) v') ∧ BoxAt W wr k nm nn ts bs l A3 c3 A4 c4 A5 c5))
      case atStart => exact ⟨0, Nat.zero_le _, by omega, rfl, ⟨⟨v, by simpa [names, addAll] using F2'.out.1⟩, F2'.out.2⟩⟩
      case round =>
        obtain ⟨j, hj, hg, rfl, HJ⟩ := hrel
        obtain ⟨⟨v', FJ⟩, HB⟩ := HJ.out
        by_cases hlt : j < ts.length
        · have hltz : (j : Int) < (ts.length : Int) := by omega
          obtain ⟨ad, rfl, x0, x1, x2⟩ := termAt H.out.2.2.1.g3 FJ.h0 j hlt
          have hnt := names_take ts j hlt
          obtain ⟨t, ht⟩ : ∃ t, rd_T47 ts j = t := ⟨_, rfl⟩
          rw [ht] at x0 x1 x2 hnt
          replace hnt := Aside0.mk hnt
          by_cases h1 : t.f0 = 1
          · have FJ' := Aside0.mk FJ
            have HB' := Aside0.mk HB
            have hup := Aside0.mk ((Below.refl wr.heap.size wr).alloc (Nat.le_refl _) (.cells #[.int .i64 t.f0, .string t.f1, .int .i64 t.f2] 47))
            clear FJ HB HJ
            go_wp2_with fail
            go_roundg (ts.length - (j + 1))
            case measure => omega
            case rel => exact ⟨j + 1, by omega, by omega, by go_num, ⟨⟨v', by rw [hnt.out, if_pos h1, List.append_nil]; rw [h1] at hup; exact FJ'.out.up hup.out⟩, by rw [h1] at hup; exact HB'.out.below hup.out⟩⟩
          · have up := (Below.refl wr.heap.size wr).alloc (Nat.le_refl _) (.cells #[.int .i64 t.f0, .string t.f1, .int .i64 t.f2] 47)
            have FU := FJ.up up
            have hbm := (blk_cell FU.bm 0).trans rfl
            have hbo := (blk_cell FU.bo 0).trans rfl
            have hsz : t.f1.size ≤ maxLen := by rw [← ht]; exact H.out.2.2.2.1.self.ts _ (rd47_mem ts j hlt)
            have hlook := FU.map.look t.f1 hsz
            have hz := Aside0.mk (cnt_zero BL t.f1)
            obtain ⟨A', c', rfl⟩ := Kd.R_slice FU.row
            have hCt := Aside0.mk (contains_calls (addAll BL out (names (ts.take j))) t.f1 A' c' _ (Kd.R_reads' FU.row).2.2 (Kd.R_reads' FU.row).2.1)
            have hadd : Aside0 (addAll BL out (names (ts.take (j + 1))) = if among BL t.f1 || among (addAll BL out (names (ts.take j))) t.f1 then addAll BL out (names (ts.take j)) else addAll BL out (names (ts.take j)) ++ [t.f1]) := ⟨by rw [hnt.out, if_neg h1, addAll_append]; rfl⟩
            obtain ⟨q, hq⟩ : ∃ q, cnt BL t.f1 = q := ⟨_, rfl⟩
            rw [hq] at hlook hz
            have hOl : Aside0 (((addAll BL out (names (ts.take j))).length + 1) * 16 ≤ 140737488355328) := ⟨by
              have h1 := addAll_length BL out (names (ts.take j))
              have h2 := names_length (ts.take j)
              have h3 : (ts.take j).length ≤ ts.length := by simp; omega
              have h4 := H.out.2.2.2.2.2.2.2
              simp only [nt] at h4
              omega⟩
            obtain ⟨O, hO⟩ : ∃ O, addAll BL out (names (ts.take j)) = O := ⟨_, rfl⟩
            rw [hO] at hadd hCt FU hbo FJ hOl
            have FU' := Aside0.mk FU
            have HB' := Aside0.mk (HB.below up)
            replace up := Aside0.mk up
            clear FU FJ HB HJ hO hq hsz hnt
            by_cases hq0 : q = 0
            · subst hq0
              have hbf : among BL t.f1 = false := hz.out.1 rfl
              replace hbf := Aside0.mk hbf
              have hb47 := Aside0.mk (heap_new wr (.cells #[.int .i64 t.f0, .string t.f1, .int .i64 t.f2] 47))
              cases hO : among O t.f1 with
              | true =>
                rw [hO] at hCt
                replace hO := Aside0.mk hO
                go_wp2_with (go_at_call 56; with_reducible refine hCt.out.mono ?_; rintro e w5 ⟨rfl, g5⟩)
                go_roundg (ts.length - (j + 1))
                case measure => omega
                case rel => exact ⟨j + 1, by omega, by omega, by go_num, ⟨⟨_, by rw [hadd.out, if_pos (by rw [hO.out, Bool.or_true])]; exact FU'.out.up g5⟩, HB'.out.below g5⟩⟩
              | false =>
                rw [hO] at hCt
                replace hO := Aside0.mk hO
                go_wp2_with (first
                  | (go_at_call 56; with_reducible refine hCt.out.mono ?_; rintro e w5 ⟨rfl, g5⟩; have F5 := Aside0.mk (FU'.out.up g5); have B5 := Aside0.mk (HB'.out.below g5); have z5 := blk_below g5 hb47.out; have o1 : w5.cell? ⟨wr.heap.size, 1, none⟩ = some (.string t.f1) := (blk_cell z5 1).trans rfl; have o2 := (blk_cell F5.out.bo 0).trans rfl; replace z5 := Aside0.mk z5; have sz5 : Bo < w5.heap.size := (Array.getElem?_eq_some_iff.1 F5.out.bo).1; have sz6 : wr.heap.size < w5.heap.size := (Array.getElem?_eq_some_iff.1 z5.out).1)
                  | ((with_reducible refine gate_builtin (b := .append) (xs := #[.tmp 50, .tmp 53]) rfl ?_); at_builtin; refine Kd.R_append Kd.string (w0 := w5) w0.heap.size rfl (.tmp 50) (.tmp 53) 32 9 (.string ⟨#[]⟩) 16 rfl Tryd.underlying32 info9 rfl (by decide) (by omega) (.slice A' O.length c') O t.f1 [.string t.f1] (fun _ => True) (fun _ => False) rfl rfl ?hp (fun _ h => h.elim) (fun _ _ => trivial) ?HO (Below.refl _ _) ?hbase ?hl ?_; (case hp => rfl); (case HO => exact F5.out.row); (case hbase => exact F5.out.h0.size); (case hl => exact hOl.out); intro v1 w6 ho6 hb6 hg6 hat6; obtain ⟨A6, c6, rfl⟩ := Kd.R_slice ho6; have e6 := snoc_len O t.f1; rw [e6] at ho6; clear e6; replace ho6 := Aside0.mk ho6; replace hb6 := Aside0.mk hb6; have bo6 := (hg6.block Bo sz5 (Kd.R_ne F5.out.row F5.out.bo (by decide))).trans F5.out.bo; have o6 := (blk_cell bo6 0).trans rfl; have f6 := blk_frozen bo6; have bx6 := Aside0.mk (fun v1 => B5.out.app (v1 := v1) F5.out.row bo6 hg6); replace hg6 := Aside0.mk hg6; replace bo6 := Aside0.mk bo6; clear hat6))
                go_roundg (ts.length - (j + 1))
                case measure => omega
                case rel =>
                  refine ⟨j + 1, by omega, by omega, by go_num, ⟨⟨_, by rw [hadd.out, if_neg (by rw [hbf.out, hO.out]; simp)]; exact F5.out.gathered ho6.out hb6.out hg6.out⟩, bx6.out _⟩⟩
            · have hbt : among BL t.f1 = true := by
                cases h : among BL t.f1 with
                | true => rfl
                | false => exact absurd (hz.out.2 h) hq0
              replace hbt := Aside0.mk hbt
              go_wp2_with fail
              go_roundg (ts.length - (j + 1))
              case measure => omega
              case rel => exact ⟨j + 1, by omega, by omega, by go_num, ⟨⟨_, by rw [hadd.out, if_pos (by rw [hbt.out]; rfl)]; exact FU'.out⟩, HB'.out⟩⟩
        · have hltz : ¬ (j : Int) < (ts.length : Int) := by omega
          have he : j = ts.length := by omega
          have HE := Aside0.mk he
          clear he hj
          obtain ⟨O2, hO2⟩ : ∃ O2, addAll BL out (names ts) = O2 := ⟨_, rfl⟩
          have F3 : FS w0 wr Bm Bo Bl M n1 BL O2 v' := by
            have h := FJ
            rw [HE.out, List.take_length, hO2] at h
            exact h
          have F3' := Aside0.mk (And.intro F3 HB)
          have hO2l : O2.length + nts l ≤ 1000000 := by
            have h1 := addAll_length BL out (names ts)
            have h2 := names_length ts
            have h4 := H.out.2.2.2.2.2.2.2
            simp only [nt] at h4
            rw [hO2] at h1
            omega
          have HN := Aside0.mk (show n1 + 2 * nbs l ≤ 1000000 ∧ BL.length + nbs l ≤ 1000000 ∧ O2.length + nts l ≤ 1000000 from by
            have h1 := H.out.2.2.2.2.2.1
            have h2 := H.out.2.2.2.2.2.2.1
            simp only [nb] at h1 h2
            have h3 := hn1.out
            have h5 : BL.length = bl.length + bs.length := by rw [← hBL.out]; simp
            omega)
          replace hO2 := Aside0.mk hO2
          obtain ⟨q0, q1, q2, q3, q4, q5⟩ := six HB.box
          clear FJ HJ F3 HE hO2l
          go_wp2_with fail
          go_loopg [10, 59] l.length (fun gg _ s59 wr => ∃ j : Nat, j ≤ l.length ∧ l.length - j ≤ gg ∧ s59 = .int .i64 j ∧ Aside0 ((∃ v' n', n' ≤ n1 + 2 * nbs (l.take j) ∧ FS w0 wr Bm Bo Bl M n' BL (gaths BL O2 (l.take j)) v') ∧ BoxAt W wr k nm nn ts bs l A3 c3 A4 c4 A5 c5))
          case atStart => exact ⟨0, Nat.zero_le _, by omega, rfl, ⟨⟨v', n1, by simp [nbs], by simpa [gaths] using F3'.out.1⟩, F3'.out.2⟩⟩
          case round =>
            obtain ⟨j, hj, hg, rfl, HJ⟩ := hrel
            obtain ⟨⟨v2, n2, hn2, FJ⟩, HB3⟩ := HJ.out
            by_cases hlt : j < l.length
            · have hltz : (j : Int) < (l.length : Int) := by omega
              obtain ⟨ad, B3, d3, B4, d4, B5, d5, rfl, hatj, x0, x1, x2, x3, x4, x5⟩ := formAt H.out.2.2.1.g5 FJ.h0 j hlt
              obtain ⟨y, hy⟩ : ∃ y, rd_T26 l j = y := ⟨_, rfl⟩
              rw [hy] at hatj x0 x1 x2 x3 x4 x5
              have up := (Below.refl wr.heap.size wr).alloc (Nat.le_refl _) (.cells #[.int .i64 y.f0, .string y.f1, .int .i64 y.f2, .slice B3 y.f3.length d3, .slice B4 y.f4.length d4, .slice B5 y.f5.length d5] 26)
              have FU := FJ.up up
              have hbf := (blk_cell FU.bf 0).trans rfl
              have hgt := Aside0.mk (gaths_take BL O2 l j hlt)
              have hnb := nbs_take l j hlt
              have hnt := nts_take l j hlt
              have hgl := gaths_length BL O2 (l.take j)
              rw [hy] at hgt hnb hnt
              have hN := HN.out
              have hcall := Aside0.mk (H.out.1 y B3 d3 B4 d4 B5 d5 w0 _ Bm Bo Bl M n2 BL (gaths BL O2 (l.take j)) v2 (by have := H.out.2.1; have h2 := sizes_take l j hlt; rw [hy] at h2; simp only [size] at this; omega) hatj (by rw [← hy]; exact H.out.2.2.2.1.child j hlt) FU (by omega) (by omega) (by omega))
              have HB4 := Aside0.mk (HB3.below up)
              have hn3 := Aside0.mk (show ∀ n', n' ≤ n2 + 2 * nb y → n' ≤ n1 + 2 * nbs (l.take (j + 1)) from fun n' h => by omega)
              have eg := enters55
              replace up := Aside0.mk up
              clear hN hgl hnt hnb FU FJ HJ HB3 hatj hy hn2
              go_wp2_with (go_at_fn 55; with_reducible refine hcall.out.mono ?_; rintro e w5 ⟨⟨r, rfl⟩, k5, v5, n5, hn5, F5⟩; replace k5 := Aside0.mk k5; replace F5 := Aside0.mk F5; replace hn5 := Aside0.mk hn5)
              go_roundg (l.length - (j + 1))
              case measure => omega
              case rel => exact ⟨j + 1, by omega, by omega, by go_num, ⟨⟨v5, n5, hn3.out n5 hn5.out, by rw [hgt.out]; exact F5.out⟩, HB4.out.trans k5.out⟩⟩
            · have hltz : ¬ (j : Int) < (l.length : Int) := by omega
              have he : j = l.length := by omega
              have HE := Aside0.mk he
              clear he hj
              obtain ⟨O3, hO3⟩ : ∃ O3, gaths BL O2 l = O3 := ⟨_, rfl⟩
              have F4 : FS w0 wr Bm Bo Bl M n2 BL O3 v2 := by
                have h := FJ
                rw [HE.out, List.take_length, hO3] at h
                exact h
              have F4' := Aside0.mk (And.intro F4 HB3)
              have hn4 := Aside0.mk (show n2 ≤ n1 + 2 * nbs l by have h := hn2; rw [HE.out, List.take_length] at h; exact h)
              replace hO3 := Aside0.mk hO3
              obtain ⟨q0, q1, q2, q3, q4, q5⟩ := six HB3.box
              clear FJ HJ F4 HE HB3 hn2
              go_wp2_with fail
              go_loopg [12, 70] bs.length (fun gg _ s70 wr => ∃ j : Nat, j ≤ bs.length ∧ bs.length - j ≤ gg ∧ s70 = .int .i64 j ∧ Aside0 (FS w0 wr Bm Bo Bl M (n2 + j) (bl ++ (bs.drop j).map (·.f0)) O3 v2 ∧ BoxAt W wr k nm nn ts bs l A3 c3 A4 c4 A5 c5))
              case atStart => exact ⟨0, Nat.zero_le _, by omega, rfl, ⟨by have h := F4'.out.1; rw [← hBL.out] at h; simpa using h, F4'.out.2⟩⟩
              case round =>
                obtain ⟨j, hj, hg, rfl, HJ⟩ := hrel
                by_cases hlt : j < bs.length
                · have hltz : (j : Int) < (bs.length : Int) := by omega
                  obtain ⟨ad, rfl, x0, x1⟩ := bindAt H.out.2.2.1.g4 HJ.out.1.h0 j hlt
                  have hdn := Aside0.mk (drop_names bl bs j hlt)
                  obtain ⟨b, hb⟩ : ∃ b, rd_T42 bs j = b := ⟨_, rfl⟩
                  rw [hb] at x0 x1 hdn
                  have up := (Below.refl wr.heap.size wr).alloc (Nat.le_refl _) (.cells #[.string b.f0, .int .i64 b.f1] 42)
                  have FU := HJ.out.1.up up
                  have hbm := (blk_cell FU.bm 0).trans rfl
                  have hsz : b.f0.size ≤ maxLen := by rw [← hb]; exact H.out.2.2.2.1.self.bs _ (rd42_mem bs j hlt)
                  have hq := H.out
                  simp only [nb] at hq
                  have h6 := hn4.out
                  have h7 := hn1.out
                  obtain ⟨hlook, w1, hput, hg1, FN⟩ := FU.bind_down (by omega) (by simp; omega) b.f0 hsz hdn.out
                  obtain ⟨q, hcq⟩ : ∃ q, cnt (bl ++ (bs.drop (j + 1)).map (·.f0)) b.f0 = q := ⟨_, rfl⟩
                  have hqle : q ≤ 2000000 := by rw [← hcq]; exact Nat.le_trans (cnt_le _ _) (by simp; omega)
                  rw [hcq] at hlook hput
                  clear hcq
                  have FN' := Aside0.mk FN
                  have hg1' := Aside0.mk hg1
                  have hbx := Aside0.mk (show BoxAt W w1 k nm nn ts bs l A3 c3 (some ad) c4 A5 c5 from (HJ.out.2.below up).map FU.map hg1)
                  replace hb := Aside0.mk hb
                  clear hq FN hg1 FU up hsz hdn h6 h7
                  go_wp2_with fail
                  go_roundg (bs.length - (j + 1))
                  case measure => omega
                  case rel => exact ⟨j + 1, by omega, by omega, by go_num, ⟨by have h := FN'.out; rw [Nat.add_assoc] at h; exact h, hbx.out⟩⟩
                · have hltz : ¬ (j : Int) < (bs.length : Int) := by omega
                  have he : j = bs.length := by omega
                  have HE := Aside0.mk he
                  clear he hj
                  go_wp2_with fail
                  go_end0
                  have h6 := hn4.out
                  have h7 := hn1.out
                  refine ⟨⟨_, rfl⟩, HJ.out.2.kept, v2, n2 + j, ?_, ?_⟩
                  · rw [HE.out, nb]; omega
                  · have h := HJ.out.1
                    rw [HE.out, List.drop_length, List.map_nil, List.append_nil] at h
                    rw [gath, hBL.out, hO2.out, hO3.out, HE.out]
                    exact h
theorem free_ok : ∀ s, FreeOk s
  | 0 => fun x A3 c3 A4 c4 A5 c5 w0 W Bm Bo Bl M n bl out v h => by rw [size_eq] at h; omega
  | s + 1 => free_step s (free_ok s)
end Go.Proofs.YtmlcaecknocpoaaDoor.It
namespace Go.Proofs.YtmlcaecknocpoaaDoor.It
set_option linter.unusedVariables false
set_option linter.unusedSimpArgs false
open Go Go.RowKit Go.Shelf Go.Proofs.YtmlcaecknocpoaaDoorW.PrintWords Go.Proofs.YtmlcaecknocpoaaDoorW.PrintLast Go.Proofs.YtmlcaecknocpoaaDoor.Pr Go.Proofs.YtmlcaecknocpoaaDoor.Sp
theorem MapIs.of_empty {w : World} {M : Nat} (h : w.heap[M]? = some (.map #[] 0)) : MapIs w M 0 [] := ⟨.map [], ⟨#[], 0, h, ⟨by simp, Go.MapKept.stamped_empty 0, by simp⟩, Nat.le_refl _, rfl⟩, fun _ => rfl⟩
theorem five_blocks (W : World) (o1 o2 o3 o4 o5 : Obj) (W5 : World) (h : ((((W.alloc o1).alloc o2).alloc o3).alloc o4).alloc o5 = W5) :
    W5.heap[W.heap.size]? = some o1 ∧ W5.heap[W.heap.size + 1]? = some o2 ∧ W5.heap[W.heap.size + 1 + 1]? = some o3 ∧ W5.heap[W.heap.size + 1 + 1 + 1]? = some o4 ∧ W5.heap[W.heap.size + 1 + 1 + 1 + 1]? = some o5 ∧ Below W.heap.size W W5 ∧ W5.heap.size = W.heap.size + 5 := by
  subst h
  have up : ∀ (w : World) (o : Obj), Below w.heap.size w (w.alloc o) := fun w o => (Below.refl _ _).alloc (Nat.le_refl _) o
  have nw : ∀ (w : World) (o : Obj) (n : Nat), w.heap.size = n → (w.alloc o).heap[n]? = some o := fun w o n e => e ▸ heap_new w o
  refine ⟨?_, ?_, ?_, ?_, ?_, ?_, ?_⟩
  · exact blk_below (up _ _) (blk_below (up _ _) (blk_below (up _ _) (blk_below (up _ _) (heap_new _ _))))
  · exact blk_below (up _ _) (blk_below (up _ _) (blk_below (up _ _) (nw _ _ _ (by simp))))
  · exact blk_below (up _ _) (blk_below (up _ _) (nw _ _ _ (by simp)))
  · exact blk_below (up _ _) (nw _ _ _ (by simp))
  · exact nw _ _ _ (by simp)
  · exact ((((up _ _).alloc (by simp) _).alloc (by simp; omega) _).alloc (by simp; omega) _).alloc (by simp; omega) _
  · simp
set_option maxRecDepth 100000 in
set_option maxHeartbeats 4000000 in
theorem free_calls (x : S26) (A3 : Option Addr) (c3 : Nat) (A4 : Option Addr) (c4 : Nat) (A5 : Option Addr) (c5 : Nat) (W : World) (hat : At W x A3 c3 A4 c4 A5 c5) (hdp : Deep x) (hnb : nb x ≤ 400000) (hnt : nt x ≤ 1000000) :
    Calls Tryd.prog 28 #[.agg #[.int .i64 x.f0, .string x.f1, .int .i64 x.f2, .slice A3 x.f3.length c3, .slice A4 x.f4.length c4, .slice A5 x.f5.length c5]] W fun e W' =>
      ∃ v, e = .returned v ∧ Below W.heap.size W W' ∧ Kd.R Kd.string 9 W' W.heap.size (fun _ => True) v (free x) := by
  have hu26 := Tryd.underlying26
  have eg := enters55
  have hmm := @run_makeMap Tryd.prog
  have H := Aside0.mk (And.intro hat (And.intro hdp (And.intro hnb hnt)))
  clear hat hdp hnb hnt
  go_enter Tryd.func28, Tryd.ntmps28
  obtain ⟨W5, hW5⟩ : ∃ W5, (((((W.alloc (.cells #[.int .i64 x.f0, .string x.f1, .int .i64 x.f2, .slice A3 x.f3.length c3, .slice A4 x.f4.length c4, .slice A5 x.f5.length c5] 26)).alloc (.map #[] 0)).alloc (.cells #[.map (some (W.heap.size + 1))] 68)).alloc (.cells #[.slice none 0 0] 32)).alloc (.cells #[(.func (.func 55) #[] #[.pointer (some ⟨W.heap.size + 1 + 1, 0, none⟩), .pointer (some ⟨W.heap.size + 1 + 1 + 1, 0, none⟩), .pointer (some ⟨W.heap.size + 1 + 1 + 1 + 1, 0, none⟩)])] 69)) = W5 := ⟨_, rfl⟩
  have h5 := five_blocks _ _ _ _ _ _ _ hW5
  obtain ⟨b1, b2, b3, b4, b5, hb, hsz⟩ := h5
  obtain ⟨q0, q1, q2, q3, q4, q5⟩ := six b1
  have q6 := (blk_cell b5 0).trans rfl
  have hF : FS W W5 (W.heap.size + 1 + 1) (W.heap.size + 1 + 1 + 1) (W.heap.size + 1 + 1 + 1 + 1) (W.heap.size + 1) 0 [] [] (.slice none 0 0) := by
    refine ⟨b3, b4, b5, ?_, ?_, hb, by omega, by omega⟩
    · exact MapIs.of_empty b2
    · exact Kd.R_nil _ _ _ _ _
  have hcall := Aside0.mk (free_ok (size x) x A3 c3 A4 c4 A5 c5 W _ _ _ _ _ 0 [] [] _ (Nat.le_refl _) H.out.1 H.out.2.1 hF (by have := H.out.2.2.1; omega) (by have := H.out.2.2.1; simp; omega) (by have := H.out.2.2.2; simp; omega))
  subst hW5
  clear hF b1 b2 b3 b4 b5 hb hsz
  go_wp2_with (go_at_fn 55; with_reducible refine hcall.out.mono ?_; rintro e w6 ⟨⟨r, rfl⟩, k6, v6, n6, hn6, F6⟩; have r6 := (blk_cell F6.bo 0).trans rfl; replace k6 := Aside0.mk k6; replace F6 := Aside0.mk F6; replace hn6 := Aside0.mk hn6)
  go_ret
  exact ⟨v6, rfl, F6.out.h0, by have h := F6.out.row; rw [free_gath] at h; exact h⟩
end Go.Proofs.YtmlcaecknocpoaaDoor.It
namespace Go.Proofs.YtmlcaecknocpoaaDoor.Pr
open Go.RowKit Go.Proofs.YtmlcaecknocpoaaDoorW.PrintWords Go.Proofs.YtmlcaecknocpoaaDoorW.PrintLast Go.Proofs.YtmlcaecknocpoaaDoorW.PrintMore
attribute [local go_sem] max2_int min2_int max_two min_two max_three min_three max_four min_four   
set_option linter.unusedVariables false
set_option linter.unusedSimpArgs false
end Go.Proofs.YtmlcaecknocpoaaDoor.Pr
namespace Go.Proofs.YtmlcaecknocpoaaDoor.Pr
open Go.RowKit Go.Proofs.YtmlcaecknocpoaaDoorW.PrintWords Go.Proofs.YtmlcaecknocpoaaDoorW.PrintLast Go.Proofs.YtmlcaecknocpoaaDoorW.PrintMore
attribute [local go_sem] max2_int min2_int max_two min_two max_three min_three max_four min_four   
set_option linter.unusedVariables false
set_option linter.unusedSimpArgs false
end Go.Proofs.YtmlcaecknocpoaaDoor.Pr
namespace Go.Proofs.YtmlcaecknocpoaaDoor.Pr
open Go.RowKit Go.Proofs.YtmlcaecknocpoaaDoorW.PrintWords Go.Proofs.YtmlcaecknocpoaaDoorW.PrintLast Go.Proofs.YtmlcaecknocpoaaDoorW.PrintMore
attribute [local go_sem] max2_int min2_int max_two min_two max_three min_three max_four min_four   
set_option linter.unusedVariables false
set_option linter.unusedSimpArgs false
attribute [local go_sem high] eqA42 eqA47
end Go.Proofs.YtmlcaecknocpoaaDoor.Pr
namespace Go.Proofs.YtmlcaecknocpoaaDoor.Pr
open Go.RowKit Go.Proofs.YtmlcaecknocpoaaDoorW.PrintWords Go.Proofs.YtmlcaecknocpoaaDoorW.PrintLast Go.Proofs.YtmlcaecknocpoaaDoorW.PrintMore
attribute [local go_sem] max2_int min2_int max_two min_two max_three min_three max_four min_four   
set_option linter.unusedVariables false
set_option linter.unusedSimpArgs false
end Go.Proofs.YtmlcaecknocpoaaDoor.Pr
namespace Go.Proofs.YtmlcaecknocpoaaDoor.Pr
open Go.RowKit Go.Proofs.YtmlcaecknocpoaaDoorW.PrintWords Go.Proofs.YtmlcaecknocpoaaDoorW.PrintLast Go.Proofs.YtmlcaecknocpoaaDoorW.PrintMore
attribute [local go_sem] max2_int min2_int max_two min_two max_three min_three max_four min_four   
set_option linter.unusedVariables false
set_option linter.unusedSimpArgs false
end Go.Proofs.YtmlcaecknocpoaaDoor.Pr
