/- Lemmas and walks for the claim below. -/
import Derived.Test.YtmlcaecknocpoaaDoorQrK3
namespace Go.Proofs.YtmlcaecknocpoaaDoor.Pr
open Go.RowKit Go.Proofs.YtmlcaecknocpoaaDoorW.PrintWords Go.Proofs.YtmlcaecknocpoaaDoorW.PrintLast Go.Proofs.YtmlcaecknocpoaaDoorW.PrintMore
attribute [local go_sem] max2_int min2_int max_two min_two max_three min_three max_four min_four   
set_option linter.unusedVariables false
set_option linter.unusedSimpArgs false
def rf6terms.j0 : Nat → Bool → Int → ByteArray → Int → List (S47) → List (S42) → List (S26) → Option (Bool)
 | 0, _, _, _, _, _, _, _ => none
 | k + 1, x35, x120000, x120001, x120002, x120003, x120004, x120005 => if x35 = true then (some false) else (if x120000 = 9 then ((rf6sign.f x120001).bind fun t125 => (some t125)) else (if x120001.toList = ([] : List UInt8) then (if 0 < (x120003.length : Int) then (if ((rd_T47 x120003 0).f0) = 2 then (if 1 < (x120003.length : Int) then (some (((rd_T47 x120003 1).f0) == 2)) else (none)) else (some false)) else (none)) else (some false)))
def rf6terms.f (k : Nat) (a0_0 : Int) (a0_1 : ByteArray) (a0_2 : Int) (l0_3 : List (S47)) (l0_4 : List (S42)) (l0_5 : List (S26)) : Option (Bool) := (rf6Atom.f a0_0).bind fun t120 => (if t120 = true then (if (l0_3.length : Int) = 2 then (if 0 < (l0_3.length : Int) then ((rf6term.f k ((rd_T47 l0_3 0).f0) ((rd_T47 l0_3 0).f1) ((rd_T47 l0_3 0).f2)).bind fun t122 => (if t122 = true then (if 1 < (l0_3.length : Int) then ((rf6term.f k ((rd_T47 l0_3 1).f0) ((rd_T47 l0_3 1).f1) ((rd_T47 l0_3 1).f2)).bind fun t124 => (rf6terms.j0 k (!t124) a0_0 a0_1 a0_2 l0_3 l0_4 l0_5)) else (none)) else (rf6terms.j0 k true a0_0 a0_1 a0_2 l0_3 l0_4 l0_5))) else (none)) else (rf6terms.j0 k true a0_0 a0_1 a0_2 l0_3 l0_4 l0_5)) else (if (l0_3.length : Int) = 0 then (some (a0_1.toList == ([] : List UInt8))) else (some false)))
set_option maxHeartbeats 8000000 in
set_option maxRecDepth 100000 in
theorem rf6terms.calls (k : Nat) (a0_0 : Int) (a0_1 : ByteArray) (a0_2 : Int) (A0_3 : Option Addr) (c0_3 : Nat) (l0_3 : List (S47)) (A0_4 : Option Addr) (c0_4 : Nat) (l0_4 : List (S42)) (A0_5 : Option Addr) (c0_5 : Nat) (l0_5 : List (S26)) (r : Bool) (w : World) (hr0_3 : Kd.C k47 w A0_3 l0_3.length l0_3) (hc0_3 : l0_3.length ≤ c0_3) (hr0_4 : Kd.C k42 w A0_4 l0_4.length l0_4) (hc0_4 : l0_4.length ≤ c0_4) (hr0_5 : Kd.C k26 w A0_5 l0_5.length l0_5) (hc0_5 : l0_5.length ≤ c0_5) (h : rf6terms.f k a0_0 a0_1 a0_2 l0_3 l0_4 l0_5 = some r) :
   Calls Tryd.prog 90 #[.agg #[.int .i64 a0_0, .string a0_1, .int .i64 a0_2, .slice A0_3 l0_3.length c0_3, .slice A0_4 l0_4.length c0_4, .slice A0_5 l0_5.length c0_5]] w fun e w' => e = .returned (.bool r) ∧ Below w.heap.size w w' := by
 have hu26 := Tryd.underlying26
 have hu47 := Tryd.underlying47
 have HR0_3 := Aside0.mk hr0_3
 have HC0_3 := Aside0.mk hc0_3
 clear hr0_3 hc0_3
 have HR0_4 := Aside0.mk hr0_4
 have HC0_4 := Aside0.mk hc0_4
 clear hr0_4 hc0_4
 have HR0_5 := Aside0.mk hr0_5
 have HC0_5 := Aside0.mk hc0_5
 clear hr0_5 hc0_5
 have HB := Aside0.mk (Below.refl w.heap.size w)
 have H : ((rf6Atom.f a0_0).bind fun t120 => (if t120 = true then (if (l0_3.length : Int) = 2 then (if 0 < (l0_3.length : Int) then ((rf6term.f k ((rd_T47 l0_3 0).f0) ((rd_T47 l0_3 0).f1) ((rd_T47 l0_3 0).f2)).bind fun t122 => (if t122 = true then (if 1 < (l0_3.length : Int) then ((rf6term.f k ((rd_T47 l0_3 1).f0) ((rd_T47 l0_3 1).f1) ((rd_T47 l0_3 1).f2)).bind fun t124 => (rf6terms.j0 k (!t124) a0_0 a0_1 a0_2 l0_3 l0_4 l0_5)) else (none)) else (rf6terms.j0 k true a0_0 a0_1 a0_2 l0_3 l0_4 l0_5))) else (none)) else (rf6terms.j0 k true a0_0 a0_1 a0_2 l0_3 l0_4 l0_5)) else (if (l0_3.length : Int) = 0 then (some (a0_1.toList == ([] : List UInt8))) else (some false)))) = some r := h
 clear h
 replace H := Option.bind_eq_some_iff.mp H
 obtain ⟨t120, A20, H⟩ := H
 replace H : (if t120 = true then (if (l0_3.length : Int) = 2 then (if 0 < (l0_3.length : Int) then ((rf6term.f k ((rd_T47 l0_3 0).f0) ((rd_T47 l0_3 0).f1) ((rd_T47 l0_3 0).f2)).bind fun t122 => (if t122 = true then (if 1 < (l0_3.length : Int) then ((rf6term.f k ((rd_T47 l0_3 1).f0) ((rd_T47 l0_3 1).f1) ((rd_T47 l0_3 1).f2)).bind fun t124 => (rf6terms.j0 k (!t124) a0_0 a0_1 a0_2 l0_3 l0_4 l0_5)) else (none)) else (rf6terms.j0 k true a0_0 a0_1 a0_2 l0_3 l0_4 l0_5))) else (none)) else (rf6terms.j0 k true a0_0 a0_1 a0_2 l0_3 l0_4 l0_5)) else (if (l0_3.length : Int) = 0 then (some (a0_1.toList == ([] : List UInt8))) else (some false))) = some r := H
 have A2 := Aside0.mk A20
 clear A20
 by_cases c3 : t120 = true
 · subst c3
   have H1 : (if (l0_3.length : Int) = 2 then (if 0 < (l0_3.length : Int) then ((rf6term.f k ((rd_T47 l0_3 0).f0) ((rd_T47 l0_3 0).f1) ((rd_T47 l0_3 0).f2)).bind fun t122 => (if t122 = true then (if 1 < (l0_3.length : Int) then ((rf6term.f k ((rd_T47 l0_3 1).f0) ((rd_T47 l0_3 1).f1) ((rd_T47 l0_3 1).f2)).bind fun t124 => (rf6terms.j0 k (!t124) a0_0 a0_1 a0_2 l0_3 l0_4 l0_5)) else (none)) else (rf6terms.j0 k true a0_0 a0_1 a0_2 l0_3 l0_4 l0_5))) else (none)) else (rf6terms.j0 k true a0_0 a0_1 a0_2 l0_3 l0_4 l0_5)) = some r := by rw [if_pos rfl] at H; exact H
   clear H
   have H := H1
   clear H1
   have HC4 := Aside0.mk H
   clear H
   go_enter Tryd.func90, Tryd.ntmps90
   go_upto_region 3 with (first | ((with_reducible refine gate_dst (N := 1) rfl ?_); refine box_event ?hg (N := 1) ?hd (cs := #[.int .i64 a0_0, .string a0_1, .int .i64 a0_2, .slice A0_3 l0_3.length c0_3, .slice A0_4 l0_4.length c0_4, .slice A0_5 l0_5.length c0_5]) (t := 26) ?hr ?_; (case hd => rfl); (case hg => rfl); (case hr => first | (go_simp; done) | (go_simp; rfl)); intro gb119 hg w5 hbox hb; have n0_ := Aside0.mk (below_step (by repeat (first | (with_reducible first | exact HB.out | apply bAl | apply pwDN | apply bD1) | exact HB.out)) hb); have n1_ := Aside0.mk (hbox); have n2_ := Aside0.mk ((by rw [hg]; exact (below_size (by repeat (first | (with_reducible first | exact HB.out | apply bAl | apply pwDN | apply bD1) | exact HB.out))) : w.heap.size ≤ gb119)); have n3_ := Aside0.mk ((by rw [hg]; exact (below_size (by repeat (first | (with_reducible first | exact HB.out | apply bAl | apply pwDN | apply bD1) | exact HB.out))) : w.heap.size ≤ gb119)); clear HB; have HB := n0_; have BK119 := n1_; have GW119 := n2_; have GE119 := n3_; clear n0_ n1_ n2_ n3_; clear hb hbox hg; have hcz6_0 : w5.cell? ⟨gb119, 0, none⟩ = some (.int .i64 a0_0) := (bCl BK119.out 0).trans rfl; have hcz6_1 : w5.cell? ⟨gb119, 1, none⟩ = some (.string a0_1) := (bCl BK119.out 1).trans rfl; have hcz6_2 : w5.cell? ⟨gb119, 2, none⟩ = some (.int .i64 a0_2) := (bCl BK119.out 2).trans rfl; have hcz6_3 : w5.cell? ⟨gb119, 3, none⟩ = some (.slice A0_3 l0_3.length c0_3) := (bCl BK119.out 3).trans rfl; have hcz6_4 : w5.cell? ⟨gb119, 4, none⟩ = some (.slice A0_4 l0_4.length c0_4) := (bCl BK119.out 4).trans rfl; have hcz6_5 : w5.cell? ⟨gb119, 5, none⟩ = some (.slice A0_5 l0_5.length c0_5) := (bCl BK119.out 5).trans rfl; have hfz6_0 := bFz BK119.out 0; have hfz6_1 := bFz BK119.out 1; have hfz6_2 := bFz BK119.out 2; have hfz6_3 := bFz BK119.out 3; have hfz6_4 := bFz BK119.out 4; have hfz6_5 := bFz BK119.out 5) | ((with_reducible refine gate_callee (f := 96) rfl ?_); refine goesL_ (some 5) rfl rfl Tryd.func96 (by kernel_rfl) rfl #[.int .i64 a0_0] rfl (by (try simp only [List.map_toArray, List.map_cons, List.map_nil]); first | done | rfl | (simp only [List.length_drop, List.length_take]; rfl)) ?_; (with_reducible refine (rf6Atom.calls a0_0 true _ A2.out).mono ?_); rintro e w' ⟨rfl, ⟨nd, rfl⟩⟩; refine ⟨_, rfl, ?_⟩))
   (try simp only [Act.put, List.setIfInBounds_toArray, List.set_cons_zero, List.set_cons_succ])
   go_cut [35] (fun v35 wc => ∃ (kq : Nat) (x35_3 : Bool), v35 = .bool x35_3 ∧ Aside0 (rf6terms.j0 kq x35_3 a0_0 a0_1 a0_2 l0_3 l0_4 l0_5 = some r) ∧ Aside0 (kq ≤ k) ∧ Aside0 (wc.heap[gb119]? = some (.cells #[.int .i64 a0_0, .string a0_1, .int .i64 a0_2, (.slice A0_3 l0_3.length c0_3), (.slice A0_4 l0_4.length c0_4), (.slice A0_5 l0_5.length c0_5)] 26 (0, 0))) ∧ Aside0 (Below w.heap.size w wc))
   case first =>
     have H := HC4.out
     clear HC4
     by_cases c7 : (l0_3.length : Int) = 2
     · rw [if_pos c7] at H
       have c7b0 : ((l0_3.length : Int) == 2) = true := beq_iff_eq.mpr c7
       have c7b1 : ((l0_3.length : Int) != 2) = false := bne_eq_false_iff_eq.mpr c7
       clear c7
       (first | rw [c7b0] | (simp only [i64_w, i32_w]; rw [c7b0]) | skip)
       by_cases c8 : 0 < (l0_3.length : Int)
       · rw [if_pos c8] at H
         have c8b0 : decide (0 < (l0_3.length : Int)) = true := decide_eq_true c8
         have c8b1 : decide (0 < l0_3.length) = true := decide_eq_true (by omega)
         clear c8
         replace H := Option.bind_eq_some_iff.mp H
         obtain ⟨t122, A90, H⟩ := H
         replace H : (if t122 = true then (if 1 < (l0_3.length : Int) then ((rf6term.f k ((rd_T47 l0_3 1).f0) ((rd_T47 l0_3 1).f1) ((rd_T47 l0_3 1).f2)).bind fun t124 => (rf6terms.j0 k (!t124) a0_0 a0_1 a0_2 l0_3 l0_4 l0_5)) else (none)) else (rf6terms.j0 k true a0_0 a0_1 a0_2 l0_3 l0_4 l0_5)) = some r := H
         have A9 := Aside0.mk A90
         clear A90
         by_cases c10 : t122 = true
         · subst c10
           have H1 : (if 1 < (l0_3.length : Int) then ((rf6term.f k ((rd_T47 l0_3 1).f0) ((rd_T47 l0_3 1).f1) ((rd_T47 l0_3 1).f2)).bind fun t124 => (rf6terms.j0 k (!t124) a0_0 a0_1 a0_2 l0_3 l0_4 l0_5)) else (none)) = some r := by rw [if_pos rfl] at H; exact H
           clear H
           have H := H1
           clear H1
           by_cases c11 : 1 < (l0_3.length : Int)
           · rw [if_pos c11] at H
             have c11b0 : decide (1 < (l0_3.length : Int)) = true := decide_eq_true c11
             have c11b1 : decide (1 < l0_3.length) = true := decide_eq_true (by omega)
             clear c11
             replace H := Option.bind_eq_some_iff.mp H
             obtain ⟨t124, A120, H⟩ := H
             replace H : (rf6terms.j0 k (!t124) a0_0 a0_1 a0_2 l0_3 l0_4 l0_5) = some r := H
             have A12 := Aside0.mk A120
             clear A120
             have H' := Aside0.mk H
             clear H
             have hcz13_0 : w5.cell? ⟨gb119, 0, none⟩ = some (.int .i64 a0_0) := (bCl BK119.out 0).trans rfl
             have hcz13_1 : w5.cell? ⟨gb119, 1, none⟩ = some (.string a0_1) := (bCl BK119.out 1).trans rfl
             have hcz13_2 : w5.cell? ⟨gb119, 2, none⟩ = some (.int .i64 a0_2) := (bCl BK119.out 2).trans rfl
             have hcz13_3 : w5.cell? ⟨gb119, 3, none⟩ = some (.slice A0_3 l0_3.length c0_3) := (bCl BK119.out 3).trans rfl
             have hcz13_4 : w5.cell? ⟨gb119, 4, none⟩ = some (.slice A0_4 l0_4.length c0_4) := (bCl BK119.out 4).trans rfl
             have hcz13_5 : w5.cell? ⟨gb119, 5, none⟩ = some (.slice A0_5 l0_5.length c0_5) := (bCl BK119.out 5).trans rfl
             have hfz13_0 := bFz BK119.out 0
             have hfz13_1 := bFz BK119.out 1
             have hfz13_2 := bFz BK119.out 2
             have hfz13_3 := bFz BK119.out 3
             have hfz13_4 := bFz BK119.out 4
             have hfz13_5 := bFz BK119.out 5
             have p121 : 0 ≤ (0 : Int) := (by omega)
             have q121 : 0 < (l0_3.length : Int) := of_decide_eq_true (by first | (with_reducible assumption) | assumption)
             obtain ⟨ad121, e121, hx121_0, hx121_1, hx121_2⟩ := at_T47 HR0_3.out 0 p121 q121
             cases e121
             have qi121 : (0 < l0_3.length) = True := eq_true (by omega)
             (try rw [show ((0 : Int)).toNat = 0 from rfl] at hx121_0)
             (try rw [show 0 * 3 = 0 from rfl] at hx121_0)
             (try rw [Addr.add_zero'] at hx121_0)
             (try rw [show ((0 : Int)).toNat = 0 from rfl] at hx121_1)
             (try rw [show 0 * 3 = 0 from rfl] at hx121_1)
             (try rw [Addr.add_zero'] at hx121_1)
             (try rw [show ((0 : Int)).toNat = 0 from rfl] at hx121_2)
             (try rw [show 0 * 3 = 0 from rfl] at hx121_2)
             (try rw [Addr.add_zero'] at hx121_2)
             replace hx121_0 := (HB.out.cell (World.block_lt_of_cell? w _ hx121_0)).trans hx121_0
             replace hx121_1 := (HB.out.cell (World.block_lt_of_cell? w _ hx121_1)).trans hx121_1
             replace hx121_2 := (HB.out.cell (World.block_lt_of_cell? w _ hx121_2)).trans hx121_2
             replace p121 := eq_true p121
             replace q121 := eq_true q121
             go_wp2_with (first | (go_at_call 112; (with_reducible refine (rf6term.calls k ((rd_T47 l0_3 0).f0) ((rd_T47 l0_3 0).f1) ((rd_T47 l0_3 0).f2) true _ A9.out).mono ?_); rintro e w14 ⟨rfl, hb⟩; have n0_ := Aside0.mk (blk_below (g := gb119) (o := .cells #[.int .i64 a0_0, .string a0_1, .int .i64 a0_2, .slice (some ad121) l0_3.length c0_3, .slice A0_4 l0_4.length c0_4, .slice A0_5 l0_5.length c0_5] 26 (0, 0)) (by (with_reducible repeat (first | refine blk_drewN ?_ _ | refine blk_drew ?_ | refine blk_alloc ?_ _)); exact BK119.out) hb); have n1_ := Aside0.mk (below_step (by repeat (first | (with_reducible first | exact HB.out | apply bAl | apply pwDN | apply bD1 | refine bSt ?_ GE119.out) | exact HB.out)) hb); clear BK119; clear HB; have BK119 := n0_; have HB := n1_; clear n0_ n1_; (try clear hb); (try clear hb2); (try clear hk); (try clear hi); have hcz15_0 : w14.cell? ⟨gb119, 0, none⟩ = some (.int .i64 a0_0) := (bCl BK119.out 0).trans rfl; have hcz15_1 : w14.cell? ⟨gb119, 1, none⟩ = some (.string a0_1) := (bCl BK119.out 1).trans rfl; have hcz15_2 : w14.cell? ⟨gb119, 2, none⟩ = some (.int .i64 a0_2) := (bCl BK119.out 2).trans rfl; have hcz15_3 : w14.cell? ⟨gb119, 3, none⟩ = some (.slice (some ad121) l0_3.length c0_3) := (bCl BK119.out 3).trans rfl; have hcz15_4 : w14.cell? ⟨gb119, 4, none⟩ = some (.slice A0_4 l0_4.length c0_4) := (bCl BK119.out 4).trans rfl; have hcz15_5 : w14.cell? ⟨gb119, 5, none⟩ = some (.slice A0_5 l0_5.length c0_5) := (bCl BK119.out 5).trans rfl; have hfz15_0 := bFz BK119.out 0; have hfz15_1 := bFz BK119.out 1; have hfz15_2 := bFz BK119.out 2; have hfz15_3 := bFz BK119.out 3; have hfz15_4 := bFz BK119.out 4; have hfz15_5 := bFz BK119.out 5; have p123 : 0 ≤ (1 : Int) := (by omega); have q123 : 1 < (l0_3.length : Int) := of_decide_eq_true (by first | (with_reducible assumption) | assumption); obtain ⟨ad123, e123, hx123_0, hx123_1, hx123_2⟩ := at_T47 HR0_3.out 1 p123 q123; obtain rfl : ad121 = ad123 := (by injection e123); (try simp only [show (1 : Int).toNat = 1 from rfl, Nat.reduceMul, Nat.reduceEqDiff, Go.Addr.add, ↓reduceIte] at hx123_0); (try simp only [show (1 : Int).toNat = 1 from rfl, Nat.reduceMul, Nat.reduceEqDiff, Go.Addr.add, ↓reduceIte] at hx123_1); (try simp only [show (1 : Int).toNat = 1 from rfl, Nat.reduceMul, Nat.reduceEqDiff, Go.Addr.add, ↓reduceIte] at hx123_2); have qi123 : (1 < l0_3.length) = True := eq_true (by omega); (try rw [show ((1 : Int)).toNat = 1 from rfl] at hx123_0); (try rw [show 1 * 3 = 3 from rfl] at hx123_0); (try rw [show ((1 : Int)).toNat = 1 from rfl] at hx123_1); (try rw [show 1 * 3 = 3 from rfl] at hx123_1); (try rw [show ((1 : Int)).toNat = 1 from rfl] at hx123_2); (try rw [show 1 * 3 = 3 from rfl] at hx123_2); replace hx123_0 := (HB.out.cell (World.block_lt_of_cell? w _ hx123_0)).trans hx123_0; replace hx123_1 := (HB.out.cell (World.block_lt_of_cell? w _ hx123_1)).trans hx123_1; replace hx123_2 := (HB.out.cell (World.block_lt_of_cell? w _ hx123_2)).trans hx123_2; replace p123 := eq_true p123; replace q123 := eq_true q123) | (go_at_call 112; (with_reducible refine (rf6term.calls k ((rd_T47 l0_3 1).f0) ((rd_T47 l0_3 1).f1) ((rd_T47 l0_3 1).f2) t124 _ A12.out).mono ?_); rintro e w16 ⟨rfl, hb⟩; have n0_ := Aside0.mk (blk_below (g := gb119) (o := .cells #[.int .i64 a0_0, .string a0_1, .int .i64 a0_2, .slice (some ad121) l0_3.length c0_3, .slice A0_4 l0_4.length c0_4, .slice A0_5 l0_5.length c0_5] 26 (0, 0)) (by (with_reducible repeat (first | refine blk_drewN ?_ _ | refine blk_drew ?_ | refine blk_alloc ?_ _)); exact BK119.out) hb); have n1_ := Aside0.mk (below_step (by repeat (first | (with_reducible first | exact HB.out | apply bAl | apply pwDN | apply bD1 | refine bSt ?_ GE119.out) | exact HB.out)) hb); clear BK119; clear HB; have BK119 := n0_; have HB := n1_; clear n0_ n1_; (try clear hb); (try clear hb2); (try clear hk); (try clear hi)))
             go_meet
             case rel => exact ⟨_, (!t124), (by first | rfl | (simp; done) | (simp [*]; done)), H', ⟨by first | omega | exact Nat.le_refl _⟩, ⟨by (with_reducible repeat (first | refine blk_drewN ?_ _ | refine blk_drew ?_ | refine blk_alloc ?_ _)); exact BK119.out⟩, ⟨by repeat (first | (with_reducible first | exact HB.out | apply bAl | apply pwDN | apply bD1 | refine bSt ?_ GE119.out) | exact HB.out)⟩⟩
           · rw [if_neg c11] at H
             exact absurd H (by simp)
         · replace c10 := Bool.eq_false_iff.mpr c10
           subst c10
           have H1 : (rf6terms.j0 k true a0_0 a0_1 a0_2 l0_3 l0_4 l0_5) = some r := by rw [if_neg (show ¬ (false = true) by decide)] at H; exact H
           clear H
           have H := H1
           clear H1
           have H' := Aside0.mk H
           clear H
           have hcz17_0 : w5.cell? ⟨gb119, 0, none⟩ = some (.int .i64 a0_0) := (bCl BK119.out 0).trans rfl
           have hcz17_1 : w5.cell? ⟨gb119, 1, none⟩ = some (.string a0_1) := (bCl BK119.out 1).trans rfl
           have hcz17_2 : w5.cell? ⟨gb119, 2, none⟩ = some (.int .i64 a0_2) := (bCl BK119.out 2).trans rfl
           have hcz17_3 : w5.cell? ⟨gb119, 3, none⟩ = some (.slice A0_3 l0_3.length c0_3) := (bCl BK119.out 3).trans rfl
           have hcz17_4 : w5.cell? ⟨gb119, 4, none⟩ = some (.slice A0_4 l0_4.length c0_4) := (bCl BK119.out 4).trans rfl
           have hcz17_5 : w5.cell? ⟨gb119, 5, none⟩ = some (.slice A0_5 l0_5.length c0_5) := (bCl BK119.out 5).trans rfl
           have hfz17_0 := bFz BK119.out 0
           have hfz17_1 := bFz BK119.out 1
           have hfz17_2 := bFz BK119.out 2
           have hfz17_3 := bFz BK119.out 3
           have hfz17_4 := bFz BK119.out 4
           have hfz17_5 := bFz BK119.out 5
           have p121 : 0 ≤ (0 : Int) := (by omega)
           have q121 : 0 < (l0_3.length : Int) := of_decide_eq_true (by first | (with_reducible assumption) | assumption)
           obtain ⟨ad121, e121, hx121_0, hx121_1, hx121_2⟩ := at_T47 HR0_3.out 0 p121 q121
           cases e121
           have qi121 : (0 < l0_3.length) = True := eq_true (by omega)
           (try rw [show ((0 : Int)).toNat = 0 from rfl] at hx121_0)
           (try rw [show 0 * 3 = 0 from rfl] at hx121_0)
           (try rw [Addr.add_zero'] at hx121_0)
           (try rw [show ((0 : Int)).toNat = 0 from rfl] at hx121_1)
           (try rw [show 0 * 3 = 0 from rfl] at hx121_1)
           (try rw [Addr.add_zero'] at hx121_1)
           (try rw [show ((0 : Int)).toNat = 0 from rfl] at hx121_2)
           (try rw [show 0 * 3 = 0 from rfl] at hx121_2)
           (try rw [Addr.add_zero'] at hx121_2)
           replace hx121_0 := (HB.out.cell (World.block_lt_of_cell? w _ hx121_0)).trans hx121_0
           replace hx121_1 := (HB.out.cell (World.block_lt_of_cell? w _ hx121_1)).trans hx121_1
           replace hx121_2 := (HB.out.cell (World.block_lt_of_cell? w _ hx121_2)).trans hx121_2
           replace p121 := eq_true p121
           replace q121 := eq_true q121
           go_wp2_with (first | (go_at_call 112; (with_reducible refine (rf6term.calls k ((rd_T47 l0_3 0).f0) ((rd_T47 l0_3 0).f1) ((rd_T47 l0_3 0).f2) false _ A9.out).mono ?_); rintro e w18 ⟨rfl, hb⟩; have n0_ := Aside0.mk (blk_below (g := gb119) (o := .cells #[.int .i64 a0_0, .string a0_1, .int .i64 a0_2, .slice (some ad121) l0_3.length c0_3, .slice A0_4 l0_4.length c0_4, .slice A0_5 l0_5.length c0_5] 26 (0, 0)) (by (with_reducible repeat (first | refine blk_drewN ?_ _ | refine blk_drew ?_ | refine blk_alloc ?_ _)); exact BK119.out) hb); have n1_ := Aside0.mk (below_step (by repeat (first | (with_reducible first | exact HB.out | apply bAl | apply pwDN | apply bD1 | refine bSt ?_ GE119.out) | exact HB.out)) hb); clear BK119; clear HB; have BK119 := n0_; have HB := n1_; clear n0_ n1_; (try clear hb); (try clear hb2); (try clear hk); (try clear hi)))
           go_meet
           case rel => exact ⟨_, (true), (by first | rfl | (simp; done) | (simp [*]; done)), H', ⟨by first | omega | exact Nat.le_refl _⟩, ⟨by (with_reducible repeat (first | refine blk_drewN ?_ _ | refine blk_drew ?_ | refine blk_alloc ?_ _)); exact BK119.out⟩, ⟨by repeat (first | (with_reducible first | exact HB.out | apply bAl | apply pwDN | apply bD1 | refine bSt ?_ GE119.out) | exact HB.out)⟩⟩
       · rw [if_neg c8] at H
         exact absurd H (by simp)
     · rw [if_neg c7] at H
       have c7b0 : ((l0_3.length : Int) == 2) = false := beq_eq_false_iff_ne.mpr c7
       have c7b1 : ((l0_3.length : Int) != 2) = true := bne_iff_ne.mpr c7
       (first | rw [c7b0] | (simp only [i64_w, i32_w]; rw [c7b0]) | skip)
       have H' := Aside0.mk H
       clear H
       have hcz19_0 : w5.cell? ⟨gb119, 0, none⟩ = some (.int .i64 a0_0) := (bCl BK119.out 0).trans rfl
       have hcz19_1 : w5.cell? ⟨gb119, 1, none⟩ = some (.string a0_1) := (bCl BK119.out 1).trans rfl
       have hcz19_2 : w5.cell? ⟨gb119, 2, none⟩ = some (.int .i64 a0_2) := (bCl BK119.out 2).trans rfl
       have hcz19_3 : w5.cell? ⟨gb119, 3, none⟩ = some (.slice A0_3 l0_3.length c0_3) := (bCl BK119.out 3).trans rfl
       have hcz19_4 : w5.cell? ⟨gb119, 4, none⟩ = some (.slice A0_4 l0_4.length c0_4) := (bCl BK119.out 4).trans rfl
       have hcz19_5 : w5.cell? ⟨gb119, 5, none⟩ = some (.slice A0_5 l0_5.length c0_5) := (bCl BK119.out 5).trans rfl
       have hfz19_0 := bFz BK119.out 0
       have hfz19_1 := bFz BK119.out 1
       have hfz19_2 := bFz BK119.out 2
       have hfz19_3 := bFz BK119.out 3
       have hfz19_4 := bFz BK119.out 4
       have hfz19_5 := bFz BK119.out 5
       go_wp2
       go_meet
       case rel => exact ⟨_, (true), (by first | rfl | (simp; done) | (simp [*]; done)), H', ⟨by first | omega | exact Nat.le_refl _⟩, ⟨by (with_reducible repeat (first | refine blk_drewN ?_ _ | refine blk_drew ?_ | refine blk_alloc ?_ _)); exact BK119.out⟩, ⟨by repeat (first | (with_reducible first | exact HB.out | apply bAl | apply pwDN | apply bD1 | refine bSt ?_ GE119.out) | exact HB.out)⟩⟩
   case rest =>
     clear HC4
     try clear c1
     try clear p1
     try clear q1
     try clear hx1
     try clear qi1
     try clear p2
     try clear c3
     try clear c7
     try clear c7b0
     try clear c7b1
     try clear c8
     try clear c8b0
     try clear c8b1
     try clear c9
     try clear c10
     try clear c11
     try clear c11b0
     try clear c11b1
     try clear p12
     try clear q12
     try clear hx12
     try clear qi12
     try clear hcz13_0
     try clear hcz13_1
     try clear hcz13_2
     try clear hcz13_3
     try clear hcz13_4
     try clear hcz13_5
     try clear hcz15_0
     try clear hcz15_1
     try clear hcz15_2
     try clear hcz15_3
     try clear hcz15_4
     try clear hcz15_5
     try clear hcz17_0
     try clear hcz17_1
     try clear hcz17_2
     try clear hcz17_3
     try clear hcz17_4
     try clear hcz17_5
     try clear hcz19_0
     try clear hcz19_1
     try clear hcz19_2
     try clear hcz19_3
     try clear hcz19_4
     try clear hcz19_5
     try clear hcz6_0
     try clear hcz6_1
     try clear hcz6_2
     try clear hcz6_3
     try clear hcz6_4
     try clear hcz6_5
     try clear hfz13_0
     try clear hfz13_1
     try clear hfz13_2
     try clear hfz13_3
     try clear hfz13_4
     try clear hfz13_5
     try clear hfz15_0
     try clear hfz15_1
     try clear hfz15_2
     try clear hfz15_3
     try clear hfz15_4
     try clear hfz15_5
     try clear hfz17_0
     try clear hfz17_1
     try clear hfz17_2
     try clear hfz17_3
     try clear hfz17_4
     try clear hfz17_5
     try clear hfz19_0
     try clear hfz19_1
     try clear hfz19_2
     try clear hfz19_3
     try clear hfz19_4
     try clear hfz19_5
     try clear hfz6_0
     try clear hfz6_1
     try clear hfz6_2
     try clear hfz6_3
     try clear hfz6_4
     try clear hfz6_5
     try clear hx121_0
     try clear hx121_1
     try clear hx121_2
     try clear hx123_0
     try clear hx123_1
     try clear hx123_2
     try clear p121
     try clear p123
     try clear q121
     try clear q123
     obtain ⟨kq, x35_3, rfl, HA, HJ3, BK119, HB⟩ := hcut
     cases kq with
     | zero => exact absurd HA.out (by simp [rf6terms.j0])
     | succ kj3 =>
       have H := HA.out
       clear HA
       simp only [rf6terms.j0] at H
       by_cases c20 : x35_3 = true
       · subst c20
         have H1 : (some false) = some r := by rw [if_pos rfl] at H; exact H
         clear H
         have H := H1
         clear H1
         obtain rfl := Option.some.inj H
         go_wp2
         go_ret
         exact ⟨by first | rfl | (simp [errW_none, errW_some] <;> rfl) | (simp [*, errW_none, errW_some] <;> rfl), by repeat (first | (with_reducible first | exact HB.out | apply bAl | apply pwDN | apply bD1 | refine bSt ?_ GE119.out) | exact HB.out)⟩
       · replace c20 := Bool.eq_false_iff.mpr c20
         subst c20
         have H1 : (if a0_0 = 9 then ((rf6sign.f a0_1).bind fun t125 => (some t125)) else (if a0_1.toList = ([] : List UInt8) then (if 0 < (l0_3.length : Int) then (if ((rd_T47 l0_3 0).f0) = 2 then (if 1 < (l0_3.length : Int) then (some (((rd_T47 l0_3 1).f0) == 2)) else (none)) else (some false)) else (none)) else (some false))) = some r := by rw [if_neg (show ¬ (false = true) by decide)] at H; exact H
         clear H
         have H := H1
         clear H1
         by_cases c21 : a0_0 = 9
         · rw [if_pos c21] at H
           have c21b0 : (a0_0 == 9) = true := beq_iff_eq.mpr c21
           have c21b1 : (a0_0 != 9) = false := bne_eq_false_iff_eq.mpr c21
           clear c21
           replace H := Option.bind_eq_some_iff.mp H
           obtain ⟨t125, A220, H⟩ := H
           replace H : (some t125) = some r := H
           have A22 := Aside0.mk A220
           clear A220
           obtain rfl := Option.some.inj H
           have hcz23_0 : wc.cell? ⟨gb119, 0, none⟩ = some (.int .i64 a0_0) := (bCl BK119.out 0).trans rfl
           have hcz23_1 : wc.cell? ⟨gb119, 1, none⟩ = some (.string a0_1) := (bCl BK119.out 1).trans rfl
           have hcz23_2 : wc.cell? ⟨gb119, 2, none⟩ = some (.int .i64 a0_2) := (bCl BK119.out 2).trans rfl
           have hcz23_3 : wc.cell? ⟨gb119, 3, none⟩ = some (.slice A0_3 l0_3.length c0_3) := (bCl BK119.out 3).trans rfl
           have hcz23_4 : wc.cell? ⟨gb119, 4, none⟩ = some (.slice A0_4 l0_4.length c0_4) := (bCl BK119.out 4).trans rfl
           have hcz23_5 : wc.cell? ⟨gb119, 5, none⟩ = some (.slice A0_5 l0_5.length c0_5) := (bCl BK119.out 5).trans rfl
           have hfz23_0 := bFz BK119.out 0
           have hfz23_1 := bFz BK119.out 1
           have hfz23_2 := bFz BK119.out 2
           have hfz23_3 := bFz BK119.out 3
           have hfz23_4 := bFz BK119.out 4
           have hfz23_5 := bFz BK119.out 5
           go_wp2_with (first | ((with_reducible refine gate_callee (f := 113) rfl ?_); refine goesL_ (some 41) rfl rfl Tryd.func113 (by kernel_rfl) rfl #[.string a0_1] rfl (by (try simp only [List.map_toArray, List.map_cons, List.map_nil]); first | done | rfl | (simp only [List.length_drop, List.length_take]; rfl)) ?_; (with_reducible refine (rf6sign.calls a0_1 t125 _ A22.out).mono ?_); rintro e w' ⟨rfl, ⟨nd, rfl⟩⟩; refine ⟨_, rfl, ?_⟩))
           go_ret
           exact ⟨by first | rfl | (simp [errW_none, errW_some] <;> rfl) | (simp [*, errW_none, errW_some] <;> rfl), by repeat (first | (with_reducible first | exact HB.out | apply bAl | apply pwDN | apply bD1 | refine bSt ?_ GE119.out) | exact HB.out)⟩
         · rw [if_neg c21] at H
           have c21b0 : (a0_0 == 9) = false := beq_eq_false_iff_ne.mpr c21
           have c21b1 : (a0_0 != 9) = true := bne_iff_ne.mpr c21
           by_cases c24 : a0_1.toList = ([] : List UInt8)
           · rw [if_pos c24] at H
             have c24b0 : (a0_1.toList == ([] : List UInt8)) = true := beq_iff_eq.mpr c24
             have c24b1 : (a0_1.toList != ([] : List UInt8)) = false := bne_eq_false_iff_eq.mpr c24
             clear c24
             by_cases c25 : 0 < (l0_3.length : Int)
             · rw [if_pos c25] at H
               have c25b0 : decide (0 < (l0_3.length : Int)) = true := decide_eq_true c25
               have c25b1 : decide (0 < l0_3.length) = true := decide_eq_true (by omega)
               clear c25
               by_cases c26 : ((rd_T47 l0_3 0).f0) = 2
               · rw [if_pos c26] at H
                 have c26b0 : (((rd_T47 l0_3 0).f0) == 2) = true := beq_iff_eq.mpr c26
                 have c26b1 : (((rd_T47 l0_3 0).f0) != 2) = false := bne_eq_false_iff_eq.mpr c26
                 clear c26
                 by_cases c27 : 1 < (l0_3.length : Int)
                 · rw [if_pos c27] at H
                   have c27b0 : decide (1 < (l0_3.length : Int)) = true := decide_eq_true c27
                   have c27b1 : decide (1 < l0_3.length) = true := decide_eq_true (by omega)
                   clear c27
                   obtain rfl := Option.some.inj H
                   have hcz28_0 : wc.cell? ⟨gb119, 0, none⟩ = some (.int .i64 a0_0) := (bCl BK119.out 0).trans rfl
                   have hcz28_1 : wc.cell? ⟨gb119, 1, none⟩ = some (.string a0_1) := (bCl BK119.out 1).trans rfl
                   have hcz28_2 : wc.cell? ⟨gb119, 2, none⟩ = some (.int .i64 a0_2) := (bCl BK119.out 2).trans rfl
                   have hcz28_3 : wc.cell? ⟨gb119, 3, none⟩ = some (.slice A0_3 l0_3.length c0_3) := (bCl BK119.out 3).trans rfl
                   have hcz28_4 : wc.cell? ⟨gb119, 4, none⟩ = some (.slice A0_4 l0_4.length c0_4) := (bCl BK119.out 4).trans rfl
                   have hcz28_5 : wc.cell? ⟨gb119, 5, none⟩ = some (.slice A0_5 l0_5.length c0_5) := (bCl BK119.out 5).trans rfl
                   have hfz28_0 := bFz BK119.out 0
                   have hfz28_1 := bFz BK119.out 1
                   have hfz28_2 := bFz BK119.out 2
                   have hfz28_3 := bFz BK119.out 3
                   have hfz28_4 := bFz BK119.out 4
                   have hfz28_5 := bFz BK119.out 5
                   have p126 : 0 ≤ (0 : Int) := (by omega)
                   have q126 : 0 < (l0_3.length : Int) := of_decide_eq_true (by first | (with_reducible assumption) | assumption)
                   obtain ⟨ad126, e126, hx126_0, hx126_1, hx126_2⟩ := at_T47 HR0_3.out 0 p126 q126
                   cases e126
                   have qi126 : (0 < l0_3.length) = True := eq_true (by omega)
                   (try rw [show ((0 : Int)).toNat = 0 from rfl] at hx126_0)
                   (try rw [show 0 * 3 = 0 from rfl] at hx126_0)
                   (try rw [Addr.add_zero'] at hx126_0)
                   (try rw [show ((0 : Int)).toNat = 0 from rfl] at hx126_1)
                   (try rw [show 0 * 3 = 0 from rfl] at hx126_1)
                   (try rw [Addr.add_zero'] at hx126_1)
                   (try rw [show ((0 : Int)).toNat = 0 from rfl] at hx126_2)
                   (try rw [show 0 * 3 = 0 from rfl] at hx126_2)
                   (try rw [Addr.add_zero'] at hx126_2)
                   replace hx126_0 := (HB.out.cell (World.block_lt_of_cell? w _ hx126_0)).trans hx126_0
                   replace hx126_1 := (HB.out.cell (World.block_lt_of_cell? w _ hx126_1)).trans hx126_1
                   replace hx126_2 := (HB.out.cell (World.block_lt_of_cell? w _ hx126_2)).trans hx126_2
                   replace p126 := eq_true p126
                   replace q126 := eq_true q126
                   have p127 : 0 ≤ (1 : Int) := (by omega)
                   have q127 : 1 < (l0_3.length : Int) := of_decide_eq_true (by first | (with_reducible assumption) | assumption)
                   obtain ⟨ad127, e127, hx127_0, hx127_1, hx127_2⟩ := at_T47 HR0_3.out 1 p127 q127
                   obtain rfl : ad126 = ad127 := (by injection e127)
                   (try simp only [show (1 : Int).toNat = 1 from rfl, Nat.reduceMul, Nat.reduceEqDiff, Go.Addr.add, ↓reduceIte] at hx127_0)
                   (try simp only [show (1 : Int).toNat = 1 from rfl, Nat.reduceMul, Nat.reduceEqDiff, Go.Addr.add, ↓reduceIte] at hx127_1)
                   (try simp only [show (1 : Int).toNat = 1 from rfl, Nat.reduceMul, Nat.reduceEqDiff, Go.Addr.add, ↓reduceIte] at hx127_2)
                   have qi127 : (1 < l0_3.length) = True := eq_true (by omega)
                   (try rw [show ((1 : Int)).toNat = 1 from rfl] at hx127_0)
                   (try rw [show 1 * 3 = 3 from rfl] at hx127_0)
                   (try rw [show ((1 : Int)).toNat = 1 from rfl] at hx127_1)
                   (try rw [show 1 * 3 = 3 from rfl] at hx127_1)
                   (try rw [show ((1 : Int)).toNat = 1 from rfl] at hx127_2)
                   (try rw [show 1 * 3 = 3 from rfl] at hx127_2)
                   replace hx127_0 := (HB.out.cell (World.block_lt_of_cell? w _ hx127_0)).trans hx127_0
                   replace hx127_1 := (HB.out.cell (World.block_lt_of_cell? w _ hx127_1)).trans hx127_1
                   replace hx127_2 := (HB.out.cell (World.block_lt_of_cell? w _ hx127_2)).trans hx127_2
                   replace p127 := eq_true p127
                   replace q127 := eq_true q127
                   go_wp2
                   go_ret
                   exact ⟨by first | rfl | (simp [errW_none, errW_some] <;> rfl) | (simp [*, errW_none, errW_some] <;> rfl), by repeat (first | (with_reducible first | exact HB.out | apply bAl | apply pwDN | apply bD1 | refine bSt ?_ GE119.out) | exact HB.out)⟩
                 · rw [if_neg c27] at H
                   exact absurd H (by simp)
               · rw [if_neg c26] at H
                 have c26b0 : (((rd_T47 l0_3 0).f0) == 2) = false := beq_eq_false_iff_ne.mpr c26
                 have c26b1 : (((rd_T47 l0_3 0).f0) != 2) = true := bne_iff_ne.mpr c26
                 obtain rfl := Option.some.inj H
                 have hcz29_0 : wc.cell? ⟨gb119, 0, none⟩ = some (.int .i64 a0_0) := (bCl BK119.out 0).trans rfl
                 have hcz29_1 : wc.cell? ⟨gb119, 1, none⟩ = some (.string a0_1) := (bCl BK119.out 1).trans rfl
                 have hcz29_2 : wc.cell? ⟨gb119, 2, none⟩ = some (.int .i64 a0_2) := (bCl BK119.out 2).trans rfl
                 have hcz29_3 : wc.cell? ⟨gb119, 3, none⟩ = some (.slice A0_3 l0_3.length c0_3) := (bCl BK119.out 3).trans rfl
                 have hcz29_4 : wc.cell? ⟨gb119, 4, none⟩ = some (.slice A0_4 l0_4.length c0_4) := (bCl BK119.out 4).trans rfl
                 have hcz29_5 : wc.cell? ⟨gb119, 5, none⟩ = some (.slice A0_5 l0_5.length c0_5) := (bCl BK119.out 5).trans rfl
                 have hfz29_0 := bFz BK119.out 0
                 have hfz29_1 := bFz BK119.out 1
                 have hfz29_2 := bFz BK119.out 2
                 have hfz29_3 := bFz BK119.out 3
                 have hfz29_4 := bFz BK119.out 4
                 have hfz29_5 := bFz BK119.out 5
                 have p126 : 0 ≤ (0 : Int) := (by omega)
                 have q126 : 0 < (l0_3.length : Int) := of_decide_eq_true (by first | (with_reducible assumption) | assumption)
                 obtain ⟨ad126, e126, hx126_0, hx126_1, hx126_2⟩ := at_T47 HR0_3.out 0 p126 q126
                 cases e126
                 have qi126 : (0 < l0_3.length) = True := eq_true (by omega)
                 (try rw [show ((0 : Int)).toNat = 0 from rfl] at hx126_0)
                 (try rw [show 0 * 3 = 0 from rfl] at hx126_0)
                 (try rw [Addr.add_zero'] at hx126_0)
                 (try rw [show ((0 : Int)).toNat = 0 from rfl] at hx126_1)
                 (try rw [show 0 * 3 = 0 from rfl] at hx126_1)
                 (try rw [Addr.add_zero'] at hx126_1)
                 (try rw [show ((0 : Int)).toNat = 0 from rfl] at hx126_2)
                 (try rw [show 0 * 3 = 0 from rfl] at hx126_2)
                 (try rw [Addr.add_zero'] at hx126_2)
                 replace hx126_0 := (HB.out.cell (World.block_lt_of_cell? w _ hx126_0)).trans hx126_0
                 replace hx126_1 := (HB.out.cell (World.block_lt_of_cell? w _ hx126_1)).trans hx126_1
                 replace hx126_2 := (HB.out.cell (World.block_lt_of_cell? w _ hx126_2)).trans hx126_2
                 replace p126 := eq_true p126
                 replace q126 := eq_true q126
                 go_wp2
                 go_ret
                 exact ⟨by first | rfl | (simp [errW_none, errW_some] <;> rfl) | (simp [*, errW_none, errW_some] <;> rfl), by repeat (first | (with_reducible first | exact HB.out | apply bAl | apply pwDN | apply bD1 | refine bSt ?_ GE119.out) | exact HB.out)⟩
             · rw [if_neg c25] at H
               exact absurd H (by simp)
           · rw [if_neg c24] at H
             have c24b0 : (a0_1.toList == ([] : List UInt8)) = false := beq_eq_false_iff_ne.mpr c24
             have c24b1 : (a0_1.toList != ([] : List UInt8)) = true := bne_iff_ne.mpr c24
             obtain rfl := Option.some.inj H
             have hcz30_0 : wc.cell? ⟨gb119, 0, none⟩ = some (.int .i64 a0_0) := (bCl BK119.out 0).trans rfl
             have hcz30_1 : wc.cell? ⟨gb119, 1, none⟩ = some (.string a0_1) := (bCl BK119.out 1).trans rfl
             have hcz30_2 : wc.cell? ⟨gb119, 2, none⟩ = some (.int .i64 a0_2) := (bCl BK119.out 2).trans rfl
             have hcz30_3 : wc.cell? ⟨gb119, 3, none⟩ = some (.slice A0_3 l0_3.length c0_3) := (bCl BK119.out 3).trans rfl
             have hcz30_4 : wc.cell? ⟨gb119, 4, none⟩ = some (.slice A0_4 l0_4.length c0_4) := (bCl BK119.out 4).trans rfl
             have hcz30_5 : wc.cell? ⟨gb119, 5, none⟩ = some (.slice A0_5 l0_5.length c0_5) := (bCl BK119.out 5).trans rfl
             have hfz30_0 := bFz BK119.out 0
             have hfz30_1 := bFz BK119.out 1
             have hfz30_2 := bFz BK119.out 2
             have hfz30_3 := bFz BK119.out 3
             have hfz30_4 := bFz BK119.out 4
             have hfz30_5 := bFz BK119.out 5
             go_wp2
             go_ret
             exact ⟨by first | rfl | (simp [errW_none, errW_some] <;> rfl) | (simp [*, errW_none, errW_some] <;> rfl), by repeat (first | (with_reducible first | exact HB.out | apply bAl | apply pwDN | apply bD1 | refine bSt ?_ GE119.out) | exact HB.out)⟩
 · replace c3 := Bool.eq_false_iff.mpr c3
   subst c3
   have H1 : (if (l0_3.length : Int) = 0 then (some (a0_1.toList == ([] : List UInt8))) else (some false)) = some r := by rw [if_neg (show ¬ (false = true) by decide)] at H; exact H
   clear H
   have H := H1
   clear H1
   by_cases c31 : (l0_3.length : Int) = 0
   · rw [if_pos c31] at H
     have c31b0 : ((l0_3.length : Int) == 0) = true := beq_iff_eq.mpr c31
     have c31b1 : ((l0_3.length : Int) != 0) = false := bne_eq_false_iff_eq.mpr c31
     clear c31
     obtain rfl := Option.some.inj H
     go_enter Tryd.func90, Tryd.ntmps90
     go_wp2_with (first | ((with_reducible refine gate_dst (N := 1) rfl ?_); refine box_event ?hg (N := 1) ?hd (cs := #[.int .i64 a0_0, .string a0_1, .int .i64 a0_2, .slice A0_3 l0_3.length c0_3, .slice A0_4 l0_4.length c0_4, .slice A0_5 l0_5.length c0_5]) (t := 26) ?hr ?_; (case hd => rfl); (case hg => rfl); (case hr => first | (go_simp; done) | (go_simp; rfl)); intro gb119 hg w32 hbox hb; have n0_ := Aside0.mk (below_step (by repeat (first | (with_reducible first | exact HB.out | apply bAl | apply pwDN | apply bD1) | exact HB.out)) hb); have n1_ := Aside0.mk (hbox); have n2_ := Aside0.mk ((by rw [hg]; exact (below_size (by repeat (first | (with_reducible first | exact HB.out | apply bAl | apply pwDN | apply bD1) | exact HB.out))) : w.heap.size ≤ gb119)); have n3_ := Aside0.mk ((by rw [hg]; exact (below_size (by repeat (first | (with_reducible first | exact HB.out | apply bAl | apply pwDN | apply bD1) | exact HB.out))) : w.heap.size ≤ gb119)); clear HB; have HB := n0_; have BK119 := n1_; have GW119 := n2_; have GE119 := n3_; clear n0_ n1_ n2_ n3_; clear hb hbox hg; have hcz33_0 : w32.cell? ⟨gb119, 0, none⟩ = some (.int .i64 a0_0) := (bCl BK119.out 0).trans rfl; have hcz33_1 : w32.cell? ⟨gb119, 1, none⟩ = some (.string a0_1) := (bCl BK119.out 1).trans rfl; have hcz33_2 : w32.cell? ⟨gb119, 2, none⟩ = some (.int .i64 a0_2) := (bCl BK119.out 2).trans rfl; have hcz33_3 : w32.cell? ⟨gb119, 3, none⟩ = some (.slice A0_3 l0_3.length c0_3) := (bCl BK119.out 3).trans rfl; have hcz33_4 : w32.cell? ⟨gb119, 4, none⟩ = some (.slice A0_4 l0_4.length c0_4) := (bCl BK119.out 4).trans rfl; have hcz33_5 : w32.cell? ⟨gb119, 5, none⟩ = some (.slice A0_5 l0_5.length c0_5) := (bCl BK119.out 5).trans rfl; have hfz33_0 := bFz BK119.out 0; have hfz33_1 := bFz BK119.out 1; have hfz33_2 := bFz BK119.out 2; have hfz33_3 := bFz BK119.out 3; have hfz33_4 := bFz BK119.out 4; have hfz33_5 := bFz BK119.out 5) | ((with_reducible refine gate_callee (f := 96) rfl ?_); refine goesL_ (some 5) rfl rfl Tryd.func96 (by kernel_rfl) rfl #[.int .i64 a0_0] rfl (by (try simp only [List.map_toArray, List.map_cons, List.map_nil]); first | done | rfl | (simp only [List.length_drop, List.length_take]; rfl)) ?_; (with_reducible refine (rf6Atom.calls a0_0 false _ A2.out).mono ?_); rintro e w' ⟨rfl, ⟨nd, rfl⟩⟩; refine ⟨_, rfl, ?_⟩))
     go_ret
     exact ⟨by first | rfl | (simp [errW_none, errW_some] <;> rfl) | (simp [*, errW_none, errW_some] <;> rfl), by repeat (first | (with_reducible first | exact HB.out | apply bAl | apply pwDN | apply bD1 | refine bSt ?_ GE119.out) | exact HB.out)⟩
   · rw [if_neg c31] at H
     have c31b0 : ((l0_3.length : Int) == 0) = false := beq_eq_false_iff_ne.mpr c31
     have c31b1 : ((l0_3.length : Int) != 0) = true := bne_iff_ne.mpr c31
     have c31b2 : ¬ (l0_3 = []) := fun h_ => c31 (by rw [h_]; rfl)
     obtain rfl := Option.some.inj H
     go_enter Tryd.func90, Tryd.ntmps90
     go_wp2_with (first | ((with_reducible refine gate_dst (N := 1) rfl ?_); refine box_event ?hg (N := 1) ?hd (cs := #[.int .i64 a0_0, .string a0_1, .int .i64 a0_2, .slice A0_3 l0_3.length c0_3, .slice A0_4 l0_4.length c0_4, .slice A0_5 l0_5.length c0_5]) (t := 26) ?hr ?_; (case hd => rfl); (case hg => rfl); (case hr => first | (go_simp; done) | (go_simp; rfl)); intro gb119 hg w34 hbox hb; have n0_ := Aside0.mk (below_step (by repeat (first | (with_reducible first | exact HB.out | apply bAl | apply pwDN | apply bD1) | exact HB.out)) hb); have n1_ := Aside0.mk (hbox); have n2_ := Aside0.mk ((by rw [hg]; exact (below_size (by repeat (first | (with_reducible first | exact HB.out | apply bAl | apply pwDN | apply bD1) | exact HB.out))) : w.heap.size ≤ gb119)); have n3_ := Aside0.mk ((by rw [hg]; exact (below_size (by repeat (first | (with_reducible first | exact HB.out | apply bAl | apply pwDN | apply bD1) | exact HB.out))) : w.heap.size ≤ gb119)); clear HB; have HB := n0_; have BK119 := n1_; have GW119 := n2_; have GE119 := n3_; clear n0_ n1_ n2_ n3_; clear hb hbox hg; have hcz35_0 : w34.cell? ⟨gb119, 0, none⟩ = some (.int .i64 a0_0) := (bCl BK119.out 0).trans rfl; have hcz35_1 : w34.cell? ⟨gb119, 1, none⟩ = some (.string a0_1) := (bCl BK119.out 1).trans rfl; have hcz35_2 : w34.cell? ⟨gb119, 2, none⟩ = some (.int .i64 a0_2) := (bCl BK119.out 2).trans rfl; have hcz35_3 : w34.cell? ⟨gb119, 3, none⟩ = some (.slice A0_3 l0_3.length c0_3) := (bCl BK119.out 3).trans rfl; have hcz35_4 : w34.cell? ⟨gb119, 4, none⟩ = some (.slice A0_4 l0_4.length c0_4) := (bCl BK119.out 4).trans rfl; have hcz35_5 : w34.cell? ⟨gb119, 5, none⟩ = some (.slice A0_5 l0_5.length c0_5) := (bCl BK119.out 5).trans rfl; have hfz35_0 := bFz BK119.out 0; have hfz35_1 := bFz BK119.out 1; have hfz35_2 := bFz BK119.out 2; have hfz35_3 := bFz BK119.out 3; have hfz35_4 := bFz BK119.out 4; have hfz35_5 := bFz BK119.out 5) | ((with_reducible refine gate_callee (f := 96) rfl ?_); refine goesL_ (some 5) rfl rfl Tryd.func96 (by kernel_rfl) rfl #[.int .i64 a0_0] rfl (by (try simp only [List.map_toArray, List.map_cons, List.map_nil]); first | done | rfl | (simp only [List.length_drop, List.length_take]; rfl)) ?_; (with_reducible refine (rf6Atom.calls a0_0 false _ A2.out).mono ?_); rintro e w' ⟨rfl, ⟨nd, rfl⟩⟩; refine ⟨_, rfl, ?_⟩))
     go_ret
     exact ⟨by first | rfl | (simp [errW_none, errW_some] <;> rfl) | (simp [*, errW_none, errW_some] <;> rfl), by repeat (first | (with_reducible first | exact HB.out | apply bAl | apply pwDN | apply bD1 | refine bSt ?_ GE119.out) | exact HB.out)⟩
def rf6Quantifies.f (a0 : Int) : Option (Bool) := if a0 ≥ 14 then (some (decide (a0 ≤ 17))) else (some false)
set_option maxHeartbeats 8000000 in
set_option maxRecDepth 100000 in
theorem rf6Quantifies.calls (a0 : Int) (r : Bool) (w : World) (h : rf6Quantifies.f a0 = some r) :
   Calls Tryd.prog 114 #[.int .i64 a0] w fun e w' => e = .returned (.bool r) ∧ Drawn0 w w' := by
 have H : (if a0 ≥ 14 then (some (decide (a0 ≤ 17))) else (some false)) = some r := h
 clear h
 by_cases c2 : a0 ≥ 14
 · rw [if_pos c2] at H
   have c2b0 : decide (14 ≤ a0) = true := decide_eq_true c2
   clear c2
   obtain rfl := Option.some.inj H
   go_enter Tryd.func114, Tryd.ntmps114
   go_wp2
   go_ret
   exact ⟨by first | rfl | (simp; done) | (simp [*]; done), by repeat (first | exact Drawn0.refl _ | apply Drawn0.step)⟩
 · rw [if_neg c2] at H
   have c2b0 : decide (14 ≤ a0) = false := decide_eq_false c2
   clear c2
   obtain rfl := Option.some.inj H
   go_enter Tryd.func114, Tryd.ntmps114
   go_wp2
   go_ret
   exact ⟨by first | rfl | (simp; done) | (simp [*]; done), by repeat (first | exact Drawn0.refl _ | apply Drawn0.step)⟩
def rf6binds.l0 : Nat → Int → Int → ByteArray → Int → List (S47) → List (S42) → List (S26) → Option (Bool)
 | 0, _, _, _, _, _, _, _ => none
 | k + 1, x3, x129000, x129001, x129002, x129003, x129004, x129005 => if x3 < (x129004.length : Int) then (if 0 ≤ x3 then ((rf6Name.f k ((rd_T42 x129004 x3).f0)).bind fun t131 => (if t131 = true then (if ((rd_T42 x129004 x3).f1) < 1 then (some false) else (if ((rd_T42 x129004 x3).f1) > 7 then (some false) else (rf6binds.l0 k (wrap64 (x3 + 1)) x129000 x129001 x129002 x129003 x129004 x129005))) else (some false))) else (none)) else (if x129000 = 16 then (if (x129004.length : Int) ≥ 1 then (if (x129004.length : Int) ≤ 6 then (if x129002 = 0 then (some true) else (if x129002 > 0 then (some (decide (x129002 ≤ 1099511627776))) else (some false))) else (some false)) else (some false)) else (if (x129004.length : Int) ≥ 1 then (if (x129004.length : Int) ≤ 6 then (if x129002 = 0 then (some true) else (if x129000 = 17 then (if x129002 > 0 then (some (decide (x129002 ≤ 1099511627776))) else (some false)) else (some false))) else (some false)) else (some false)))
def rf6binds.f (k : Nat) (a0_0 : Int) (a0_1 : ByteArray) (a0_2 : Int) (l0_3 : List (S47)) (l0_4 : List (S42)) (l0_5 : List (S26)) : Option (Bool) := (rf6Quantifies.f a0_0).bind fun t129 => (if t129 = true then (rf6binds.l0 k 0 a0_0 a0_1 a0_2 l0_3 l0_4 l0_5) else (if (l0_4.length : Int) = 0 then (some (a0_2 == 0)) else (some false)))
set_option maxHeartbeats 8000000 in
set_option maxRecDepth 100000 in
theorem rf6binds.calls (k : Nat) (a0_0 : Int) (a0_1 : ByteArray) (a0_2 : Int) (A0_3 : Option Addr) (c0_3 : Nat) (l0_3 : List (S47)) (A0_4 : Option Addr) (c0_4 : Nat) (l0_4 : List (S42)) (A0_5 : Option Addr) (c0_5 : Nat) (l0_5 : List (S26)) (r : Bool) (w : World) (hr0_3 : Kd.C k47 w A0_3 l0_3.length l0_3) (hc0_3 : l0_3.length ≤ c0_3) (hr0_4 : Kd.C k42 w A0_4 l0_4.length l0_4) (hc0_4 : l0_4.length ≤ c0_4) (hr0_5 : Kd.C k26 w A0_5 l0_5.length l0_5) (hc0_5 : l0_5.length ≤ c0_5) (h : rf6binds.f k a0_0 a0_1 a0_2 l0_3 l0_4 l0_5 = some r) :
   Calls Tryd.prog 91 #[.agg #[.int .i64 a0_0, .string a0_1, .int .i64 a0_2, .slice A0_3 l0_3.length c0_3, .slice A0_4 l0_4.length c0_4, .slice A0_5 l0_5.length c0_5]] w fun e w' => e = .returned (.bool r) ∧ Below w.heap.size w w' := by
 have hu26 := Tryd.underlying26
 have HR0_3 := Aside0.mk hr0_3
 have HC0_3 := Aside0.mk hc0_3
 clear hr0_3 hc0_3
 have HR0_4 := Aside0.mk hr0_4
 have HC0_4 := Aside0.mk hc0_4
 clear hr0_4 hc0_4
 have HR0_5 := Aside0.mk hr0_5
 have HC0_5 := Aside0.mk hc0_5
 clear hr0_5 hc0_5
 have HB := Aside0.mk (Below.refl w.heap.size w)
 have H : ((rf6Quantifies.f a0_0).bind fun t129 => (if t129 = true then (rf6binds.l0 k 0 a0_0 a0_1 a0_2 l0_3 l0_4 l0_5) else (if (l0_4.length : Int) = 0 then (some (a0_2 == 0)) else (some false)))) = some r := h
 clear h
 replace H := Option.bind_eq_some_iff.mp H
 obtain ⟨t129, A20, H⟩ := H
 replace H : (if t129 = true then (rf6binds.l0 k 0 a0_0 a0_1 a0_2 l0_3 l0_4 l0_5) else (if (l0_4.length : Int) = 0 then (some (a0_2 == 0)) else (some false))) = some r := H
 have A2 := Aside0.mk A20
 clear A20
 by_cases c3 : t129 = true
 · subst c3
   have H1 : (rf6binds.l0 k 0 a0_0 a0_1 a0_2 l0_3 l0_4 l0_5) = some r := by rw [if_pos rfl] at H; exact H
   clear H
   have H := H1
   clear H1
   have H' := Aside0.mk H
   clear H
   go_enter Tryd.func91, Tryd.ntmps91
   go_wp2_with (first | ((with_reducible refine gate_dst (N := 1) rfl ?_); (try (refine gate_guard (by rfl) ?_; dsimp only)); refine box_event ?hg (N := 1) ?hd (cs := #[.int .i64 a0_0, .string a0_1, .int .i64 a0_2, .slice A0_3 l0_3.length c0_3, .slice A0_4 l0_4.length c0_4, .slice A0_5 l0_5.length c0_5]) (t := 26) ?hr ?_; (case hd => rfl); (case hg => rfl); (case hr => first | (go_simp; done) | (go_simp; rfl)); intro gb128 hg w4 hbox hb; have n0_ := Aside0.mk (below_step (by repeat (first | (with_reducible first | exact HB.out | apply bAl | apply pwDN | apply bD1) | exact HB.out)) hb); have n1_ := Aside0.mk (hbox); have n2_ := Aside0.mk ((by rw [hg]; exact (below_size (by repeat (first | (with_reducible first | exact HB.out | apply bAl | apply pwDN | apply bD1) | exact HB.out))) : w.heap.size ≤ gb128)); have n3_ := Aside0.mk ((by rw [hg]; exact (below_size (by repeat (first | (with_reducible first | exact HB.out | apply bAl | apply pwDN | apply bD1) | exact HB.out))) : w.heap.size ≤ gb128)); clear HB; have HB := n0_; have BK128 := n1_; have GW128 := n2_; have GE128 := n3_; clear n0_ n1_ n2_ n3_; clear hb hbox hg; have hcz5_0 : w4.cell? ⟨gb128, 0, none⟩ = some (.int .i64 a0_0) := (bCl BK128.out 0).trans rfl; have hcz5_1 : w4.cell? ⟨gb128, 1, none⟩ = some (.string a0_1) := (bCl BK128.out 1).trans rfl; have hcz5_2 : w4.cell? ⟨gb128, 2, none⟩ = some (.int .i64 a0_2) := (bCl BK128.out 2).trans rfl; have hcz5_3 : w4.cell? ⟨gb128, 3, none⟩ = some (.slice A0_3 l0_3.length c0_3) := (bCl BK128.out 3).trans rfl; have hcz5_4 : w4.cell? ⟨gb128, 4, none⟩ = some (.slice A0_4 l0_4.length c0_4) := (bCl BK128.out 4).trans rfl; have hcz5_5 : w4.cell? ⟨gb128, 5, none⟩ = some (.slice A0_5 l0_5.length c0_5) := (bCl BK128.out 5).trans rfl; have hfz5_0 := bFz BK128.out 0; have hfz5_1 := bFz BK128.out 1; have hfz5_2 := bFz BK128.out 2; have hfz5_3 := bFz BK128.out 3; have hfz5_4 := bFz BK128.out 4; have hfz5_5 := bFz BK128.out 5) | ((with_reducible refine gate_callee (f := 114) rfl ?_); refine goesL_ (some 7) rfl rfl Tryd.func114 (by kernel_rfl) rfl #[.int .i64 a0_0] rfl (by (try simp only [List.map_toArray, List.map_cons, List.map_nil]); first | done | rfl | (simp only [List.length_drop, List.length_take]; rfl)) ?_; (with_reducible refine (rf6Quantifies.calls a0_0 true _ A2.out).mono ?_); rintro e w' ⟨rfl, ⟨nd, rfl⟩⟩; refine ⟨_, rfl, ?_⟩))
   go_loopg [3] k (fun kq v3 w' => ∃ (x3_1 : Int), v3 = .int .i64 x3_1 ∧ Aside0 (rf6binds.l0 kq x3_1 a0_0 a0_1 a0_2 l0_3 l0_4 l0_5 = some r) ∧ Aside0 (kq ≤ k) ∧ Aside0 (w'.heap[gb128]? = some (.cells #[.int .i64 a0_0, .string a0_1, .int .i64 a0_2, (.slice A0_3 l0_3.length c0_3), (.slice A0_4 l0_4.length c0_4), (.slice A0_5 l0_5.length c0_5)] 26 (0, 0))) ∧ Aside0 (Below w.heap.size w w'))
   case atStart => exact ⟨(0), (by first | rfl | (simp; done) | (simp [*]; done)), H', ⟨Nat.le_refl _⟩, ⟨by (with_reducible repeat (first | refine blk_drewN ?_ _ | refine blk_drew ?_ | refine blk_alloc ?_ _)); exact BK128.out⟩, ⟨by repeat (first | (with_reducible first | exact HB.out | apply bAl | apply pwDN | apply bD1 | refine bSt ?_ GE128.out) | exact HB.out)⟩⟩
   case round =>
     clear H'
     try clear c1
     try clear p2
     try clear c3
     try clear hcz5_0
     try clear hcz5_1
     try clear hcz5_2
     try clear hcz5_3
     try clear hcz5_4
     try clear hcz5_5
     try clear hfz5_0
     try clear hfz5_1
     try clear hfz5_2
     try clear hfz5_3
     try clear hfz5_4
     try clear hfz5_5
     obtain ⟨x3_1, rfl, HA, HK1, BK128, HB⟩ := hrel
     cases gk with
     | zero => exact absurd HA.out (by simp [rf6binds.l0])
     | succ k1 =>
       have H := HA.out
       clear HA
       simp only [rf6binds.l0] at H
       by_cases c6 : x3_1 < (l0_4.length : Int)
       · rw [if_pos c6] at H
         have c6b0 : decide (x3_1 < (l0_4.length : Int)) = true := decide_eq_true c6
         clear c6
         by_cases c7 : 0 ≤ x3_1
         · rw [if_pos c7] at H
           have c7b0 : decide (0 ≤ x3_1) = true := decide_eq_true c7
           clear c7
           replace H := Option.bind_eq_some_iff.mp H
           obtain ⟨t131, A80, H⟩ := H
           replace H : (if t131 = true then (if ((rd_T42 l0_4 x3_1).f1) < 1 then (some false) else (if ((rd_T42 l0_4 x3_1).f1) > 7 then (some false) else (rf6binds.l0 k1 (wrap64 (x3_1 + 1)) a0_0 a0_1 a0_2 l0_3 l0_4 l0_5))) else (some false)) = some r := H
           have A8 := Aside0.mk A80
           clear A80
           by_cases c9 : t131 = true
           · subst c9
             have H1 : (if ((rd_T42 l0_4 x3_1).f1) < 1 then (some false) else (if ((rd_T42 l0_4 x3_1).f1) > 7 then (some false) else (rf6binds.l0 k1 (wrap64 (x3_1 + 1)) a0_0 a0_1 a0_2 l0_3 l0_4 l0_5))) = some r := by rw [if_pos rfl] at H; exact H
             clear H
             have H := H1
             clear H1
             by_cases c10 : ((rd_T42 l0_4 x3_1).f1) < 1
             · rw [if_pos c10] at H
               have c10b0 : decide (((rd_T42 l0_4 x3_1).f1) < 1) = true := decide_eq_true c10
               clear c10
               obtain rfl := Option.some.inj H
               have hcz11_0 : wr.cell? ⟨gb128, 0, none⟩ = some (.int .i64 a0_0) := (bCl BK128.out 0).trans rfl
               have hcz11_1 : wr.cell? ⟨gb128, 1, none⟩ = some (.string a0_1) := (bCl BK128.out 1).trans rfl
               have hcz11_2 : wr.cell? ⟨gb128, 2, none⟩ = some (.int .i64 a0_2) := (bCl BK128.out 2).trans rfl
               have hcz11_3 : wr.cell? ⟨gb128, 3, none⟩ = some (.slice A0_3 l0_3.length c0_3) := (bCl BK128.out 3).trans rfl
               have hcz11_4 : wr.cell? ⟨gb128, 4, none⟩ = some (.slice A0_4 l0_4.length c0_4) := (bCl BK128.out 4).trans rfl
               have hcz11_5 : wr.cell? ⟨gb128, 5, none⟩ = some (.slice A0_5 l0_5.length c0_5) := (bCl BK128.out 5).trans rfl
               have hfz11_0 := bFz BK128.out 0
               have hfz11_1 := bFz BK128.out 1
               have hfz11_2 := bFz BK128.out 2
               have hfz11_3 := bFz BK128.out 3
               have hfz11_4 := bFz BK128.out 4
               have hfz11_5 := bFz BK128.out 5
               have p130 : 0 ≤ (x3_1 : Int) := of_decide_eq_true (by first | (with_reducible assumption) | assumption)
               have q130 : x3_1 < (l0_4.length : Int) := of_decide_eq_true (by first | (with_reducible assumption) | assumption)
               obtain ⟨ad130, e130, hx130_0, hx130_1⟩ := at_T42 HR0_4.out x3_1 p130 q130
               cases e130
               replace hx130_0 := (HB.out.cell (World.block_lt_of_cell? w _ hx130_0)).trans hx130_0
               replace hx130_1 := (HB.out.cell (World.block_lt_of_cell? w _ hx130_1)).trans hx130_1
               replace p130 := eq_true p130
               replace q130 := eq_true q130
               go_wp2_with (first | ((with_reducible refine gate_callee (f := 49) rfl ?_); refine goesL_ (some 31) rfl rfl Tryd.func49 (by kernel_rfl) rfl #[.string ((rd_T42 l0_4 x3_1).f0)] rfl (by (try simp only [List.map_toArray, List.map_cons, List.map_nil]); first | done | rfl | (simp only [List.length_drop, List.length_take]; rfl)) ?_; (with_reducible refine (rf6Name.calls k1 ((rd_T42 l0_4 x3_1).f0) true _ A8.out).mono ?_); rintro e w' ⟨rfl, ⟨nd, rfl⟩⟩; refine ⟨_, rfl, ?_⟩; have p132 : 0 ≤ (x3_1 : Int) := of_decide_eq_true (by first | (with_reducible assumption) | assumption); have q132 : x3_1 < (l0_4.length : Int) := of_decide_eq_true (by first | (with_reducible assumption) | assumption); obtain ⟨ad132, e132, hx132_0, hx132_1⟩ := at_T42 HR0_4.out x3_1 p132 q132; obtain rfl : ad130 = ad132 := (by injection e132); replace hx132_0 := (HB.out.cell (World.block_lt_of_cell? w _ hx132_0)).trans hx132_0; replace hx132_1 := (HB.out.cell (World.block_lt_of_cell? w _ hx132_1)).trans hx132_1; replace p132 := eq_true p132; replace q132 := eq_true q132))
               go_ret
               exact ⟨by first | rfl | (simp [errW_none, errW_some] <;> rfl) | (simp [*, errW_none, errW_some] <;> rfl), by repeat (first | (with_reducible first | exact HB.out | apply bAl | apply pwDN | apply bD1 | refine bSt ?_ GE128.out) | exact HB.out)⟩
             · rw [if_neg c10] at H
               have c10b0 : decide (((rd_T42 l0_4 x3_1).f1) < 1) = false := decide_eq_false c10
               clear c10
               by_cases c12 : ((rd_T42 l0_4 x3_1).f1) > 7
               · rw [if_pos c12] at H
                 have c12b0 : decide (7 < ((rd_T42 l0_4 x3_1).f1)) = true := decide_eq_true c12
                 clear c12
                 obtain rfl := Option.some.inj H
                 have hcz13_0 : wr.cell? ⟨gb128, 0, none⟩ = some (.int .i64 a0_0) := (bCl BK128.out 0).trans rfl
                 have hcz13_1 : wr.cell? ⟨gb128, 1, none⟩ = some (.string a0_1) := (bCl BK128.out 1).trans rfl
                 have hcz13_2 : wr.cell? ⟨gb128, 2, none⟩ = some (.int .i64 a0_2) := (bCl BK128.out 2).trans rfl
                 have hcz13_3 : wr.cell? ⟨gb128, 3, none⟩ = some (.slice A0_3 l0_3.length c0_3) := (bCl BK128.out 3).trans rfl
                 have hcz13_4 : wr.cell? ⟨gb128, 4, none⟩ = some (.slice A0_4 l0_4.length c0_4) := (bCl BK128.out 4).trans rfl
                 have hcz13_5 : wr.cell? ⟨gb128, 5, none⟩ = some (.slice A0_5 l0_5.length c0_5) := (bCl BK128.out 5).trans rfl
                 have hfz13_0 := bFz BK128.out 0
                 have hfz13_1 := bFz BK128.out 1
                 have hfz13_2 := bFz BK128.out 2
                 have hfz13_3 := bFz BK128.out 3
                 have hfz13_4 := bFz BK128.out 4
                 have hfz13_5 := bFz BK128.out 5
                 have p130 : 0 ≤ (x3_1 : Int) := of_decide_eq_true (by first | (with_reducible assumption) | assumption)
                 have q130 : x3_1 < (l0_4.length : Int) := of_decide_eq_true (by first | (with_reducible assumption) | assumption)
                 obtain ⟨ad130, e130, hx130_0, hx130_1⟩ := at_T42 HR0_4.out x3_1 p130 q130
                 cases e130
                 replace hx130_0 := (HB.out.cell (World.block_lt_of_cell? w _ hx130_0)).trans hx130_0
                 replace hx130_1 := (HB.out.cell (World.block_lt_of_cell? w _ hx130_1)).trans hx130_1
                 replace p130 := eq_true p130
                 replace q130 := eq_true q130
                 go_wp2_with (first | ((with_reducible refine gate_callee (f := 49) rfl ?_); refine goesL_ (some 31) rfl rfl Tryd.func49 (by kernel_rfl) rfl #[.string ((rd_T42 l0_4 x3_1).f0)] rfl (by (try simp only [List.map_toArray, List.map_cons, List.map_nil]); first | done | rfl | (simp only [List.length_drop, List.length_take]; rfl)) ?_; (with_reducible refine (rf6Name.calls k1 ((rd_T42 l0_4 x3_1).f0) true _ A8.out).mono ?_); rintro e w' ⟨rfl, ⟨nd, rfl⟩⟩; refine ⟨_, rfl, ?_⟩; have p132 : 0 ≤ (x3_1 : Int) := of_decide_eq_true (by first | (with_reducible assumption) | assumption); have q132 : x3_1 < (l0_4.length : Int) := of_decide_eq_true (by first | (with_reducible assumption) | assumption); obtain ⟨ad132, e132, hx132_0, hx132_1⟩ := at_T42 HR0_4.out x3_1 p132 q132; obtain rfl : ad130 = ad132 := (by injection e132); replace hx132_0 := (HB.out.cell (World.block_lt_of_cell? w _ hx132_0)).trans hx132_0; replace hx132_1 := (HB.out.cell (World.block_lt_of_cell? w _ hx132_1)).trans hx132_1; replace p132 := eq_true p132; replace q132 := eq_true q132; have p133 : 0 ≤ (x3_1 : Int) := of_decide_eq_true (by first | (with_reducible assumption) | assumption); have q133 : x3_1 < (l0_4.length : Int) := of_decide_eq_true (by first | (with_reducible assumption) | assumption); obtain ⟨ad133, e133, hx133_0, hx133_1⟩ := at_T42 HR0_4.out x3_1 p133 q133; obtain rfl : ad130 = ad133 := (by injection e133); replace hx133_0 := (HB.out.cell (World.block_lt_of_cell? w _ hx133_0)).trans hx133_0; replace hx133_1 := (HB.out.cell (World.block_lt_of_cell? w _ hx133_1)).trans hx133_1; replace p133 := eq_true p133; replace q133 := eq_true q133))
                 go_ret
                 exact ⟨by first | rfl | (simp [errW_none, errW_some] <;> rfl) | (simp [*, errW_none, errW_some] <;> rfl), by repeat (first | (with_reducible first | exact HB.out | apply bAl | apply pwDN | apply bD1 | refine bSt ?_ GE128.out) | exact HB.out)⟩
               · rw [if_neg c12] at H
                 have c12b0 : decide (7 < ((rd_T42 l0_4 x3_1).f1)) = false := decide_eq_false c12
                 clear c12
                 have H' := Aside0.mk H
                 clear H
                 have hcz14_0 : wr.cell? ⟨gb128, 0, none⟩ = some (.int .i64 a0_0) := (bCl BK128.out 0).trans rfl
                 have hcz14_1 : wr.cell? ⟨gb128, 1, none⟩ = some (.string a0_1) := (bCl BK128.out 1).trans rfl
                 have hcz14_2 : wr.cell? ⟨gb128, 2, none⟩ = some (.int .i64 a0_2) := (bCl BK128.out 2).trans rfl
                 have hcz14_3 : wr.cell? ⟨gb128, 3, none⟩ = some (.slice A0_3 l0_3.length c0_3) := (bCl BK128.out 3).trans rfl
                 have hcz14_4 : wr.cell? ⟨gb128, 4, none⟩ = some (.slice A0_4 l0_4.length c0_4) := (bCl BK128.out 4).trans rfl
                 have hcz14_5 : wr.cell? ⟨gb128, 5, none⟩ = some (.slice A0_5 l0_5.length c0_5) := (bCl BK128.out 5).trans rfl
                 have hfz14_0 := bFz BK128.out 0
                 have hfz14_1 := bFz BK128.out 1
                 have hfz14_2 := bFz BK128.out 2
                 have hfz14_3 := bFz BK128.out 3
                 have hfz14_4 := bFz BK128.out 4
                 have hfz14_5 := bFz BK128.out 5
                 have p130 : 0 ≤ (x3_1 : Int) := of_decide_eq_true (by first | (with_reducible assumption) | assumption)
                 have q130 : x3_1 < (l0_4.length : Int) := of_decide_eq_true (by first | (with_reducible assumption) | assumption)
                 obtain ⟨ad130, e130, hx130_0, hx130_1⟩ := at_T42 HR0_4.out x3_1 p130 q130
                 cases e130
                 replace hx130_0 := (HB.out.cell (World.block_lt_of_cell? w _ hx130_0)).trans hx130_0
                 replace hx130_1 := (HB.out.cell (World.block_lt_of_cell? w _ hx130_1)).trans hx130_1
                 replace p130 := eq_true p130
                 replace q130 := eq_true q130
                 go_wp2_with (first | ((with_reducible refine gate_callee (f := 49) rfl ?_); refine goesL_ (some 31) rfl rfl Tryd.func49 (by kernel_rfl) rfl #[.string ((rd_T42 l0_4 x3_1).f0)] rfl (by (try simp only [List.map_toArray, List.map_cons, List.map_nil]); first | done | rfl | (simp only [List.length_drop, List.length_take]; rfl)) ?_; (with_reducible refine (rf6Name.calls k1 ((rd_T42 l0_4 x3_1).f0) true _ A8.out).mono ?_); rintro e w' ⟨rfl, ⟨nd, rfl⟩⟩; refine ⟨_, rfl, ?_⟩; have p132 : 0 ≤ (x3_1 : Int) := of_decide_eq_true (by first | (with_reducible assumption) | assumption); have q132 : x3_1 < (l0_4.length : Int) := of_decide_eq_true (by first | (with_reducible assumption) | assumption); obtain ⟨ad132, e132, hx132_0, hx132_1⟩ := at_T42 HR0_4.out x3_1 p132 q132; obtain rfl : ad130 = ad132 := (by injection e132); replace hx132_0 := (HB.out.cell (World.block_lt_of_cell? w _ hx132_0)).trans hx132_0; replace hx132_1 := (HB.out.cell (World.block_lt_of_cell? w _ hx132_1)).trans hx132_1; replace p132 := eq_true p132; replace q132 := eq_true q132; have p133 : 0 ≤ (x3_1 : Int) := of_decide_eq_true (by first | (with_reducible assumption) | assumption); have q133 : x3_1 < (l0_4.length : Int) := of_decide_eq_true (by first | (with_reducible assumption) | assumption); obtain ⟨ad133, e133, hx133_0, hx133_1⟩ := at_T42 HR0_4.out x3_1 p133 q133; obtain rfl : ad130 = ad133 := (by injection e133); replace hx133_0 := (HB.out.cell (World.block_lt_of_cell? w _ hx133_0)).trans hx133_0; replace hx133_1 := (HB.out.cell (World.block_lt_of_cell? w _ hx133_1)).trans hx133_1; replace p133 := eq_true p133; replace q133 := eq_true q133))
                 go_roundg k1
                 case measure => have := HK1.out; omega
                 case rel => exact ⟨(wrap64 (x3_1 + 1)), (by first | rfl | (simp; done) | (simp [*]; done)), H', ⟨by have := HK1.out; omega⟩, ⟨by (with_reducible repeat (first | refine blk_drewN ?_ _ | refine blk_drew ?_ | refine blk_alloc ?_ _)); exact BK128.out⟩, ⟨by repeat (first | (with_reducible first | exact HB.out | apply bAl | apply pwDN | apply bD1 | refine bSt ?_ GE128.out) | exact HB.out)⟩⟩
           · replace c9 := Bool.eq_false_iff.mpr c9
             subst c9
             have H1 : (some false) = some r := by rw [if_neg (show ¬ (false = true) by decide)] at H; exact H
             clear H
             have H := H1
             clear H1
             obtain rfl := Option.some.inj H
             have hcz15_0 : wr.cell? ⟨gb128, 0, none⟩ = some (.int .i64 a0_0) := (bCl BK128.out 0).trans rfl
             have hcz15_1 : wr.cell? ⟨gb128, 1, none⟩ = some (.string a0_1) := (bCl BK128.out 1).trans rfl
             have hcz15_2 : wr.cell? ⟨gb128, 2, none⟩ = some (.int .i64 a0_2) := (bCl BK128.out 2).trans rfl
             have hcz15_3 : wr.cell? ⟨gb128, 3, none⟩ = some (.slice A0_3 l0_3.length c0_3) := (bCl BK128.out 3).trans rfl
             have hcz15_4 : wr.cell? ⟨gb128, 4, none⟩ = some (.slice A0_4 l0_4.length c0_4) := (bCl BK128.out 4).trans rfl
             have hcz15_5 : wr.cell? ⟨gb128, 5, none⟩ = some (.slice A0_5 l0_5.length c0_5) := (bCl BK128.out 5).trans rfl
             have hfz15_0 := bFz BK128.out 0
             have hfz15_1 := bFz BK128.out 1
             have hfz15_2 := bFz BK128.out 2
             have hfz15_3 := bFz BK128.out 3
             have hfz15_4 := bFz BK128.out 4
             have hfz15_5 := bFz BK128.out 5
             have p130 : 0 ≤ (x3_1 : Int) := of_decide_eq_true (by first | (with_reducible assumption) | assumption)
             have q130 : x3_1 < (l0_4.length : Int) := of_decide_eq_true (by first | (with_reducible assumption) | assumption)
             obtain ⟨ad130, e130, hx130_0, hx130_1⟩ := at_T42 HR0_4.out x3_1 p130 q130
             cases e130
             replace hx130_0 := (HB.out.cell (World.block_lt_of_cell? w _ hx130_0)).trans hx130_0
             replace hx130_1 := (HB.out.cell (World.block_lt_of_cell? w _ hx130_1)).trans hx130_1
             replace p130 := eq_true p130
             replace q130 := eq_true q130
             go_wp2_with (first | ((with_reducible refine gate_callee (f := 49) rfl ?_); refine goesL_ (some 31) rfl rfl Tryd.func49 (by kernel_rfl) rfl #[.string ((rd_T42 l0_4 x3_1).f0)] rfl (by (try simp only [List.map_toArray, List.map_cons, List.map_nil]); first | done | rfl | (simp only [List.length_drop, List.length_take]; rfl)) ?_; (with_reducible refine (rf6Name.calls k1 ((rd_T42 l0_4 x3_1).f0) false _ A8.out).mono ?_); rintro e w' ⟨rfl, ⟨nd, rfl⟩⟩; refine ⟨_, rfl, ?_⟩))
             go_ret
             exact ⟨by first | rfl | (simp [errW_none, errW_some] <;> rfl) | (simp [*, errW_none, errW_some] <;> rfl), by repeat (first | (with_reducible first | exact HB.out | apply bAl | apply pwDN | apply bD1 | refine bSt ?_ GE128.out) | exact HB.out)⟩
         · rw [if_neg c7] at H
           exact absurd H (by simp)
       · rw [if_neg c6] at H
         have c6b0 : decide (x3_1 < (l0_4.length : Int)) = false := decide_eq_false c6
         clear c6
         by_cases c16 : a0_0 = 16
         · rw [if_pos c16] at H
           have c16b0 : (a0_0 == 16) = true := beq_iff_eq.mpr c16
           have c16b1 : (a0_0 != 16) = false := bne_eq_false_iff_eq.mpr c16
           clear c16
           by_cases c17 : (l0_4.length : Int) ≥ 1
           · rw [if_pos c17] at H
             have c17b0 : decide (1 ≤ (l0_4.length : Int)) = true := decide_eq_true c17
             have c17b1 : decide (1 ≤ l0_4.length) = true := decide_eq_true (by omega)
             clear c17
             by_cases c18 : (l0_4.length : Int) ≤ 6
             · rw [if_pos c18] at H
               have c18b0 : decide ((l0_4.length : Int) ≤ 6) = true := decide_eq_true c18
               have c18b1 : decide (l0_4.length ≤ 6) = true := decide_eq_true (by omega)
               clear c18
               by_cases c19 : a0_2 = 0
               · rw [if_pos c19] at H
                 have c19b0 : (a0_2 == 0) = true := beq_iff_eq.mpr c19
                 have c19b1 : (a0_2 != 0) = false := bne_eq_false_iff_eq.mpr c19
                 clear c19
                 obtain rfl := Option.some.inj H
                 have hcz20_0 : wr.cell? ⟨gb128, 0, none⟩ = some (.int .i64 a0_0) := (bCl BK128.out 0).trans rfl
                 have hcz20_1 : wr.cell? ⟨gb128, 1, none⟩ = some (.string a0_1) := (bCl BK128.out 1).trans rfl
                 have hcz20_2 : wr.cell? ⟨gb128, 2, none⟩ = some (.int .i64 a0_2) := (bCl BK128.out 2).trans rfl
                 have hcz20_3 : wr.cell? ⟨gb128, 3, none⟩ = some (.slice A0_3 l0_3.length c0_3) := (bCl BK128.out 3).trans rfl
                 have hcz20_4 : wr.cell? ⟨gb128, 4, none⟩ = some (.slice A0_4 l0_4.length c0_4) := (bCl BK128.out 4).trans rfl
                 have hcz20_5 : wr.cell? ⟨gb128, 5, none⟩ = some (.slice A0_5 l0_5.length c0_5) := (bCl BK128.out 5).trans rfl
                 have hfz20_0 := bFz BK128.out 0
                 have hfz20_1 := bFz BK128.out 1
                 have hfz20_2 := bFz BK128.out 2
                 have hfz20_3 := bFz BK128.out 3
                 have hfz20_4 := bFz BK128.out 4
                 have hfz20_5 := bFz BK128.out 5
                 go_wp2
                 go_ret
                 exact ⟨by first | rfl | (simp [errW_none, errW_some] <;> rfl) | (simp [*, errW_none, errW_some] <;> rfl), by repeat (first | (with_reducible first | exact HB.out | apply bAl | apply pwDN | apply bD1 | refine bSt ?_ GE128.out) | exact HB.out)⟩
               · rw [if_neg c19] at H
                 have c19b0 : (a0_2 == 0) = false := beq_eq_false_iff_ne.mpr c19
                 have c19b1 : (a0_2 != 0) = true := bne_iff_ne.mpr c19
                 by_cases c21 : a0_2 > 0
                 · rw [if_pos c21] at H
                   have c21b0 : decide (0 < a0_2) = true := decide_eq_true c21
                   clear c21
                   obtain rfl := Option.some.inj H
                   have hcz22_0 : wr.cell? ⟨gb128, 0, none⟩ = some (.int .i64 a0_0) := (bCl BK128.out 0).trans rfl
                   have hcz22_1 : wr.cell? ⟨gb128, 1, none⟩ = some (.string a0_1) := (bCl BK128.out 1).trans rfl
                   have hcz22_2 : wr.cell? ⟨gb128, 2, none⟩ = some (.int .i64 a0_2) := (bCl BK128.out 2).trans rfl
                   have hcz22_3 : wr.cell? ⟨gb128, 3, none⟩ = some (.slice A0_3 l0_3.length c0_3) := (bCl BK128.out 3).trans rfl
                   have hcz22_4 : wr.cell? ⟨gb128, 4, none⟩ = some (.slice A0_4 l0_4.length c0_4) := (bCl BK128.out 4).trans rfl
                   have hcz22_5 : wr.cell? ⟨gb128, 5, none⟩ = some (.slice A0_5 l0_5.length c0_5) := (bCl BK128.out 5).trans rfl
                   have hfz22_0 := bFz BK128.out 0
                   have hfz22_1 := bFz BK128.out 1
                   have hfz22_2 := bFz BK128.out 2
                   have hfz22_3 := bFz BK128.out 3
                   have hfz22_4 := bFz BK128.out 4
                   have hfz22_5 := bFz BK128.out 5
                   go_wp2
                   go_ret
                   exact ⟨by first | rfl | (simp [errW_none, errW_some] <;> rfl) | (simp [*, errW_none, errW_some] <;> rfl), by repeat (first | (with_reducible first | exact HB.out | apply bAl | apply pwDN | apply bD1 | refine bSt ?_ GE128.out) | exact HB.out)⟩
                 · rw [if_neg c21] at H
                   have c21b0 : decide (0 < a0_2) = false := decide_eq_false c21
                   clear c21
                   obtain rfl := Option.some.inj H
                   have hcz23_0 : wr.cell? ⟨gb128, 0, none⟩ = some (.int .i64 a0_0) := (bCl BK128.out 0).trans rfl
                   have hcz23_1 : wr.cell? ⟨gb128, 1, none⟩ = some (.string a0_1) := (bCl BK128.out 1).trans rfl
                   have hcz23_2 : wr.cell? ⟨gb128, 2, none⟩ = some (.int .i64 a0_2) := (bCl BK128.out 2).trans rfl
                   have hcz23_3 : wr.cell? ⟨gb128, 3, none⟩ = some (.slice A0_3 l0_3.length c0_3) := (bCl BK128.out 3).trans rfl
                   have hcz23_4 : wr.cell? ⟨gb128, 4, none⟩ = some (.slice A0_4 l0_4.length c0_4) := (bCl BK128.out 4).trans rfl
                   have hcz23_5 : wr.cell? ⟨gb128, 5, none⟩ = some (.slice A0_5 l0_5.length c0_5) := (bCl BK128.out 5).trans rfl
                   have hfz23_0 := bFz BK128.out 0
                   have hfz23_1 := bFz BK128.out 1
                   have hfz23_2 := bFz BK128.out 2
                   have hfz23_3 := bFz BK128.out 3
                   have hfz23_4 := bFz BK128.out 4
                   have hfz23_5 := bFz BK128.out 5
                   go_wp2
                   go_ret
                   exact ⟨by first | rfl | (simp [errW_none, errW_some] <;> rfl) | (simp [*, errW_none, errW_some] <;> rfl), by repeat (first | (with_reducible first | exact HB.out | apply bAl | apply pwDN | apply bD1 | refine bSt ?_ GE128.out) | exact HB.out)⟩
             · rw [if_neg c18] at H
               have c18b0 : decide ((l0_4.length : Int) ≤ 6) = false := decide_eq_false c18
               have c18b1 : decide (l0_4.length ≤ 6) = false := decide_eq_false (by omega)
               clear c18
               obtain rfl := Option.some.inj H
               have hcz24_0 : wr.cell? ⟨gb128, 0, none⟩ = some (.int .i64 a0_0) := (bCl BK128.out 0).trans rfl
               have hcz24_1 : wr.cell? ⟨gb128, 1, none⟩ = some (.string a0_1) := (bCl BK128.out 1).trans rfl
               have hcz24_2 : wr.cell? ⟨gb128, 2, none⟩ = some (.int .i64 a0_2) := (bCl BK128.out 2).trans rfl
               have hcz24_3 : wr.cell? ⟨gb128, 3, none⟩ = some (.slice A0_3 l0_3.length c0_3) := (bCl BK128.out 3).trans rfl
               have hcz24_4 : wr.cell? ⟨gb128, 4, none⟩ = some (.slice A0_4 l0_4.length c0_4) := (bCl BK128.out 4).trans rfl
               have hcz24_5 : wr.cell? ⟨gb128, 5, none⟩ = some (.slice A0_5 l0_5.length c0_5) := (bCl BK128.out 5).trans rfl
               have hfz24_0 := bFz BK128.out 0
               have hfz24_1 := bFz BK128.out 1
               have hfz24_2 := bFz BK128.out 2
               have hfz24_3 := bFz BK128.out 3
               have hfz24_4 := bFz BK128.out 4
               have hfz24_5 := bFz BK128.out 5
               go_wp2
               go_ret
               exact ⟨by first | rfl | (simp [errW_none, errW_some] <;> rfl) | (simp [*, errW_none, errW_some] <;> rfl), by repeat (first | (with_reducible first | exact HB.out | apply bAl | apply pwDN | apply bD1 | refine bSt ?_ GE128.out) | exact HB.out)⟩
           · rw [if_neg c17] at H
             have c17b0 : decide (1 ≤ (l0_4.length : Int)) = false := decide_eq_false c17
             have c17b1 : decide (1 ≤ l0_4.length) = false := decide_eq_false (by omega)
             clear c17
             obtain rfl := Option.some.inj H
             have hcz25_0 : wr.cell? ⟨gb128, 0, none⟩ = some (.int .i64 a0_0) := (bCl BK128.out 0).trans rfl
             have hcz25_1 : wr.cell? ⟨gb128, 1, none⟩ = some (.string a0_1) := (bCl BK128.out 1).trans rfl
             have hcz25_2 : wr.cell? ⟨gb128, 2, none⟩ = some (.int .i64 a0_2) := (bCl BK128.out 2).trans rfl
             have hcz25_3 : wr.cell? ⟨gb128, 3, none⟩ = some (.slice A0_3 l0_3.length c0_3) := (bCl BK128.out 3).trans rfl
             have hcz25_4 : wr.cell? ⟨gb128, 4, none⟩ = some (.slice A0_4 l0_4.length c0_4) := (bCl BK128.out 4).trans rfl
             have hcz25_5 : wr.cell? ⟨gb128, 5, none⟩ = some (.slice A0_5 l0_5.length c0_5) := (bCl BK128.out 5).trans rfl
             have hfz25_0 := bFz BK128.out 0
             have hfz25_1 := bFz BK128.out 1
             have hfz25_2 := bFz BK128.out 2
             have hfz25_3 := bFz BK128.out 3
             have hfz25_4 := bFz BK128.out 4
             have hfz25_5 := bFz BK128.out 5
             go_wp2
             go_ret
             exact ⟨by first | rfl | (simp [errW_none, errW_some] <;> rfl) | (simp [*, errW_none, errW_some] <;> rfl), by repeat (first | (with_reducible first | exact HB.out | apply bAl | apply pwDN | apply bD1 | refine bSt ?_ GE128.out) | exact HB.out)⟩
         · rw [if_neg c16] at H
           have c16b0 : (a0_0 == 16) = false := beq_eq_false_iff_ne.mpr c16
           have c16b1 : (a0_0 != 16) = true := bne_iff_ne.mpr c16
           by_cases c26 : (l0_4.length : Int) ≥ 1
           · rw [if_pos c26] at H
             have c26b0 : decide (1 ≤ (l0_4.length : Int)) = true := decide_eq_true c26
             have c26b1 : decide (1 ≤ l0_4.length) = true := decide_eq_true (by omega)
             clear c26
             by_cases c27 : (l0_4.length : Int) ≤ 6
             · rw [if_pos c27] at H
               have c27b0 : decide ((l0_4.length : Int) ≤ 6) = true := decide_eq_true c27
               have c27b1 : decide (l0_4.length ≤ 6) = true := decide_eq_true (by omega)
               clear c27
               by_cases c28 : a0_2 = 0
               · rw [if_pos c28] at H
                 have c28b0 : (a0_2 == 0) = true := beq_iff_eq.mpr c28
                 have c28b1 : (a0_2 != 0) = false := bne_eq_false_iff_eq.mpr c28
                 clear c28
                 obtain rfl := Option.some.inj H
                 have hcz29_0 : wr.cell? ⟨gb128, 0, none⟩ = some (.int .i64 a0_0) := (bCl BK128.out 0).trans rfl
                 have hcz29_1 : wr.cell? ⟨gb128, 1, none⟩ = some (.string a0_1) := (bCl BK128.out 1).trans rfl
                 have hcz29_2 : wr.cell? ⟨gb128, 2, none⟩ = some (.int .i64 a0_2) := (bCl BK128.out 2).trans rfl
                 have hcz29_3 : wr.cell? ⟨gb128, 3, none⟩ = some (.slice A0_3 l0_3.length c0_3) := (bCl BK128.out 3).trans rfl
                 have hcz29_4 : wr.cell? ⟨gb128, 4, none⟩ = some (.slice A0_4 l0_4.length c0_4) := (bCl BK128.out 4).trans rfl
                 have hcz29_5 : wr.cell? ⟨gb128, 5, none⟩ = some (.slice A0_5 l0_5.length c0_5) := (bCl BK128.out 5).trans rfl
                 have hfz29_0 := bFz BK128.out 0
                 have hfz29_1 := bFz BK128.out 1
                 have hfz29_2 := bFz BK128.out 2
                 have hfz29_3 := bFz BK128.out 3
                 have hfz29_4 := bFz BK128.out 4
                 have hfz29_5 := bFz BK128.out 5
                 go_wp2
                 go_ret
                 exact ⟨by first | rfl | (simp [errW_none, errW_some] <;> rfl) | (simp [*, errW_none, errW_some] <;> rfl), by repeat (first | (with_reducible first | exact HB.out | apply bAl | apply pwDN | apply bD1 | refine bSt ?_ GE128.out) | exact HB.out)⟩
               · rw [if_neg c28] at H
                 have c28b0 : (a0_2 == 0) = false := beq_eq_false_iff_ne.mpr c28
                 have c28b1 : (a0_2 != 0) = true := bne_iff_ne.mpr c28
                 by_cases c30 : a0_0 = 17
                 · rw [if_pos c30] at H
                   have c30b0 : (a0_0 == 17) = true := beq_iff_eq.mpr c30
                   have c30b1 : (a0_0 != 17) = false := bne_eq_false_iff_eq.mpr c30
                   clear c30
                   by_cases c31 : a0_2 > 0
                   · rw [if_pos c31] at H
                     have c31b0 : decide (0 < a0_2) = true := decide_eq_true c31
                     clear c31
                     obtain rfl := Option.some.inj H
                     have hcz32_0 : wr.cell? ⟨gb128, 0, none⟩ = some (.int .i64 a0_0) := (bCl BK128.out 0).trans rfl
                     have hcz32_1 : wr.cell? ⟨gb128, 1, none⟩ = some (.string a0_1) := (bCl BK128.out 1).trans rfl
                     have hcz32_2 : wr.cell? ⟨gb128, 2, none⟩ = some (.int .i64 a0_2) := (bCl BK128.out 2).trans rfl
                     have hcz32_3 : wr.cell? ⟨gb128, 3, none⟩ = some (.slice A0_3 l0_3.length c0_3) := (bCl BK128.out 3).trans rfl
                     have hcz32_4 : wr.cell? ⟨gb128, 4, none⟩ = some (.slice A0_4 l0_4.length c0_4) := (bCl BK128.out 4).trans rfl
                     have hcz32_5 : wr.cell? ⟨gb128, 5, none⟩ = some (.slice A0_5 l0_5.length c0_5) := (bCl BK128.out 5).trans rfl
                     have hfz32_0 := bFz BK128.out 0
                     have hfz32_1 := bFz BK128.out 1
                     have hfz32_2 := bFz BK128.out 2
                     have hfz32_3 := bFz BK128.out 3
                     have hfz32_4 := bFz BK128.out 4
                     have hfz32_5 := bFz BK128.out 5
                     go_wp2
                     go_ret
                     exact ⟨by first | rfl | (simp [errW_none, errW_some] <;> rfl) | (simp [*, errW_none, errW_some] <;> rfl), by repeat (first | (with_reducible first | exact HB.out | apply bAl | apply pwDN | apply bD1 | refine bSt ?_ GE128.out) | exact HB.out)⟩
                   · rw [if_neg c31] at H
                     have c31b0 : decide (0 < a0_2) = false := decide_eq_false c31
                     clear c31
                     obtain rfl := Option.some.inj H
                     have hcz33_0 : wr.cell? ⟨gb128, 0, none⟩ = some (.int .i64 a0_0) := (bCl BK128.out 0).trans rfl
                     have hcz33_1 : wr.cell? ⟨gb128, 1, none⟩ = some (.string a0_1) := (bCl BK128.out 1).trans rfl
                     have hcz33_2 : wr.cell? ⟨gb128, 2, none⟩ = some (.int .i64 a0_2) := (bCl BK128.out 2).trans rfl
                     have hcz33_3 : wr.cell? ⟨gb128, 3, none⟩ = some (.slice A0_3 l0_3.length c0_3) := (bCl BK128.out 3).trans rfl
                     have hcz33_4 : wr.cell? ⟨gb128, 4, none⟩ = some (.slice A0_4 l0_4.length c0_4) := (bCl BK128.out 4).trans rfl
                     have hcz33_5 : wr.cell? ⟨gb128, 5, none⟩ = some (.slice A0_5 l0_5.length c0_5) := (bCl BK128.out 5).trans rfl
                     have hfz33_0 := bFz BK128.out 0
                     have hfz33_1 := bFz BK128.out 1
                     have hfz33_2 := bFz BK128.out 2
                     have hfz33_3 := bFz BK128.out 3
                     have hfz33_4 := bFz BK128.out 4
                     have hfz33_5 := bFz BK128.out 5
                     go_wp2
                     go_ret
                     exact ⟨by first | rfl | (simp [errW_none, errW_some] <;> rfl) | (simp [*, errW_none, errW_some] <;> rfl), by repeat (first | (with_reducible first | exact HB.out | apply bAl | apply pwDN | apply bD1 | refine bSt ?_ GE128.out) | exact HB.out)⟩
                 · rw [if_neg c30] at H
                   have c30b0 : (a0_0 == 17) = false := beq_eq_false_iff_ne.mpr c30
                   have c30b1 : (a0_0 != 17) = true := bne_iff_ne.mpr c30
                   obtain rfl := Option.some.inj H
                   have hcz34_0 : wr.cell? ⟨gb128, 0, none⟩ = some (.int .i64 a0_0) := (bCl BK128.out 0).trans rfl
                   have hcz34_1 : wr.cell? ⟨gb128, 1, none⟩ = some (.string a0_1) := (bCl BK128.out 1).trans rfl
                   have hcz34_2 : wr.cell? ⟨gb128, 2, none⟩ = some (.int .i64 a0_2) := (bCl BK128.out 2).trans rfl
                   have hcz34_3 : wr.cell? ⟨gb128, 3, none⟩ = some (.slice A0_3 l0_3.length c0_3) := (bCl BK128.out 3).trans rfl
                   have hcz34_4 : wr.cell? ⟨gb128, 4, none⟩ = some (.slice A0_4 l0_4.length c0_4) := (bCl BK128.out 4).trans rfl
                   have hcz34_5 : wr.cell? ⟨gb128, 5, none⟩ = some (.slice A0_5 l0_5.length c0_5) := (bCl BK128.out 5).trans rfl
                   have hfz34_0 := bFz BK128.out 0
                   have hfz34_1 := bFz BK128.out 1
                   have hfz34_2 := bFz BK128.out 2
                   have hfz34_3 := bFz BK128.out 3
                   have hfz34_4 := bFz BK128.out 4
                   have hfz34_5 := bFz BK128.out 5
                   go_wp2
                   go_ret
                   exact ⟨by first | rfl | (simp [errW_none, errW_some] <;> rfl) | (simp [*, errW_none, errW_some] <;> rfl), by repeat (first | (with_reducible first | exact HB.out | apply bAl | apply pwDN | apply bD1 | refine bSt ?_ GE128.out) | exact HB.out)⟩
             · rw [if_neg c27] at H
               have c27b0 : decide ((l0_4.length : Int) ≤ 6) = false := decide_eq_false c27
               have c27b1 : decide (l0_4.length ≤ 6) = false := decide_eq_false (by omega)
               clear c27
               obtain rfl := Option.some.inj H
               have hcz35_0 : wr.cell? ⟨gb128, 0, none⟩ = some (.int .i64 a0_0) := (bCl BK128.out 0).trans rfl
               have hcz35_1 : wr.cell? ⟨gb128, 1, none⟩ = some (.string a0_1) := (bCl BK128.out 1).trans rfl
               have hcz35_2 : wr.cell? ⟨gb128, 2, none⟩ = some (.int .i64 a0_2) := (bCl BK128.out 2).trans rfl
               have hcz35_3 : wr.cell? ⟨gb128, 3, none⟩ = some (.slice A0_3 l0_3.length c0_3) := (bCl BK128.out 3).trans rfl
               have hcz35_4 : wr.cell? ⟨gb128, 4, none⟩ = some (.slice A0_4 l0_4.length c0_4) := (bCl BK128.out 4).trans rfl
               have hcz35_5 : wr.cell? ⟨gb128, 5, none⟩ = some (.slice A0_5 l0_5.length c0_5) := (bCl BK128.out 5).trans rfl
               have hfz35_0 := bFz BK128.out 0
               have hfz35_1 := bFz BK128.out 1
               have hfz35_2 := bFz BK128.out 2
               have hfz35_3 := bFz BK128.out 3
               have hfz35_4 := bFz BK128.out 4
               have hfz35_5 := bFz BK128.out 5
               go_wp2
               go_ret
               exact ⟨by first | rfl | (simp [errW_none, errW_some] <;> rfl) | (simp [*, errW_none, errW_some] <;> rfl), by repeat (first | (with_reducible first | exact HB.out | apply bAl | apply pwDN | apply bD1 | refine bSt ?_ GE128.out) | exact HB.out)⟩
           · rw [if_neg c26] at H
             have c26b0 : decide (1 ≤ (l0_4.length : Int)) = false := decide_eq_false c26
             have c26b1 : decide (1 ≤ l0_4.length) = false := decide_eq_false (by omega)
             clear c26
             obtain rfl := Option.some.inj H
             have hcz36_0 : wr.cell? ⟨gb128, 0, none⟩ = some (.int .i64 a0_0) := (bCl BK128.out 0).trans rfl
             have hcz36_1 : wr.cell? ⟨gb128, 1, none⟩ = some (.string a0_1) := (bCl BK128.out 1).trans rfl
             have hcz36_2 : wr.cell? ⟨gb128, 2, none⟩ = some (.int .i64 a0_2) := (bCl BK128.out 2).trans rfl
             have hcz36_3 : wr.cell? ⟨gb128, 3, none⟩ = some (.slice A0_3 l0_3.length c0_3) := (bCl BK128.out 3).trans rfl
             have hcz36_4 : wr.cell? ⟨gb128, 4, none⟩ = some (.slice A0_4 l0_4.length c0_4) := (bCl BK128.out 4).trans rfl
             have hcz36_5 : wr.cell? ⟨gb128, 5, none⟩ = some (.slice A0_5 l0_5.length c0_5) := (bCl BK128.out 5).trans rfl
             have hfz36_0 := bFz BK128.out 0
             have hfz36_1 := bFz BK128.out 1
             have hfz36_2 := bFz BK128.out 2
             have hfz36_3 := bFz BK128.out 3
             have hfz36_4 := bFz BK128.out 4
             have hfz36_5 := bFz BK128.out 5
             go_wp2
             go_ret
             exact ⟨by first | rfl | (simp [errW_none, errW_some] <;> rfl) | (simp [*, errW_none, errW_some] <;> rfl), by repeat (first | (with_reducible first | exact HB.out | apply bAl | apply pwDN | apply bD1 | refine bSt ?_ GE128.out) | exact HB.out)⟩
 · replace c3 := Bool.eq_false_iff.mpr c3
   subst c3
   have H1 : (if (l0_4.length : Int) = 0 then (some (a0_2 == 0)) else (some false)) = some r := by rw [if_neg (show ¬ (false = true) by decide)] at H; exact H
   clear H
   have H := H1
   clear H1
   by_cases c37 : (l0_4.length : Int) = 0
   · rw [if_pos c37] at H
     have c37b0 : ((l0_4.length : Int) == 0) = true := beq_iff_eq.mpr c37
     have c37b1 : ((l0_4.length : Int) != 0) = false := bne_eq_false_iff_eq.mpr c37
     clear c37
     obtain rfl := Option.some.inj H
     go_enter Tryd.func91, Tryd.ntmps91
     go_wp2_with (first | ((with_reducible refine gate_dst (N := 1) rfl ?_); (try (refine gate_guard (by rfl) ?_; dsimp only)); refine box_event ?hg (N := 1) ?hd (cs := #[.int .i64 a0_0, .string a0_1, .int .i64 a0_2, .slice A0_3 l0_3.length c0_3, .slice A0_4 l0_4.length c0_4, .slice A0_5 l0_5.length c0_5]) (t := 26) ?hr ?_; (case hd => rfl); (case hg => rfl); (case hr => first | (go_simp; done) | (go_simp; rfl)); intro gb128 hg w38 hbox hb; have n0_ := Aside0.mk (below_step (by repeat (first | (with_reducible first | exact HB.out | apply bAl | apply pwDN | apply bD1) | exact HB.out)) hb); have n1_ := Aside0.mk (hbox); have n2_ := Aside0.mk ((by rw [hg]; exact (below_size (by repeat (first | (with_reducible first | exact HB.out | apply bAl | apply pwDN | apply bD1) | exact HB.out))) : w.heap.size ≤ gb128)); have n3_ := Aside0.mk ((by rw [hg]; exact (below_size (by repeat (first | (with_reducible first | exact HB.out | apply bAl | apply pwDN | apply bD1) | exact HB.out))) : w.heap.size ≤ gb128)); clear HB; have HB := n0_; have BK128 := n1_; have GW128 := n2_; have GE128 := n3_; clear n0_ n1_ n2_ n3_; clear hb hbox hg; have hcz39_0 : w38.cell? ⟨gb128, 0, none⟩ = some (.int .i64 a0_0) := (bCl BK128.out 0).trans rfl; have hcz39_1 : w38.cell? ⟨gb128, 1, none⟩ = some (.string a0_1) := (bCl BK128.out 1).trans rfl; have hcz39_2 : w38.cell? ⟨gb128, 2, none⟩ = some (.int .i64 a0_2) := (bCl BK128.out 2).trans rfl; have hcz39_3 : w38.cell? ⟨gb128, 3, none⟩ = some (.slice A0_3 l0_3.length c0_3) := (bCl BK128.out 3).trans rfl; have hcz39_4 : w38.cell? ⟨gb128, 4, none⟩ = some (.slice A0_4 l0_4.length c0_4) := (bCl BK128.out 4).trans rfl; have hcz39_5 : w38.cell? ⟨gb128, 5, none⟩ = some (.slice A0_5 l0_5.length c0_5) := (bCl BK128.out 5).trans rfl; have hfz39_0 := bFz BK128.out 0; have hfz39_1 := bFz BK128.out 1; have hfz39_2 := bFz BK128.out 2; have hfz39_3 := bFz BK128.out 3; have hfz39_4 := bFz BK128.out 4; have hfz39_5 := bFz BK128.out 5) | ((with_reducible refine gate_callee (f := 114) rfl ?_); refine goesL_ (some 7) rfl rfl Tryd.func114 (by kernel_rfl) rfl #[.int .i64 a0_0] rfl (by (try simp only [List.map_toArray, List.map_cons, List.map_nil]); first | done | rfl | (simp only [List.length_drop, List.length_take]; rfl)) ?_; (with_reducible refine (rf6Quantifies.calls a0_0 false _ A2.out).mono ?_); rintro e w' ⟨rfl, ⟨nd, rfl⟩⟩; refine ⟨_, rfl, ?_⟩))
     go_ret
     exact ⟨by first | rfl | (simp [errW_none, errW_some] <;> rfl) | (simp [*, errW_none, errW_some] <;> rfl), by repeat (first | (with_reducible first | exact HB.out | apply bAl | apply pwDN | apply bD1 | refine bSt ?_ GE128.out) | exact HB.out)⟩
   · rw [if_neg c37] at H
     have c37b0 : ((l0_4.length : Int) == 0) = false := beq_eq_false_iff_ne.mpr c37
     have c37b1 : ((l0_4.length : Int) != 0) = true := bne_iff_ne.mpr c37
     have c37b2 : ¬ (l0_4 = []) := fun h_ => c37 (by rw [h_]; rfl)
     obtain rfl := Option.some.inj H
     go_enter Tryd.func91, Tryd.ntmps91
     go_wp2_with (first | ((with_reducible refine gate_dst (N := 1) rfl ?_); (try (refine gate_guard (by rfl) ?_; dsimp only)); refine box_event ?hg (N := 1) ?hd (cs := #[.int .i64 a0_0, .string a0_1, .int .i64 a0_2, .slice A0_3 l0_3.length c0_3, .slice A0_4 l0_4.length c0_4, .slice A0_5 l0_5.length c0_5]) (t := 26) ?hr ?_; (case hd => rfl); (case hg => rfl); (case hr => first | (go_simp; done) | (go_simp; rfl)); intro gb128 hg w40 hbox hb; have n0_ := Aside0.mk (below_step (by repeat (first | (with_reducible first | exact HB.out | apply bAl | apply pwDN | apply bD1) | exact HB.out)) hb); have n1_ := Aside0.mk (hbox); have n2_ := Aside0.mk ((by rw [hg]; exact (below_size (by repeat (first | (with_reducible first | exact HB.out | apply bAl | apply pwDN | apply bD1) | exact HB.out))) : w.heap.size ≤ gb128)); have n3_ := Aside0.mk ((by rw [hg]; exact (below_size (by repeat (first | (with_reducible first | exact HB.out | apply bAl | apply pwDN | apply bD1) | exact HB.out))) : w.heap.size ≤ gb128)); clear HB; have HB := n0_; have BK128 := n1_; have GW128 := n2_; have GE128 := n3_; clear n0_ n1_ n2_ n3_; clear hb hbox hg; have hcz41_0 : w40.cell? ⟨gb128, 0, none⟩ = some (.int .i64 a0_0) := (bCl BK128.out 0).trans rfl; have hcz41_1 : w40.cell? ⟨gb128, 1, none⟩ = some (.string a0_1) := (bCl BK128.out 1).trans rfl; have hcz41_2 : w40.cell? ⟨gb128, 2, none⟩ = some (.int .i64 a0_2) := (bCl BK128.out 2).trans rfl; have hcz41_3 : w40.cell? ⟨gb128, 3, none⟩ = some (.slice A0_3 l0_3.length c0_3) := (bCl BK128.out 3).trans rfl; have hcz41_4 : w40.cell? ⟨gb128, 4, none⟩ = some (.slice A0_4 l0_4.length c0_4) := (bCl BK128.out 4).trans rfl; have hcz41_5 : w40.cell? ⟨gb128, 5, none⟩ = some (.slice A0_5 l0_5.length c0_5) := (bCl BK128.out 5).trans rfl; have hfz41_0 := bFz BK128.out 0; have hfz41_1 := bFz BK128.out 1; have hfz41_2 := bFz BK128.out 2; have hfz41_3 := bFz BK128.out 3; have hfz41_4 := bFz BK128.out 4; have hfz41_5 := bFz BK128.out 5) | ((with_reducible refine gate_callee (f := 114) rfl ?_); refine goesL_ (some 7) rfl rfl Tryd.func114 (by kernel_rfl) rfl #[.int .i64 a0_0] rfl (by (try simp only [List.map_toArray, List.map_cons, List.map_nil]); first | done | rfl | (simp only [List.length_drop, List.length_take]; rfl)) ?_; (with_reducible refine (rf6Quantifies.calls a0_0 false _ A2.out).mono ?_); rintro e w' ⟨rfl, ⟨nd, rfl⟩⟩; refine ⟨_, rfl, ?_⟩))
     go_ret
     exact ⟨by first | rfl | (simp [errW_none, errW_some] <;> rfl) | (simp [*, errW_none, errW_some] <;> rfl), by repeat (first | (with_reducible first | exact HB.out | apply bAl | apply pwDN | apply bD1 | refine bSt ?_ GE128.out) | exact HB.out)⟩
end Go.Proofs.YtmlcaecknocpoaaDoor.Pr
