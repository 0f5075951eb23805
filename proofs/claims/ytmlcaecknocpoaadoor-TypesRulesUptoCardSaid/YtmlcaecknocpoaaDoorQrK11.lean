/- Lemmas and walks for the claim below. -/
import Derived.Test.YtmlcaecknocpoaaDoorQrK10
namespace Go.Proofs.YtmlcaecknocpoaaDoor.Pr
open Go.RowKit Go.Proofs.YtmlcaecknocpoaaDoorW.PrintWords Go.Proofs.YtmlcaecknocpoaaDoorW.PrintLast Go.Proofs.YtmlcaecknocpoaaDoorW.PrintMore
attribute [local go_sem] max2_int min2_int max_two min_two max_three min_three max_four min_four   
set_option linter.unusedVariables false
set_option linter.unusedSimpArgs false
mutual
def rf8Rule.j0 : Nat → Bool → ByteArray → Bool → Int → List (S42) → Int → ByteArray → Int → List (S47) → List (S42) → List (S26) → Option (Int)
 | 0, _, _, _, _, _, _, _, _, _, _, _ => none
 | k + 1, x3, x287000, x287001, x287002, x287003, x287004, x287005, x287006, x287007, x287008, x287009 => (rf6Name.f k x287000).bind fun t287 => (if t287 = true then (if x3 = true then (rf8Rule.j1 k (decide ((x287003.length : Int) > 6)) x287000 x287001 x287002 x287003 x287004 x287005 x287006 x287007 x287008 x287009) else (rf8Rule.j1 k true x287000 x287001 x287002 x287003 x287004 x287005 x287006 x287007 x287008 x287009)) else (rf8Rule.j1 k true x287000 x287001 x287002 x287003 x287004 x287005 x287006 x287007 x287008 x287009))
def rf8Rule.j1 : Nat → Bool → ByteArray → Bool → Int → List (S42) → Int → ByteArray → Int → List (S47) → List (S42) → List (S26) → Option (Int)
 | 0, _, _, _, _, _, _, _, _, _, _, _ => none
 | k + 1, x42, x287000, x287001, x287002, x287003, x287004, x287005, x287006, x287007, x287008, x287009 => if x42 = true then (some 1) else (rf8Rule.l0 k 0 x287000 x287001 x287002 x287003 x287004 x287005 x287006 x287007 x287008 x287009)
def rf8Rule.l0 : Nat → Int → ByteArray → Bool → Int → List (S42) → Int → ByteArray → Int → List (S47) → List (S42) → List (S26) → Option (Int)
 | 0, _, _, _, _, _, _, _, _, _, _, _ => none
 | k + 1, x4, x287000, x287001, x287002, x287003, x287004, x287005, x287006, x287007, x287008, x287009 => if x4 < (x287003.length : Int) then (if 0 ≤ x4 then ((rf8bind.f k ((rd_T42 x287003 x4).f0) ((rd_T42 x287003 x4).f1)).bind fun t289 => (if t289 = true then (rf8Rule.l0 k (wrap64 (x4 + 1)) x287000 x287001 x287002 x287003 x287004 x287005 x287006 x287007 x287008 x287009) else (some 1))) else (none)) else ((rf6Check.f k x287004 x287005 x287006 x287007 x287008 x287009).bind fun t290 => (if t290 = 0 then (rf8Rule.l1 k 0 x287000 x287001 x287002 x287003 x287004 x287005 x287006 x287007 x287008 x287009) else (some t290)))
def rf8Rule.l1 : Nat → Int → ByteArray → Bool → Int → List (S42) → Int → ByteArray → Int → List (S47) → List (S42) → List (S26) → Option (Int)
 | 0, _, _, _, _, _, _, _, _, _, _, _ => none
 | k + 1, x6, x287000, x287001, x287002, x287003, x287004, x287005, x287006, x287007, x287008, x287009 => if x6 < (x287003.length : Int) then (if 0 ≤ x6 then (if x6 ≤ (x287003.length : Int) then ((rf8stands.f k (x287003.take (x6 : Int).toNat) ((rd_T42 x287003 x6).f0)).bind fun t296 => (if t296 = true then (some 82) else (rf8Rule.l1 k (wrap64 (x6 + 1)) x287000 x287001 x287002 x287003 x287004 x287005 x287006 x287007 x287008 x287009))) else (none)) else (none)) else ((rf8first.f k x287003 x287004 x287005 x287006 x287007 x287008 x287009).bind fun t297 => (some t297))
end
def rf8Rule.f (k : Nat) (a0_0 : ByteArray) (a0_1 : Bool) (a0_2 : Int) (l0_3 : List (S42)) (a0_4 : Int) (a0_5 : ByteArray) (a0_6 : Int) (l0_7 : List (S47)) (l0_8 : List (S42)) (l0_9 : List (S26)) : Option (Int) := if a0_1 = true then (if a0_2 = 0 then (rf8Rule.j0 k true a0_0 a0_1 a0_2 l0_3 a0_4 a0_5 a0_6 l0_7 l0_8 l0_9) else (rf8Rule.j0 k false a0_0 a0_1 a0_2 l0_3 a0_4 a0_5 a0_6 l0_7 l0_8 l0_9)) else (if a0_2 ≥ 1 then (rf8Rule.j0 k (decide (a0_2 ≤ 1000)) a0_0 a0_1 a0_2 l0_3 a0_4 a0_5 a0_6 l0_7 l0_8 l0_9) else (rf8Rule.j0 k false a0_0 a0_1 a0_2 l0_3 a0_4 a0_5 a0_6 l0_7 l0_8 l0_9))
set_option maxHeartbeats 8000000 in
set_option maxRecDepth 100000 in
theorem rf8Rule.calls (k : Nat) (a0_0 : ByteArray) (a0_1 : Bool) (a0_2 : Int) (A0_3 : Option Addr) (c0_3 : Nat) (l0_3 : List (S42)) (a0_4 : Int) (a0_5 : ByteArray) (a0_6 : Int) (A0_7 : Option Addr) (c0_7 : Nat) (l0_7 : List (S47)) (A0_8 : Option Addr) (c0_8 : Nat) (l0_8 : List (S42)) (A0_9 : Option Addr) (c0_9 : Nat) (l0_9 : List (S26)) (r : Int) (w : World) (hr0_3 : Kd.C k42 w A0_3 l0_3.length l0_3) (hc0_3 : l0_3.length ≤ c0_3) (hr0_7 : Kd.C k47 w A0_7 l0_7.length l0_7) (hc0_7 : l0_7.length ≤ c0_7) (hr0_8 : Kd.C k42 w A0_8 l0_8.length l0_8) (hc0_8 : l0_8.length ≤ c0_8) (hr0_9 : Kd.C k26 w A0_9 l0_9.length l0_9) (hc0_9 : l0_9.length ≤ c0_9) (h : rf8Rule.f k a0_0 a0_1 a0_2 l0_3 a0_4 a0_5 a0_6 l0_7 l0_8 l0_9 = some r) :
   Calls Tryd.prog 47 #[.agg #[.string a0_0, .bool a0_1, .int .i64 a0_2, .slice A0_3 l0_3.length c0_3, .int .i64 a0_4, .string a0_5, .int .i64 a0_6, .slice A0_7 l0_7.length c0_7, .slice A0_8 l0_8.length c0_8, .slice A0_9 l0_9.length c0_9]] w fun e w' => e = .returned (.int .i64 r) ∧ Below w.heap.size w w' := by
 have hu54 := Tryd.underlying54
 have hu42 := Tryd.underlying42
 have hu26 := Tryd.underlying26
 have HR0_3 := Aside0.mk hr0_3
 have HC0_3 := Aside0.mk hc0_3
 clear hr0_3 hc0_3
 have HR0_7 := Aside0.mk hr0_7
 have HC0_7 := Aside0.mk hc0_7
 clear hr0_7 hc0_7
 have HR0_8 := Aside0.mk hr0_8
 have HC0_8 := Aside0.mk hc0_8
 clear hr0_8 hc0_8
 have HR0_9 := Aside0.mk hr0_9
 have HC0_9 := Aside0.mk hc0_9
 clear hr0_9 hc0_9
 have HB := Aside0.mk (Below.refl w.heap.size w)
 have H : (if a0_1 = true then (if a0_2 = 0 then (rf8Rule.j0 k true a0_0 a0_1 a0_2 l0_3 a0_4 a0_5 a0_6 l0_7 l0_8 l0_9) else (rf8Rule.j0 k false a0_0 a0_1 a0_2 l0_3 a0_4 a0_5 a0_6 l0_7 l0_8 l0_9)) else (if a0_2 ≥ 1 then (rf8Rule.j0 k (decide (a0_2 ≤ 1000)) a0_0 a0_1 a0_2 l0_3 a0_4 a0_5 a0_6 l0_7 l0_8 l0_9) else (rf8Rule.j0 k false a0_0 a0_1 a0_2 l0_3 a0_4 a0_5 a0_6 l0_7 l0_8 l0_9))) = some r := h
 clear h
 have HC2 := Aside0.mk H
 clear H
 go_enter Tryd.func47, Tryd.ntmps47
 go_upto_region 1 with (first | ((with_reducible refine gate_dst (N := 1) rfl ?_); (try (refine gate_guard (by rfl) ?_; dsimp only)); refine box_event ?hg (N := 1) ?hd (cs := #[.string a0_0, .bool a0_1, .int .i64 a0_2, .slice A0_3 l0_3.length c0_3, .int .i64 a0_4, .string a0_5, .int .i64 a0_6, .slice A0_7 l0_7.length c0_7, .slice A0_8 l0_8.length c0_8, .slice A0_9 l0_9.length c0_9]) (t := 54) ?hr ?_; (case hd => rfl); (case hg => rfl); (case hr => first | (go_simp; done) | (go_simp; rfl)); intro gb286 hg w3 hbox hb; have n0_ := Aside0.mk (below_step (by repeat (first | (with_reducible first | exact HB.out | apply bAl | apply pwDN | apply bD1) | exact HB.out)) hb); have n1_ := Aside0.mk (hbox); have n2_ := Aside0.mk ((by rw [hg]; exact (below_size (by repeat (first | (with_reducible first | exact HB.out | apply bAl | apply pwDN | apply bD1) | exact HB.out))) : w.heap.size ≤ gb286)); have n3_ := Aside0.mk ((by rw [hg]; exact (below_size (by repeat (first | (with_reducible first | exact HB.out | apply bAl | apply pwDN | apply bD1) | exact HB.out))) : w.heap.size ≤ gb286)); clear HB; have HB := n0_; have BK286 := n1_; have GW286 := n2_; have GE286 := n3_; clear n0_ n1_ n2_ n3_; clear hb hbox hg))
 repeat (go_quiet (first | ((with_reducible refine gate_dst (N := 1) rfl ?_); (try (refine gate_guard (by rfl) ?_; dsimp only)); refine box_event ?hg (N := 1) ?hd (cs := #[.string a0_0, .bool a0_1, .int .i64 a0_2, .slice A0_3 l0_3.length c0_3, .int .i64 a0_4, .string a0_5, .int .i64 a0_6, .slice A0_7 l0_7.length c0_7, .slice A0_8 l0_8.length c0_8, .slice A0_9 l0_9.length c0_9]) (t := 54) ?hr ?_; (case hd => rfl); (case hg => rfl); (case hr => first | (go_simp; done) | (go_simp; rfl)); intro gb286 hg w3 hbox hb; have n0_ := Aside0.mk (below_step (by repeat (first | (with_reducible first | exact HB.out | apply bAl | apply pwDN | apply bD1) | exact HB.out)) hb); have n1_ := Aside0.mk (hbox); have n2_ := Aside0.mk ((by rw [hg]; exact (below_size (by repeat (first | (with_reducible first | exact HB.out | apply bAl | apply pwDN | apply bD1) | exact HB.out))) : w.heap.size ≤ gb286)); have n3_ := Aside0.mk ((by rw [hg]; exact (below_size (by repeat (first | (with_reducible first | exact HB.out | apply bAl | apply pwDN | apply bD1) | exact HB.out))) : w.heap.size ≤ gb286)); clear HB; have HB := n0_; have BK286 := n1_; have GW286 := n2_; have GE286 := n3_; clear n0_ n1_ n2_ n3_; clear hb hbox hg)); go_upto_region 1 with (first | ((with_reducible refine gate_dst (N := 1) rfl ?_); (try (refine gate_guard (by rfl) ?_; dsimp only)); refine box_event ?hg (N := 1) ?hd (cs := #[.string a0_0, .bool a0_1, .int .i64 a0_2, .slice A0_3 l0_3.length c0_3, .int .i64 a0_4, .string a0_5, .int .i64 a0_6, .slice A0_7 l0_7.length c0_7, .slice A0_8 l0_8.length c0_8, .slice A0_9 l0_9.length c0_9]) (t := 54) ?hr ?_; (case hd => rfl); (case hg => rfl); (case hr => first | (go_simp; done) | (go_simp; rfl)); intro gb286 hg w3 hbox hb; have n0_ := Aside0.mk (below_step (by repeat (first | (with_reducible first | exact HB.out | apply bAl | apply pwDN | apply bD1) | exact HB.out)) hb); have n1_ := Aside0.mk (hbox); have n2_ := Aside0.mk ((by rw [hg]; exact (below_size (by repeat (first | (with_reducible first | exact HB.out | apply bAl | apply pwDN | apply bD1) | exact HB.out))) : w.heap.size ≤ gb286)); have n3_ := Aside0.mk ((by rw [hg]; exact (below_size (by repeat (first | (with_reducible first | exact HB.out | apply bAl | apply pwDN | apply bD1) | exact HB.out))) : w.heap.size ≤ gb286)); clear HB; have HB := n0_; have BK286 := n1_; have GW286 := n2_; have GE286 := n3_; clear n0_ n1_ n2_ n3_; clear hb hbox hg)))
 (try simp only [Act.put, List.setIfInBounds_toArray, List.set_cons_zero, List.set_cons_succ])
 go_cut [3] (fun v3 wc => ∃ (kq : Nat) (x3_1 : Bool), v3 = .bool x3_1 ∧ Aside0 (rf8Rule.j0 kq x3_1 a0_0 a0_1 a0_2 l0_3 a0_4 a0_5 a0_6 l0_7 l0_8 l0_9 = some r) ∧ Aside0 (kq ≤ k) ∧ Aside0 (wc.heap[gb286]? = some (.cells #[.string a0_0, .bool a0_1, .int .i64 a0_2, (.slice A0_3 l0_3.length c0_3), .int .i64 a0_4, .string a0_5, .int .i64 a0_6, (.slice A0_7 l0_7.length c0_7), (.slice A0_8 l0_8.length c0_8), (.slice A0_9 l0_9.length c0_9)] 54 (0, 0))) ∧ Aside0 (Below w.heap.size w wc))
 case first =>
   have H := HC2.out
   clear HC2
   by_cases c4 : a0_1 = true
   · subst c4
     have H1 : (if a0_2 = 0 then (rf8Rule.j0 k true a0_0 true a0_2 l0_3 a0_4 a0_5 a0_6 l0_7 l0_8 l0_9) else (rf8Rule.j0 k false a0_0 true a0_2 l0_3 a0_4 a0_5 a0_6 l0_7 l0_8 l0_9)) = some r := by rw [if_pos rfl] at H; exact H
     clear H
     have H := H1
     clear H1
     by_cases c5 : a0_2 = 0
     · rw [if_pos c5] at H
       have c5b0 : (a0_2 == 0) = true := beq_iff_eq.mpr c5
       have c5b1 : (a0_2 != 0) = false := bne_eq_false_iff_eq.mpr c5
       clear c5
       (first | rw [c5b0] | (simp only [i64_w, i32_w]; rw [c5b0]) | skip)
       have H' := Aside0.mk H
       clear H
       have hcz6_0 : w3.cell? ⟨gb286, 0, none⟩ = some (.string a0_0) := (bCl BK286.out 0).trans rfl
       have hcz6_1 : w3.cell? ⟨gb286, 1, none⟩ = some (.bool true) := (bCl BK286.out 1).trans rfl
       have hcz6_2 : w3.cell? ⟨gb286, 2, none⟩ = some (.int .i64 a0_2) := (bCl BK286.out 2).trans rfl
       have hcz6_3 : w3.cell? ⟨gb286, 3, none⟩ = some (.slice A0_3 l0_3.length c0_3) := (bCl BK286.out 3).trans rfl
       have hcz6_4 : w3.cell? ⟨gb286, 4, none⟩ = some (.int .i64 a0_4) := (bCl BK286.out 4).trans rfl
       have hcz6_5 : w3.cell? ⟨gb286, 5, none⟩ = some (.string a0_5) := (bCl BK286.out 5).trans rfl
       have hcz6_6 : w3.cell? ⟨gb286, 6, none⟩ = some (.int .i64 a0_6) := (bCl BK286.out 6).trans rfl
       have hcz6_7 : w3.cell? ⟨gb286, 7, none⟩ = some (.slice A0_7 l0_7.length c0_7) := (bCl BK286.out 7).trans rfl
       have hcz6_8 : w3.cell? ⟨gb286, 8, none⟩ = some (.slice A0_8 l0_8.length c0_8) := (bCl BK286.out 8).trans rfl
       have hcz6_9 : w3.cell? ⟨gb286, 9, none⟩ = some (.slice A0_9 l0_9.length c0_9) := (bCl BK286.out 9).trans rfl
       have hfz6_0 := bFz BK286.out 0
       have hfz6_1 := bFz BK286.out 1
       have hfz6_2 := bFz BK286.out 2
       have hfz6_3 := bFz BK286.out 3
       have hfz6_4 := bFz BK286.out 4
       have hfz6_5 := bFz BK286.out 5
       have hfz6_6 := bFz BK286.out 6
       have hfz6_7 := bFz BK286.out 7
       have hfz6_8 := bFz BK286.out 8
       have hfz6_9 := bFz BK286.out 9
       go_wp2
       repeat (go_quiet (fail); try go_wp2)
       go_meet
       case rel => exact ⟨_, (true), (by first | rfl | (simp; done) | (simp [*]; done)), H', ⟨by first | omega | exact Nat.le_refl _⟩, ⟨by (with_reducible repeat (first | refine blk_drewN ?_ _ | refine blk_drew ?_ | refine blk_alloc ?_ _)); exact BK286.out⟩, ⟨by repeat (first | (with_reducible first | exact HB.out | apply bAl | apply pwDN | apply bD1 | refine bSt ?_ GE286.out) | exact HB.out)⟩⟩
     · rw [if_neg c5] at H
       have c5b0 : (a0_2 == 0) = false := beq_eq_false_iff_ne.mpr c5
       have c5b1 : (a0_2 != 0) = true := bne_iff_ne.mpr c5
       (first | rw [c5b0] | (simp only [i64_w, i32_w]; rw [c5b0]) | skip)
       have H' := Aside0.mk H
       clear H
       have hcz7_0 : w3.cell? ⟨gb286, 0, none⟩ = some (.string a0_0) := (bCl BK286.out 0).trans rfl
       have hcz7_1 : w3.cell? ⟨gb286, 1, none⟩ = some (.bool true) := (bCl BK286.out 1).trans rfl
       have hcz7_2 : w3.cell? ⟨gb286, 2, none⟩ = some (.int .i64 a0_2) := (bCl BK286.out 2).trans rfl
       have hcz7_3 : w3.cell? ⟨gb286, 3, none⟩ = some (.slice A0_3 l0_3.length c0_3) := (bCl BK286.out 3).trans rfl
       have hcz7_4 : w3.cell? ⟨gb286, 4, none⟩ = some (.int .i64 a0_4) := (bCl BK286.out 4).trans rfl
       have hcz7_5 : w3.cell? ⟨gb286, 5, none⟩ = some (.string a0_5) := (bCl BK286.out 5).trans rfl
       have hcz7_6 : w3.cell? ⟨gb286, 6, none⟩ = some (.int .i64 a0_6) := (bCl BK286.out 6).trans rfl
       have hcz7_7 : w3.cell? ⟨gb286, 7, none⟩ = some (.slice A0_7 l0_7.length c0_7) := (bCl BK286.out 7).trans rfl
       have hcz7_8 : w3.cell? ⟨gb286, 8, none⟩ = some (.slice A0_8 l0_8.length c0_8) := (bCl BK286.out 8).trans rfl
       have hcz7_9 : w3.cell? ⟨gb286, 9, none⟩ = some (.slice A0_9 l0_9.length c0_9) := (bCl BK286.out 9).trans rfl
       have hfz7_0 := bFz BK286.out 0
       have hfz7_1 := bFz BK286.out 1
       have hfz7_2 := bFz BK286.out 2
       have hfz7_3 := bFz BK286.out 3
       have hfz7_4 := bFz BK286.out 4
       have hfz7_5 := bFz BK286.out 5
       have hfz7_6 := bFz BK286.out 6
       have hfz7_7 := bFz BK286.out 7
       have hfz7_8 := bFz BK286.out 8
       have hfz7_9 := bFz BK286.out 9
       go_wp2
       repeat (go_quiet (fail); try go_wp2)
       go_meet
       case rel => exact ⟨_, (false), (by first | rfl | (simp; done) | (simp [*]; done)), H', ⟨by first | omega | exact Nat.le_refl _⟩, ⟨by (with_reducible repeat (first | refine blk_drewN ?_ _ | refine blk_drew ?_ | refine blk_alloc ?_ _)); exact BK286.out⟩, ⟨by repeat (first | (with_reducible first | exact HB.out | apply bAl | apply pwDN | apply bD1 | refine bSt ?_ GE286.out) | exact HB.out)⟩⟩
   · replace c4 := Bool.eq_false_iff.mpr c4
     subst c4
     have H1 : (if a0_2 ≥ 1 then (rf8Rule.j0 k (decide (a0_2 ≤ 1000)) a0_0 false a0_2 l0_3 a0_4 a0_5 a0_6 l0_7 l0_8 l0_9) else (rf8Rule.j0 k false a0_0 false a0_2 l0_3 a0_4 a0_5 a0_6 l0_7 l0_8 l0_9)) = some r := by rw [if_neg (show ¬ (false = true) by decide)] at H; exact H
     clear H
     have H := H1
     clear H1
     by_cases c8 : a0_2 ≥ 1
     · rw [if_pos c8] at H
       have c8b0 : decide (1 ≤ a0_2) = true := decide_eq_true c8
       clear c8
       have H' := Aside0.mk H
       clear H
       have hcz9_0 : w3.cell? ⟨gb286, 0, none⟩ = some (.string a0_0) := (bCl BK286.out 0).trans rfl
       have hcz9_1 : w3.cell? ⟨gb286, 1, none⟩ = some (.bool false) := (bCl BK286.out 1).trans rfl
       have hcz9_2 : w3.cell? ⟨gb286, 2, none⟩ = some (.int .i64 a0_2) := (bCl BK286.out 2).trans rfl
       have hcz9_3 : w3.cell? ⟨gb286, 3, none⟩ = some (.slice A0_3 l0_3.length c0_3) := (bCl BK286.out 3).trans rfl
       have hcz9_4 : w3.cell? ⟨gb286, 4, none⟩ = some (.int .i64 a0_4) := (bCl BK286.out 4).trans rfl
       have hcz9_5 : w3.cell? ⟨gb286, 5, none⟩ = some (.string a0_5) := (bCl BK286.out 5).trans rfl
       have hcz9_6 : w3.cell? ⟨gb286, 6, none⟩ = some (.int .i64 a0_6) := (bCl BK286.out 6).trans rfl
       have hcz9_7 : w3.cell? ⟨gb286, 7, none⟩ = some (.slice A0_7 l0_7.length c0_7) := (bCl BK286.out 7).trans rfl
       have hcz9_8 : w3.cell? ⟨gb286, 8, none⟩ = some (.slice A0_8 l0_8.length c0_8) := (bCl BK286.out 8).trans rfl
       have hcz9_9 : w3.cell? ⟨gb286, 9, none⟩ = some (.slice A0_9 l0_9.length c0_9) := (bCl BK286.out 9).trans rfl
       have hfz9_0 := bFz BK286.out 0
       have hfz9_1 := bFz BK286.out 1
       have hfz9_2 := bFz BK286.out 2
       have hfz9_3 := bFz BK286.out 3
       have hfz9_4 := bFz BK286.out 4
       have hfz9_5 := bFz BK286.out 5
       have hfz9_6 := bFz BK286.out 6
       have hfz9_7 := bFz BK286.out 7
       have hfz9_8 := bFz BK286.out 8
       have hfz9_9 := bFz BK286.out 9
       go_wp2
       repeat (go_quiet (fail); try go_wp2)
       go_meet
       case rel => exact ⟨_, (decide (a0_2 ≤ 1000)), (by first | rfl | (simp; done) | (simp [*]; done)), H', ⟨by first | omega | exact Nat.le_refl _⟩, ⟨by (with_reducible repeat (first | refine blk_drewN ?_ _ | refine blk_drew ?_ | refine blk_alloc ?_ _)); exact BK286.out⟩, ⟨by repeat (first | (with_reducible first | exact HB.out | apply bAl | apply pwDN | apply bD1 | refine bSt ?_ GE286.out) | exact HB.out)⟩⟩
     · rw [if_neg c8] at H
       have c8b0 : decide (1 ≤ a0_2) = false := decide_eq_false c8
       clear c8
       have H' := Aside0.mk H
       clear H
       have hcz10_0 : w3.cell? ⟨gb286, 0, none⟩ = some (.string a0_0) := (bCl BK286.out 0).trans rfl
       have hcz10_1 : w3.cell? ⟨gb286, 1, none⟩ = some (.bool false) := (bCl BK286.out 1).trans rfl
       have hcz10_2 : w3.cell? ⟨gb286, 2, none⟩ = some (.int .i64 a0_2) := (bCl BK286.out 2).trans rfl
       have hcz10_3 : w3.cell? ⟨gb286, 3, none⟩ = some (.slice A0_3 l0_3.length c0_3) := (bCl BK286.out 3).trans rfl
       have hcz10_4 : w3.cell? ⟨gb286, 4, none⟩ = some (.int .i64 a0_4) := (bCl BK286.out 4).trans rfl
       have hcz10_5 : w3.cell? ⟨gb286, 5, none⟩ = some (.string a0_5) := (bCl BK286.out 5).trans rfl
       have hcz10_6 : w3.cell? ⟨gb286, 6, none⟩ = some (.int .i64 a0_6) := (bCl BK286.out 6).trans rfl
       have hcz10_7 : w3.cell? ⟨gb286, 7, none⟩ = some (.slice A0_7 l0_7.length c0_7) := (bCl BK286.out 7).trans rfl
       have hcz10_8 : w3.cell? ⟨gb286, 8, none⟩ = some (.slice A0_8 l0_8.length c0_8) := (bCl BK286.out 8).trans rfl
       have hcz10_9 : w3.cell? ⟨gb286, 9, none⟩ = some (.slice A0_9 l0_9.length c0_9) := (bCl BK286.out 9).trans rfl
       have hfz10_0 := bFz BK286.out 0
       have hfz10_1 := bFz BK286.out 1
       have hfz10_2 := bFz BK286.out 2
       have hfz10_3 := bFz BK286.out 3
       have hfz10_4 := bFz BK286.out 4
       have hfz10_5 := bFz BK286.out 5
       have hfz10_6 := bFz BK286.out 6
       have hfz10_7 := bFz BK286.out 7
       have hfz10_8 := bFz BK286.out 8
       have hfz10_9 := bFz BK286.out 9
       go_wp2
       repeat (go_quiet (fail); try go_wp2)
       go_meet
       case rel => exact ⟨_, (false), (by first | rfl | (simp; done) | (simp [*]; done)), H', ⟨by first | omega | exact Nat.le_refl _⟩, ⟨by (with_reducible repeat (first | refine blk_drewN ?_ _ | refine blk_drew ?_ | refine blk_alloc ?_ _)); exact BK286.out⟩, ⟨by repeat (first | (with_reducible first | exact HB.out | apply bAl | apply pwDN | apply bD1 | refine bSt ?_ GE286.out) | exact HB.out)⟩⟩
 case rest =>
   clear HC2
   try clear p2
   try clear c4
   try clear c5
   try clear c5b0
   try clear c5b1
   try clear c8
   try clear c8b0
   try clear hcz10_0
   try clear hcz10_1
   try clear hcz10_2
   try clear hcz10_3
   try clear hcz10_4
   try clear hcz10_5
   try clear hcz10_6
   try clear hcz10_7
   try clear hcz10_8
   try clear hcz10_9
   try clear hcz6_0
   try clear hcz6_1
   try clear hcz6_2
   try clear hcz6_3
   try clear hcz6_4
   try clear hcz6_5
   try clear hcz6_6
   try clear hcz6_7
   try clear hcz6_8
   try clear hcz6_9
   try clear hcz7_0
   try clear hcz7_1
   try clear hcz7_2
   try clear hcz7_3
   try clear hcz7_4
   try clear hcz7_5
   try clear hcz7_6
   try clear hcz7_7
   try clear hcz7_8
   try clear hcz7_9
   try clear hcz9_0
   try clear hcz9_1
   try clear hcz9_2
   try clear hcz9_3
   try clear hcz9_4
   try clear hcz9_5
   try clear hcz9_6
   try clear hcz9_7
   try clear hcz9_8
   try clear hcz9_9
   try clear hfz10_0
   try clear hfz10_1
   try clear hfz10_2
   try clear hfz10_3
   try clear hfz10_4
   try clear hfz10_5
   try clear hfz10_6
   try clear hfz10_7
   try clear hfz10_8
   try clear hfz10_9
   try clear hfz6_0
   try clear hfz6_1
   try clear hfz6_2
   try clear hfz6_3
   try clear hfz6_4
   try clear hfz6_5
   try clear hfz6_6
   try clear hfz6_7
   try clear hfz6_8
   try clear hfz6_9
   try clear hfz7_0
   try clear hfz7_1
   try clear hfz7_2
   try clear hfz7_3
   try clear hfz7_4
   try clear hfz7_5
   try clear hfz7_6
   try clear hfz7_7
   try clear hfz7_8
   try clear hfz7_9
   try clear hfz9_0
   try clear hfz9_1
   try clear hfz9_2
   try clear hfz9_3
   try clear hfz9_4
   try clear hfz9_5
   try clear hfz9_6
   try clear hfz9_7
   try clear hfz9_8
   try clear hfz9_9
   obtain ⟨kq, x3_1, rfl, HA, HJ1, BK286, HB⟩ := hcut
   cases kq with
   | zero => exact absurd HA.out (by simp [rf8Rule.j0])
   | succ kj1 =>
     have H := HA.out
     clear HA
     simp only [rf8Rule.j0] at H
     have HC11 := Aside0.mk H
     clear H
     go_upto_region 2 with (fail)
     repeat (go_quiet (fail); go_upto_region 2 with (fail))
     go_cut [42] (fun v42 wc => ∃ (kq : Nat) (x42_10 : Bool), v42 = .bool x42_10 ∧ Aside0 (rf8Rule.j1 kq x42_10 a0_0 a0_1 a0_2 l0_3 a0_4 a0_5 a0_6 l0_7 l0_8 l0_9 = some r) ∧ Aside0 (kq ≤ kj1) ∧ Aside0 (wc.heap[gb286]? = some (.cells #[.string a0_0, .bool a0_1, .int .i64 a0_2, (.slice A0_3 l0_3.length c0_3), .int .i64 a0_4, .string a0_5, .int .i64 a0_6, (.slice A0_7 l0_7.length c0_7), (.slice A0_8 l0_8.length c0_8), (.slice A0_9 l0_9.length c0_9)] 54 (0, 0))) ∧ Aside0 (Below w.heap.size w wc))
     case first =>
       have H := HC11.out
       clear HC11
       replace H := Option.bind_eq_some_iff.mp H
       obtain ⟨t287, A120, H⟩ := H
       replace H : (if t287 = true then (if x3_1 = true then (rf8Rule.j1 kj1 (decide ((l0_3.length : Int) > 6)) a0_0 a0_1 a0_2 l0_3 a0_4 a0_5 a0_6 l0_7 l0_8 l0_9) else (rf8Rule.j1 kj1 true a0_0 a0_1 a0_2 l0_3 a0_4 a0_5 a0_6 l0_7 l0_8 l0_9)) else (rf8Rule.j1 kj1 true a0_0 a0_1 a0_2 l0_3 a0_4 a0_5 a0_6 l0_7 l0_8 l0_9)) = some r := H
       have A12 := Aside0.mk A120
       clear A120
       by_cases c13 : t287 = true
       · subst c13
         have H1 : (if x3_1 = true then (rf8Rule.j1 kj1 (decide ((l0_3.length : Int) > 6)) a0_0 a0_1 a0_2 l0_3 a0_4 a0_5 a0_6 l0_7 l0_8 l0_9) else (rf8Rule.j1 kj1 true a0_0 a0_1 a0_2 l0_3 a0_4 a0_5 a0_6 l0_7 l0_8 l0_9)) = some r := by rw [if_pos rfl] at H; exact H
         clear H
         have H := H1
         clear H1
         by_cases c14 : x3_1 = true
         · subst c14
           have H1 : (rf8Rule.j1 kj1 (decide ((l0_3.length : Int) > 6)) a0_0 a0_1 a0_2 l0_3 a0_4 a0_5 a0_6 l0_7 l0_8 l0_9) = some r := by rw [if_pos rfl] at H; exact H
           clear H
           have H := H1
           clear H1
           have H' := Aside0.mk H
           clear H
           have hcz15_0 : wc.cell? ⟨gb286, 0, none⟩ = some (.string a0_0) := (bCl BK286.out 0).trans rfl
           have hcz15_1 : wc.cell? ⟨gb286, 1, none⟩ = some (.bool a0_1) := (bCl BK286.out 1).trans rfl
           have hcz15_2 : wc.cell? ⟨gb286, 2, none⟩ = some (.int .i64 a0_2) := (bCl BK286.out 2).trans rfl
           have hcz15_3 : wc.cell? ⟨gb286, 3, none⟩ = some (.slice A0_3 l0_3.length c0_3) := (bCl BK286.out 3).trans rfl
           have hcz15_4 : wc.cell? ⟨gb286, 4, none⟩ = some (.int .i64 a0_4) := (bCl BK286.out 4).trans rfl
           have hcz15_5 : wc.cell? ⟨gb286, 5, none⟩ = some (.string a0_5) := (bCl BK286.out 5).trans rfl
           have hcz15_6 : wc.cell? ⟨gb286, 6, none⟩ = some (.int .i64 a0_6) := (bCl BK286.out 6).trans rfl
           have hcz15_7 : wc.cell? ⟨gb286, 7, none⟩ = some (.slice A0_7 l0_7.length c0_7) := (bCl BK286.out 7).trans rfl
           have hcz15_8 : wc.cell? ⟨gb286, 8, none⟩ = some (.slice A0_8 l0_8.length c0_8) := (bCl BK286.out 8).trans rfl
           have hcz15_9 : wc.cell? ⟨gb286, 9, none⟩ = some (.slice A0_9 l0_9.length c0_9) := (bCl BK286.out 9).trans rfl
           have hfz15_0 := bFz BK286.out 0
           have hfz15_1 := bFz BK286.out 1
           have hfz15_2 := bFz BK286.out 2
           have hfz15_3 := bFz BK286.out 3
           have hfz15_4 := bFz BK286.out 4
           have hfz15_5 := bFz BK286.out 5
           have hfz15_6 := bFz BK286.out 6
           have hfz15_7 := bFz BK286.out 7
           have hfz15_8 := bFz BK286.out 8
           have hfz15_9 := bFz BK286.out 9
           go_wp2_with (first | (go_at_call 49; (with_reducible refine (rf6Name.calls kj1 a0_0 true _ A12.out).mono ?_); rintro e w' ⟨rfl, ⟨nd, rfl⟩⟩; (try first | exact ⟨rfl, _, World.drewN_drewN _ _ _⟩ | exact ⟨rfl, _, Eq.trans (World.drewN_drewN _ _ _) (congrArg (World.drewN _) (Nat.add_assoc _ _ _))⟩)))
           repeat (go_quiet (first | (go_at_call 49; (with_reducible refine (rf6Name.calls kj1 a0_0 true _ A12.out).mono ?_); rintro e w' ⟨rfl, ⟨nd, rfl⟩⟩; (try first | exact ⟨rfl, _, World.drewN_drewN _ _ _⟩ | exact ⟨rfl, _, Eq.trans (World.drewN_drewN _ _ _) (congrArg (World.drewN _) (Nat.add_assoc _ _ _))⟩))); try go_wp2_with (first | (go_at_call 49; (with_reducible refine (rf6Name.calls kj1 a0_0 true _ A12.out).mono ?_); rintro e w' ⟨rfl, ⟨nd, rfl⟩⟩; (try first | exact ⟨rfl, _, World.drewN_drewN _ _ _⟩ | exact ⟨rfl, _, Eq.trans (World.drewN_drewN _ _ _) (congrArg (World.drewN _) (Nat.add_assoc _ _ _))⟩))))
           go_meet
           case rel => exact ⟨_, (decide ((l0_3.length : Int) > 6)), (by first | rfl | (simp; done) | (simp [*]; done)), H', ⟨by have := HJ1.out; first | omega | exact Nat.le_refl _⟩, ⟨by (with_reducible repeat (first | refine blk_drewN ?_ _ | refine blk_drew ?_ | refine blk_alloc ?_ _)); exact BK286.out⟩, ⟨by repeat (first | (with_reducible first | exact HB.out | apply bAl | apply pwDN | apply bD1 | refine bSt ?_ GE286.out) | exact HB.out)⟩⟩
         · replace c14 := Bool.eq_false_iff.mpr c14
           subst c14
           have H1 : (rf8Rule.j1 kj1 true a0_0 a0_1 a0_2 l0_3 a0_4 a0_5 a0_6 l0_7 l0_8 l0_9) = some r := by rw [if_neg (show ¬ (false = true) by decide)] at H; exact H
           clear H
           have H := H1
           clear H1
           have H' := Aside0.mk H
           clear H
           have hcz16_0 : wc.cell? ⟨gb286, 0, none⟩ = some (.string a0_0) := (bCl BK286.out 0).trans rfl
           have hcz16_1 : wc.cell? ⟨gb286, 1, none⟩ = some (.bool a0_1) := (bCl BK286.out 1).trans rfl
           have hcz16_2 : wc.cell? ⟨gb286, 2, none⟩ = some (.int .i64 a0_2) := (bCl BK286.out 2).trans rfl
           have hcz16_3 : wc.cell? ⟨gb286, 3, none⟩ = some (.slice A0_3 l0_3.length c0_3) := (bCl BK286.out 3).trans rfl
           have hcz16_4 : wc.cell? ⟨gb286, 4, none⟩ = some (.int .i64 a0_4) := (bCl BK286.out 4).trans rfl
           have hcz16_5 : wc.cell? ⟨gb286, 5, none⟩ = some (.string a0_5) := (bCl BK286.out 5).trans rfl
           have hcz16_6 : wc.cell? ⟨gb286, 6, none⟩ = some (.int .i64 a0_6) := (bCl BK286.out 6).trans rfl
           have hcz16_7 : wc.cell? ⟨gb286, 7, none⟩ = some (.slice A0_7 l0_7.length c0_7) := (bCl BK286.out 7).trans rfl
           have hcz16_8 : wc.cell? ⟨gb286, 8, none⟩ = some (.slice A0_8 l0_8.length c0_8) := (bCl BK286.out 8).trans rfl
           have hcz16_9 : wc.cell? ⟨gb286, 9, none⟩ = some (.slice A0_9 l0_9.length c0_9) := (bCl BK286.out 9).trans rfl
           have hfz16_0 := bFz BK286.out 0
           have hfz16_1 := bFz BK286.out 1
           have hfz16_2 := bFz BK286.out 2
           have hfz16_3 := bFz BK286.out 3
           have hfz16_4 := bFz BK286.out 4
           have hfz16_5 := bFz BK286.out 5
           have hfz16_6 := bFz BK286.out 6
           have hfz16_7 := bFz BK286.out 7
           have hfz16_8 := bFz BK286.out 8
           have hfz16_9 := bFz BK286.out 9
           go_wp2_with (first | (go_at_call 49; (with_reducible refine (rf6Name.calls kj1 a0_0 true _ A12.out).mono ?_); rintro e w' ⟨rfl, ⟨nd, rfl⟩⟩; (try first | exact ⟨rfl, _, World.drewN_drewN _ _ _⟩ | exact ⟨rfl, _, Eq.trans (World.drewN_drewN _ _ _) (congrArg (World.drewN _) (Nat.add_assoc _ _ _))⟩)))
           repeat (go_quiet (first | (go_at_call 49; (with_reducible refine (rf6Name.calls kj1 a0_0 true _ A12.out).mono ?_); rintro e w' ⟨rfl, ⟨nd, rfl⟩⟩; (try first | exact ⟨rfl, _, World.drewN_drewN _ _ _⟩ | exact ⟨rfl, _, Eq.trans (World.drewN_drewN _ _ _) (congrArg (World.drewN _) (Nat.add_assoc _ _ _))⟩))); try go_wp2_with (first | (go_at_call 49; (with_reducible refine (rf6Name.calls kj1 a0_0 true _ A12.out).mono ?_); rintro e w' ⟨rfl, ⟨nd, rfl⟩⟩; (try first | exact ⟨rfl, _, World.drewN_drewN _ _ _⟩ | exact ⟨rfl, _, Eq.trans (World.drewN_drewN _ _ _) (congrArg (World.drewN _) (Nat.add_assoc _ _ _))⟩))))
           go_meet
           case rel => exact ⟨_, (true), (by first | rfl | (simp; done) | (simp [*]; done)), H', ⟨by have := HJ1.out; first | omega | exact Nat.le_refl _⟩, ⟨by (with_reducible repeat (first | refine blk_drewN ?_ _ | refine blk_drew ?_ | refine blk_alloc ?_ _)); exact BK286.out⟩, ⟨by repeat (first | (with_reducible first | exact HB.out | apply bAl | apply pwDN | apply bD1 | refine bSt ?_ GE286.out) | exact HB.out)⟩⟩
       · replace c13 := Bool.eq_false_iff.mpr c13
         subst c13
         have H1 : (rf8Rule.j1 kj1 true a0_0 a0_1 a0_2 l0_3 a0_4 a0_5 a0_6 l0_7 l0_8 l0_9) = some r := by rw [if_neg (show ¬ (false = true) by decide)] at H; exact H
         clear H
         have H := H1
         clear H1
         have H' := Aside0.mk H
         clear H
         have hcz17_0 : wc.cell? ⟨gb286, 0, none⟩ = some (.string a0_0) := (bCl BK286.out 0).trans rfl
         have hcz17_1 : wc.cell? ⟨gb286, 1, none⟩ = some (.bool a0_1) := (bCl BK286.out 1).trans rfl
         have hcz17_2 : wc.cell? ⟨gb286, 2, none⟩ = some (.int .i64 a0_2) := (bCl BK286.out 2).trans rfl
         have hcz17_3 : wc.cell? ⟨gb286, 3, none⟩ = some (.slice A0_3 l0_3.length c0_3) := (bCl BK286.out 3).trans rfl
         have hcz17_4 : wc.cell? ⟨gb286, 4, none⟩ = some (.int .i64 a0_4) := (bCl BK286.out 4).trans rfl
         have hcz17_5 : wc.cell? ⟨gb286, 5, none⟩ = some (.string a0_5) := (bCl BK286.out 5).trans rfl
         have hcz17_6 : wc.cell? ⟨gb286, 6, none⟩ = some (.int .i64 a0_6) := (bCl BK286.out 6).trans rfl
         have hcz17_7 : wc.cell? ⟨gb286, 7, none⟩ = some (.slice A0_7 l0_7.length c0_7) := (bCl BK286.out 7).trans rfl
         have hcz17_8 : wc.cell? ⟨gb286, 8, none⟩ = some (.slice A0_8 l0_8.length c0_8) := (bCl BK286.out 8).trans rfl
         have hcz17_9 : wc.cell? ⟨gb286, 9, none⟩ = some (.slice A0_9 l0_9.length c0_9) := (bCl BK286.out 9).trans rfl
         have hfz17_0 := bFz BK286.out 0
         have hfz17_1 := bFz BK286.out 1
         have hfz17_2 := bFz BK286.out 2
         have hfz17_3 := bFz BK286.out 3
         have hfz17_4 := bFz BK286.out 4
         have hfz17_5 := bFz BK286.out 5
         have hfz17_6 := bFz BK286.out 6
         have hfz17_7 := bFz BK286.out 7
         have hfz17_8 := bFz BK286.out 8
         have hfz17_9 := bFz BK286.out 9
         go_wp2_with (first | (go_at_call 49; (with_reducible refine (rf6Name.calls kj1 a0_0 false _ A12.out).mono ?_); rintro e w' ⟨rfl, ⟨nd, rfl⟩⟩; (try first | exact ⟨rfl, _, World.drewN_drewN _ _ _⟩ | exact ⟨rfl, _, Eq.trans (World.drewN_drewN _ _ _) (congrArg (World.drewN _) (Nat.add_assoc _ _ _))⟩)))
         repeat (go_quiet (first | (go_at_call 49; (with_reducible refine (rf6Name.calls kj1 a0_0 false _ A12.out).mono ?_); rintro e w' ⟨rfl, ⟨nd, rfl⟩⟩; (try first | exact ⟨rfl, _, World.drewN_drewN _ _ _⟩ | exact ⟨rfl, _, Eq.trans (World.drewN_drewN _ _ _) (congrArg (World.drewN _) (Nat.add_assoc _ _ _))⟩))); try go_wp2_with (first | (go_at_call 49; (with_reducible refine (rf6Name.calls kj1 a0_0 false _ A12.out).mono ?_); rintro e w' ⟨rfl, ⟨nd, rfl⟩⟩; (try first | exact ⟨rfl, _, World.drewN_drewN _ _ _⟩ | exact ⟨rfl, _, Eq.trans (World.drewN_drewN _ _ _) (congrArg (World.drewN _) (Nat.add_assoc _ _ _))⟩))))
         go_meet
         case rel => exact ⟨_, (true), (by first | rfl | (simp; done) | (simp [*]; done)), H', ⟨by have := HJ1.out; first | omega | exact Nat.le_refl _⟩, ⟨by (with_reducible repeat (first | refine blk_drewN ?_ _ | refine blk_drew ?_ | refine blk_alloc ?_ _)); exact BK286.out⟩, ⟨by repeat (first | (with_reducible first | exact HB.out | apply bAl | apply pwDN | apply bD1 | refine bSt ?_ GE286.out) | exact HB.out)⟩⟩
     case rest =>
       clear HC11
       try clear c1
       try clear p2
       try clear c4
       try clear c5
       try clear c5b0
       try clear c5b1
       try clear c8
       try clear c8b0
       try clear c13
       try clear c14
       try clear hcz10_0
       try clear hcz10_1
       try clear hcz10_2
       try clear hcz10_3
       try clear hcz10_4
       try clear hcz10_5
       try clear hcz10_6
       try clear hcz10_7
       try clear hcz10_8
       try clear hcz10_9
       try clear hcz15_0
       try clear hcz15_1
       try clear hcz15_2
       try clear hcz15_3
       try clear hcz15_4
       try clear hcz15_5
       try clear hcz15_6
       try clear hcz15_7
       try clear hcz15_8
       try clear hcz15_9
       try clear hcz16_0
       try clear hcz16_1
       try clear hcz16_2
       try clear hcz16_3
       try clear hcz16_4
       try clear hcz16_5
       try clear hcz16_6
       try clear hcz16_7
       try clear hcz16_8
       try clear hcz16_9
       try clear hcz17_0
       try clear hcz17_1
       try clear hcz17_2
       try clear hcz17_3
       try clear hcz17_4
       try clear hcz17_5
       try clear hcz17_6
       try clear hcz17_7
       try clear hcz17_8
       try clear hcz17_9
       try clear hcz6_0
       try clear hcz6_1
       try clear hcz6_2
       try clear hcz6_3
       try clear hcz6_4
       try clear hcz6_5
       try clear hcz6_6
       try clear hcz6_7
       try clear hcz6_8
       try clear hcz6_9
       try clear hcz7_0
       try clear hcz7_1
       try clear hcz7_2
       try clear hcz7_3
       try clear hcz7_4
       try clear hcz7_5
       try clear hcz7_6
       try clear hcz7_7
       try clear hcz7_8
       try clear hcz7_9
       try clear hcz9_0
       try clear hcz9_1
       try clear hcz9_2
       try clear hcz9_3
       try clear hcz9_4
       try clear hcz9_5
       try clear hcz9_6
       try clear hcz9_7
       try clear hcz9_8
       try clear hcz9_9
       try clear hfz10_0
       try clear hfz10_1
       try clear hfz10_2
       try clear hfz10_3
       try clear hfz10_4
       try clear hfz10_5
       try clear hfz10_6
       try clear hfz10_7
       try clear hfz10_8
       try clear hfz10_9
       try clear hfz15_0
       try clear hfz15_1
       try clear hfz15_2
       try clear hfz15_3
       try clear hfz15_4
       try clear hfz15_5
       try clear hfz15_6
       try clear hfz15_7
       try clear hfz15_8
       try clear hfz15_9
       try clear hfz16_0
       try clear hfz16_1
       try clear hfz16_2
       try clear hfz16_3
       try clear hfz16_4
       try clear hfz16_5
       try clear hfz16_6
       try clear hfz16_7
       try clear hfz16_8
       try clear hfz16_9
       try clear hfz17_0
       try clear hfz17_1
       try clear hfz17_2
       try clear hfz17_3
       try clear hfz17_4
       try clear hfz17_5
       try clear hfz17_6
       try clear hfz17_7
       try clear hfz17_8
       try clear hfz17_9
       try clear hfz6_0
       try clear hfz6_1
       try clear hfz6_2
       try clear hfz6_3
       try clear hfz6_4
       try clear hfz6_5
       try clear hfz6_6
       try clear hfz6_7
       try clear hfz6_8
       try clear hfz6_9
       try clear hfz7_0
       try clear hfz7_1
       try clear hfz7_2
       try clear hfz7_3
       try clear hfz7_4
       try clear hfz7_5
       try clear hfz7_6
       try clear hfz7_7
       try clear hfz7_8
       try clear hfz7_9
       try clear hfz9_0
       try clear hfz9_1
       try clear hfz9_2
       try clear hfz9_3
       try clear hfz9_4
       try clear hfz9_5
       try clear hfz9_6
       try clear hfz9_7
       try clear hfz9_8
       try clear hfz9_9
       try clear p2
       obtain ⟨kq, x42_10, rfl, HA, HJ10, BK286, HB⟩ := hcut
       cases kq with
       | zero => exact absurd HA.out (by simp [rf8Rule.j1])
       | succ kj10 =>
         have H := HA.out
         clear HA
         simp only [rf8Rule.j1] at H
         by_cases c18 : x42_10 = true
         · subst c18
           have H1 : (some 1) = some r := by rw [if_pos rfl] at H; exact H
           clear H
           have H := H1
           clear H1
           obtain rfl := Option.some.inj H
           go_wp2
           repeat (go_quiet (fail); try go_wp2)
           go_ret
           exact ⟨by first | rfl | (simp [errW_none, errW_some] <;> rfl) | (simp [*, errW_none, errW_some] <;> rfl), by repeat (first | (with_reducible first | exact HB.out | apply bAl | apply pwDN | apply bD1 | refine bSt ?_ GE286.out) | exact HB.out)⟩
         · replace c18 := Bool.eq_false_iff.mpr c18
           subst c18
           have H1 : (rf8Rule.l0 kj10 0 a0_0 a0_1 a0_2 l0_3 a0_4 a0_5 a0_6 l0_7 l0_8 l0_9) = some r := by rw [if_neg (show ¬ (false = true) by decide)] at H; exact H
           clear H
           have H := H1
           clear H1
           have H' := Aside0.mk H
           clear H
           go_wp2
           repeat (go_quiet (fail); try go_wp2)
           go_loopg [4] kj10 (fun kq v4 w' => ∃ (x4_3 : Int), v4 = .int .i64 x4_3 ∧ Aside0 (rf8Rule.l0 kq x4_3 a0_0 a0_1 a0_2 l0_3 a0_4 a0_5 a0_6 l0_7 l0_8 l0_9 = some r) ∧ Aside0 (kq ≤ kj10) ∧ Aside0 (w'.heap[gb286]? = some (.cells #[.string a0_0, .bool a0_1, .int .i64 a0_2, (.slice A0_3 l0_3.length c0_3), .int .i64 a0_4, .string a0_5, .int .i64 a0_6, (.slice A0_7 l0_7.length c0_7), (.slice A0_8 l0_8.length c0_8), (.slice A0_9 l0_9.length c0_9)] 54 (0, 0))) ∧ Aside0 (Below w.heap.size w w'))
           case atStart => exact ⟨(0), (by first | rfl | (simp; done) | (simp [*]; done)), H', ⟨Nat.le_refl _⟩, ⟨by (with_reducible repeat (first | refine blk_drewN ?_ _ | refine blk_drew ?_ | refine blk_alloc ?_ _)); exact BK286.out⟩, ⟨by repeat (first | (with_reducible first | exact HB.out | apply bAl | apply pwDN | apply bD1 | refine bSt ?_ GE286.out) | exact HB.out)⟩⟩
           case round =>
             clear H'
             try clear c1
             try clear p2
             try clear c4
             try clear c5
             try clear c5b0
             try clear c5b1
             try clear c8
             try clear c8b0
             try clear c13
             try clear c14
             try clear c18
             try clear hcz10_0
             try clear hcz10_1
             try clear hcz10_2
             try clear hcz10_3
             try clear hcz10_4
             try clear hcz10_5
             try clear hcz10_6
             try clear hcz10_7
             try clear hcz10_8
             try clear hcz10_9
             try clear hcz15_0
             try clear hcz15_1
             try clear hcz15_2
             try clear hcz15_3
             try clear hcz15_4
             try clear hcz15_5
             try clear hcz15_6
             try clear hcz15_7
             try clear hcz15_8
             try clear hcz15_9
             try clear hcz16_0
             try clear hcz16_1
             try clear hcz16_2
             try clear hcz16_3
             try clear hcz16_4
             try clear hcz16_5
             try clear hcz16_6
             try clear hcz16_7
             try clear hcz16_8
             try clear hcz16_9
             try clear hcz17_0
             try clear hcz17_1
             try clear hcz17_2
             try clear hcz17_3
             try clear hcz17_4
             try clear hcz17_5
             try clear hcz17_6
             try clear hcz17_7
             try clear hcz17_8
             try clear hcz17_9
             try clear hcz6_0
             try clear hcz6_1
             try clear hcz6_2
             try clear hcz6_3
             try clear hcz6_4
             try clear hcz6_5
             try clear hcz6_6
             try clear hcz6_7
             try clear hcz6_8
             try clear hcz6_9
             try clear hcz7_0
             try clear hcz7_1
             try clear hcz7_2
             try clear hcz7_3
             try clear hcz7_4
             try clear hcz7_5
             try clear hcz7_6
             try clear hcz7_7
             try clear hcz7_8
             try clear hcz7_9
             try clear hcz9_0
             try clear hcz9_1
             try clear hcz9_2
             try clear hcz9_3
             try clear hcz9_4
             try clear hcz9_5
             try clear hcz9_6
             try clear hcz9_7
             try clear hcz9_8
             try clear hcz9_9
             try clear hfz10_0
             try clear hfz10_1
             try clear hfz10_2
             try clear hfz10_3
             try clear hfz10_4
             try clear hfz10_5
             try clear hfz10_6
             try clear hfz10_7
             try clear hfz10_8
             try clear hfz10_9
             try clear hfz15_0
             try clear hfz15_1
             try clear hfz15_2
             try clear hfz15_3
             try clear hfz15_4
             try clear hfz15_5
             try clear hfz15_6
             try clear hfz15_7
             try clear hfz15_8
             try clear hfz15_9
             try clear hfz16_0
             try clear hfz16_1
             try clear hfz16_2
             try clear hfz16_3
             try clear hfz16_4
             try clear hfz16_5
             try clear hfz16_6
             try clear hfz16_7
             try clear hfz16_8
             try clear hfz16_9
             try clear hfz17_0
             try clear hfz17_1
             try clear hfz17_2
             try clear hfz17_3
             try clear hfz17_4
             try clear hfz17_5
             try clear hfz17_6
             try clear hfz17_7
             try clear hfz17_8
             try clear hfz17_9
             try clear hfz6_0
             try clear hfz6_1
             try clear hfz6_2
             try clear hfz6_3
             try clear hfz6_4
             try clear hfz6_5
             try clear hfz6_6
             try clear hfz6_7
             try clear hfz6_8
             try clear hfz6_9
             try clear hfz7_0
             try clear hfz7_1
             try clear hfz7_2
             try clear hfz7_3
             try clear hfz7_4
             try clear hfz7_5
             try clear hfz7_6
             try clear hfz7_7
             try clear hfz7_8
             try clear hfz7_9
             try clear hfz9_0
             try clear hfz9_1
             try clear hfz9_2
             try clear hfz9_3
             try clear hfz9_4
             try clear hfz9_5
             try clear hfz9_6
             try clear hfz9_7
             try clear hfz9_8
             try clear hfz9_9
             try clear p2
             obtain ⟨x4_3, rfl, HA, HK3, BK286, HB⟩ := hrel
             cases gk with
             | zero => exact absurd HA.out (by simp [rf8Rule.l0])
             | succ k3 =>
               have H := HA.out
               clear HA
               simp only [rf8Rule.l0] at H
               by_cases c19 : x4_3 < (l0_3.length : Int)
               · rw [if_pos c19] at H
                 have c19b0 : decide (x4_3 < (l0_3.length : Int)) = true := decide_eq_true c19
                 clear c19
                 by_cases c20 : 0 ≤ x4_3
                 · rw [if_pos c20] at H
                   have c20b0 : decide (0 ≤ x4_3) = true := decide_eq_true c20
                   clear c20
                   replace H := Option.bind_eq_some_iff.mp H
                   obtain ⟨t289, A210, H⟩ := H
                   replace H : (if t289 = true then (rf8Rule.l0 k3 (wrap64 (x4_3 + 1)) a0_0 a0_1 a0_2 l0_3 a0_4 a0_5 a0_6 l0_7 l0_8 l0_9) else (some 1)) = some r := H
                   have A21 := Aside0.mk A210
                   clear A210
                   by_cases c22 : t289 = true
                   · subst c22
                     have H1 : (rf8Rule.l0 k3 (wrap64 (x4_3 + 1)) a0_0 a0_1 a0_2 l0_3 a0_4 a0_5 a0_6 l0_7 l0_8 l0_9) = some r := by rw [if_pos rfl] at H; exact H
                     clear H
                     have H := H1
                     clear H1
                     have H' := Aside0.mk H
                     clear H
                     have hcz23_0 : wr.cell? ⟨gb286, 0, none⟩ = some (.string a0_0) := (bCl BK286.out 0).trans rfl
                     have hcz23_1 : wr.cell? ⟨gb286, 1, none⟩ = some (.bool a0_1) := (bCl BK286.out 1).trans rfl
                     have hcz23_2 : wr.cell? ⟨gb286, 2, none⟩ = some (.int .i64 a0_2) := (bCl BK286.out 2).trans rfl
                     have hcz23_3 : wr.cell? ⟨gb286, 3, none⟩ = some (.slice A0_3 l0_3.length c0_3) := (bCl BK286.out 3).trans rfl
                     have hcz23_4 : wr.cell? ⟨gb286, 4, none⟩ = some (.int .i64 a0_4) := (bCl BK286.out 4).trans rfl
                     have hcz23_5 : wr.cell? ⟨gb286, 5, none⟩ = some (.string a0_5) := (bCl BK286.out 5).trans rfl
                     have hcz23_6 : wr.cell? ⟨gb286, 6, none⟩ = some (.int .i64 a0_6) := (bCl BK286.out 6).trans rfl
                     have hcz23_7 : wr.cell? ⟨gb286, 7, none⟩ = some (.slice A0_7 l0_7.length c0_7) := (bCl BK286.out 7).trans rfl
                     have hcz23_8 : wr.cell? ⟨gb286, 8, none⟩ = some (.slice A0_8 l0_8.length c0_8) := (bCl BK286.out 8).trans rfl
                     have hcz23_9 : wr.cell? ⟨gb286, 9, none⟩ = some (.slice A0_9 l0_9.length c0_9) := (bCl BK286.out 9).trans rfl
                     have hfz23_0 := bFz BK286.out 0
                     have hfz23_1 := bFz BK286.out 1
                     have hfz23_2 := bFz BK286.out 2
                     have hfz23_3 := bFz BK286.out 3
                     have hfz23_4 := bFz BK286.out 4
                     have hfz23_5 := bFz BK286.out 5
                     have hfz23_6 := bFz BK286.out 6
                     have hfz23_7 := bFz BK286.out 7
                     have hfz23_8 := bFz BK286.out 8
                     have hfz23_9 := bFz BK286.out 9
                     have p288 : 0 ≤ (x4_3 : Int) := of_decide_eq_true (by first | (with_reducible assumption) | assumption)
                     have q288 : x4_3 < (l0_3.length : Int) := of_decide_eq_true (by first | (with_reducible assumption) | assumption)
                     obtain ⟨ad288, e288, hx288_0, hx288_1⟩ := at_T42 HR0_3.out x4_3 p288 q288
                     cases e288
                     replace hx288_0 := (HB.out.cell (World.block_lt_of_cell? w _ hx288_0)).trans hx288_0
                     replace hx288_1 := (HB.out.cell (World.block_lt_of_cell? w _ hx288_1)).trans hx288_1
                     replace p288 := eq_true p288
                     replace q288 := eq_true q288
                     go_wp2_with (first | (go_at_call 74; (with_reducible refine (rf8bind.calls k3 ((rd_T42 l0_3 x4_3).f0) ((rd_T42 l0_3 x4_3).f1) true _ A21.out).mono ?_); rintro e w24 ⟨rfl, hb⟩; have n0_ := Aside0.mk (blk_below (g := gb286) (o := .cells #[.string a0_0, .bool a0_1, .int .i64 a0_2, .slice (some ad288) l0_3.length c0_3, .int .i64 a0_4, .string a0_5, .int .i64 a0_6, .slice A0_7 l0_7.length c0_7, .slice A0_8 l0_8.length c0_8, .slice A0_9 l0_9.length c0_9] 54 (0, 0)) (by (with_reducible repeat (first | refine blk_drewN ?_ _ | refine blk_drew ?_ | refine blk_alloc ?_ _)); exact BK286.out) hb); have n1_ := Aside0.mk (below_step (by repeat (first | (with_reducible first | exact HB.out | apply bAl | apply pwDN | apply bD1 | refine bSt ?_ GE286.out) | exact HB.out)) hb); clear BK286; clear HB; have BK286 := n0_; have HB := n1_; clear n0_ n1_; (try clear hb); (try clear hb2); (try clear hk); (try clear hi)))
                     repeat (go_quiet (first | (go_at_call 74; (with_reducible refine (rf8bind.calls k3 ((rd_T42 l0_3 x4_3).f0) ((rd_T42 l0_3 x4_3).f1) true _ A21.out).mono ?_); rintro e w24 ⟨rfl, hb⟩; have n0_ := Aside0.mk (blk_below (g := gb286) (o := .cells #[.string a0_0, .bool a0_1, .int .i64 a0_2, .slice (some ad288) l0_3.length c0_3, .int .i64 a0_4, .string a0_5, .int .i64 a0_6, .slice A0_7 l0_7.length c0_7, .slice A0_8 l0_8.length c0_8, .slice A0_9 l0_9.length c0_9] 54 (0, 0)) (by (with_reducible repeat (first | refine blk_drewN ?_ _ | refine blk_drew ?_ | refine blk_alloc ?_ _)); exact BK286.out) hb); have n1_ := Aside0.mk (below_step (by repeat (first | (with_reducible first | exact HB.out | apply bAl | apply pwDN | apply bD1 | refine bSt ?_ GE286.out) | exact HB.out)) hb); clear BK286; clear HB; have BK286 := n0_; have HB := n1_; clear n0_ n1_; (try clear hb); (try clear hb2); (try clear hk); (try clear hi))); try go_wp2_with (first | (go_at_call 74; (with_reducible refine (rf8bind.calls k3 ((rd_T42 l0_3 x4_3).f0) ((rd_T42 l0_3 x4_3).f1) true _ A21.out).mono ?_); rintro e w24 ⟨rfl, hb⟩; have n0_ := Aside0.mk (blk_below (g := gb286) (o := .cells #[.string a0_0, .bool a0_1, .int .i64 a0_2, .slice (some ad288) l0_3.length c0_3, .int .i64 a0_4, .string a0_5, .int .i64 a0_6, .slice A0_7 l0_7.length c0_7, .slice A0_8 l0_8.length c0_8, .slice A0_9 l0_9.length c0_9] 54 (0, 0)) (by (with_reducible repeat (first | refine blk_drewN ?_ _ | refine blk_drew ?_ | refine blk_alloc ?_ _)); exact BK286.out) hb); have n1_ := Aside0.mk (below_step (by repeat (first | (with_reducible first | exact HB.out | apply bAl | apply pwDN | apply bD1 | refine bSt ?_ GE286.out) | exact HB.out)) hb); clear BK286; clear HB; have BK286 := n0_; have HB := n1_; clear n0_ n1_; (try clear hb); (try clear hb2); (try clear hk); (try clear hi))))
                     go_roundg k3
                     case measure => have := HJ1.out; have := HJ10.out; have := HK3.out; omega
                     case rel => exact ⟨(wrap64 (x4_3 + 1)), (by first | rfl | (simp; done) | (simp [*]; done)), H', ⟨by have := HJ1.out; have := HJ10.out; have := HK3.out; omega⟩, ⟨by (with_reducible repeat (first | refine blk_drewN ?_ _ | refine blk_drew ?_ | refine blk_alloc ?_ _)); exact BK286.out⟩, ⟨by repeat (first | (with_reducible first | exact HB.out | apply bAl | apply pwDN | apply bD1 | refine bSt ?_ GE286.out) | exact HB.out)⟩⟩
                   · replace c22 := Bool.eq_false_iff.mpr c22
                     subst c22
                     have H1 : (some 1) = some r := by rw [if_neg (show ¬ (false = true) by decide)] at H; exact H
                     clear H
                     have H := H1
                     clear H1
                     obtain rfl := Option.some.inj H
                     have hcz25_0 : wr.cell? ⟨gb286, 0, none⟩ = some (.string a0_0) := (bCl BK286.out 0).trans rfl
                     have hcz25_1 : wr.cell? ⟨gb286, 1, none⟩ = some (.bool a0_1) := (bCl BK286.out 1).trans rfl
                     have hcz25_2 : wr.cell? ⟨gb286, 2, none⟩ = some (.int .i64 a0_2) := (bCl BK286.out 2).trans rfl
                     have hcz25_3 : wr.cell? ⟨gb286, 3, none⟩ = some (.slice A0_3 l0_3.length c0_3) := (bCl BK286.out 3).trans rfl
                     have hcz25_4 : wr.cell? ⟨gb286, 4, none⟩ = some (.int .i64 a0_4) := (bCl BK286.out 4).trans rfl
                     have hcz25_5 : wr.cell? ⟨gb286, 5, none⟩ = some (.string a0_5) := (bCl BK286.out 5).trans rfl
                     have hcz25_6 : wr.cell? ⟨gb286, 6, none⟩ = some (.int .i64 a0_6) := (bCl BK286.out 6).trans rfl
                     have hcz25_7 : wr.cell? ⟨gb286, 7, none⟩ = some (.slice A0_7 l0_7.length c0_7) := (bCl BK286.out 7).trans rfl
                     have hcz25_8 : wr.cell? ⟨gb286, 8, none⟩ = some (.slice A0_8 l0_8.length c0_8) := (bCl BK286.out 8).trans rfl
                     have hcz25_9 : wr.cell? ⟨gb286, 9, none⟩ = some (.slice A0_9 l0_9.length c0_9) := (bCl BK286.out 9).trans rfl
                     have hfz25_0 := bFz BK286.out 0
                     have hfz25_1 := bFz BK286.out 1
                     have hfz25_2 := bFz BK286.out 2
                     have hfz25_3 := bFz BK286.out 3
                     have hfz25_4 := bFz BK286.out 4
                     have hfz25_5 := bFz BK286.out 5
                     have hfz25_6 := bFz BK286.out 6
                     have hfz25_7 := bFz BK286.out 7
                     have hfz25_8 := bFz BK286.out 8
                     have hfz25_9 := bFz BK286.out 9
                     have p288 : 0 ≤ (x4_3 : Int) := of_decide_eq_true (by first | (with_reducible assumption) | assumption)
                     have q288 : x4_3 < (l0_3.length : Int) := of_decide_eq_true (by first | (with_reducible assumption) | assumption)
                     obtain ⟨ad288, e288, hx288_0, hx288_1⟩ := at_T42 HR0_3.out x4_3 p288 q288
                     cases e288
                     replace hx288_0 := (HB.out.cell (World.block_lt_of_cell? w _ hx288_0)).trans hx288_0
                     replace hx288_1 := (HB.out.cell (World.block_lt_of_cell? w _ hx288_1)).trans hx288_1
                     replace p288 := eq_true p288
                     replace q288 := eq_true q288
                     go_wp2_with (first | (go_at_call 74; (with_reducible refine (rf8bind.calls k3 ((rd_T42 l0_3 x4_3).f0) ((rd_T42 l0_3 x4_3).f1) false _ A21.out).mono ?_); rintro e w26 ⟨rfl, hb⟩; have n0_ := Aside0.mk (blk_below (g := gb286) (o := .cells #[.string a0_0, .bool a0_1, .int .i64 a0_2, .slice (some ad288) l0_3.length c0_3, .int .i64 a0_4, .string a0_5, .int .i64 a0_6, .slice A0_7 l0_7.length c0_7, .slice A0_8 l0_8.length c0_8, .slice A0_9 l0_9.length c0_9] 54 (0, 0)) (by (with_reducible repeat (first | refine blk_drewN ?_ _ | refine blk_drew ?_ | refine blk_alloc ?_ _)); exact BK286.out) hb); have n1_ := Aside0.mk (below_step (by repeat (first | (with_reducible first | exact HB.out | apply bAl | apply pwDN | apply bD1 | refine bSt ?_ GE286.out) | exact HB.out)) hb); clear BK286; clear HB; have BK286 := n0_; have HB := n1_; clear n0_ n1_; (try clear hb); (try clear hb2); (try clear hk); (try clear hi)))
                     repeat (go_quiet (first | (go_at_call 74; (with_reducible refine (rf8bind.calls k3 ((rd_T42 l0_3 x4_3).f0) ((rd_T42 l0_3 x4_3).f1) false _ A21.out).mono ?_); rintro e w26 ⟨rfl, hb⟩; have n0_ := Aside0.mk (blk_below (g := gb286) (o := .cells #[.string a0_0, .bool a0_1, .int .i64 a0_2, .slice (some ad288) l0_3.length c0_3, .int .i64 a0_4, .string a0_5, .int .i64 a0_6, .slice A0_7 l0_7.length c0_7, .slice A0_8 l0_8.length c0_8, .slice A0_9 l0_9.length c0_9] 54 (0, 0)) (by (with_reducible repeat (first | refine blk_drewN ?_ _ | refine blk_drew ?_ | refine blk_alloc ?_ _)); exact BK286.out) hb); have n1_ := Aside0.mk (below_step (by repeat (first | (with_reducible first | exact HB.out | apply bAl | apply pwDN | apply bD1 | refine bSt ?_ GE286.out) | exact HB.out)) hb); clear BK286; clear HB; have BK286 := n0_; have HB := n1_; clear n0_ n1_; (try clear hb); (try clear hb2); (try clear hk); (try clear hi))); try go_wp2_with (first | (go_at_call 74; (with_reducible refine (rf8bind.calls k3 ((rd_T42 l0_3 x4_3).f0) ((rd_T42 l0_3 x4_3).f1) false _ A21.out).mono ?_); rintro e w26 ⟨rfl, hb⟩; have n0_ := Aside0.mk (blk_below (g := gb286) (o := .cells #[.string a0_0, .bool a0_1, .int .i64 a0_2, .slice (some ad288) l0_3.length c0_3, .int .i64 a0_4, .string a0_5, .int .i64 a0_6, .slice A0_7 l0_7.length c0_7, .slice A0_8 l0_8.length c0_8, .slice A0_9 l0_9.length c0_9] 54 (0, 0)) (by (with_reducible repeat (first | refine blk_drewN ?_ _ | refine blk_drew ?_ | refine blk_alloc ?_ _)); exact BK286.out) hb); have n1_ := Aside0.mk (below_step (by repeat (first | (with_reducible first | exact HB.out | apply bAl | apply pwDN | apply bD1 | refine bSt ?_ GE286.out) | exact HB.out)) hb); clear BK286; clear HB; have BK286 := n0_; have HB := n1_; clear n0_ n1_; (try clear hb); (try clear hb2); (try clear hk); (try clear hi))))
                     go_ret
                     exact ⟨by first | rfl | (simp [errW_none, errW_some] <;> rfl) | (simp [*, errW_none, errW_some] <;> rfl), by repeat (first | (with_reducible first | exact HB.out | apply bAl | apply pwDN | apply bD1 | refine bSt ?_ GE286.out) | exact HB.out)⟩
                 · rw [if_neg c20] at H
                   exact absurd H (by simp)
               · rw [if_neg c19] at H
                 have c19b0 : decide (x4_3 < (l0_3.length : Int)) = false := decide_eq_false c19
                 clear c19
                 replace H := Option.bind_eq_some_iff.mp H
                 obtain ⟨t290, A270, H⟩ := H
                 replace H : (if t290 = 0 then (rf8Rule.l1 k3 0 a0_0 a0_1 a0_2 l0_3 a0_4 a0_5 a0_6 l0_7 l0_8 l0_9) else (some t290)) = some r := H
                 have A27 := Aside0.mk A270
                 clear A270
                 by_cases c28 : t290 = 0
                 · rw [if_pos c28] at H
                   have c28b0 : (t290 == 0) = true := beq_iff_eq.mpr c28
                   have c28b1 : (t290 != 0) = false := bne_eq_false_iff_eq.mpr c28
                   clear c28
                   have H' := Aside0.mk H
                   clear H
                   have hcz29_0 : wr.cell? ⟨gb286, 0, none⟩ = some (.string a0_0) := (bCl BK286.out 0).trans rfl
                   have hcz29_1 : wr.cell? ⟨gb286, 1, none⟩ = some (.bool a0_1) := (bCl BK286.out 1).trans rfl
                   have hcz29_2 : wr.cell? ⟨gb286, 2, none⟩ = some (.int .i64 a0_2) := (bCl BK286.out 2).trans rfl
                   have hcz29_3 : wr.cell? ⟨gb286, 3, none⟩ = some (.slice A0_3 l0_3.length c0_3) := (bCl BK286.out 3).trans rfl
                   have hcz29_4 : wr.cell? ⟨gb286, 4, none⟩ = some (.int .i64 a0_4) := (bCl BK286.out 4).trans rfl
                   have hcz29_5 : wr.cell? ⟨gb286, 5, none⟩ = some (.string a0_5) := (bCl BK286.out 5).trans rfl
                   have hcz29_6 : wr.cell? ⟨gb286, 6, none⟩ = some (.int .i64 a0_6) := (bCl BK286.out 6).trans rfl
                   have hcz29_7 : wr.cell? ⟨gb286, 7, none⟩ = some (.slice A0_7 l0_7.length c0_7) := (bCl BK286.out 7).trans rfl
                   have hcz29_8 : wr.cell? ⟨gb286, 8, none⟩ = some (.slice A0_8 l0_8.length c0_8) := (bCl BK286.out 8).trans rfl
                   have hcz29_9 : wr.cell? ⟨gb286, 9, none⟩ = some (.slice A0_9 l0_9.length c0_9) := (bCl BK286.out 9).trans rfl
                   have hfz29_0 := bFz BK286.out 0
                   have hfz29_1 := bFz BK286.out 1
                   have hfz29_2 := bFz BK286.out 2
                   have hfz29_3 := bFz BK286.out 3
                   have hfz29_4 := bFz BK286.out 4
                   have hfz29_5 := bFz BK286.out 5
                   have hfz29_6 := bFz BK286.out 6
                   have hfz29_7 := bFz BK286.out 7
                   have hfz29_8 := bFz BK286.out 8
                   have hfz29_9 := bFz BK286.out 9
                   go_wp2_with (first | (go_at_call 23; (with_reducible refine (rf6Check.calls k3 a0_4 a0_5 a0_6 _ _ l0_7 _ _ l0_8 _ _ l0_9 t290 _ ?side1 ?side2 ?side3 ?side4 ?side5 ?side6 A27.out).mono ?_); (case side1 => repeat (first | exact (Kd.C_below HR0_7.out HB.out) | (with_reducible refine Kd.C_alloc ?_ _) | (with_reducible refine Kd.C_drewN ?_ _) | (with_reducible refine Kd.C_drew ?_))); (case side2 => exact HC0_7.out); (case side3 => repeat (first | exact (Kd.C_below HR0_8.out HB.out) | (with_reducible refine Kd.C_alloc ?_ _) | (with_reducible refine Kd.C_drewN ?_ _) | (with_reducible refine Kd.C_drew ?_))); (case side4 => exact HC0_8.out); (case side5 => repeat (first | exact (Kd.C_below HR0_9.out HB.out) | (with_reducible refine Kd.C_alloc ?_ _) | (with_reducible refine Kd.C_drewN ?_ _) | (with_reducible refine Kd.C_drew ?_))); (case side6 => exact HC0_9.out); rintro e w30 ⟨rfl, hb⟩; have n0_ := Aside0.mk (blk_below (g := gb286) (o := .cells #[.string a0_0, .bool a0_1, .int .i64 a0_2, .slice A0_3 l0_3.length c0_3, .int .i64 a0_4, .string a0_5, .int .i64 a0_6, .slice A0_7 l0_7.length c0_7, .slice A0_8 l0_8.length c0_8, .slice A0_9 l0_9.length c0_9] 54 (0, 0)) (by (with_reducible repeat (first | refine blk_drewN ?_ _ | refine blk_drew ?_ | refine blk_alloc ?_ _)); exact BK286.out) hb); have n1_ := Aside0.mk (below_step (by repeat (first | (with_reducible first | exact HB.out | apply bAl | apply pwDN | apply bD1 | refine bSt ?_ GE286.out) | exact HB.out)) hb); clear BK286; clear HB; have BK286 := n0_; have HB := n1_; clear n0_ n1_; (try clear hb); (try clear hb2); (try clear hk); (try clear hi)))
                   repeat (go_quiet (first | (go_at_call 23; (with_reducible refine (rf6Check.calls k3 a0_4 a0_5 a0_6 _ _ l0_7 _ _ l0_8 _ _ l0_9 t290 _ ?side1 ?side2 ?side3 ?side4 ?side5 ?side6 A27.out).mono ?_); (case side1 => repeat (first | exact (Kd.C_below HR0_7.out HB.out) | (with_reducible refine Kd.C_alloc ?_ _) | (with_reducible refine Kd.C_drewN ?_ _) | (with_reducible refine Kd.C_drew ?_))); (case side2 => exact HC0_7.out); (case side3 => repeat (first | exact (Kd.C_below HR0_8.out HB.out) | (with_reducible refine Kd.C_alloc ?_ _) | (with_reducible refine Kd.C_drewN ?_ _) | (with_reducible refine Kd.C_drew ?_))); (case side4 => exact HC0_8.out); (case side5 => repeat (first | exact (Kd.C_below HR0_9.out HB.out) | (with_reducible refine Kd.C_alloc ?_ _) | (with_reducible refine Kd.C_drewN ?_ _) | (with_reducible refine Kd.C_drew ?_))); (case side6 => exact HC0_9.out); rintro e w30 ⟨rfl, hb⟩; have n0_ := Aside0.mk (blk_below (g := gb286) (o := .cells #[.string a0_0, .bool a0_1, .int .i64 a0_2, .slice A0_3 l0_3.length c0_3, .int .i64 a0_4, .string a0_5, .int .i64 a0_6, .slice A0_7 l0_7.length c0_7, .slice A0_8 l0_8.length c0_8, .slice A0_9 l0_9.length c0_9] 54 (0, 0)) (by (with_reducible repeat (first | refine blk_drewN ?_ _ | refine blk_drew ?_ | refine blk_alloc ?_ _)); exact BK286.out) hb); have n1_ := Aside0.mk (below_step (by repeat (first | (with_reducible first | exact HB.out | apply bAl | apply pwDN | apply bD1 | refine bSt ?_ GE286.out) | exact HB.out)) hb); clear BK286; clear HB; have BK286 := n0_; have HB := n1_; clear n0_ n1_; (try clear hb); (try clear hb2); (try clear hk); (try clear hi))); try go_wp2_with (first | (go_at_call 23; (with_reducible refine (rf6Check.calls k3 a0_4 a0_5 a0_6 _ _ l0_7 _ _ l0_8 _ _ l0_9 t290 _ ?side1 ?side2 ?side3 ?side4 ?side5 ?side6 A27.out).mono ?_); (case side1 => repeat (first | exact (Kd.C_below HR0_7.out HB.out) | (with_reducible refine Kd.C_alloc ?_ _) | (with_reducible refine Kd.C_drewN ?_ _) | (with_reducible refine Kd.C_drew ?_))); (case side2 => exact HC0_7.out); (case side3 => repeat (first | exact (Kd.C_below HR0_8.out HB.out) | (with_reducible refine Kd.C_alloc ?_ _) | (with_reducible refine Kd.C_drewN ?_ _) | (with_reducible refine Kd.C_drew ?_))); (case side4 => exact HC0_8.out); (case side5 => repeat (first | exact (Kd.C_below HR0_9.out HB.out) | (with_reducible refine Kd.C_alloc ?_ _) | (with_reducible refine Kd.C_drewN ?_ _) | (with_reducible refine Kd.C_drew ?_))); (case side6 => exact HC0_9.out); rintro e w30 ⟨rfl, hb⟩; have n0_ := Aside0.mk (blk_below (g := gb286) (o := .cells #[.string a0_0, .bool a0_1, .int .i64 a0_2, .slice A0_3 l0_3.length c0_3, .int .i64 a0_4, .string a0_5, .int .i64 a0_6, .slice A0_7 l0_7.length c0_7, .slice A0_8 l0_8.length c0_8, .slice A0_9 l0_9.length c0_9] 54 (0, 0)) (by (with_reducible repeat (first | refine blk_drewN ?_ _ | refine blk_drew ?_ | refine blk_alloc ?_ _)); exact BK286.out) hb); have n1_ := Aside0.mk (below_step (by repeat (first | (with_reducible first | exact HB.out | apply bAl | apply pwDN | apply bD1 | refine bSt ?_ GE286.out) | exact HB.out)) hb); clear BK286; clear HB; have BK286 := n0_; have HB := n1_; clear n0_ n1_; (try clear hb); (try clear hb2); (try clear hk); (try clear hi))))
                   go_loopg [6] k3 (fun kq v6 w' => ∃ (x6_4 : Int), v6 = .int .i64 x6_4 ∧ Aside0 (rf8Rule.l1 kq x6_4 a0_0 a0_1 a0_2 l0_3 a0_4 a0_5 a0_6 l0_7 l0_8 l0_9 = some r) ∧ Aside0 (kq ≤ k3) ∧ Aside0 (w'.heap[gb286]? = some (.cells #[.string a0_0, .bool a0_1, .int .i64 a0_2, (.slice A0_3 l0_3.length c0_3), .int .i64 a0_4, .string a0_5, .int .i64 a0_6, (.slice A0_7 l0_7.length c0_7), (.slice A0_8 l0_8.length c0_8), (.slice A0_9 l0_9.length c0_9)] 54 (0, 0))) ∧ Aside0 (Below w.heap.size w w'))
                   case atStart => exact ⟨(0), (by first | rfl | (simp; done) | (simp [*]; done)), H', ⟨Nat.le_refl _⟩, ⟨by (with_reducible repeat (first | refine blk_drewN ?_ _ | refine blk_drew ?_ | refine blk_alloc ?_ _)); exact BK286.out⟩, ⟨by repeat (first | (with_reducible first | exact HB.out | apply bAl | apply pwDN | apply bD1 | refine bSt ?_ GE286.out) | exact HB.out)⟩⟩
                   case round =>
                     clear H'
                     try clear c1
                     try clear c2
                     try clear p2
                     try clear q2
                     try clear hx2
                     try clear c4
                     try clear c5
                     try clear c5b0
                     try clear c5b1
                     try clear p6
                     try clear c8
                     try clear c8b0
                     try clear c13
                     try clear c14
                     try clear c18
                     try clear c19
                     try clear c19b0
                     try clear c20
                     try clear c20b0
                     try clear c22
                     try clear c28
                     try clear c28b0
                     try clear c28b1
                     try clear p28
                     try clear q28
                     try clear hx28
                     try clear hcz10_0
                     try clear hcz10_1
                     try clear hcz10_2
                     try clear hcz10_3
                     try clear hcz10_4
                     try clear hcz10_5
                     try clear hcz10_6
                     try clear hcz10_7
                     try clear hcz10_8
                     try clear hcz10_9
                     try clear hcz15_0
                     try clear hcz15_1
                     try clear hcz15_2
                     try clear hcz15_3
                     try clear hcz15_4
                     try clear hcz15_5
                     try clear hcz15_6
                     try clear hcz15_7
                     try clear hcz15_8
                     try clear hcz15_9
                     try clear hcz16_0
                     try clear hcz16_1
                     try clear hcz16_2
                     try clear hcz16_3
                     try clear hcz16_4
                     try clear hcz16_5
                     try clear hcz16_6
                     try clear hcz16_7
                     try clear hcz16_8
                     try clear hcz16_9
                     try clear hcz17_0
                     try clear hcz17_1
                     try clear hcz17_2
                     try clear hcz17_3
                     try clear hcz17_4
                     try clear hcz17_5
                     try clear hcz17_6
                     try clear hcz17_7
                     try clear hcz17_8
                     try clear hcz17_9
                     try clear hcz23_0
                     try clear hcz23_1
                     try clear hcz23_2
                     try clear hcz23_3
                     try clear hcz23_4
                     try clear hcz23_5
                     try clear hcz23_6
                     try clear hcz23_7
                     try clear hcz23_8
                     try clear hcz23_9
                     try clear hcz25_0
                     try clear hcz25_1
                     try clear hcz25_2
                     try clear hcz25_3
                     try clear hcz25_4
                     try clear hcz25_5
                     try clear hcz25_6
                     try clear hcz25_7
                     try clear hcz25_8
                     try clear hcz25_9
                     try clear hcz29_0
                     try clear hcz29_1
                     try clear hcz29_2
                     try clear hcz29_3
                     try clear hcz29_4
                     try clear hcz29_5
                     try clear hcz29_6
                     try clear hcz29_7
                     try clear hcz29_8
                     try clear hcz29_9
                     try clear hcz6_0
                     try clear hcz6_1
                     try clear hcz6_2
                     try clear hcz6_3
                     try clear hcz6_4
                     try clear hcz6_5
                     try clear hcz6_6
                     try clear hcz6_7
                     try clear hcz6_8
                     try clear hcz6_9
                     try clear hcz7_0
                     try clear hcz7_1
                     try clear hcz7_2
                     try clear hcz7_3
                     try clear hcz7_4
                     try clear hcz7_5
                     try clear hcz7_6
                     try clear hcz7_7
                     try clear hcz7_8
                     try clear hcz7_9
                     try clear hcz9_0
                     try clear hcz9_1
                     try clear hcz9_2
                     try clear hcz9_3
                     try clear hcz9_4
                     try clear hcz9_5
                     try clear hcz9_6
                     try clear hcz9_7
                     try clear hcz9_8
                     try clear hcz9_9
                     try clear hfz10_0
                     try clear hfz10_1
                     try clear hfz10_2
                     try clear hfz10_3
                     try clear hfz10_4
                     try clear hfz10_5
                     try clear hfz10_6
                     try clear hfz10_7
                     try clear hfz10_8
                     try clear hfz10_9
                     try clear hfz15_0
                     try clear hfz15_1
                     try clear hfz15_2
                     try clear hfz15_3
                     try clear hfz15_4
                     try clear hfz15_5
                     try clear hfz15_6
                     try clear hfz15_7
                     try clear hfz15_8
                     try clear hfz15_9
                     try clear hfz16_0
                     try clear hfz16_1
                     try clear hfz16_2
                     try clear hfz16_3
                     try clear hfz16_4
                     try clear hfz16_5
                     try clear hfz16_6
                     try clear hfz16_7
                     try clear hfz16_8
                     try clear hfz16_9
                     try clear hfz17_0
                     try clear hfz17_1
                     try clear hfz17_2
                     try clear hfz17_3
                     try clear hfz17_4
                     try clear hfz17_5
                     try clear hfz17_6
                     try clear hfz17_7
                     try clear hfz17_8
                     try clear hfz17_9
                     try clear hfz23_0
                     try clear hfz23_1
                     try clear hfz23_2
                     try clear hfz23_3
                     try clear hfz23_4
                     try clear hfz23_5
                     try clear hfz23_6
                     try clear hfz23_7
                     try clear hfz23_8
                     try clear hfz23_9
                     try clear hfz25_0
                     try clear hfz25_1
                     try clear hfz25_2
                     try clear hfz25_3
                     try clear hfz25_4
                     try clear hfz25_5
                     try clear hfz25_6
                     try clear hfz25_7
                     try clear hfz25_8
                     try clear hfz25_9
                     try clear hfz29_0
                     try clear hfz29_1
                     try clear hfz29_2
                     try clear hfz29_3
                     try clear hfz29_4
                     try clear hfz29_5
                     try clear hfz29_6
                     try clear hfz29_7
                     try clear hfz29_8
                     try clear hfz29_9
                     try clear hfz6_0
                     try clear hfz6_1
                     try clear hfz6_2
                     try clear hfz6_3
                     try clear hfz6_4
                     try clear hfz6_5
                     try clear hfz6_6
                     try clear hfz6_7
                     try clear hfz6_8
                     try clear hfz6_9
                     try clear hfz7_0
                     try clear hfz7_1
                     try clear hfz7_2
                     try clear hfz7_3
                     try clear hfz7_4
                     try clear hfz7_5
                     try clear hfz7_6
                     try clear hfz7_7
                     try clear hfz7_8
                     try clear hfz7_9
                     try clear hfz9_0
                     try clear hfz9_1
                     try clear hfz9_2
                     try clear hfz9_3
                     try clear hfz9_4
                     try clear hfz9_5
                     try clear hfz9_6
                     try clear hfz9_7
                     try clear hfz9_8
                     try clear hfz9_9
                     try clear hx288_0
                     try clear hx288_1
                     try clear p2
                     try clear p288
                     try clear q288
                     obtain ⟨x6_4, rfl, HA, HK4, BK286, HB⟩ := hrel
                     cases gk with
                     | zero => exact absurd HA.out (by simp [rf8Rule.l1])
                     | succ k4 =>
                       have H := HA.out
                       clear HA
                       simp only [rf8Rule.l1] at H
                       by_cases c31 : x6_4 < (l0_3.length : Int)
                       · rw [if_pos c31] at H
                         have c31b0 : decide (x6_4 < (l0_3.length : Int)) = true := decide_eq_true c31
                         clear c31
                         by_cases c32 : 0 ≤ x6_4
                         · rw [if_pos c32] at H
                           have c32b0 := eq_true c32
                           have c32b1 : decide (0 ≤ x6_4) = true := decide_eq_true c32
                           clear c32
                           by_cases c33 : x6_4 ≤ (l0_3.length : Int)
                           · rw [if_pos c33] at H
                             have c33b0 := eq_true c33
                             have c33b1 : decide (x6_4 ≤ (l0_3.length : Int)) = true := decide_eq_true c33
                             clear c33
                             obtain ⟨y291, hy291⟩ : ∃ y_ : List (S42), y_ = (l0_3.take (x6_4 : Int).toNat) := ⟨_, rfl⟩
                             replace H : ((rf8stands.f k4 y291 ((rd_T42 l0_3 x6_4).f0)).bind fun t296 => (if t296 = true then (some 82) else (rf8Rule.l1 k4 (wrap64 (x6_4 + 1)) a0_0 a0_1 a0_2 l0_3 a0_4 a0_5 a0_6 l0_7 l0_8 l0_9))) = some r := by first | (rw [hy291]; with_reducible exact H) | (have H2_ := (Option.bind_some _ _).symm.trans H; rw [hy291]; with_reducible exact H2_) | (have H2_ := (Option.bind_some _ _).symm.trans H; with_reducible exact H2_) | with_reducible exact H | (rw [hy291]; exact H) | exact H
                             have Ny291 := Aside0.mk hy291
                             clear hy291
                             replace H := Option.bind_eq_some_iff.mp H
                             obtain ⟨t296, A340, H⟩ := H
                             replace H : (if t296 = true then (some 82) else (rf8Rule.l1 k4 (wrap64 (x6_4 + 1)) a0_0 a0_1 a0_2 l0_3 a0_4 a0_5 a0_6 l0_7 l0_8 l0_9)) = some r := H
                             have A34 := Aside0.mk A340
                             clear A340
                             by_cases c35 : t296 = true
                             · subst c35
                               have H1 : (some 82) = some r := by rw [if_pos rfl] at H; exact H
                               clear H
                               have H := H1
                               clear H1
                               obtain rfl := Option.some.inj H
                               have hcz36_0 : wr.cell? ⟨gb286, 0, none⟩ = some (.string a0_0) := (bCl BK286.out 0).trans rfl
                               have hcz36_1 : wr.cell? ⟨gb286, 1, none⟩ = some (.bool a0_1) := (bCl BK286.out 1).trans rfl
                               have hcz36_2 : wr.cell? ⟨gb286, 2, none⟩ = some (.int .i64 a0_2) := (bCl BK286.out 2).trans rfl
                               have hcz36_3 : wr.cell? ⟨gb286, 3, none⟩ = some (.slice A0_3 l0_3.length c0_3) := (bCl BK286.out 3).trans rfl
                               have hcz36_4 : wr.cell? ⟨gb286, 4, none⟩ = some (.int .i64 a0_4) := (bCl BK286.out 4).trans rfl
                               have hcz36_5 : wr.cell? ⟨gb286, 5, none⟩ = some (.string a0_5) := (bCl BK286.out 5).trans rfl
                               have hcz36_6 : wr.cell? ⟨gb286, 6, none⟩ = some (.int .i64 a0_6) := (bCl BK286.out 6).trans rfl
                               have hcz36_7 : wr.cell? ⟨gb286, 7, none⟩ = some (.slice A0_7 l0_7.length c0_7) := (bCl BK286.out 7).trans rfl
                               have hcz36_8 : wr.cell? ⟨gb286, 8, none⟩ = some (.slice A0_8 l0_8.length c0_8) := (bCl BK286.out 8).trans rfl
                               have hcz36_9 : wr.cell? ⟨gb286, 9, none⟩ = some (.slice A0_9 l0_9.length c0_9) := (bCl BK286.out 9).trans rfl
                               have hfz36_0 := bFz BK286.out 0
                               have hfz36_1 := bFz BK286.out 1
                               have hfz36_2 := bFz BK286.out 2
                               have hfz36_3 := bFz BK286.out 3
                               have hfz36_4 := bFz BK286.out 4
                               have hfz36_5 := bFz BK286.out 5
                               have hfz36_6 := bFz BK286.out 6
                               have hfz36_7 := bFz BK286.out 7
                               have hfz36_8 := bFz BK286.out 8
                               have hfz36_9 := bFz BK286.out 9
                               have q37 : (x6_4 : Int) ≤ ((l0_3.length : Int) : Int) := of_decide_eq_true (by first | (with_reducible assumption) | assumption)
                               obtain ⟨i037, hi037, _, hsz37, _⟩ := info_parts info42
                               have hroom37 : l0_3.length ≤ c0_3 := HC0_3.out
                               have hC37 : Kd.C k42 _ A0_3 l0_3.length l0_3 := HR0_3.out
                               have hcut37 := cut_to (P := Tryd.prog) 23 42 .i64 Tryd.underlying23 hi037 A0_3 l0_3.length c0_3 x6_4 (of_decide_eq_true (by first | (with_reducible assumption) | assumption)) q37 hroom37
                               have hr37 := Kd.C_take (m := (x6_4 : Int).toNat) hC37 (by omega)
                               have hy37 : y291.length = (x6_4 : Int).toNat := (by rw [Ny291.out, List.length_take]; omega)
                               rw [← Ny291.out] at hr37
                               rw [← hy37] at hcut37
                               have HR294 := Aside0.mk hr37
                               have HC294 := Aside0.mk (show y291.length ≤ c0_3 from by omega)
                               clear hr37 hC37 hroom37 hi037 hsz37
                               have KY37 := Aside0.mk hy37
                               clear hy37
                               replace q37 := eq_true q37
                               have p295 : 0 ≤ (x6_4 : Int) := of_decide_eq_true (by first | (with_reducible assumption) | assumption)
                               have q295 : x6_4 < (l0_3.length : Int) := of_decide_eq_true (by first | (with_reducible assumption) | assumption)
                               obtain ⟨ad295, e295, hx295_0, hx295_1⟩ := at_T42 HR0_3.out x6_4 p295 q295
                               cases e295
                               replace hx295_0 := (HB.out.cell (World.block_lt_of_cell? w _ hx295_0)).trans hx295_0
                               replace hx295_1 := (HB.out.cell (World.block_lt_of_cell? w _ hx295_1)).trans hx295_1
                               replace p295 := eq_true p295
                               replace q295 := eq_true q295
                               go_wp2_with (first | (go_at_call 75; (with_reducible refine (rf8stands.calls k4 _ _ y291 ((rd_T42 l0_3 x6_4).f0) true _ ?side1 ?side2 A34.out).mono ?_); (case side1 => repeat (first | exact (Kd.C_below HR294.out HB.out) | (with_reducible refine Kd.C_alloc ?_ _) | (with_reducible refine Kd.C_drewN ?_ _) | (with_reducible refine Kd.C_drew ?_))); (case side2 => exact HC294.out); rintro e w' ⟨rfl, ⟨nd, rfl⟩⟩; (try first | exact ⟨rfl, _, World.drewN_drewN _ _ _⟩ | exact ⟨rfl, _, Eq.trans (World.drewN_drewN _ _ _) (congrArg (World.drewN _) (Nat.add_assoc _ _ _))⟩)))
                               repeat (go_quiet (first | (go_at_call 75; (with_reducible refine (rf8stands.calls k4 _ _ y291 ((rd_T42 l0_3 x6_4).f0) true _ ?side1 ?side2 A34.out).mono ?_); (case side1 => repeat (first | exact (Kd.C_below HR294.out HB.out) | (with_reducible refine Kd.C_alloc ?_ _) | (with_reducible refine Kd.C_drewN ?_ _) | (with_reducible refine Kd.C_drew ?_))); (case side2 => exact HC294.out); rintro e w' ⟨rfl, ⟨nd, rfl⟩⟩; (try first | exact ⟨rfl, _, World.drewN_drewN _ _ _⟩ | exact ⟨rfl, _, Eq.trans (World.drewN_drewN _ _ _) (congrArg (World.drewN _) (Nat.add_assoc _ _ _))⟩))); try go_wp2_with (first | (go_at_call 75; (with_reducible refine (rf8stands.calls k4 _ _ y291 ((rd_T42 l0_3 x6_4).f0) true _ ?side1 ?side2 A34.out).mono ?_); (case side1 => repeat (first | exact (Kd.C_below HR294.out HB.out) | (with_reducible refine Kd.C_alloc ?_ _) | (with_reducible refine Kd.C_drewN ?_ _) | (with_reducible refine Kd.C_drew ?_))); (case side2 => exact HC294.out); rintro e w' ⟨rfl, ⟨nd, rfl⟩⟩; (try first | exact ⟨rfl, _, World.drewN_drewN _ _ _⟩ | exact ⟨rfl, _, Eq.trans (World.drewN_drewN _ _ _) (congrArg (World.drewN _) (Nat.add_assoc _ _ _))⟩))))
                               go_ret
                               exact ⟨by first | rfl | (simp [errW_none, errW_some] <;> rfl) | (simp [*, errW_none, errW_some] <;> rfl), by repeat (first | (with_reducible first | exact HB.out | apply bAl | apply pwDN | apply bD1 | refine bSt ?_ GE286.out) | exact HB.out)⟩
                             · replace c35 := Bool.eq_false_iff.mpr c35
                               subst c35
                               have H1 : (rf8Rule.l1 k4 (wrap64 (x6_4 + 1)) a0_0 a0_1 a0_2 l0_3 a0_4 a0_5 a0_6 l0_7 l0_8 l0_9) = some r := by rw [if_neg (show ¬ (false = true) by decide)] at H; exact H
                               clear H
                               have H := H1
                               clear H1
                               have H' := Aside0.mk H
                               clear H
                               have hcz38_0 : wr.cell? ⟨gb286, 0, none⟩ = some (.string a0_0) := (bCl BK286.out 0).trans rfl
                               have hcz38_1 : wr.cell? ⟨gb286, 1, none⟩ = some (.bool a0_1) := (bCl BK286.out 1).trans rfl
                               have hcz38_2 : wr.cell? ⟨gb286, 2, none⟩ = some (.int .i64 a0_2) := (bCl BK286.out 2).trans rfl
                               have hcz38_3 : wr.cell? ⟨gb286, 3, none⟩ = some (.slice A0_3 l0_3.length c0_3) := (bCl BK286.out 3).trans rfl
                               have hcz38_4 : wr.cell? ⟨gb286, 4, none⟩ = some (.int .i64 a0_4) := (bCl BK286.out 4).trans rfl
                               have hcz38_5 : wr.cell? ⟨gb286, 5, none⟩ = some (.string a0_5) := (bCl BK286.out 5).trans rfl
                               have hcz38_6 : wr.cell? ⟨gb286, 6, none⟩ = some (.int .i64 a0_6) := (bCl BK286.out 6).trans rfl
                               have hcz38_7 : wr.cell? ⟨gb286, 7, none⟩ = some (.slice A0_7 l0_7.length c0_7) := (bCl BK286.out 7).trans rfl
                               have hcz38_8 : wr.cell? ⟨gb286, 8, none⟩ = some (.slice A0_8 l0_8.length c0_8) := (bCl BK286.out 8).trans rfl
                               have hcz38_9 : wr.cell? ⟨gb286, 9, none⟩ = some (.slice A0_9 l0_9.length c0_9) := (bCl BK286.out 9).trans rfl
                               have hfz38_0 := bFz BK286.out 0
                               have hfz38_1 := bFz BK286.out 1
                               have hfz38_2 := bFz BK286.out 2
                               have hfz38_3 := bFz BK286.out 3
                               have hfz38_4 := bFz BK286.out 4
                               have hfz38_5 := bFz BK286.out 5
                               have hfz38_6 := bFz BK286.out 6
                               have hfz38_7 := bFz BK286.out 7
                               have hfz38_8 := bFz BK286.out 8
                               have hfz38_9 := bFz BK286.out 9
                               have q39 : (x6_4 : Int) ≤ ((l0_3.length : Int) : Int) := of_decide_eq_true (by first | (with_reducible assumption) | assumption)
                               obtain ⟨i039, hi039, _, hsz39, _⟩ := info_parts info42
                               have hroom39 : l0_3.length ≤ c0_3 := HC0_3.out
                               have hC39 : Kd.C k42 _ A0_3 l0_3.length l0_3 := HR0_3.out
                               have hcut39 := cut_to (P := Tryd.prog) 23 42 .i64 Tryd.underlying23 hi039 A0_3 l0_3.length c0_3 x6_4 (of_decide_eq_true (by first | (with_reducible assumption) | assumption)) q39 hroom39
                               have hr39 := Kd.C_take (m := (x6_4 : Int).toNat) hC39 (by omega)
                               have hy39 : y291.length = (x6_4 : Int).toNat := (by rw [Ny291.out, List.length_take]; omega)
                               rw [← Ny291.out] at hr39
                               rw [← hy39] at hcut39
                               have HR294 := Aside0.mk hr39
                               have HC294 := Aside0.mk (show y291.length ≤ c0_3 from by omega)
                               clear hr39 hC39 hroom39 hi039 hsz39
                               have KY39 := Aside0.mk hy39
                               clear hy39
                               replace q39 := eq_true q39
                               have p295 : 0 ≤ (x6_4 : Int) := of_decide_eq_true (by first | (with_reducible assumption) | assumption)
                               have q295 : x6_4 < (l0_3.length : Int) := of_decide_eq_true (by first | (with_reducible assumption) | assumption)
                               obtain ⟨ad295, e295, hx295_0, hx295_1⟩ := at_T42 HR0_3.out x6_4 p295 q295
                               cases e295
                               replace hx295_0 := (HB.out.cell (World.block_lt_of_cell? w _ hx295_0)).trans hx295_0
                               replace hx295_1 := (HB.out.cell (World.block_lt_of_cell? w _ hx295_1)).trans hx295_1
                               replace p295 := eq_true p295
                               replace q295 := eq_true q295
                               go_wp2_with (first | (go_at_call 75; (with_reducible refine (rf8stands.calls k4 _ _ y291 ((rd_T42 l0_3 x6_4).f0) false _ ?side1 ?side2 A34.out).mono ?_); (case side1 => repeat (first | exact (Kd.C_below HR294.out HB.out) | (with_reducible refine Kd.C_alloc ?_ _) | (with_reducible refine Kd.C_drewN ?_ _) | (with_reducible refine Kd.C_drew ?_))); (case side2 => exact HC294.out); rintro e w' ⟨rfl, ⟨nd, rfl⟩⟩; (try first | exact ⟨rfl, _, World.drewN_drewN _ _ _⟩ | exact ⟨rfl, _, Eq.trans (World.drewN_drewN _ _ _) (congrArg (World.drewN _) (Nat.add_assoc _ _ _))⟩)))
                               repeat (go_quiet (first | (go_at_call 75; (with_reducible refine (rf8stands.calls k4 _ _ y291 ((rd_T42 l0_3 x6_4).f0) false _ ?side1 ?side2 A34.out).mono ?_); (case side1 => repeat (first | exact (Kd.C_below HR294.out HB.out) | (with_reducible refine Kd.C_alloc ?_ _) | (with_reducible refine Kd.C_drewN ?_ _) | (with_reducible refine Kd.C_drew ?_))); (case side2 => exact HC294.out); rintro e w' ⟨rfl, ⟨nd, rfl⟩⟩; (try first | exact ⟨rfl, _, World.drewN_drewN _ _ _⟩ | exact ⟨rfl, _, Eq.trans (World.drewN_drewN _ _ _) (congrArg (World.drewN _) (Nat.add_assoc _ _ _))⟩))); try go_wp2_with (first | (go_at_call 75; (with_reducible refine (rf8stands.calls k4 _ _ y291 ((rd_T42 l0_3 x6_4).f0) false _ ?side1 ?side2 A34.out).mono ?_); (case side1 => repeat (first | exact (Kd.C_below HR294.out HB.out) | (with_reducible refine Kd.C_alloc ?_ _) | (with_reducible refine Kd.C_drewN ?_ _) | (with_reducible refine Kd.C_drew ?_))); (case side2 => exact HC294.out); rintro e w' ⟨rfl, ⟨nd, rfl⟩⟩; (try first | exact ⟨rfl, _, World.drewN_drewN _ _ _⟩ | exact ⟨rfl, _, Eq.trans (World.drewN_drewN _ _ _) (congrArg (World.drewN _) (Nat.add_assoc _ _ _))⟩))))
                               go_roundg k4
                               case measure => have := HJ1.out; have := HJ10.out; have := HK3.out; have := HK4.out; omega
                               case rel => exact ⟨(wrap64 (x6_4 + 1)), (by first | rfl | (simp; done) | (simp [*]; done)), H', ⟨by have := HJ1.out; have := HJ10.out; have := HK3.out; have := HK4.out; omega⟩, ⟨by (with_reducible repeat (first | refine blk_drewN ?_ _ | refine blk_drew ?_ | refine blk_alloc ?_ _)); exact BK286.out⟩, ⟨by repeat (first | (with_reducible first | exact HB.out | apply bAl | apply pwDN | apply bD1 | refine bSt ?_ GE286.out) | exact HB.out)⟩⟩
                           · rw [if_neg c33] at H
                             exact absurd H (by simp)
                         · rw [if_neg c32] at H
                           exact absurd H (by simp)
                       · rw [if_neg c31] at H
                         have c31b0 : decide (x6_4 < (l0_3.length : Int)) = false := decide_eq_false c31
                         clear c31
                         replace H := Option.bind_eq_some_iff.mp H
                         obtain ⟨t297, A400, H⟩ := H
                         replace H : (some t297) = some r := H
                         have A40 := Aside0.mk A400
                         clear A400
                         obtain rfl := Option.some.inj H
                         have hcz41_0 : wr.cell? ⟨gb286, 0, none⟩ = some (.string a0_0) := (bCl BK286.out 0).trans rfl
                         have hcz41_1 : wr.cell? ⟨gb286, 1, none⟩ = some (.bool a0_1) := (bCl BK286.out 1).trans rfl
                         have hcz41_2 : wr.cell? ⟨gb286, 2, none⟩ = some (.int .i64 a0_2) := (bCl BK286.out 2).trans rfl
                         have hcz41_3 : wr.cell? ⟨gb286, 3, none⟩ = some (.slice A0_3 l0_3.length c0_3) := (bCl BK286.out 3).trans rfl
                         have hcz41_4 : wr.cell? ⟨gb286, 4, none⟩ = some (.int .i64 a0_4) := (bCl BK286.out 4).trans rfl
                         have hcz41_5 : wr.cell? ⟨gb286, 5, none⟩ = some (.string a0_5) := (bCl BK286.out 5).trans rfl
                         have hcz41_6 : wr.cell? ⟨gb286, 6, none⟩ = some (.int .i64 a0_6) := (bCl BK286.out 6).trans rfl
                         have hcz41_7 : wr.cell? ⟨gb286, 7, none⟩ = some (.slice A0_7 l0_7.length c0_7) := (bCl BK286.out 7).trans rfl
                         have hcz41_8 : wr.cell? ⟨gb286, 8, none⟩ = some (.slice A0_8 l0_8.length c0_8) := (bCl BK286.out 8).trans rfl
                         have hcz41_9 : wr.cell? ⟨gb286, 9, none⟩ = some (.slice A0_9 l0_9.length c0_9) := (bCl BK286.out 9).trans rfl
                         have hfz41_0 := bFz BK286.out 0
                         have hfz41_1 := bFz BK286.out 1
                         have hfz41_2 := bFz BK286.out 2
                         have hfz41_3 := bFz BK286.out 3
                         have hfz41_4 := bFz BK286.out 4
                         have hfz41_5 := bFz BK286.out 5
                         have hfz41_6 := bFz BK286.out 6
                         have hfz41_7 := bFz BK286.out 7
                         have hfz41_8 := bFz BK286.out 8
                         have hfz41_9 := bFz BK286.out 9
                         go_wp2_with (first | (go_at_call 70; (with_reducible refine (rf8first.calls k4 _ _ l0_3 a0_4 a0_5 a0_6 _ _ l0_7 _ _ l0_8 _ _ l0_9 t297 _ ?side1 ?side2 ?side3 ?side4 ?side5 ?side6 ?side7 ?side8 A40.out).mono ?_); (case side1 => repeat (first | exact (Kd.C_below HR0_3.out HB.out) | (with_reducible refine Kd.C_alloc ?_ _) | (with_reducible refine Kd.C_drewN ?_ _) | (with_reducible refine Kd.C_drew ?_))); (case side2 => exact HC0_3.out); (case side3 => repeat (first | exact (Kd.C_below HR0_7.out HB.out) | (with_reducible refine Kd.C_alloc ?_ _) | (with_reducible refine Kd.C_drewN ?_ _) | (with_reducible refine Kd.C_drew ?_))); (case side4 => exact HC0_7.out); (case side5 => repeat (first | exact (Kd.C_below HR0_8.out HB.out) | (with_reducible refine Kd.C_alloc ?_ _) | (with_reducible refine Kd.C_drewN ?_ _) | (with_reducible refine Kd.C_drew ?_))); (case side6 => exact HC0_8.out); (case side7 => repeat (first | exact (Kd.C_below HR0_9.out HB.out) | (with_reducible refine Kd.C_alloc ?_ _) | (with_reducible refine Kd.C_drewN ?_ _) | (with_reducible refine Kd.C_drew ?_))); (case side8 => exact HC0_9.out); rintro e w42 ⟨rfl, hb⟩; have n0_ := Aside0.mk (blk_below (g := gb286) (o := .cells #[.string a0_0, .bool a0_1, .int .i64 a0_2, .slice A0_3 l0_3.length c0_3, .int .i64 a0_4, .string a0_5, .int .i64 a0_6, .slice A0_7 l0_7.length c0_7, .slice A0_8 l0_8.length c0_8, .slice A0_9 l0_9.length c0_9] 54 (0, 0)) (by (with_reducible repeat (first | refine blk_drewN ?_ _ | refine blk_drew ?_ | refine blk_alloc ?_ _)); exact BK286.out) hb); have n1_ := Aside0.mk (below_step (by repeat (first | (with_reducible first | exact HB.out | apply bAl | apply pwDN | apply bD1 | refine bSt ?_ GE286.out) | exact HB.out)) hb); clear BK286; clear HB; have BK286 := n0_; have HB := n1_; clear n0_ n1_; (try clear hb); (try clear hb2); (try clear hk); (try clear hi)))
                         repeat (go_quiet (first | (go_at_call 70; (with_reducible refine (rf8first.calls k4 _ _ l0_3 a0_4 a0_5 a0_6 _ _ l0_7 _ _ l0_8 _ _ l0_9 t297 _ ?side1 ?side2 ?side3 ?side4 ?side5 ?side6 ?side7 ?side8 A40.out).mono ?_); (case side1 => repeat (first | exact (Kd.C_below HR0_3.out HB.out) | (with_reducible refine Kd.C_alloc ?_ _) | (with_reducible refine Kd.C_drewN ?_ _) | (with_reducible refine Kd.C_drew ?_))); (case side2 => exact HC0_3.out); (case side3 => repeat (first | exact (Kd.C_below HR0_7.out HB.out) | (with_reducible refine Kd.C_alloc ?_ _) | (with_reducible refine Kd.C_drewN ?_ _) | (with_reducible refine Kd.C_drew ?_))); (case side4 => exact HC0_7.out); (case side5 => repeat (first | exact (Kd.C_below HR0_8.out HB.out) | (with_reducible refine Kd.C_alloc ?_ _) | (with_reducible refine Kd.C_drewN ?_ _) | (with_reducible refine Kd.C_drew ?_))); (case side6 => exact HC0_8.out); (case side7 => repeat (first | exact (Kd.C_below HR0_9.out HB.out) | (with_reducible refine Kd.C_alloc ?_ _) | (with_reducible refine Kd.C_drewN ?_ _) | (with_reducible refine Kd.C_drew ?_))); (case side8 => exact HC0_9.out); rintro e w42 ⟨rfl, hb⟩; have n0_ := Aside0.mk (blk_below (g := gb286) (o := .cells #[.string a0_0, .bool a0_1, .int .i64 a0_2, .slice A0_3 l0_3.length c0_3, .int .i64 a0_4, .string a0_5, .int .i64 a0_6, .slice A0_7 l0_7.length c0_7, .slice A0_8 l0_8.length c0_8, .slice A0_9 l0_9.length c0_9] 54 (0, 0)) (by (with_reducible repeat (first | refine blk_drewN ?_ _ | refine blk_drew ?_ | refine blk_alloc ?_ _)); exact BK286.out) hb); have n1_ := Aside0.mk (below_step (by repeat (first | (with_reducible first | exact HB.out | apply bAl | apply pwDN | apply bD1 | refine bSt ?_ GE286.out) | exact HB.out)) hb); clear BK286; clear HB; have BK286 := n0_; have HB := n1_; clear n0_ n1_; (try clear hb); (try clear hb2); (try clear hk); (try clear hi))); try go_wp2_with (first | (go_at_call 70; (with_reducible refine (rf8first.calls k4 _ _ l0_3 a0_4 a0_5 a0_6 _ _ l0_7 _ _ l0_8 _ _ l0_9 t297 _ ?side1 ?side2 ?side3 ?side4 ?side5 ?side6 ?side7 ?side8 A40.out).mono ?_); (case side1 => repeat (first | exact (Kd.C_below HR0_3.out HB.out) | (with_reducible refine Kd.C_alloc ?_ _) | (with_reducible refine Kd.C_drewN ?_ _) | (with_reducible refine Kd.C_drew ?_))); (case side2 => exact HC0_3.out); (case side3 => repeat (first | exact (Kd.C_below HR0_7.out HB.out) | (with_reducible refine Kd.C_alloc ?_ _) | (with_reducible refine Kd.C_drewN ?_ _) | (with_reducible refine Kd.C_drew ?_))); (case side4 => exact HC0_7.out); (case side5 => repeat (first | exact (Kd.C_below HR0_8.out HB.out) | (with_reducible refine Kd.C_alloc ?_ _) | (with_reducible refine Kd.C_drewN ?_ _) | (with_reducible refine Kd.C_drew ?_))); (case side6 => exact HC0_8.out); (case side7 => repeat (first | exact (Kd.C_below HR0_9.out HB.out) | (with_reducible refine Kd.C_alloc ?_ _) | (with_reducible refine Kd.C_drewN ?_ _) | (with_reducible refine Kd.C_drew ?_))); (case side8 => exact HC0_9.out); rintro e w42 ⟨rfl, hb⟩; have n0_ := Aside0.mk (blk_below (g := gb286) (o := .cells #[.string a0_0, .bool a0_1, .int .i64 a0_2, .slice A0_3 l0_3.length c0_3, .int .i64 a0_4, .string a0_5, .int .i64 a0_6, .slice A0_7 l0_7.length c0_7, .slice A0_8 l0_8.length c0_8, .slice A0_9 l0_9.length c0_9] 54 (0, 0)) (by (with_reducible repeat (first | refine blk_drewN ?_ _ | refine blk_drew ?_ | refine blk_alloc ?_ _)); exact BK286.out) hb); have n1_ := Aside0.mk (below_step (by repeat (first | (with_reducible first | exact HB.out | apply bAl | apply pwDN | apply bD1 | refine bSt ?_ GE286.out) | exact HB.out)) hb); clear BK286; clear HB; have BK286 := n0_; have HB := n1_; clear n0_ n1_; (try clear hb); (try clear hb2); (try clear hk); (try clear hi))))
                         go_ret
                         exact ⟨by first | rfl | (simp [errW_none, errW_some] <;> rfl) | (simp [*, errW_none, errW_some] <;> rfl), by repeat (first | (with_reducible first | exact HB.out | apply bAl | apply pwDN | apply bD1 | refine bSt ?_ GE286.out) | exact HB.out)⟩
                 · rw [if_neg c28] at H
                   have c28b0 : (t290 == 0) = false := beq_eq_false_iff_ne.mpr c28
                   have c28b1 : (t290 != 0) = true := bne_iff_ne.mpr c28
                   obtain rfl := Option.some.inj H
                   have hcz43_0 : wr.cell? ⟨gb286, 0, none⟩ = some (.string a0_0) := (bCl BK286.out 0).trans rfl
                   have hcz43_1 : wr.cell? ⟨gb286, 1, none⟩ = some (.bool a0_1) := (bCl BK286.out 1).trans rfl
                   have hcz43_2 : wr.cell? ⟨gb286, 2, none⟩ = some (.int .i64 a0_2) := (bCl BK286.out 2).trans rfl
                   have hcz43_3 : wr.cell? ⟨gb286, 3, none⟩ = some (.slice A0_3 l0_3.length c0_3) := (bCl BK286.out 3).trans rfl
                   have hcz43_4 : wr.cell? ⟨gb286, 4, none⟩ = some (.int .i64 a0_4) := (bCl BK286.out 4).trans rfl
                   have hcz43_5 : wr.cell? ⟨gb286, 5, none⟩ = some (.string a0_5) := (bCl BK286.out 5).trans rfl
                   have hcz43_6 : wr.cell? ⟨gb286, 6, none⟩ = some (.int .i64 a0_6) := (bCl BK286.out 6).trans rfl
                   have hcz43_7 : wr.cell? ⟨gb286, 7, none⟩ = some (.slice A0_7 l0_7.length c0_7) := (bCl BK286.out 7).trans rfl
                   have hcz43_8 : wr.cell? ⟨gb286, 8, none⟩ = some (.slice A0_8 l0_8.length c0_8) := (bCl BK286.out 8).trans rfl
                   have hcz43_9 : wr.cell? ⟨gb286, 9, none⟩ = some (.slice A0_9 l0_9.length c0_9) := (bCl BK286.out 9).trans rfl
                   have hfz43_0 := bFz BK286.out 0
                   have hfz43_1 := bFz BK286.out 1
                   have hfz43_2 := bFz BK286.out 2
                   have hfz43_3 := bFz BK286.out 3
                   have hfz43_4 := bFz BK286.out 4
                   have hfz43_5 := bFz BK286.out 5
                   have hfz43_6 := bFz BK286.out 6
                   have hfz43_7 := bFz BK286.out 7
                   have hfz43_8 := bFz BK286.out 8
                   have hfz43_9 := bFz BK286.out 9
                   go_wp2_with (first | (go_at_call 23; (with_reducible refine (rf6Check.calls k3 a0_4 a0_5 a0_6 _ _ l0_7 _ _ l0_8 _ _ l0_9 t290 _ ?side1 ?side2 ?side3 ?side4 ?side5 ?side6 A27.out).mono ?_); (case side1 => repeat (first | exact (Kd.C_below HR0_7.out HB.out) | (with_reducible refine Kd.C_alloc ?_ _) | (with_reducible refine Kd.C_drewN ?_ _) | (with_reducible refine Kd.C_drew ?_))); (case side2 => exact HC0_7.out); (case side3 => repeat (first | exact (Kd.C_below HR0_8.out HB.out) | (with_reducible refine Kd.C_alloc ?_ _) | (with_reducible refine Kd.C_drewN ?_ _) | (with_reducible refine Kd.C_drew ?_))); (case side4 => exact HC0_8.out); (case side5 => repeat (first | exact (Kd.C_below HR0_9.out HB.out) | (with_reducible refine Kd.C_alloc ?_ _) | (with_reducible refine Kd.C_drewN ?_ _) | (with_reducible refine Kd.C_drew ?_))); (case side6 => exact HC0_9.out); rintro e w44 ⟨rfl, hb⟩; have n0_ := Aside0.mk (blk_below (g := gb286) (o := .cells #[.string a0_0, .bool a0_1, .int .i64 a0_2, .slice A0_3 l0_3.length c0_3, .int .i64 a0_4, .string a0_5, .int .i64 a0_6, .slice A0_7 l0_7.length c0_7, .slice A0_8 l0_8.length c0_8, .slice A0_9 l0_9.length c0_9] 54 (0, 0)) (by (with_reducible repeat (first | refine blk_drewN ?_ _ | refine blk_drew ?_ | refine blk_alloc ?_ _)); exact BK286.out) hb); have n1_ := Aside0.mk (below_step (by repeat (first | (with_reducible first | exact HB.out | apply bAl | apply pwDN | apply bD1 | refine bSt ?_ GE286.out) | exact HB.out)) hb); clear BK286; clear HB; have BK286 := n0_; have HB := n1_; clear n0_ n1_; (try clear hb); (try clear hb2); (try clear hk); (try clear hi)))
                   repeat (go_quiet (first | (go_at_call 23; (with_reducible refine (rf6Check.calls k3 a0_4 a0_5 a0_6 _ _ l0_7 _ _ l0_8 _ _ l0_9 t290 _ ?side1 ?side2 ?side3 ?side4 ?side5 ?side6 A27.out).mono ?_); (case side1 => repeat (first | exact (Kd.C_below HR0_7.out HB.out) | (with_reducible refine Kd.C_alloc ?_ _) | (with_reducible refine Kd.C_drewN ?_ _) | (with_reducible refine Kd.C_drew ?_))); (case side2 => exact HC0_7.out); (case side3 => repeat (first | exact (Kd.C_below HR0_8.out HB.out) | (with_reducible refine Kd.C_alloc ?_ _) | (with_reducible refine Kd.C_drewN ?_ _) | (with_reducible refine Kd.C_drew ?_))); (case side4 => exact HC0_8.out); (case side5 => repeat (first | exact (Kd.C_below HR0_9.out HB.out) | (with_reducible refine Kd.C_alloc ?_ _) | (with_reducible refine Kd.C_drewN ?_ _) | (with_reducible refine Kd.C_drew ?_))); (case side6 => exact HC0_9.out); rintro e w44 ⟨rfl, hb⟩; have n0_ := Aside0.mk (blk_below (g := gb286) (o := .cells #[.string a0_0, .bool a0_1, .int .i64 a0_2, .slice A0_3 l0_3.length c0_3, .int .i64 a0_4, .string a0_5, .int .i64 a0_6, .slice A0_7 l0_7.length c0_7, .slice A0_8 l0_8.length c0_8, .slice A0_9 l0_9.length c0_9] 54 (0, 0)) (by (with_reducible repeat (first | refine blk_drewN ?_ _ | refine blk_drew ?_ | refine blk_alloc ?_ _)); exact BK286.out) hb); have n1_ := Aside0.mk (below_step (by repeat (first | (with_reducible first | exact HB.out | apply bAl | apply pwDN | apply bD1 | refine bSt ?_ GE286.out) | exact HB.out)) hb); clear BK286; clear HB; have BK286 := n0_; have HB := n1_; clear n0_ n1_; (try clear hb); (try clear hb2); (try clear hk); (try clear hi))); try go_wp2_with (first | (go_at_call 23; (with_reducible refine (rf6Check.calls k3 a0_4 a0_5 a0_6 _ _ l0_7 _ _ l0_8 _ _ l0_9 t290 _ ?side1 ?side2 ?side3 ?side4 ?side5 ?side6 A27.out).mono ?_); (case side1 => repeat (first | exact (Kd.C_below HR0_7.out HB.out) | (with_reducible refine Kd.C_alloc ?_ _) | (with_reducible refine Kd.C_drewN ?_ _) | (with_reducible refine Kd.C_drew ?_))); (case side2 => exact HC0_7.out); (case side3 => repeat (first | exact (Kd.C_below HR0_8.out HB.out) | (with_reducible refine Kd.C_alloc ?_ _) | (with_reducible refine Kd.C_drewN ?_ _) | (with_reducible refine Kd.C_drew ?_))); (case side4 => exact HC0_8.out); (case side5 => repeat (first | exact (Kd.C_below HR0_9.out HB.out) | (with_reducible refine Kd.C_alloc ?_ _) | (with_reducible refine Kd.C_drewN ?_ _) | (with_reducible refine Kd.C_drew ?_))); (case side6 => exact HC0_9.out); rintro e w44 ⟨rfl, hb⟩; have n0_ := Aside0.mk (blk_below (g := gb286) (o := .cells #[.string a0_0, .bool a0_1, .int .i64 a0_2, .slice A0_3 l0_3.length c0_3, .int .i64 a0_4, .string a0_5, .int .i64 a0_6, .slice A0_7 l0_7.length c0_7, .slice A0_8 l0_8.length c0_8, .slice A0_9 l0_9.length c0_9] 54 (0, 0)) (by (with_reducible repeat (first | refine blk_drewN ?_ _ | refine blk_drew ?_ | refine blk_alloc ?_ _)); exact BK286.out) hb); have n1_ := Aside0.mk (below_step (by repeat (first | (with_reducible first | exact HB.out | apply bAl | apply pwDN | apply bD1 | refine bSt ?_ GE286.out) | exact HB.out)) hb); clear BK286; clear HB; have BK286 := n0_; have HB := n1_; clear n0_ n1_; (try clear hb); (try clear hb2); (try clear hk); (try clear hi))))
                   go_ret
                   exact ⟨by first | rfl | (simp [errW_none, errW_some] <;> rfl) | (simp [*, errW_none, errW_some] <;> rfl), by repeat (first | (with_reducible first | exact HB.out | apply bAl | apply pwDN | apply bD1 | refine bSt ?_ GE286.out) | exact HB.out)⟩
end Go.Proofs.YtmlcaecknocpoaaDoor.Pr
