/-
  chalklinelaw08.TypesRules answers true, for every input that reads as data and is of bulk at most 1048576; what it reads stands as it stood.
  Conditions: the listed package-level variables hold what the program's text lays (tied by the card); the arguments' bulk is at most 1048576.
-/
import Derived.Test.YtmlcaecknocpoaaDoorQrK11
import Derived.ChangeArms
import Derived.BigQuiet
import Derived.Deep.RegionHeld3
import Derived.SevenTiedAt
import Derived.Test.YtmlcaecknocpoaaDoorH25
import Derived.Test.YtmlcaecknocpoaaDoorH26
import Derived.Test.YtmlcaecknocpoaaDoorH27
import Derived.Test.YtmlcaecknocpoaaDoorF15
import Derived.Test.YtmlcaecknocpoaaDoorH28
namespace Go.Proofs.YtmlcaecknocpoaaDoor.Pr
open Go.RowKit Go.Proofs.YtmlcaecknocpoaaDoorW.PrintWords Go.Proofs.YtmlcaecknocpoaaDoorW.PrintLast Go.Proofs.YtmlcaecknocpoaaDoorW.PrintMore
attribute [local go_sem] max2_int min2_int max_two min_two max_three min_three max_four min_four   
set_option linter.unusedVariables false
set_option linter.unusedSimpArgs false
mutual
def rf8Rules.l0 : Nat → List (S54) → Int → Option (Int × Int)
 | 0, _, _ => none
 | k + 1, x0, x4 => if x4 < (x0.length : Int) then (if 0 ≤ x4 then ((rf8Rule.f k ((rd_T54 x0 x4).f0) ((rd_T54 x0 x4).f1) ((rd_T54 x0 x4).f2) ((rd_T54 x0 x4).f3) ((rd_T54 x0 x4).f4.f0) ((rd_T54 x0 x4).f4.f1) ((rd_T54 x0 x4).f4.f2) ((rd_T54 x0 x4).f4.f3) ((rd_T54 x0 x4).f4.f4) ((rd_T54 x0 x4).f4.f5)).bind fun t299 => (if t299 = 0 then (rf8Rules.l1 k x0 x4 0) else (some (x4, t299)))) else (none)) else (some (0, 0))
def rf8Rules.l1 : Nat → List (S54) → Int → Int → Option (Int × Int)
 | 0, _, _, _ => none
 | k + 1, x0, x4, x6 => if x6 < x4 then (if 0 ≤ x6 then (if x6 < (x0.length : Int) then (if 0 ≤ x4 then (if x4 < (x0.length : Int) then (if ((rd_T54 x0 x6).f0).toList = ((rd_T54 x0 x4).f0).toList then (some (x4, 82)) else (rf8Rules.l1 k x0 x4 (wrap64 (x6 + 1)))) else (none)) else (none)) else (none)) else (none)) else (rf8Rules.l0 k x0 (wrap64 (x4 + 1)))
end
def rf8Rules.f (k : Nat) (l0 : List (S54)) : Option (Int × Int) := rf8Rules.l0 k l0 0
set_option maxHeartbeats 8000000 in
set_option maxRecDepth 100000 in
theorem rf8Rules.calls (k : Nat) (A0 : Option Addr) (c0 : Nat) (l0 : List (S54)) (r1 : Int) (r2 : Int) (w : World) (hr0 : Kd.C k54 w A0 l0.length l0) (hc0 : l0.length ≤ c0) (h : rf8Rules.f k l0 = some (r1, r2)) :
   Calls Tryd.prog 45 #[.slice A0 l0.length c0] w fun e w' => e = .returned (.tuple #[.int .i64 r1, .int .i64 r2]) ∧ Below w.heap.size w w' := by
 have hu54 := Tryd.underlying54
 have HR0 := Aside0.mk hr0
 have HC0 := Aside0.mk hc0
 clear hr0 hc0
 have HB := Aside0.mk (Below.refl w.heap.size w)
 have H : (rf8Rules.l0 k l0 0) = some (r1, r2) := h
 clear h
 have H' := Aside0.mk H
 clear H
 go_enter Tryd.func45, Tryd.ntmps45
 go_wp2
 repeat (go_quiet (fail); try go_wp2)
 go_loopg [4] k (fun kq v4 w' => ∃ (x4_1 : Int), v4 = .int .i64 x4_1 ∧ Aside0 (rf8Rules.l0 kq l0 x4_1 = some (r1, r2)) ∧ Aside0 (kq ≤ k) ∧ Aside0 (Below w.heap.size w w'))
 case atStart => exact ⟨(0), (by first | rfl | (simp; done) | (simp [*]; done)), H', ⟨Nat.le_refl _⟩, ⟨by repeat (first | (with_reducible first | exact HB.out | apply bAl | apply pwDN | apply bD1) | exact HB.out)⟩⟩
 case round =>
   clear H'
   obtain ⟨x4_1, rfl, HA, HK1, HB⟩ := hrel
   cases gk with
   | zero => exact absurd HA.out (by simp [rf8Rules.l0])
   | succ k1 =>
     have H := HA.out
     clear HA
     simp only [rf8Rules.l0] at H
     by_cases c2 : x4_1 < (l0.length : Int)
     · rw [if_pos c2] at H
       have c2b0 : decide (x4_1 < (l0.length : Int)) = true := decide_eq_true c2
       clear c2
       by_cases c3 : 0 ≤ x4_1
       · rw [if_pos c3] at H
         have c3b0 : decide (0 ≤ x4_1) = true := decide_eq_true c3
         clear c3
         replace H := Option.bind_eq_some_iff.mp H
         obtain ⟨t299, A40, H⟩ := H
         replace H : (if t299 = 0 then (rf8Rules.l1 k1 l0 x4_1 0) else (some (x4_1, t299))) = some (r1, r2) := H
         have A4 := Aside0.mk A40
         clear A40
         by_cases c5 : t299 = 0
         · rw [if_pos c5] at H
           have c5b0 : (t299 == 0) = true := beq_iff_eq.mpr c5
           have c5b1 : (t299 != 0) = false := bne_eq_false_iff_eq.mpr c5
           clear c5
           have H' := Aside0.mk H
           clear H
           have p298 : 0 ≤ (x4_1 : Int) := of_decide_eq_true (by first | (with_reducible assumption) | assumption)
           have q298 : x4_1 < (l0.length : Int) := of_decide_eq_true (by first | (with_reducible assumption) | assumption)
           obtain ⟨ad298, A298_3, c298_3, A298_7, c298_7, A298_8, c298_8, A298_9, c298_9, e298, hx298_0, hx298_1, hx298_2, hx298_3, hx298_4, hx298_5, hx298_6, hx298_7, hx298_8, hx298_9, hl298_3, hi298_3, hl298_7, hi298_7, hl298_8, hi298_8, hl298_9, hi298_9⟩ := at_T54 HR0.out x4_1 p298 q298
           cases e298
           replace hx298_0 := (HB.out.cell (World.block_lt_of_cell? w _ hx298_0)).trans hx298_0
           replace hx298_1 := (HB.out.cell (World.block_lt_of_cell? w _ hx298_1)).trans hx298_1
           replace hx298_2 := (HB.out.cell (World.block_lt_of_cell? w _ hx298_2)).trans hx298_2
           replace hx298_3 := (HB.out.cell (World.block_lt_of_cell? w _ hx298_3)).trans hx298_3
           replace hx298_4 := (HB.out.cell (World.block_lt_of_cell? w _ hx298_4)).trans hx298_4
           replace hx298_5 := (HB.out.cell (World.block_lt_of_cell? w _ hx298_5)).trans hx298_5
           replace hx298_6 := (HB.out.cell (World.block_lt_of_cell? w _ hx298_6)).trans hx298_6
           replace hx298_7 := (HB.out.cell (World.block_lt_of_cell? w _ hx298_7)).trans hx298_7
           replace hx298_8 := (HB.out.cell (World.block_lt_of_cell? w _ hx298_8)).trans hx298_8
           replace hx298_9 := (HB.out.cell (World.block_lt_of_cell? w _ hx298_9)).trans hx298_9
           have HR298_3 := Aside0.mk hi298_3
           have HC298_3 := Aside0.mk hl298_3
           clear hi298_3 hl298_3
           have HR298_7 := Aside0.mk hi298_7
           have HC298_7 := Aside0.mk hl298_7
           clear hi298_7 hl298_7
           have HR298_8 := Aside0.mk hi298_8
           have HC298_8 := Aside0.mk hl298_8
           clear hi298_8 hl298_8
           have HR298_9 := Aside0.mk hi298_9
           have HC298_9 := Aside0.mk hl298_9
           clear hi298_9 hl298_9
           replace p298 := eq_true p298
           replace q298 := eq_true q298
           go_wp2_with (first | (go_at_call 47; (with_reducible refine (rf8Rule.calls k1 ((rd_T54 l0 x4_1).f0) ((rd_T54 l0 x4_1).f1) ((rd_T54 l0 x4_1).f2) _ _ ((rd_T54 l0 x4_1).f3) ((rd_T54 l0 x4_1).f4.f0) ((rd_T54 l0 x4_1).f4.f1) ((rd_T54 l0 x4_1).f4.f2) _ _ ((rd_T54 l0 x4_1).f4.f3) _ _ ((rd_T54 l0 x4_1).f4.f4) _ _ ((rd_T54 l0 x4_1).f4.f5) t299 _ ?side1 ?side2 ?side3 ?side4 ?side5 ?side6 ?side7 ?side8 A4.out).mono ?_); (case side1 => repeat (first | exact (Kd.C_below HR298_3.out HB.out) | (with_reducible refine Kd.C_alloc ?_ _) | (with_reducible refine Kd.C_drewN ?_ _) | (with_reducible refine Kd.C_drew ?_))); (case side2 => exact HC298_3.out); (case side3 => repeat (first | exact (Kd.C_below HR298_7.out HB.out) | (with_reducible refine Kd.C_alloc ?_ _) | (with_reducible refine Kd.C_drewN ?_ _) | (with_reducible refine Kd.C_drew ?_))); (case side4 => exact HC298_7.out); (case side5 => repeat (first | exact (Kd.C_below HR298_8.out HB.out) | (with_reducible refine Kd.C_alloc ?_ _) | (with_reducible refine Kd.C_drewN ?_ _) | (with_reducible refine Kd.C_drew ?_))); (case side6 => exact HC298_8.out); (case side7 => repeat (first | exact (Kd.C_below HR298_9.out HB.out) | (with_reducible refine Kd.C_alloc ?_ _) | (with_reducible refine Kd.C_drewN ?_ _) | (with_reducible refine Kd.C_drew ?_))); (case side8 => exact HC298_9.out); rintro e w6 ⟨rfl, hb⟩; have n0_ := Aside0.mk (below_step (by repeat (first | (with_reducible first | exact HB.out | apply bAl | apply pwDN | apply bD1) | exact HB.out)) hb); clear HB; have HB := n0_; clear n0_; (try clear hb); (try clear hb2); (try clear hk); (try clear hi)))
           repeat (go_quiet (first | (go_at_call 47; (with_reducible refine (rf8Rule.calls k1 ((rd_T54 l0 x4_1).f0) ((rd_T54 l0 x4_1).f1) ((rd_T54 l0 x4_1).f2) _ _ ((rd_T54 l0 x4_1).f3) ((rd_T54 l0 x4_1).f4.f0) ((rd_T54 l0 x4_1).f4.f1) ((rd_T54 l0 x4_1).f4.f2) _ _ ((rd_T54 l0 x4_1).f4.f3) _ _ ((rd_T54 l0 x4_1).f4.f4) _ _ ((rd_T54 l0 x4_1).f4.f5) t299 _ ?side1 ?side2 ?side3 ?side4 ?side5 ?side6 ?side7 ?side8 A4.out).mono ?_); (case side1 => repeat (first | exact (Kd.C_below HR298_3.out HB.out) | (with_reducible refine Kd.C_alloc ?_ _) | (with_reducible refine Kd.C_drewN ?_ _) | (with_reducible refine Kd.C_drew ?_))); (case side2 => exact HC298_3.out); (case side3 => repeat (first | exact (Kd.C_below HR298_7.out HB.out) | (with_reducible refine Kd.C_alloc ?_ _) | (with_reducible refine Kd.C_drewN ?_ _) | (with_reducible refine Kd.C_drew ?_))); (case side4 => exact HC298_7.out); (case side5 => repeat (first | exact (Kd.C_below HR298_8.out HB.out) | (with_reducible refine Kd.C_alloc ?_ _) | (with_reducible refine Kd.C_drewN ?_ _) | (with_reducible refine Kd.C_drew ?_))); (case side6 => exact HC298_8.out); (case side7 => repeat (first | exact (Kd.C_below HR298_9.out HB.out) | (with_reducible refine Kd.C_alloc ?_ _) | (with_reducible refine Kd.C_drewN ?_ _) | (with_reducible refine Kd.C_drew ?_))); (case side8 => exact HC298_9.out); rintro e w6 ⟨rfl, hb⟩; have n0_ := Aside0.mk (below_step (by repeat (first | (with_reducible first | exact HB.out | apply bAl | apply pwDN | apply bD1) | exact HB.out)) hb); clear HB; have HB := n0_; clear n0_; (try clear hb); (try clear hb2); (try clear hk); (try clear hi))); try go_wp2_with (first | (go_at_call 47; (with_reducible refine (rf8Rule.calls k1 ((rd_T54 l0 x4_1).f0) ((rd_T54 l0 x4_1).f1) ((rd_T54 l0 x4_1).f2) _ _ ((rd_T54 l0 x4_1).f3) ((rd_T54 l0 x4_1).f4.f0) ((rd_T54 l0 x4_1).f4.f1) ((rd_T54 l0 x4_1).f4.f2) _ _ ((rd_T54 l0 x4_1).f4.f3) _ _ ((rd_T54 l0 x4_1).f4.f4) _ _ ((rd_T54 l0 x4_1).f4.f5) t299 _ ?side1 ?side2 ?side3 ?side4 ?side5 ?side6 ?side7 ?side8 A4.out).mono ?_); (case side1 => repeat (first | exact (Kd.C_below HR298_3.out HB.out) | (with_reducible refine Kd.C_alloc ?_ _) | (with_reducible refine Kd.C_drewN ?_ _) | (with_reducible refine Kd.C_drew ?_))); (case side2 => exact HC298_3.out); (case side3 => repeat (first | exact (Kd.C_below HR298_7.out HB.out) | (with_reducible refine Kd.C_alloc ?_ _) | (with_reducible refine Kd.C_drewN ?_ _) | (with_reducible refine Kd.C_drew ?_))); (case side4 => exact HC298_7.out); (case side5 => repeat (first | exact (Kd.C_below HR298_8.out HB.out) | (with_reducible refine Kd.C_alloc ?_ _) | (with_reducible refine Kd.C_drewN ?_ _) | (with_reducible refine Kd.C_drew ?_))); (case side6 => exact HC298_8.out); (case side7 => repeat (first | exact (Kd.C_below HR298_9.out HB.out) | (with_reducible refine Kd.C_alloc ?_ _) | (with_reducible refine Kd.C_drewN ?_ _) | (with_reducible refine Kd.C_drew ?_))); (case side8 => exact HC298_9.out); rintro e w6 ⟨rfl, hb⟩; have n0_ := Aside0.mk (below_step (by repeat (first | (with_reducible first | exact HB.out | apply bAl | apply pwDN | apply bD1) | exact HB.out)) hb); clear HB; have HB := n0_; clear n0_; (try clear hb); (try clear hb2); (try clear hk); (try clear hi))))
           go_loopg [6] k1 (fun kq v6 w' => ∃ (x6_2 : Int), v6 = .int .i64 x6_2 ∧ Aside0 (rf8Rules.l1 kq l0 x4_1 x6_2 = some (r1, r2)) ∧ Aside0 (kq ≤ k1) ∧ Aside0 (Below w.heap.size w w'))
           case atStart => exact ⟨(0), (by first | rfl | (simp; done) | (simp [*]; done)), H', ⟨Nat.le_refl _⟩, ⟨by repeat (first | (with_reducible first | exact HB.out | apply bAl | apply pwDN | apply bD1) | exact HB.out)⟩⟩
           case round =>
             clear H'
             try clear c2
             try clear c2b0
             try clear p2
             try clear q2
             try clear hx2
             try clear c3
             try clear c3b0
             try clear c4
             try clear c5
             try clear c5b0
             try clear c5b1
             try clear hx298_0
             try clear hx298_1
             try clear hx298_2
             try clear hx298_3
             try clear hx298_4
             try clear hx298_5
             try clear hx298_6
             try clear hx298_7
             try clear hx298_8
             try clear hx298_9
             try clear p298
             try clear q298
             obtain ⟨x6_2, rfl, HA, HK2, HB⟩ := hrel
             cases gk with
             | zero => exact absurd HA.out (by simp [rf8Rules.l1])
             | succ k2 =>
               have H := HA.out
               clear HA
               simp only [rf8Rules.l1] at H
               by_cases c7 : x6_2 < x4_1
               · rw [if_pos c7] at H
                 have c7b0 : decide (x6_2 < x4_1) = true := decide_eq_true c7
                 clear c7
                 by_cases c8 : 0 ≤ x6_2
                 · rw [if_pos c8] at H
                   have c8b0 : decide (0 ≤ x6_2) = true := decide_eq_true c8
                   clear c8
                   by_cases c9 : x6_2 < (l0.length : Int)
                   · rw [if_pos c9] at H
                     have c9b0 : decide (x6_2 < (l0.length : Int)) = true := decide_eq_true c9
                     clear c9
                     by_cases c10 : 0 ≤ x4_1
                     · rw [if_pos c10] at H
                       have c10b0 : decide (0 ≤ x4_1) = true := decide_eq_true c10
                       clear c10
                       by_cases c11 : x4_1 < (l0.length : Int)
                       · rw [if_pos c11] at H
                         have c11b0 : decide (x4_1 < (l0.length : Int)) = true := decide_eq_true c11
                         clear c11
                         by_cases c12 : ((rd_T54 l0 x6_2).f0).toList = ((rd_T54 l0 x4_1).f0).toList
                         · rw [if_pos c12] at H
                           have c12b0 : (((rd_T54 l0 x6_2).f0).toList == ((rd_T54 l0 x4_1).f0).toList) = true := beq_iff_eq.mpr c12
                           have c12b1 : (((rd_T54 l0 x6_2).f0).toList != ((rd_T54 l0 x4_1).f0).toList) = false := bne_eq_false_iff_eq.mpr c12
                           clear c12
                           simp only [Option.some.injEq, Prod.mk.injEq] at H
                           obtain ⟨rfl, rfl⟩ := H
                           have p300 : 0 ≤ (x6_2 : Int) := of_decide_eq_true (by first | (with_reducible assumption) | assumption)
                           have q300 : x6_2 < (l0.length : Int) := of_decide_eq_true (by first | (with_reducible assumption) | assumption)
                           obtain ⟨ad300, A300_3, c300_3, A300_7, c300_7, A300_8, c300_8, A300_9, c300_9, e300, hx300_0, hx300_1, hx300_2, hx300_3, hx300_4, hx300_5, hx300_6, hx300_7, hx300_8, hx300_9, hl300_3, hi300_3, hl300_7, hi300_7, hl300_8, hi300_8, hl300_9, hi300_9⟩ := at_T54 HR0.out x6_2 p300 q300
                           obtain rfl : ad298 = ad300 := (by injection e300)
                           replace hx300_0 := (HB.out.cell (World.block_lt_of_cell? w _ hx300_0)).trans hx300_0
                           replace hx300_1 := (HB.out.cell (World.block_lt_of_cell? w _ hx300_1)).trans hx300_1
                           replace hx300_2 := (HB.out.cell (World.block_lt_of_cell? w _ hx300_2)).trans hx300_2
                           replace hx300_3 := (HB.out.cell (World.block_lt_of_cell? w _ hx300_3)).trans hx300_3
                           replace hx300_4 := (HB.out.cell (World.block_lt_of_cell? w _ hx300_4)).trans hx300_4
                           replace hx300_5 := (HB.out.cell (World.block_lt_of_cell? w _ hx300_5)).trans hx300_5
                           replace hx300_6 := (HB.out.cell (World.block_lt_of_cell? w _ hx300_6)).trans hx300_6
                           replace hx300_7 := (HB.out.cell (World.block_lt_of_cell? w _ hx300_7)).trans hx300_7
                           replace hx300_8 := (HB.out.cell (World.block_lt_of_cell? w _ hx300_8)).trans hx300_8
                           replace hx300_9 := (HB.out.cell (World.block_lt_of_cell? w _ hx300_9)).trans hx300_9
                           have HR300_3 := Aside0.mk hi300_3
                           have HC300_3 := Aside0.mk hl300_3
                           clear hi300_3 hl300_3
                           have HR300_7 := Aside0.mk hi300_7
                           have HC300_7 := Aside0.mk hl300_7
                           clear hi300_7 hl300_7
                           have HR300_8 := Aside0.mk hi300_8
                           have HC300_8 := Aside0.mk hl300_8
                           clear hi300_8 hl300_8
                           have HR300_9 := Aside0.mk hi300_9
                           have HC300_9 := Aside0.mk hl300_9
                           clear hi300_9 hl300_9
                           replace p300 := eq_true p300
                           replace q300 := eq_true q300
                           have p301 : 0 ≤ (x4_1 : Int) := of_decide_eq_true (by first | (with_reducible assumption) | assumption)
                           have q301 : x4_1 < (l0.length : Int) := of_decide_eq_true (by first | (with_reducible assumption) | assumption)
                           obtain ⟨ad301, A301_3, c301_3, A301_7, c301_7, A301_8, c301_8, A301_9, c301_9, e301, hx301_0, hx301_1, hx301_2, hx301_3, hx301_4, hx301_5, hx301_6, hx301_7, hx301_8, hx301_9, hl301_3, hi301_3, hl301_7, hi301_7, hl301_8, hi301_8, hl301_9, hi301_9⟩ := at_T54 HR0.out x4_1 p301 q301
                           obtain rfl : ad298 = ad301 := (by injection e301)
                           replace hx301_0 := (HB.out.cell (World.block_lt_of_cell? w _ hx301_0)).trans hx301_0
                           replace hx301_1 := (HB.out.cell (World.block_lt_of_cell? w _ hx301_1)).trans hx301_1
                           replace hx301_2 := (HB.out.cell (World.block_lt_of_cell? w _ hx301_2)).trans hx301_2
                           replace hx301_3 := (HB.out.cell (World.block_lt_of_cell? w _ hx301_3)).trans hx301_3
                           replace hx301_4 := (HB.out.cell (World.block_lt_of_cell? w _ hx301_4)).trans hx301_4
                           replace hx301_5 := (HB.out.cell (World.block_lt_of_cell? w _ hx301_5)).trans hx301_5
                           replace hx301_6 := (HB.out.cell (World.block_lt_of_cell? w _ hx301_6)).trans hx301_6
                           replace hx301_7 := (HB.out.cell (World.block_lt_of_cell? w _ hx301_7)).trans hx301_7
                           replace hx301_8 := (HB.out.cell (World.block_lt_of_cell? w _ hx301_8)).trans hx301_8
                           replace hx301_9 := (HB.out.cell (World.block_lt_of_cell? w _ hx301_9)).trans hx301_9
                           have HR301_3 := Aside0.mk hi301_3
                           have HC301_3 := Aside0.mk hl301_3
                           clear hi301_3 hl301_3
                           have HR301_7 := Aside0.mk hi301_7
                           have HC301_7 := Aside0.mk hl301_7
                           clear hi301_7 hl301_7
                           have HR301_8 := Aside0.mk hi301_8
                           have HC301_8 := Aside0.mk hl301_8
                           clear hi301_8 hl301_8
                           have HR301_9 := Aside0.mk hi301_9
                           have HC301_9 := Aside0.mk hl301_9
                           clear hi301_9 hl301_9
                           replace p301 := eq_true p301
                           replace q301 := eq_true q301
                           go_wp2
                           repeat (go_quiet (fail); try go_wp2)
                           go_ret2
                           exact ⟨by first | rfl | (simp [errW_none, errW_some] <;> rfl) | (simp [*, errW_none, errW_some] <;> rfl), by repeat (first | (with_reducible first | exact HB.out | apply bAl | apply pwDN | apply bD1) | exact HB.out)⟩
                         · rw [if_neg c12] at H
                           have c12b0 : (((rd_T54 l0 x6_2).f0).toList == ((rd_T54 l0 x4_1).f0).toList) = false := beq_eq_false_iff_ne.mpr c12
                           have c12b1 : (((rd_T54 l0 x6_2).f0).toList != ((rd_T54 l0 x4_1).f0).toList) = true := bne_iff_ne.mpr c12
                           have H' := Aside0.mk H
                           clear H
                           have p300 : 0 ≤ (x6_2 : Int) := of_decide_eq_true (by first | (with_reducible assumption) | assumption)
                           have q300 : x6_2 < (l0.length : Int) := of_decide_eq_true (by first | (with_reducible assumption) | assumption)
                           obtain ⟨ad300, A300_3, c300_3, A300_7, c300_7, A300_8, c300_8, A300_9, c300_9, e300, hx300_0, hx300_1, hx300_2, hx300_3, hx300_4, hx300_5, hx300_6, hx300_7, hx300_8, hx300_9, hl300_3, hi300_3, hl300_7, hi300_7, hl300_8, hi300_8, hl300_9, hi300_9⟩ := at_T54 HR0.out x6_2 p300 q300
                           obtain rfl : ad298 = ad300 := (by injection e300)
                           replace hx300_0 := (HB.out.cell (World.block_lt_of_cell? w _ hx300_0)).trans hx300_0
                           replace hx300_1 := (HB.out.cell (World.block_lt_of_cell? w _ hx300_1)).trans hx300_1
                           replace hx300_2 := (HB.out.cell (World.block_lt_of_cell? w _ hx300_2)).trans hx300_2
                           replace hx300_3 := (HB.out.cell (World.block_lt_of_cell? w _ hx300_3)).trans hx300_3
                           replace hx300_4 := (HB.out.cell (World.block_lt_of_cell? w _ hx300_4)).trans hx300_4
                           replace hx300_5 := (HB.out.cell (World.block_lt_of_cell? w _ hx300_5)).trans hx300_5
                           replace hx300_6 := (HB.out.cell (World.block_lt_of_cell? w _ hx300_6)).trans hx300_6
                           replace hx300_7 := (HB.out.cell (World.block_lt_of_cell? w _ hx300_7)).trans hx300_7
                           replace hx300_8 := (HB.out.cell (World.block_lt_of_cell? w _ hx300_8)).trans hx300_8
                           replace hx300_9 := (HB.out.cell (World.block_lt_of_cell? w _ hx300_9)).trans hx300_9
                           have HR300_3 := Aside0.mk hi300_3
                           have HC300_3 := Aside0.mk hl300_3
                           clear hi300_3 hl300_3
                           have HR300_7 := Aside0.mk hi300_7
                           have HC300_7 := Aside0.mk hl300_7
                           clear hi300_7 hl300_7
                           have HR300_8 := Aside0.mk hi300_8
                           have HC300_8 := Aside0.mk hl300_8
                           clear hi300_8 hl300_8
                           have HR300_9 := Aside0.mk hi300_9
                           have HC300_9 := Aside0.mk hl300_9
                           clear hi300_9 hl300_9
                           replace p300 := eq_true p300
                           replace q300 := eq_true q300
                           have p301 : 0 ≤ (x4_1 : Int) := of_decide_eq_true (by first | (with_reducible assumption) | assumption)
                           have q301 : x4_1 < (l0.length : Int) := of_decide_eq_true (by first | (with_reducible assumption) | assumption)
                           obtain ⟨ad301, A301_3, c301_3, A301_7, c301_7, A301_8, c301_8, A301_9, c301_9, e301, hx301_0, hx301_1, hx301_2, hx301_3, hx301_4, hx301_5, hx301_6, hx301_7, hx301_8, hx301_9, hl301_3, hi301_3, hl301_7, hi301_7, hl301_8, hi301_8, hl301_9, hi301_9⟩ := at_T54 HR0.out x4_1 p301 q301
                           obtain rfl : ad298 = ad301 := (by injection e301)
                           replace hx301_0 := (HB.out.cell (World.block_lt_of_cell? w _ hx301_0)).trans hx301_0
                           replace hx301_1 := (HB.out.cell (World.block_lt_of_cell? w _ hx301_1)).trans hx301_1
                           replace hx301_2 := (HB.out.cell (World.block_lt_of_cell? w _ hx301_2)).trans hx301_2
                           replace hx301_3 := (HB.out.cell (World.block_lt_of_cell? w _ hx301_3)).trans hx301_3
                           replace hx301_4 := (HB.out.cell (World.block_lt_of_cell? w _ hx301_4)).trans hx301_4
                           replace hx301_5 := (HB.out.cell (World.block_lt_of_cell? w _ hx301_5)).trans hx301_5
                           replace hx301_6 := (HB.out.cell (World.block_lt_of_cell? w _ hx301_6)).trans hx301_6
                           replace hx301_7 := (HB.out.cell (World.block_lt_of_cell? w _ hx301_7)).trans hx301_7
                           replace hx301_8 := (HB.out.cell (World.block_lt_of_cell? w _ hx301_8)).trans hx301_8
                           replace hx301_9 := (HB.out.cell (World.block_lt_of_cell? w _ hx301_9)).trans hx301_9
                           have HR301_3 := Aside0.mk hi301_3
                           have HC301_3 := Aside0.mk hl301_3
                           clear hi301_3 hl301_3
                           have HR301_7 := Aside0.mk hi301_7
                           have HC301_7 := Aside0.mk hl301_7
                           clear hi301_7 hl301_7
                           have HR301_8 := Aside0.mk hi301_8
                           have HC301_8 := Aside0.mk hl301_8
                           clear hi301_8 hl301_8
                           have HR301_9 := Aside0.mk hi301_9
                           have HC301_9 := Aside0.mk hl301_9
                           clear hi301_9 hl301_9
                           replace p301 := eq_true p301
                           replace q301 := eq_true q301
                           go_wp2
                           repeat (go_quiet (fail); try go_wp2)
                           go_roundg k2
                           case measure => have := HK1.out; have := HK2.out; omega
                           case rel => exact ⟨(wrap64 (x6_2 + 1)), (by first | rfl | (simp; done) | (simp [*]; done)), H', ⟨by have := HK1.out; have := HK2.out; omega⟩, ⟨by repeat (first | (with_reducible first | exact HB.out | apply bAl | apply pwDN | apply bD1) | exact HB.out)⟩⟩
                       · rw [if_neg c11] at H
                         exact absurd H (by simp)
                     · rw [if_neg c10] at H
                       exact absurd H (by simp)
                   · rw [if_neg c9] at H
                     exact absurd H (by simp)
                 · rw [if_neg c8] at H
                   exact absurd H (by simp)
               · rw [if_neg c7] at H
                 have c7b0 : decide (x6_2 < x4_1) = false := decide_eq_false c7
                 clear c7
                 have H' := Aside0.mk H
                 clear H
                 go_wp2
                 repeat (go_quiet (fail); try go_wp2)
                 go_roundg k2
                 case measure => have := HK1.out; have := HK2.out; omega
                 case rel => exact ⟨(wrap64 (x4_1 + 1)), (by first | rfl | (simp; done) | (simp [*]; done)), H', ⟨by have := HK1.out; have := HK2.out; omega⟩, ⟨by repeat (first | (with_reducible first | exact HB.out | apply bAl | apply pwDN | apply bD1) | exact HB.out)⟩⟩
         · rw [if_neg c5] at H
           have c5b0 : (t299 == 0) = false := beq_eq_false_iff_ne.mpr c5
           have c5b1 : (t299 != 0) = true := bne_iff_ne.mpr c5
           simp only [Option.some.injEq, Prod.mk.injEq] at H
           obtain ⟨rfl, rfl⟩ := H
           have p298 : 0 ≤ (x4_1 : Int) := of_decide_eq_true (by first | (with_reducible assumption) | assumption)
           have q298 : x4_1 < (l0.length : Int) := of_decide_eq_true (by first | (with_reducible assumption) | assumption)
           obtain ⟨ad298, A298_3, c298_3, A298_7, c298_7, A298_8, c298_8, A298_9, c298_9, e298, hx298_0, hx298_1, hx298_2, hx298_3, hx298_4, hx298_5, hx298_6, hx298_7, hx298_8, hx298_9, hl298_3, hi298_3, hl298_7, hi298_7, hl298_8, hi298_8, hl298_9, hi298_9⟩ := at_T54 HR0.out x4_1 p298 q298
           cases e298
           replace hx298_0 := (HB.out.cell (World.block_lt_of_cell? w _ hx298_0)).trans hx298_0
           replace hx298_1 := (HB.out.cell (World.block_lt_of_cell? w _ hx298_1)).trans hx298_1
           replace hx298_2 := (HB.out.cell (World.block_lt_of_cell? w _ hx298_2)).trans hx298_2
           replace hx298_3 := (HB.out.cell (World.block_lt_of_cell? w _ hx298_3)).trans hx298_3
           replace hx298_4 := (HB.out.cell (World.block_lt_of_cell? w _ hx298_4)).trans hx298_4
           replace hx298_5 := (HB.out.cell (World.block_lt_of_cell? w _ hx298_5)).trans hx298_5
           replace hx298_6 := (HB.out.cell (World.block_lt_of_cell? w _ hx298_6)).trans hx298_6
           replace hx298_7 := (HB.out.cell (World.block_lt_of_cell? w _ hx298_7)).trans hx298_7
           replace hx298_8 := (HB.out.cell (World.block_lt_of_cell? w _ hx298_8)).trans hx298_8
           replace hx298_9 := (HB.out.cell (World.block_lt_of_cell? w _ hx298_9)).trans hx298_9
           have HR298_3 := Aside0.mk hi298_3
           have HC298_3 := Aside0.mk hl298_3
           clear hi298_3 hl298_3
           have HR298_7 := Aside0.mk hi298_7
           have HC298_7 := Aside0.mk hl298_7
           clear hi298_7 hl298_7
           have HR298_8 := Aside0.mk hi298_8
           have HC298_8 := Aside0.mk hl298_8
           clear hi298_8 hl298_8
           have HR298_9 := Aside0.mk hi298_9
           have HC298_9 := Aside0.mk hl298_9
           clear hi298_9 hl298_9
           replace p298 := eq_true p298
           replace q298 := eq_true q298
           go_wp2_with (first | (go_at_call 47; (with_reducible refine (rf8Rule.calls k1 ((rd_T54 l0 x4_1).f0) ((rd_T54 l0 x4_1).f1) ((rd_T54 l0 x4_1).f2) _ _ ((rd_T54 l0 x4_1).f3) ((rd_T54 l0 x4_1).f4.f0) ((rd_T54 l0 x4_1).f4.f1) ((rd_T54 l0 x4_1).f4.f2) _ _ ((rd_T54 l0 x4_1).f4.f3) _ _ ((rd_T54 l0 x4_1).f4.f4) _ _ ((rd_T54 l0 x4_1).f4.f5) t299 _ ?side1 ?side2 ?side3 ?side4 ?side5 ?side6 ?side7 ?side8 A4.out).mono ?_); (case side1 => repeat (first | exact (Kd.C_below HR298_3.out HB.out) | (with_reducible refine Kd.C_alloc ?_ _) | (with_reducible refine Kd.C_drewN ?_ _) | (with_reducible refine Kd.C_drew ?_))); (case side2 => exact HC298_3.out); (case side3 => repeat (first | exact (Kd.C_below HR298_7.out HB.out) | (with_reducible refine Kd.C_alloc ?_ _) | (with_reducible refine Kd.C_drewN ?_ _) | (with_reducible refine Kd.C_drew ?_))); (case side4 => exact HC298_7.out); (case side5 => repeat (first | exact (Kd.C_below HR298_8.out HB.out) | (with_reducible refine Kd.C_alloc ?_ _) | (with_reducible refine Kd.C_drewN ?_ _) | (with_reducible refine Kd.C_drew ?_))); (case side6 => exact HC298_8.out); (case side7 => repeat (first | exact (Kd.C_below HR298_9.out HB.out) | (with_reducible refine Kd.C_alloc ?_ _) | (with_reducible refine Kd.C_drewN ?_ _) | (with_reducible refine Kd.C_drew ?_))); (case side8 => exact HC298_9.out); rintro e w13 ⟨rfl, hb⟩; have n0_ := Aside0.mk (below_step (by repeat (first | (with_reducible first | exact HB.out | apply bAl | apply pwDN | apply bD1) | exact HB.out)) hb); clear HB; have HB := n0_; clear n0_; (try clear hb); (try clear hb2); (try clear hk); (try clear hi)))
           repeat (go_quiet (first | (go_at_call 47; (with_reducible refine (rf8Rule.calls k1 ((rd_T54 l0 x4_1).f0) ((rd_T54 l0 x4_1).f1) ((rd_T54 l0 x4_1).f2) _ _ ((rd_T54 l0 x4_1).f3) ((rd_T54 l0 x4_1).f4.f0) ((rd_T54 l0 x4_1).f4.f1) ((rd_T54 l0 x4_1).f4.f2) _ _ ((rd_T54 l0 x4_1).f4.f3) _ _ ((rd_T54 l0 x4_1).f4.f4) _ _ ((rd_T54 l0 x4_1).f4.f5) t299 _ ?side1 ?side2 ?side3 ?side4 ?side5 ?side6 ?side7 ?side8 A4.out).mono ?_); (case side1 => repeat (first | exact (Kd.C_below HR298_3.out HB.out) | (with_reducible refine Kd.C_alloc ?_ _) | (with_reducible refine Kd.C_drewN ?_ _) | (with_reducible refine Kd.C_drew ?_))); (case side2 => exact HC298_3.out); (case side3 => repeat (first | exact (Kd.C_below HR298_7.out HB.out) | (with_reducible refine Kd.C_alloc ?_ _) | (with_reducible refine Kd.C_drewN ?_ _) | (with_reducible refine Kd.C_drew ?_))); (case side4 => exact HC298_7.out); (case side5 => repeat (first | exact (Kd.C_below HR298_8.out HB.out) | (with_reducible refine Kd.C_alloc ?_ _) | (with_reducible refine Kd.C_drewN ?_ _) | (with_reducible refine Kd.C_drew ?_))); (case side6 => exact HC298_8.out); (case side7 => repeat (first | exact (Kd.C_below HR298_9.out HB.out) | (with_reducible refine Kd.C_alloc ?_ _) | (with_reducible refine Kd.C_drewN ?_ _) | (with_reducible refine Kd.C_drew ?_))); (case side8 => exact HC298_9.out); rintro e w13 ⟨rfl, hb⟩; have n0_ := Aside0.mk (below_step (by repeat (first | (with_reducible first | exact HB.out | apply bAl | apply pwDN | apply bD1) | exact HB.out)) hb); clear HB; have HB := n0_; clear n0_; (try clear hb); (try clear hb2); (try clear hk); (try clear hi))); try go_wp2_with (first | (go_at_call 47; (with_reducible refine (rf8Rule.calls k1 ((rd_T54 l0 x4_1).f0) ((rd_T54 l0 x4_1).f1) ((rd_T54 l0 x4_1).f2) _ _ ((rd_T54 l0 x4_1).f3) ((rd_T54 l0 x4_1).f4.f0) ((rd_T54 l0 x4_1).f4.f1) ((rd_T54 l0 x4_1).f4.f2) _ _ ((rd_T54 l0 x4_1).f4.f3) _ _ ((rd_T54 l0 x4_1).f4.f4) _ _ ((rd_T54 l0 x4_1).f4.f5) t299 _ ?side1 ?side2 ?side3 ?side4 ?side5 ?side6 ?side7 ?side8 A4.out).mono ?_); (case side1 => repeat (first | exact (Kd.C_below HR298_3.out HB.out) | (with_reducible refine Kd.C_alloc ?_ _) | (with_reducible refine Kd.C_drewN ?_ _) | (with_reducible refine Kd.C_drew ?_))); (case side2 => exact HC298_3.out); (case side3 => repeat (first | exact (Kd.C_below HR298_7.out HB.out) | (with_reducible refine Kd.C_alloc ?_ _) | (with_reducible refine Kd.C_drewN ?_ _) | (with_reducible refine Kd.C_drew ?_))); (case side4 => exact HC298_7.out); (case side5 => repeat (first | exact (Kd.C_below HR298_8.out HB.out) | (with_reducible refine Kd.C_alloc ?_ _) | (with_reducible refine Kd.C_drewN ?_ _) | (with_reducible refine Kd.C_drew ?_))); (case side6 => exact HC298_8.out); (case side7 => repeat (first | exact (Kd.C_below HR298_9.out HB.out) | (with_reducible refine Kd.C_alloc ?_ _) | (with_reducible refine Kd.C_drewN ?_ _) | (with_reducible refine Kd.C_drew ?_))); (case side8 => exact HC298_9.out); rintro e w13 ⟨rfl, hb⟩; have n0_ := Aside0.mk (below_step (by repeat (first | (with_reducible first | exact HB.out | apply bAl | apply pwDN | apply bD1) | exact HB.out)) hb); clear HB; have HB := n0_; clear n0_; (try clear hb); (try clear hb2); (try clear hk); (try clear hi))))
           go_ret2
           exact ⟨by first | rfl | (simp [errW_none, errW_some] <;> rfl) | (simp [*, errW_none, errW_some] <;> rfl), by repeat (first | (with_reducible first | exact HB.out | apply bAl | apply pwDN | apply bD1) | exact HB.out)⟩
       · rw [if_neg c3] at H
         exact absurd H (by simp)
     · rw [if_neg c2] at H
       have c2b0 : decide (x4_1 < (l0.length : Int)) = false := decide_eq_false c2
       clear c2
       simp only [Option.some.injEq, Prod.mk.injEq] at H
       obtain ⟨rfl, rfl⟩ := H
       go_wp2
       repeat (go_quiet (fail); try go_wp2)
       go_ret2
       exact ⟨by first | rfl | (simp [errW_none, errW_some] <;> rfl) | (simp [*, errW_none, errW_some] <;> rfl), by repeat (first | (with_reducible first | exact HB.out | apply bAl | apply pwDN | apply bD1) | exact HB.out)⟩
end Go.Proofs.YtmlcaecknocpoaaDoor.Pr
namespace Go.Proofs.YtmlcaecknocpoaaDoor.It
set_option linter.unusedVariables false
set_option linter.unusedSimpArgs false
open Go Go.RowKit Go.Shelf Go.Proofs.YtmlcaecknocpoaaDoorW.PrintWords Go.Proofs.YtmlcaecknocpoaaDoorW.PrintLast Go.Proofs.YtmlcaecknocpoaaDoor.Pr Go.Proofs.YtmlcaecknocpoaaDoor.Sp
structure RIn (r : S54) : Prop where
 nm : r.f0.size ≤ 9223372036854775807
 each : ∀ b ∈ r.f3, b.f0.size ≤ 9223372036854775807
 size : Sp.size r.f4 ≤ 4611686018427387904
 ok : NmOk r.f4
 len : r.f3.length + It.nb r.f4 ≤ 1000000000
theorem refRule_ev (r : S54) (h : RIn r) : Ev (fun k => rf8Rule.f k r.f0 r.f1 r.f2 r.f3 r.f4.f0 r.f4.f1 r.f4.f2 r.f4.f3 r.f4.f4 r.f4.f5) (rule r) := by
 obtain ⟨nm, hd, wt, bs, x⟩ := r
 obtain ⟨hnm, hb, hs, hn, hlen⟩ := h
 simp only at hnm hb hs hn hlen ⊢
 have l1 : check x = 0 → ∀ d j : Nat, j + d = bs.length → Ev (fun K => rf8Rule.l1 K (j : Int) nm hd wt bs x.f0 x.f1 x.f2 x.f3 x.f4 x.f5) (if fresh (bs.take j) (bs.drop j) then first x bs else 82) := by
   intro hc d
   induction d with
   | zero =>
     intro j hj
     refine Ev.step (f := fun K => (rf8first.f K bs x.f0 x.f1 x.f2 x.f3 x.f4 x.f5).bind fun t297 => some t297) (fun K => ?_) (Ev.bind (first_ev (size x) x bs (Nat.le_refl _) hs (fm_of (check_zero.1 hc).1) hlen) (Ev.val (by rw [List.drop_of_length_le (by omega)]; rfl)))
     simp only [rf8Rule.l1]
     rw [if_neg (by omega)]
   | succ d ih =>
     intro j hj
     have hlt : j < bs.length := by omega
     have hn2 := ih (j + 1) (by omega)
     have ht : bs.take (j + 1) = bs.take j ++ [rd_T42 bs j] := by
       rw [List.take_succ_eq_append_getElem hlt]
       simp [rd_T42, List.getD, hlt]
     rw [ht] at hn2
     rw [drop_rd42 bs j hlt, fresh]
     refine Ev.step (f := fun K => (rf8stands.f K (bs.take j) ((rd_T42 bs (j : Int)).f0)).bind fun t296 => (if t296 = true then (some 82) else (rf8Rule.l1 K ((j + 1 : Nat) : Int) nm hd wt bs x.f0 x.f1 x.f2 x.f3 x.f4 x.f5))) (fun K => ?_) (Ev.bind (stands8_ev _ _ (by rw [List.length_take]; omega)) ?_)
     · simp only [rf8Rule.l1]
       rw [if_pos (by omega), if_pos (by omega), if_pos (by omega), wrap_one j (by omega)]
       simp
     · cases has (bs.take j) (rd_T42 bs j).f0 with
       | true => exact Ev.val (by simp)
       | false => exact Ev.congr (fun K => if_neg (by decide)) (by simpa using hn2)
 obtain ⟨V, hV⟩ : ∃ V, (if check x = 0 then (if fresh [] bs then first x bs else 82) else check x) = V := ⟨_, rfl⟩
 have l0 : ∀ d j : Nat, j + d = bs.length → Ev (fun K => rf8Rule.l0 K (j : Int) nm hd wt bs x.f0 x.f1 x.f2 x.f3 x.f4 x.f5) (if (bs.drop j).all Sp.bind then V else 1) := by
   intro d
   induction d with
   | zero =>
     intro j hj
     refine Ev.step (f := fun K => (rf6Check.f K x.f0 x.f1 x.f2 x.f3 x.f4 x.f5).bind fun t290 => (if t290 = 0 then (rf8Rule.l1 K 0 nm hd wt bs x.f0 x.f1 x.f2 x.f3 x.f4 x.f5) else (some t290))) (fun K => ?_) (Ev.bind (refCheck_ev x hs hn) (Ev.ite (fun hc => ?_) (fun hc => ?_)))
     · simp only [rf8Rule.l0]
       rw [if_neg (by omega)]
     · have := l1 hc bs.length 0 (by omega)
       rw [List.take_zero, List.drop_zero] at this
       rw [List.drop_of_length_le (by omega), ← hV, if_pos hc]
       exact this
     · rw [List.drop_of_length_le (by omega), ← hV, if_neg hc]
       exact Ev.now _
   | succ d ih =>
     intro j hj
     have hlt : j < bs.length := by omega
     have hn2 := ih (j + 1) (by omega)
     rw [drop_rd42 bs j hlt, List.all_cons]
     refine Ev.step (f := fun K => (rf8bind.f K ((rd_T42 bs (j : Int)).f0) ((rd_T42 bs (j : Int)).f1)).bind fun t289 => (if t289 = true then (rf8Rule.l0 K ((j + 1 : Nat) : Int) nm hd wt bs x.f0 x.f1 x.f2 x.f3 x.f4 x.f5) else (some 1))) (fun K => ?_) (Ev.bind (bind8_ev _ (hb _ (rd42_mem bs j hlt))) ?_)
     · simp only [rf8Rule.l0]
       rw [if_pos (by omega), if_pos (by omega), wrap_one j (by omega)]
     · cases Sp.bind (rd_T42 bs j) with
       | false => exact Ev.val (by simp)
       | true => exact Ev.congr (fun K => if_pos rfl) (by simpa using hn2)
 have e1 : ∀ b : Bool, Ev (fun K => rf8Rule.j1 K b nm hd wt bs x.f0 x.f1 x.f2 x.f3 x.f4 x.f5) (if b then 1 else if bs.all Sp.bind then V else 1) := by
   intro b
   refine Ev.step (f := fun K => if b = true then some 1 else rf8Rule.l0 K 0 nm hd wt bs x.f0 x.f1 x.f2 x.f3 x.f4 x.f5) (fun K => rfl) ?_
   cases b with
   | true => exact Ev.now _
   | false => exact Ev.congr (fun K => if_neg (by decide)) (by simpa using l0 bs.length 0 (by omega))
 have e0 : ∀ b : Bool, Ev (fun K => rf8Rule.j0 K b nm hd wt bs x.f0 x.f1 x.f2 x.f3 x.f4 x.f5) (if name nm && b && decide (bs.length ≤ 6) && bs.all Sp.bind then V else 1) := by
   intro b
   refine Ev.step (f := fun K => (rf6Name.f K nm).bind fun t287 => (if t287 = true then (if b = true then (rf8Rule.j1 K (decide ((bs.length : Int) > 6)) nm hd wt bs x.f0 x.f1 x.f2 x.f3 x.f4 x.f5) else (rf8Rule.j1 K true nm hd wt bs x.f0 x.f1 x.f2 x.f3 x.f4 x.f5)) else (rf8Rule.j1 K true nm hd wt bs x.f0 x.f1 x.f2 x.f3 x.f4 x.f5))) (fun K => rfl) (Ev.bind (name_ev nm hnm) ?_)
   cases name nm with
   | false => exact Ev.congr (fun K => if_neg (by decide)) (by simpa using e1 true)
   | true =>
     cases b with
     | false => exact Ev.congr (fun K => (if_pos rfl).trans (if_neg (by decide))) (by simpa using e1 true)
     | true =>
       refine Ev.congr (fun K => (if_pos rfl).trans (if_pos rfl)) ?_
       by_cases h6 : bs.length ≤ 6
       · have : decide ((bs.length : Int) > 6) = false := by simp; omega
         rw [this, decide_eq_true h6]
         simpa using e1 false
       · have : decide ((bs.length : Int) > 6) = true := by simp; omega
         rw [this, decide_eq_false h6]
         simpa using e1 true
 show Ev _ (if name nm && weight hd wt && decide (bs.length ≤ 6) && bs.all Sp.bind then (if check x = 0 then (if fresh [] bs then first x bs else 82) else check x) else 1)
 rw [hV]
 unfold rf8Rule.f weight
 cases hd with
 | true =>
   refine Ev.congr (fun K => if_pos rfl) (Ev.ite (fun h => ?_) (fun h => ?_))
   · have := e0 true
     rw [if_pos rfl, decide_eq_true h]; exact this
   · have := e0 false
     rw [if_pos rfl, decide_eq_false h]; exact this
 | false =>
   refine Ev.congr (fun K => if_neg (by decide)) (Ev.ite (fun h => ?_) (fun h => ?_))
   · have := e0 (decide (wt ≤ 1000))
     rw [if_neg (show ¬ (false = true) by decide), decide_eq_true (show 1 ≤ wt from h), Bool.true_and]; exact this
   · have := e0 false
     rw [if_neg (show ¬ (false = true) by decide), decide_eq_false (show ¬ 1 ≤ wt from h), Bool.false_and]; exact this
theorem refRules_ev (l : List S54) (h : ∀ r ∈ l, RIn r) (hlen : l.length ≤ 1000000) : Ev (fun k => rf8Rules.f k l) (rules l) := by
 have l0 : ∀ d j : Nat, j + d = l.length → Ev (fun K => rf8Rules.l0 K l (j : Int)) (rulesFrom (l.take j) (l.drop j)) := by
   intro d
   induction d with
   | zero =>
     intro j hj
     refine Ev.step (f := fun _ => some (0, 0)) (fun K => ?_) (Ev.val (by rw [List.drop_of_length_le (by omega)]; rfl))
     simp only [rf8Rules.l0]
     rw [if_neg (by omega)]
   | succ d ih =>
     intro j hj
     have hlt : j < l.length := by omega
     have hn := ih (j + 1) (by omega)
     rw [rules_step l j hlt]
     have l1 : ∀ d i : Nat, i + d = j → Ev (fun K => rf8Rules.l1 K l (j : Int) (i : Int)) (if among (((l.take j).drop i).map (·.f0)) (rd_T54 l j).f0 then ((j : Int), 82) else rulesFrom (l.take (j + 1)) (l.drop (j + 1))) := by
       intro d
       induction d with
       | zero =>
         intro i hi
         refine Ev.step (f := fun K => rf8Rules.l0 K l ((j + 1 : Nat) : Int)) (fun K => ?_) (by rw [List.drop_of_length_le (by rw [List.length_take]; omega)]; simpa [among] using hn)
         simp only [rf8Rules.l1]
         rw [if_neg (by omega), wrap_one j (by omega)]
       | succ d ihd =>
         intro i hi
         have hn2 := ihd (i + 1) (by omega)
         have hil : i < (l.take j).length := by rw [List.length_take]; omega
         have e : (l.take j).drop i = rd_T54 l i :: (l.take j).drop (i + 1) := by
           rw [List.drop_eq_getElem_cons hil]
           congr 1
           simp [rd_T54, List.getD, show i < l.length by omega]
         rw [e, List.map_cons]
         by_cases hq : (rd_T54 l (i : Int)).f0 = (rd_T54 l (j : Int)).f0
         · refine Ev.step (f := fun _ => some ((j : Int), 82)) (fun K => ?_) (Ev.val (by rw [if_pos]; unfold among; rw [List.any_cons, decide_eq_true hq]; rfl))
           simp only [rf8Rules.l1]
           rw [if_pos (by omega), if_pos (by omega), if_pos (by omega), if_pos (by omega), if_pos (by omega), if_pos ((tl_iff _ _).2 hq)]
         · refine Ev.step (f := fun K => rf8Rules.l1 K l (j : Int) ((i + 1 : Nat) : Int)) (fun K => ?_) (by
             have : among ((rd_T54 l (i : Int)).f0 :: ((l.take j).drop (i + 1)).map (·.f0)) (rd_T54 l (j : Int)).f0 = among (((l.take j).drop (i + 1)).map (·.f0)) (rd_T54 l (j : Int)).f0 := by
               unfold among; rw [List.any_cons, decide_eq_false hq, Bool.false_or]
             rw [this]; exact hn2)
           simp only [rf8Rules.l1]
           rw [if_pos (by omega), if_pos (by omega), if_pos (by omega), if_pos (by omega), if_pos (by omega), if_neg (fun e => hq ((tl_iff _ _).1 e)), wrap_one i (by omega)]
     refine Ev.step (f := fun K => (rf8Rule.f K ((rd_T54 l (j : Int)).f0) ((rd_T54 l (j : Int)).f1) ((rd_T54 l (j : Int)).f2) ((rd_T54 l (j : Int)).f3) ((rd_T54 l (j : Int)).f4.f0) ((rd_T54 l (j : Int)).f4.f1) ((rd_T54 l (j : Int)).f4.f2) ((rd_T54 l (j : Int)).f4.f3) ((rd_T54 l (j : Int)).f4.f4) ((rd_T54 l (j : Int)).f4.f5)).bind fun t299 => (if t299 = 0 then (rf8Rules.l1 K l (j : Int) 0) else (some ((j : Int), t299)))) (fun K => ?_) (Ev.bind (refRule_ev _ (h _ (rd54_mem l j hlt))) (Ev.ite (fun h0 => ?_) (fun h0 => ?_)))
     · simp only [rf8Rules.l0]
       rw [if_pos (by omega), if_pos (by omega)]
     · rw [if_pos h0]
       exact l1 j 0 (by omega)
     · rw [if_neg h0]
       exact Ev.now _
 have := l0 l.length 0 (by omega)
 rw [List.take_zero, List.drop_zero] at this
 exact this
end Go.Proofs.YtmlcaecknocpoaaDoor.It
namespace Go.Proofs.YtmlcaecknocpoaaDoor.It
set_option linter.unusedVariables false
set_option linter.unusedSimpArgs false
open Go Go.ChangeShapes Go.WideShapes Go.ChangeAt Go.RowKit Go.Shelf Go.Deep Go.Proofs.YtmlcaecknocpoaaDoorW.PrintWords Go.Proofs.YtmlcaecknocpoaaDoorW.PrintLast Go.Proofs.YtmlcaecknocpoaaDoor.Pr
theorem cells54 : Tryd.prog.cellsOf 54 = 10 := by kernel_rfl
theorem cells4 : Tryd.prog.cellsOf 4 = 1 := by kernel_rfl
structure RArg (r : S54) : Prop where
 nm : r.f0.size ≤ 9223372036854775807
 wt : I64 r.f2
 each : ∀ b ∈ r.f3, BOk b
 deep : Deep r.f4
 wt26 : It.wt26 r.f4 ≤ 1048576
 len : r.f3.length ≤ 1000000
structure RowsA (w : World) (l : List S54) (A : Option Addr) (c : Nat) : Prop where
 row : Kd.C k54 w A l.length l
 le : l.length ≤ c
 ok : ∀ r ∈ l, RArg r
section
variable {H : Type} {enc : TypeId × Value → H} {w : World} {base : Nat} {spare : Nat → Bool} {held : Bool}
theorem row23 {n : Nat} {cs : List Value} {x : DataW H × List MemPlace} (h : DataW.trod enc Tryd.prog w base spare held n 23 cs = some x) : ∃ A c xs, cs = [.slice A xs.length c] ∧ xs.length ≤ c ∧ Kd.C k42 w A xs.length xs ∧ (∀ b ∈ xs, b.f0.size ≤ 9223372036854775807 ∧ I64 b.f1) ∧ (xs.map fun _ => 3).sum + 1 ≤ Rows.uptoBulk x.1 :=
 read_row k42 rfl Tryd.underlying23 cells42 (fun t => t.f0.size ≤ 9223372036854775807 ∧ I64 t.f1) (fun _ => 3) z42 (fun n cs' y _ ht => by
   obtain ⟨t, rfl, hs, hb⟩ := read42 ht
   exact ⟨t, k42_mk w t, rfl, hs, by omega⟩) h
set_option maxRecDepth 100000 in
theorem read54 {n : Nat} {cs : List Value} {y : DataW H × List MemPlace} (hB : Rows.uptoBulk y.1 ≤ 1048576) (h : DataW.trod enc Tryd.prog w base spare held n 54 cs = some y) :
   ∃ r : S54, k54.K w r cs ∧ cs.length = 10 ∧ RArg r ∧ 3 ≤ Rows.uptoBulk y.1 := by
 obtain ⟨ys, n', hn', hy, hlen, hyl, hf⟩ := DataW.trod_struct Tryd.underlying54 h
 rw [cells54] at hlen
 match cs, hlen with
 | [q0, q1, q2, q3, q4, q5, q6, q7, q8, q9], _ =>
   match ys, hyl with
   | [y0, y1, y2, y3, y4], _ =>
     have h0 := hf 0 _ rfl
     have h1 := hf 1 _ rfl
     have h2 := hf 2 _ rfl
     have h3 := hf 3 _ rfl
     have h4 := hf 4 _ rfl
     simp only [cells3, cells9, cells4, cells23, cells26, List.drop_zero, List.drop_succ_cons, List.take_succ_cons, List.take_zero, List.getElem?_cons_zero, List.getElem?_cons_succ] at h0 h1 h2 h3 h4
     obtain ⟨nm, e0, ws, b0⟩ := one9 h0
     obtain ⟨hd, e1, b1⟩ := DataW.trod_bool Tryd.underlying4 h1
     obtain ⟨wt, e2, wk, b2⟩ := one3 h2
     obtain ⟨A3, c3, bs, e3, l3, g3, S3, B3⟩ := row23 h3
     subst hy
     have b1' : Rows.uptoBulk y1.1 = 1 := by rw [b1]; rfl
     have hB' : Rows.uptoBulk (DataW.agg [y0.1, y1.1, y2.1, y3.1, y4.1]) ≤ 1048576 := hB
     have hG : 3 ≤ Rows.uptoBulk (DataW.agg [y0.1, y1.1, y2.1, y3.1, y4.1]) := by simp only [Rows.uptoBulk, Rows.uptoBulkAll]; omega
     simp only [Rows.uptoBulk, Rows.uptoBulkAll] at hB'
     obtain ⟨x, A7, c7, A8, c8, A9, c9, e4, hat, hdp, hw⟩ := read26 (Rows.uptoBulk y4.1) n' _ y4 (Nat.le_refl _) h4
     obtain rfl := List.singleton_inj.1 e0
     obtain rfl := List.singleton_inj.1 e1
     obtain rfl := List.singleton_inj.1 e2
     obtain rfl := List.singleton_inj.1 e3
     injection e4 with e40 e4
     injection e4 with e41 e4
     injection e4 with e42 e4
     injection e4 with e43 e4
     injection e4 with e44 e4
     injection e4 with e45 e4
     subst e40 e41 e42 e43 e44 e45
     have hs3 := sum_const bs 3
     rw [hs3] at B3
     refine ⟨⟨nm, hd, wt, bs, x⟩, k54_mk w ⟨nm, hd, wt, bs, x⟩ l3 g3 hat.l3 hat.g3 hat.l4 hat.g4 hat.l5 hat.g5, rfl, ⟨ws, wk, fun b hb => ⟨(S3 b hb).1, (S3 b hb).2⟩, hdp, by show It.wt26 x ≤ _; omega, by show bs.length ≤ _; omega⟩, hG⟩
end
def z54 : S54 := ⟨ByteArray.empty, false, 0, [], z26⟩
set_option maxRecDepth 100000 in
theorem trod_rules {H : Type} {enc : TypeId × Value → H} {W : World} {base : Nat} {v : Value} {d : DataW H} {p : List MemPlace} (hv : Value.okWide Tryd.prog W .any base 52 v) (h : DataW.Trod enc Tryd.prog W 0 (fun _ => true) true 52 v d p) (hd : Rows.uptoBulk d ≤ 1048576) :
   ∃ (l : List S54) (A : Option Addr) (c : Nat), v = .slice A l.length c ∧ RowsA W l A c ∧ l.length ≤ 1000000 := by
 obtain ⟨fuel, hf⟩ := h
 have hdd : Rows.uptoBulk (d, p).1 = Rows.uptoBulk d := rfl
 obtain ⟨A, c, l, e, hl, hC, hS, hB⟩ := read_row (x := (d, p)) k54 rfl Tryd.underlying52 cells54 RArg (fun _ => 3) z54 (fun n cs' y hy ht => by
   obtain ⟨r, h1, h2, h3, h4⟩ := read54 (by omega) ht
   exact ⟨r, h1, h2, h3, by omega⟩) hf
 have e' : v = .slice A l.length c := by
   obtain ⟨a, n, c', e2⟩ := okWide_slice Tryd.underlying52 hv
   subst e2
   simpa [Value.cells] using e
 have hs3 := sum_const l 3
 rw [hs3] at hB
 exact ⟨l, A, c, e', ⟨hC, hl, hS⟩, by omega⟩
end Go.Proofs.YtmlcaecknocpoaaDoor.It
namespace Go.Proofs.YtmlcaecknocpoaaDoor.It
set_option linter.unusedVariables false
set_option linter.unusedSimpArgs false
open Go Go.RowKit Go.Shelf Go.Proofs.YtmlcaecknocpoaaDoorW.PrintWords Go.Proofs.YtmlcaecknocpoaaDoorW.PrintLast Go.Proofs.YtmlcaecknocpoaaDoor.Pr Go.Proofs.YtmlcaecknocpoaaDoor.Sp
attribute [local go_sem ↓] Go.wp_at_zero Go.wp_at_succ
section
variable {w : World} {l : List S54} {A : Option Addr} {c : Nat}
theorem RowsA.below (h : RowsA w l A c) {w1 : World} (hb : Below w.heap.size w w1) : RowsA w1 l A c := ⟨Kd.C_below h.row hb, h.le, h.ok⟩
theorem RArg.ok {r : S54} (h : RArg r) : ROk r := ⟨h.nm, h.wt, h.each, h.deep, by have := h.wt26; unfold It.wt26 at this; omega, by have := h.wt26; have := h.len; unfold It.wt26 at *; omega⟩
theorem RArg.inn {r : S54} (h : RArg r) : RIn r := ⟨h.nm, fun b hb => (h.each b hb).nm, h.ok.size, fun y hy => by
 have h1 := nodes_le _ y hy
 have h2 := h.wt26
 unfold It.wt26 at h2
 exact ⟨(h.deep y hy).ts, (h.deep y hy).bs, by omega, by omega⟩, h.ok.few⟩
theorem fewR {r : S54} {A3 : Option Addr} {c3 : Nat} {A7 : Option Addr} {c7 : Nat} {A8 : Option Addr} {c8 : Nat} {A9 : Option Addr} {c9 : Nat} (h : RArg r) (hat : AtR w r A3 c3 A7 c7 A8 c8 A9 c9) : ∃ q : Bool, (q = true → r.f3.length ≤ 30) ∧ ∀ W, Below w.heap.size w W → Calls Tryd.prog 37 #[.slice A3 r.f3.length c3, .agg #[.int .i64 r.f4.f0, .string r.f4.f1, .int .i64 r.f4.f2, .slice A7 r.f4.f3.length c7, .slice A8 r.f4.f4.length c8, .slice A9 r.f4.f5.length c9]] W
   fun e w' => e = .returned (.bool q) ∧ Below W.heap.size W w' := few8_calls ⟨hat.row, hat.le, h.each⟩ ⟨hat.body, h.deep, h.wt26⟩
theorem refRuleR {r : S54} {A3 : Option Addr} {c3 : Nat} {A7 : Option Addr} {c7 : Nat} {A8 : Option Addr} {c8 : Nat} {A9 : Option Addr} {c9 : Nat} (h : RArg r) (hat : AtR w r A3 c3 A7 c7 A8 c8 A9 c9) : Calls Tryd.prog 47 #[.agg #[.string r.f0, .bool r.f1, .int .i64 r.f2, .slice A3 r.f3.length c3, .int .i64 r.f4.f0, .string r.f4.f1, .int .i64 r.f4.f2, .slice A7 r.f4.f3.length c7, .slice A8 r.f4.f4.length c8, .slice A9 r.f4.f5.length c9]] w fun e w' => e = .returned (.int .i64 (Sp.rule r)) ∧ Below w.heap.size w w' := by
 obtain ⟨k, hk⟩ := (refRule_ev r h.inn).rounds
 exact rf8Rule.calls k _ _ _ _ _ _ _ _ _ _ _ _ _ _ _ _ _ _ _ w hat.row hat.le hat.body.g3 hat.body.l3 hat.body.g4 hat.body.l4 hat.body.g5 hat.body.l5 hk
theorem refRulesR (h : RowsA w l A c) (hl : l.length ≤ 1000000) : Calls Tryd.prog 45 #[.slice A l.length c] w fun e w' => e = .returned (.tuple #[.int .i64 (Sp.rules l).1, .int .i64 (Sp.rules l).2]) ∧ Below w.heap.size w w' := by
 obtain ⟨k, hk⟩ := (refRules_ev l (fun r hr => (h.ok r hr).inn) hl).rounds
 exact rf8Rules.calls k _ _ _ _ _ w h.row h.le hk
end
set_option maxRecDepth 100000 in
set_option maxHeartbeats 8000000 in
theorem law15 (l : List S54) (A : Option Addr) (c : Nat) (w : World) (hR : RowsA w l A c) (ht : Tabs w) (hk : Kinds w) (hl : l.length ≤ 1000000) :
   Calls Tryd.prog 15 #[.slice A l.length c] w fun e w' => e = .returned (.bool true) ∧ Below w.heap.size w w' := by
 have hu54 := Tryd.underlying54
 have hu26 := Tryd.underlying26
 have C36 := Aside0.mk (fun W (h : Below w.heap.size w W) => live8_calls W (ht.below h) (hk.below h))
 have C44 := Aside0.mk (fun W (h : Below w.heap.size w W) => rules_calls l A c W (hR.below h).row hl (fun r hr => (hR.ok r hr).ok) (ht.below h) (hk.below h))
 have C45 := Aside0.mk (fun W (h : Below w.heap.size w W) => refRulesR (hR.below h) hl)
 have C46 := Aside0.mk (fun r (hr : r ∈ l) A3 c3 A7 c7 A8 c8 A9 c9 W (h : Below w.heap.size w W) (hat : AtR W r A3 c3 A7 c7 A8 c8 A9 c9) => rule_calls r A3 c3 A7 c7 A8 c8 A9 c9 W hat (hR.ok r hr).ok (ht.below h) (hk.below h))
 have C47 := Aside0.mk (fun r (hr : r ∈ l) A3 c3 A7 c7 A8 c8 A9 c9 W (h : Below w.heap.size w W) (hat : AtR W r A3 c3 A7 c7 A8 c8 A9 c9) => refRuleR (hR.ok r hr) hat)
 obtain ⟨r1, h1⟩ : ∃ v, (Sp.rules l).1 = v := ⟨_, rfl⟩
 obtain ⟨r2, h2⟩ : ∃ v, (Sp.rules l).2 = v := ⟨_, rfl⟩
 rw [h1, h2] at C44 C45
 have HR := Aside0.mk hR
 have G0 := Aside0.mk (Below.refl w.heap.size w)
 clear hR ht hk h1 h2
 go_enter Tryd.func15, Tryd.ntmps15
 go_wp2_with (go_at_call 36; (with_reducible refine (C36.out _ G0.out).mono ?_); rintro e wa ⟨rfl, g⟩; replace G0 := Aside0.mk (G0.out.trans (g.mono G0.out.size)); clear g C36)
 go_loopg [2, 3] l.length (fun gg s2 s3 wr => ∃ j : Nat, j ≤ l.length ∧ l.length - j ≤ gg ∧ s3 = .int .i64 j ∧ Aside0 (Below w.heap.size w wr))
 case atStart => exact ⟨0, Nat.zero_le _, by omega, rfl, ⟨G0.out⟩⟩
 case round =>
   obtain ⟨j, hj, hg, rfl, HJ⟩ := hrel
   clear G0
   by_cases hlt : j < l.length ∧ j < 12
   · obtain ⟨hlt, h12⟩ := hlt
     have hltz : (j : Int) < (l.length : Int) := by omega
     have h12z : (j : Int) < 12 := by omega
     obtain ⟨ad, A3, c3, A7, c7, A8, c8, A9, c9, rfl, hat, y0, y1, y2, y3, y4, y5, y6, y7, y8, y9⟩ := ruleAt HR.out.row HJ.out j hlt
     have hm := HR.out.ok _ (rd54_mem l j hlt)
     obtain ⟨r, hr⟩ : ∃ r, rd_T54 l j = r := ⟨_, rfl⟩
     rw [hr] at hat hm y0 y1 y2 y3 y4 y5 y6 y7 y8 y9
     obtain ⟨q, _, hq⟩ := fewR hm hat
     have C37 := Aside0.mk (fun W (h : Below wr.heap.size wr W) => hq W (HJ.out.trans (h.mono HJ.out.size)))
     have G := Aside0.mk (Below.refl wr.heap.size wr)
     clear hr hm hat hq y0 y1 y2
     cases q with
     | false =>
       go_upto_region 6 with fail
       go_region_held3 (fun w' => w'.cell? ⟨(ad.add (j * 10)).block, (ad.add (j * 10)).off + 3, none⟩ = some (.slice A3 r.f3.length c3) ∧ w'.cell? ⟨(ad.add (j * 10)).block, (ad.add (j * 10)).off + 4, none⟩ = some (.int .i64 r.f4.f0) ∧ w'.cell? ⟨(ad.add (j * 10)).block, (ad.add (j * 10)).off + 5, none⟩ = some (.string r.f4.f1) ∧ w'.cell? ⟨(ad.add (j * 10)).block, (ad.add (j * 10)).off + 6, none⟩ = some (.int .i64 r.f4.f2) ∧ w'.cell? ⟨(ad.add (j * 10)).block, (ad.add (j * 10)).off + 7, none⟩ = some (.slice A7 r.f4.f3.length c7) ∧ w'.cell? ⟨(ad.add (j * 10)).block, (ad.add (j * 10)).off + 8, none⟩ = some (.slice A8 r.f4.f4.length c8) ∧ w'.cell? ⟨(ad.add (j * 10)).block, (ad.add (j * 10)).off + 9, none⟩ = some (.slice A9 r.f4.f5.length c9)) (go_keep)
         (first
           | (go_at_call 37; (with_reducible refine (C37.out _ G.out).mono ?_); rintro e wn ⟨rfl, g⟩; replace G := Aside0.mk (G.out.trans (g.mono G.out.size)); have z3 := up_cell G.out y3; have z4 := up_cell G.out y4; have z5 := up_cell G.out y5; have z6 := up_cell G.out y6; have z7 := up_cell G.out y7; have z8 := up_cell G.out y8; have z9 := up_cell G.out y9; clear g y3 y4 y5 y6 y7 y8 y9)
           | (go_at_call 37; (with_reducible refine (C37.out _ (below_drew G.out)).mono ?_); rintro e wn ⟨rfl, g⟩; replace G := Aside0.mk ((below_drew G.out).trans (g.mono (below_drew G.out).size)); have z3 := up_cell G.out y3; have z4 := up_cell G.out y4; have z5 := up_cell G.out y5; have z6 := up_cell G.out y6; have z7 := up_cell G.out y7; have z8 := up_cell G.out y8; have z9 := up_cell G.out y9; clear g y3 y4 y5 y6 y7 y8 y9))
       all_goals
         go_wp2_with fail
         go_ret
         exact ⟨rfl, HJ.out.trans (G.out.mono HJ.out.size)⟩
     | true =>
       go_upto_region 6 with fail
       go_region_held3 (fun w' => w'.cell? ⟨(ad.add (j * 10)).block, (ad.add (j * 10)).off + 3, none⟩ = some (.slice A3 r.f3.length c3) ∧ w'.cell? ⟨(ad.add (j * 10)).block, (ad.add (j * 10)).off + 4, none⟩ = some (.int .i64 r.f4.f0) ∧ w'.cell? ⟨(ad.add (j * 10)).block, (ad.add (j * 10)).off + 5, none⟩ = some (.string r.f4.f1) ∧ w'.cell? ⟨(ad.add (j * 10)).block, (ad.add (j * 10)).off + 6, none⟩ = some (.int .i64 r.f4.f2) ∧ w'.cell? ⟨(ad.add (j * 10)).block, (ad.add (j * 10)).off + 7, none⟩ = some (.slice A7 r.f4.f3.length c7) ∧ w'.cell? ⟨(ad.add (j * 10)).block, (ad.add (j * 10)).off + 8, none⟩ = some (.slice A8 r.f4.f4.length c8) ∧ w'.cell? ⟨(ad.add (j * 10)).block, (ad.add (j * 10)).off + 9, none⟩ = some (.slice A9 r.f4.f5.length c9)) (go_keep)
         (first
           | (go_at_call 37; (with_reducible refine (C37.out _ G.out).mono ?_); rintro e wn ⟨rfl, g⟩; replace G := Aside0.mk (G.out.trans (g.mono G.out.size)); have z3 := up_cell G.out y3; have z4 := up_cell G.out y4; have z5 := up_cell G.out y5; have z6 := up_cell G.out y6; have z7 := up_cell G.out y7; have z8 := up_cell G.out y8; have z9 := up_cell G.out y9; clear g y3 y4 y5 y6 y7 y8 y9)
           | (go_at_call 37; (with_reducible refine (C37.out _ (below_drew G.out)).mono ?_); rintro e wn ⟨rfl, g⟩; replace G := Aside0.mk ((below_drew G.out).trans (g.mono (below_drew G.out).size)); have z3 := up_cell G.out y3; have z4 := up_cell G.out y4; have z5 := up_cell G.out y5; have z6 := up_cell G.out y6; have z7 := up_cell G.out y7; have z8 := up_cell G.out y8; have z9 := up_cell G.out y9; clear g y3 y4 y5 y6 y7 y8 y9))
       all_goals
         go_wp2_with fail
         go_roundg (l.length - (j + 1))
         case measure => omega
         case rel => exact ⟨j + 1, by omega, by omega, by go_num, ⟨HJ.out.trans (G.out.mono HJ.out.size)⟩⟩
   · have htest : ((j : Int) < (l.length : Int)) → ¬ ((j : Int) < 12) := by omega
     by_cases h10 : 10 < l.length
     · have h10z : (l.length : Int) > 10 := by omega
       clear C44 C45 C46 C47
       by_cases hlt2 : (j : Int) < (l.length : Int)
       · have h12 := htest hlt2
         clear htest hlt
         go_wp2_with fail
         go_ret
         exact ⟨rfl, HJ.out⟩
       · clear htest hlt
         go_wp2_with fail
         go_ret
         exact ⟨rfl, HJ.out⟩
     · have h10z : ¬ (l.length : Int) > 10 := by omega
       have hlt2 : ¬ (j : Int) < (l.length : Int) := by omega
       have H := HJ
       clear htest hlt
       go_wp2_with (first
         | (go_at_call 44; (with_reducible refine (C44.out _ H.out).mono ?_); rintro e wb ⟨rfl, g⟩; replace H := Aside0.mk (H.out.trans (g.mono H.out.size)); clear g C44)
         | (go_at_call 45; (with_reducible refine (C45.out _ H.out).mono ?_); rintro e wc ⟨rfl, g⟩; replace H := Aside0.mk (H.out.trans (g.mono H.out.size)); clear g C45))
       go_loopg [2, 8] l.length (fun gg s2 s8 wr => ∃ i : Nat, i ≤ l.length ∧ l.length - i ≤ gg ∧ s8 = .int .i64 i ∧ Aside0 (Below w.heap.size w wr))
       case atStart => exact ⟨0, Nat.zero_le _, by omega, rfl, ⟨H.out⟩⟩
       case round =>
         clear HJ H hlt2 hj hg
         obtain ⟨i, hi, hgi, rfl, HI⟩ := hrel
         by_cases hlti : i < l.length
         · have hltiz : (i : Int) < (l.length : Int) := by omega
           obtain ⟨ad, A3, c3, A7, c7, A8, c8, A9, c9, rfl, hat, y0, y1, y2, y3, y4, y5, y6, y7, y8, y9⟩ := ruleAt HR.out.row HI.out i hlti
           have hm := rd54_mem l i hlti
           obtain ⟨r, hr⟩ : ∃ r, rd_T54 l i = r := ⟨_, rfl⟩
           rw [hr] at hat hm y0 y1 y2 y3 y4 y5 y6 y7 y8 y9
           have D46 := Aside0.mk (fun W (h : Below wr.heap.size wr W) => C46.out r hm A3 c3 A7 c7 A8 c8 A9 c9 W (HI.out.trans (h.mono HI.out.size)) (hat.below (HI.out.trans (h.mono HI.out.size))))
           have D47 := Aside0.mk (fun W (h : Below wr.heap.size wr W) => C47.out r hm A3 c3 A7 c7 A8 c8 A9 c9 W (HI.out.trans (h.mono HI.out.size)) (hat.below (HI.out.trans (h.mono HI.out.size))))
           obtain ⟨v, hv⟩ : ∃ v, Sp.rule r = v := ⟨_, rfl⟩
           rw [hv] at D46 D47
           have G := Aside0.mk (Below.refl wr.heap.size wr)
           clear hr hm hat hv
           go_upto_region 15 with fail
           go_region_held3 (fun w' => w'.cell? (ad.add (i * 10)) = some (.string r.f0) ∧ w'.cell? ⟨(ad.add (i * 10)).block, (ad.add (i * 10)).off + 1, none⟩ = some (.bool r.f1) ∧ w'.cell? ⟨(ad.add (i * 10)).block, (ad.add (i * 10)).off + 2, none⟩ = some (.int .i64 r.f2) ∧ w'.cell? ⟨(ad.add (i * 10)).block, (ad.add (i * 10)).off + 3, none⟩ = some (.slice A3 r.f3.length c3) ∧ w'.cell? ⟨(ad.add (i * 10)).block, (ad.add (i * 10)).off + 4, none⟩ = some (.int .i64 r.f4.f0) ∧ w'.cell? ⟨(ad.add (i * 10)).block, (ad.add (i * 10)).off + 5, none⟩ = some (.string r.f4.f1) ∧ w'.cell? ⟨(ad.add (i * 10)).block, (ad.add (i * 10)).off + 6, none⟩ = some (.int .i64 r.f4.f2) ∧ w'.cell? ⟨(ad.add (i * 10)).block, (ad.add (i * 10)).off + 7, none⟩ = some (.slice A7 r.f4.f3.length c7) ∧ w'.cell? ⟨(ad.add (i * 10)).block, (ad.add (i * 10)).off + 8, none⟩ = some (.slice A8 r.f4.f4.length c8) ∧ w'.cell? ⟨(ad.add (i * 10)).block, (ad.add (i * 10)).off + 9, none⟩ = some (.slice A9 r.f4.f5.length c9)) (go_keep)
             (first
               | (go_at_call 46; (with_reducible refine (D46.out _ G.out).mono ?_); rintro e wn ⟨rfl, g⟩; replace G := Aside0.mk (G.out.trans (g.mono G.out.size)); have z0 := up_cell G.out y0; have z1 := up_cell G.out y1; have z2 := up_cell G.out y2; have z3 := up_cell G.out y3; have z4 := up_cell G.out y4; have z5 := up_cell G.out y5; have z6 := up_cell G.out y6; have z7 := up_cell G.out y7; have z8 := up_cell G.out y8; have z9 := up_cell G.out y9; clear g)
               | (go_at_call 46; (with_reducible refine (D46.out _ (below_drew G.out)).mono ?_); rintro e wn ⟨rfl, g⟩; replace G := Aside0.mk ((below_drew G.out).trans (g.mono (below_drew G.out).size)); have z0 := up_cell G.out y0; have z1 := up_cell G.out y1; have z2 := up_cell G.out y2; have z3 := up_cell G.out y3; have z4 := up_cell G.out y4; have z5 := up_cell G.out y5; have z6 := up_cell G.out y6; have z7 := up_cell G.out y7; have z8 := up_cell G.out y8; have z9 := up_cell G.out y9; clear g)
               | (go_at_call 47; (with_reducible refine (D47.out _ G.out).mono ?_); rintro e wn ⟨rfl, g⟩; replace G := Aside0.mk (G.out.trans (g.mono G.out.size)); have z0 := up_cell G.out y0; have z1 := up_cell G.out y1; have z2 := up_cell G.out y2; have z3 := up_cell G.out y3; have z4 := up_cell G.out y4; have z5 := up_cell G.out y5; have z6 := up_cell G.out y6; have z7 := up_cell G.out y7; have z8 := up_cell G.out y8; have z9 := up_cell G.out y9; clear g)
               | (go_at_call 47; (with_reducible refine (D47.out _ (below_drew G.out)).mono ?_); rintro e wn ⟨rfl, g⟩; replace G := Aside0.mk ((below_drew G.out).trans (g.mono (below_drew G.out).size)); have z0 := up_cell G.out y0; have z1 := up_cell G.out y1; have z2 := up_cell G.out y2; have z3 := up_cell G.out y3; have z4 := up_cell G.out y4; have z5 := up_cell G.out y5; have z6 := up_cell G.out y6; have z7 := up_cell G.out y7; have z8 := up_cell G.out y8; have z9 := up_cell G.out y9; clear g))
           all_goals
             go_wp2_with fail
             go_roundg (l.length - (i + 1))
             case measure => omega
             case rel => exact ⟨i + 1, by omega, by omega, by go_num, ⟨HI.out.trans (G.out.mono HI.out.size)⟩⟩
         · have hltiz : ¬ (i : Int) < (l.length : Int) := by omega
           go_wp2_with fail
           go_ret
           exact ⟨by first | rfl | (simp; rfl), HI.out⟩
end Go.Proofs.YtmlcaecknocpoaaDoor.It
namespace Go.Proofs.YtmlcaecknocpoaaDoor.C15
set_option linter.unusedVariables false
set_option linter.unusedSimpArgs false
open Go Go.ChangeShapes Go.WideShapes Go.ChangeAt Go.RowKit Go.Proofs.YtmlcaecknocpoaaDoor.It
open Go.ChangeMaps (open_string shut_string)
set_option maxRecDepth 100000 in
theorem contract (H : Type) (enc : TypeId × Value → H) (W : World) (base : Nat) (args : Array Value) (ds gs : List (DataW H)) (before : List MemPlace)
   (hval0 : ∀ (j : Nat) t v, Tryd.f15.params[j]? = some t → args[j]? = some v → Value.okWide Tryd.prog W .any base t v)
   (hW : DataW.Whole enc Tryd.prog Tryd.f15.params.toList Rows.typesRulesSpec.vars false W args.toList ds gs before) (hk : Rows.uptoSmall H (ds ++ gs) = true) (hL : laidMetH Tryd.prog Rows.typesRulesUptoRow.laid W) :
   Calls Tryd.prog 15 args W fun e W' => ∃ v, e = .returned v ∧ Rows.typesRulesSpec.post enc Tryd.prog Tryd.f15 false true false false W args v W' := by
 have hval : ∀ (j : Nat) t v, Tryd.f15.params[j]? = some t → args[j]? = some v → Value.okWide Tryd.prog W .any base t v := hval0
 have hW' := hW
 obtain ⟨p, q, hA0, hV, rfl, hfz, hnd⟩ := hW
 have hA : DataW.TrodAll enc Tryd.prog W 0 (fun _ => true) true Tryd.f15.params.toList args.toList ds p := hA0
 rw [Tryd.params15] at hA hval
 obtain ⟨v0, vs0, d0, ds0, p0, q0, hargs, rfl, rfl, h0, r0⟩ := trodAll_cons hA
 obtain ⟨rfl, rfl, rfl⟩ := trodAll_nil r0
 obtain rfl : args = #[v0] := by cases args; simp_all
 obtain ⟨rfl, rfl⟩ := trodVars_none hV
 have hk2 := of_decide_eq_true hk
 clear hk
 simp only [List.append_nil, Rows.uptoBulkAll] at hk2
 obtain ⟨x0, A30, c30, rfl, ha0, hn0⟩ := trod_rules (hval 0 52 v0 rfl rfl) h0 (by omega)
 have lt0 : ∀ y ∈ p0, y.block < W.heap.size := by
   obtain ⟨m, hm⟩ := h0
   exact DataW.trod_lt m _ _ _ hm
 have hl := hL
 rw [MakeChecks.laidMetH_plain _ _ _ (by kernel_rfl)] at hl
 have ht : Tabs W := tabs_laid hl (by simp [Rows.typesRulesUptoRow]) (by simp [Rows.typesRulesUptoRow]) (by simp [Rows.typesRulesUptoRow])
 have hk : Kinds W := kinds_laid hl (by simp [Rows.typesRulesUptoRow]) (by simp [Rows.typesRulesUptoRow])
 refine (law15 x0 A30 c30 W ha0 ht hk hn0).mono fun e W' ⟨he, bel⟩ => ?_
 subst he
 exact ⟨_, rfl, _, _, _, [], _, [], hW', trodAll_mk1 (shut_bool Tryd.underlying4 _), (trodAll_cons_mk (Below.trod laidOut (by kernel_rfl) (of_decide_eq_true (by kernel_rfl)) h0 bel lt0) trodAll_mk0), rfl, bel.frame _, fun h => by cases h⟩
theorem met (os : Os) : laidMetH Tryd.prog Rows.typesRulesUptoRow.laid ((Wt.world os).forCall (fun _ _ => 0) ⟨#[], #[.slice none 0 0], []⟩).memory :=
 laidMetH_of_parts3 (fuel := 8) (laidMet_of_run' 8 (by kernel_rfl) (by kernel_rfl)) (by kernel_rfl) (by kernel_rfl)
set_option maxRecDepth 100000 in
theorem lifted (os : Os) (started : os.Started) (H : Type) (enc : TypeId × Value → H) (F : Stop.Interp) :
   ReturnsInHanded {} Tryd.checked os 15 .any ((Rows.OpenSpec.upto Rows.typesRulesSpec).preRow enc Tryd.prog Tryd.f15 Rows.typesRulesUptoRow.domain false Rows.typesRulesUptoRow.laid) (((Rows.OpenSpec.upto Rows.typesRulesSpec).at F).post enc Tryd.prog Tryd.f15 false true false false) := by
 have hx : DataW.whole enc Tryd.prog ((Wt.world os).forCall (fun _ _ => 0) ⟨#[], #[.slice none 0 0], []⟩).memory Tryd.f15.params.toList Rows.typesRulesSpec.vars false (#[.slice none 0 0] : Array Value).toList 8 = some ([.nil], [], []) := by kernel_rfl
 refine returnsInHanded_of_row (C := Tryd.checked) (s := Rows.OpenSpec.upto Rows.typesRulesSpec) own started (by kernel_rfl) Tryd.func15
   (witness_row_atRef (enc := enc) (C := Tryd.checked) false (Wt.world os) #[.slice none 0 0] rfl (by kernel_rfl) (by kernel_rfl) (by kernel_rfl)
     (OpenSpec.preRow_of_cond 8 hx (by kernel_rfl) (fun k hk => by cases hk; kernel_rfl) (by kernel_rfl) (met os))) ?_
 intro W base args ds gs before hval hW _ hcond _ hL _ _
 exact contract H enc W base args ds gs before hval hW (hcond _ rfl) hL
end Go.Proofs.YtmlcaecknocpoaaDoor.C15
namespace Go.Proofs.YtmlcaecknocpoaaDoor.C15
set_option linter.unusedVariables false
open Go Go.ChangeShapes Go.WideShapes Go.ChangeAt Go.RowKit
theorem isInst : Func.isInstance Tryd.pinned.checked.prog Tryd.f15 Rows.typesRulesUptoRow.origin Rows.typesRulesUptoRow.targs := of_decide_eq_true (by kernel_rfl)
theorem isWrap : Func.isWrapper Tryd.pinned.checked.prog Tryd.f15 Rows.typesRulesUptoRow.wrapper Rows.typesRulesUptoRow.mainSum := by
 unfold Func.isWrapper; first | (rw [if_pos (by decide +kernel)]; kernel_rfl) | (rw [if_neg (by decide +kernel)]; exact ⟨rfl, rfl⟩)
theorem isName : Tryd.pinned.checked.prog.funcNamed Rows.typesRulesUptoRow.func = some 15 := by kernel_rfl
theorem saidUpto : Rows.TypesRulesUptoSaid :=
 OpenClaim.holds_of_cond 15 Tryd.f15 rfl rfl rfl rfl rfl rfl rfl ⟨rfl, rfl, rfl, rfl, rfl⟩ rfl rfl rfl rfl rfl isName Tryd.func15 F15.closed isInst isWrap
   (fun os started H enc _ F => by rw [OpenClaim.pre_eq_preRow]; exact lifted os started H enc F)
theorem plain (f : FuncId) (fn : Func) (hf : Tryd.pinned.checked.prog.funcNamed "chalkline/chalklinelaw08.TypesRules" = some f) (hfn : Tryd.pinned.checked.prog.funcs[f]? = some fn) :
   false = Tryd.pinned.checked.prog.looks [] ∧ ∀ (j : Nat) t, fn.params[j]? = some t → Tryd.pinned.checked.prog.wantsStandIn t = false := by
 obtain rfl : f = 15 := Option.some.inj ((show Tryd.prog.funcNamed "chalkline/chalklinelaw08.TypesRules" = some 15 by kernel_rfl).symm.trans hf) |>.symm
 obtain rfl : fn = Tryd.f15 := (Option.some.inj (Tryd.func15.symm.trans hfn)).symm
 refine ⟨by kernel_rfl, fun j t ht => ?_⟩
 rw [Tryd.params15] at ht
 have hm := Array.mem_of_getElem? ht
 simp only [List.mem_toArray, List.mem_cons, List.not_mem_nil, or_false] at hm
 subst hm; exact (show Tryd.prog.wantsStandIn 52 = false by kernel_rfl)
theorem wfText : Rows.typesRulesUptoRow.wfByText (Rows.OpenSpec.upto Rows.typesRulesSpec) = true := by kernel_rfl
theorem goes : false = Rows.typesRulesUptoRow.goesBy Tryd.pinned.checked.prog := by kernel_rfl
theorem cardUpto : Rows.TypesRulesUptoCardSaid :=
 Claim7.holds_tied_plain_at .later [] _ _ _ _ saidUpto (fun _ h => by cases h) wfText (fun _ h => by cases h) typesRulesUpto_row_tie rfl ⟨rfl, rfl⟩ HH.mainIs rfl plain goes
end Go.Proofs.YtmlcaecknocpoaaDoor.C15
namespace Go.Proofs.YtmlcaecknocpoaaDoor
theorem typesRulesUpto_holds : Rows.TypesRulesUptoCardSaid := C15.cardUpto
#print axioms typesRulesUpto_holds
end Go.Proofs.YtmlcaecknocpoaaDoor
