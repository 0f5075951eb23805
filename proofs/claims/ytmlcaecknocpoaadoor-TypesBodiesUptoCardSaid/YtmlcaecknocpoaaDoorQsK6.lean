/-
  chalklinelaw08.TypesBodies answers true, for every input that reads as data and is of bulk at most 1048576; what it reads stands as it stood.
  Conditions: the listed package-level variables hold what the program's text lays (tied by the card); the arguments' bulk is at most 1048576.
-/
import Derived.Test.YtmlcaecknocpoaaDoorQsK5
import Derived.ProofKit
import Derived.LaidMore
import Derived.Deep.DeepHandedRow
import Derived.Deep.DeepWitnessRowRef
import Derived.WalkKit
import Derived.OpenShut
import Derived.ChangeOld
import Derived.Below
import Derived.SizedLaws
import Derived.Lib.SmallJoins
import Derived.ChangeArms
import Derived.BigQuiet
import Derived.Deep.RegionHeld3
import Derived.SevenTiedAt
import Derived.Test.YtmlcaecknocpoaaDoorCards
import Derived.Test.YtmlcaecknocpoaaDoorTie
import Derived.Test.YtmlcaecknocpoaaDoorH25
import Derived.Test.YtmlcaecknocpoaaDoorH26
import Derived.Test.YtmlcaecknocpoaaDoorH27
import Derived.Test.YtmlcaecknocpoaaDoorF19
import Derived.Test.YtmlcaecknocpoaaDoorH28
namespace Go.Proofs.YtmlcaecknocpoaaDoor.Pr
open Go.RowKit Go.Proofs.YtmlcaecknocpoaaDoorW.PrintWords Go.Proofs.YtmlcaecknocpoaaDoorW.PrintLast Go.Proofs.YtmlcaecknocpoaaDoorW.PrintMore
attribute [local go_sem] max2_int min2_int max_two min_two max_three min_three max_four min_four   
set_option linter.unusedVariables false
set_option linter.unusedSimpArgs false
mutual
def chalklineref08_Few.j0 : Nat → Bool → Int → ByteArray → Int → List (S47) → List (S42) → List (S26) → Option (Bool)
  | 0, _, _, _, _, _, _, _ => none
  | k + 1, x24, x218000, x218001, x218002, x218003, x218004, x218005 => if x24 = true then (some false) else (chalklineref08_Few.l0 k 0 x218000 x218001 x218002 x218003 x218004 x218005)
def chalklineref08_Few.l0 : Nat → Int → Int → ByteArray → Int → List (S47) → List (S42) → List (S26) → Option (Bool)
  | 0, _, _, _, _, _, _, _ => none
  | k + 1, x3, x218000, x218001, x218002, x218003, x218004, x218005 => if x3 < (x218005.length : Int) then (if 0 ≤ x3 then ((chalklineref08_Few.f k ((rd_T26 x218005 x3).f0) ((rd_T26 x218005 x3).f1) ((rd_T26 x218005 x3).f2) ((rd_T26 x218005 x3).f3) ((rd_T26 x218005 x3).f4) ((rd_T26 x218005 x3).f5)).bind fun t220 => (if t220 = true then (chalklineref08_Few.l0 k (wrap64 (x3 + 1)) x218000 x218001 x218002 x218003 x218004 x218005) else (some false))) else (none)) else (some true)
def chalklineref08_Few.f : Nat → Int → ByteArray → Int → List (S47) → List (S42) → List (S26) → Option (Bool)
  | 0, _, _, _, _, _, _ => none
  | k + 1, a0_0, a0_1, a0_2, l0_3, l0_4, l0_5 => if (l0_5.length : Int) > 4 then (chalklineref08_Few.j0 k true a0_0 a0_1 a0_2 l0_3 l0_4 l0_5) else (if (l0_3.length : Int) > 4 then (chalklineref08_Few.j0 k true a0_0 a0_1 a0_2 l0_3 l0_4 l0_5) else (if (l0_4.length : Int) > 10 then (chalklineref08_Few.j0 k true a0_0 a0_1 a0_2 l0_3 l0_4 l0_5) else ((chalklineref06_Size.f k a0_0 a0_1 a0_2 l0_3 l0_4 l0_5).bind fun t218 => (chalklineref08_Few.j0 k (decide (t218 > 300)) a0_0 a0_1 a0_2 l0_3 l0_4 l0_5))))
end
set_option maxHeartbeats 8000000 in
set_option maxRecDepth 100000 in
theorem chalklineref08_Few.calls (k : Nat) : ∀ (a0_0 : Int) (a0_1 : ByteArray) (a0_2 : Int) (A0_3 : Option Addr) (c0_3 : Nat) (l0_3 : List (S47)) (A0_4 : Option Addr) (c0_4 : Nat) (l0_4 : List (S42)) (A0_5 : Option Addr) (c0_5 : Nat) (l0_5 : List (S26)) (r : Bool) (w : World) (hr0_3 : Kd.C k47 w A0_3 l0_3.length l0_3) (hc0_3 : l0_3.length ≤ c0_3) (hr0_4 : Kd.C k42 w A0_4 l0_4.length l0_4) (hc0_4 : l0_4.length ≤ c0_4) (hr0_5 : Kd.C k26 w A0_5 l0_5.length l0_5) (hc0_5 : l0_5.length ≤ c0_5) (h : chalklineref08_Few.f k a0_0 a0_1 a0_2 l0_3 l0_4 l0_5 = some r),
    Calls Tryd.prog 64 #[.agg #[.int .i64 a0_0, .string a0_1, .int .i64 a0_2, .slice A0_3 l0_3.length c0_3, .slice A0_4 l0_4.length c0_4, .slice A0_5 l0_5.length c0_5]] w fun e w' => e = .returned (.bool r) ∧ Below w.heap.size w w' := by
  induction k using Nat.strongRecOn with
  | _ k ih =>
  intro a0_0 a0_1 a0_2 A0_3 c0_3 l0_3 A0_4 c0_4 l0_4 A0_5 c0_5 l0_5 r w hr0_3 hc0_3 hr0_4 hc0_4 hr0_5 hc0_5 h
  cases k with
  | zero => exact absurd h (by simp [chalklineref08_Few.f])
  | succ k =>
  simp only [chalklineref08_Few.f] at h
  have hu26 := Tryd.underlying26
  have HR0_3 := Aside0.mk hr0_3
  have HC0_3 := Aside0.mk hc0_3
  clear hr0_3 hc0_3
  have HR0_4 := Aside0.mk hr0_4
  have HC0_4 := Aside0.mk hc0_4
  clear hr0_4 hc0_4
  have HR0_5 := Aside0.mk hr0_5
  have HC0_5 := Aside0.mk hc0_5
  clear hr0_5 hc0_5
  have HB := Aside0.mk (Below.refl w.heap.size w)
  have H : (if (l0_5.length : Int) > 4 then (chalklineref08_Few.j0 k true a0_0 a0_1 a0_2 l0_3 l0_4 l0_5) else (if (l0_3.length : Int) > 4 then (chalklineref08_Few.j0 k true a0_0 a0_1 a0_2 l0_3 l0_4 l0_5) else (if (l0_4.length : Int) > 10 then (chalklineref08_Few.j0 k true a0_0 a0_1 a0_2 l0_3 l0_4 l0_5) else ((chalklineref06_Size.f k a0_0 a0_1 a0_2 l0_3 l0_4 l0_5).bind fun t218 => (chalklineref08_Few.j0 k (decide (t218 > 300)) a0_0 a0_1 a0_2 l0_3 l0_4 l0_5))))) = some r := h
  clear h
  have HC2 := Aside0.mk H
  clear H
  go_enter Tryd.func64, Tryd.ntmps64
  go_upto_region 1 with (first | ((with_reducible refine gate_dst (N := 1) rfl ?_); (try (refine gate_guard (by rfl) ?_; dsimp only)); refine box_event ?hg (N := 1) ?hd (cs := #[.int .i64 a0_0, .string a0_1, .int .i64 a0_2, .slice A0_3 l0_3.length c0_3, .slice A0_4 l0_4.length c0_4, .slice A0_5 l0_5.length c0_5]) (t := 26) ?hr ?_; (case hd => rfl); (case hg => rfl); (case hr => first | (go_simp; done) | (go_simp; rfl)); intro gb217 hg w3 hbox hb; have n0_ := Aside0.mk (below_step (by repeat (first | (with_reducible first | exact HB.out | apply below_alloc | apply pw_below_drewN | apply below_drew1) | exact HB.out)) hb); have n1_ := Aside0.mk (hbox); have n2_ := Aside0.mk ((by rw [hg]; exact (below_size (by repeat (first | (with_reducible first | exact HB.out | apply below_alloc | apply pw_below_drewN | apply below_drew1) | exact HB.out))) : w.heap.size ≤ gb217)); have n3_ := Aside0.mk ((by rw [hg]; exact (below_size (by repeat (first | (with_reducible first | exact HB.out | apply below_alloc | apply pw_below_drewN | apply below_drew1) | exact HB.out))) : w.heap.size ≤ gb217)); clear HB; have HB := n0_; have BK217 := n1_; have GW217 := n2_; have GE217 := n3_; clear n0_ n1_ n2_ n3_; clear hb hbox hg))
  (try simp only [Act.put, List.setIfInBounds_toArray, List.set_cons_zero, List.set_cons_succ])
  go_cut [24] (fun v24 wc => ∃ (kq : Nat) (x24_1 : Bool), v24 = .bool x24_1 ∧ Aside0 (chalklineref08_Few.j0 kq x24_1 a0_0 a0_1 a0_2 l0_3 l0_4 l0_5 = some r) ∧ Aside0 (kq ≤ k) ∧ Aside0 (wc.heap[gb217]? = some (.cells #[.int .i64 a0_0, .string a0_1, .int .i64 a0_2, (.slice A0_3 l0_3.length c0_3), (.slice A0_4 l0_4.length c0_4), (.slice A0_5 l0_5.length c0_5)] 26 (0, 0))) ∧ Aside0 (Below w.heap.size w wc))
  case first =>
    have H := HC2.out
    clear HC2
    by_cases c4 : (l0_5.length : Int) > 4
    · rw [if_pos c4] at H
      have c4b0 : decide (4 < (l0_5.length : Int)) = true := decide_eq_true c4
      have c4b1 : decide (4 < l0_5.length) = true := decide_eq_true (by omega)
      clear c4
      (first | rw [c4b0] | (simp only [i64_w, i32_w]; rw [c4b0]) | skip)
      have H' := Aside0.mk H
      clear H
      have hcz5_0 : w3.cell? ⟨gb217, 0, none⟩ = some (.int .i64 a0_0) := (blk_cell BK217.out 0).trans rfl
      have hcz5_1 : w3.cell? ⟨gb217, 1, none⟩ = some (.string a0_1) := (blk_cell BK217.out 1).trans rfl
      have hcz5_2 : w3.cell? ⟨gb217, 2, none⟩ = some (.int .i64 a0_2) := (blk_cell BK217.out 2).trans rfl
      have hcz5_3 : w3.cell? ⟨gb217, 3, none⟩ = some (.slice A0_3 l0_3.length c0_3) := (blk_cell BK217.out 3).trans rfl
      have hcz5_4 : w3.cell? ⟨gb217, 4, none⟩ = some (.slice A0_4 l0_4.length c0_4) := (blk_cell BK217.out 4).trans rfl
      have hcz5_5 : w3.cell? ⟨gb217, 5, none⟩ = some (.slice A0_5 l0_5.length c0_5) := (blk_cell BK217.out 5).trans rfl
      have hfz5_0 := blk_frozen BK217.out 0
      have hfz5_1 := blk_frozen BK217.out 1
      have hfz5_2 := blk_frozen BK217.out 2
      have hfz5_3 := blk_frozen BK217.out 3
      have hfz5_4 := blk_frozen BK217.out 4
      have hfz5_5 := blk_frozen BK217.out 5
      go_wp2
      go_meet
      case rel => exact ⟨_, (true), (by first | rfl | (simp; done) | (simp [*]; done)), H', ⟨by first | omega | exact Nat.le_refl _⟩, ⟨by (with_reducible repeat (first | refine blk_drewN ?_ _ | refine blk_drew ?_ | refine blk_alloc ?_ _)); exact BK217.out⟩, ⟨by repeat (first | (with_reducible first | exact HB.out | apply below_alloc | apply pw_below_drewN | apply below_drew1 | refine below_set ?_ GE217.out) | exact HB.out)⟩⟩
    · rw [if_neg c4] at H
      have c4b0 : decide (4 < (l0_5.length : Int)) = false := decide_eq_false c4
      have c4b1 : decide (4 < l0_5.length) = false := decide_eq_false (by omega)
      clear c4
      (first | rw [c4b0] | (simp only [i64_w, i32_w]; rw [c4b0]) | skip)
      by_cases c6 : (l0_3.length : Int) > 4
      · rw [if_pos c6] at H
        have c6b0 : decide (4 < (l0_3.length : Int)) = true := decide_eq_true c6
        have c6b1 : decide (4 < l0_3.length) = true := decide_eq_true (by omega)
        clear c6
        have H' := Aside0.mk H
        clear H
        have hcz7_0 : w3.cell? ⟨gb217, 0, none⟩ = some (.int .i64 a0_0) := (blk_cell BK217.out 0).trans rfl
        have hcz7_1 : w3.cell? ⟨gb217, 1, none⟩ = some (.string a0_1) := (blk_cell BK217.out 1).trans rfl
        have hcz7_2 : w3.cell? ⟨gb217, 2, none⟩ = some (.int .i64 a0_2) := (blk_cell BK217.out 2).trans rfl
        have hcz7_3 : w3.cell? ⟨gb217, 3, none⟩ = some (.slice A0_3 l0_3.length c0_3) := (blk_cell BK217.out 3).trans rfl
        have hcz7_4 : w3.cell? ⟨gb217, 4, none⟩ = some (.slice A0_4 l0_4.length c0_4) := (blk_cell BK217.out 4).trans rfl
        have hcz7_5 : w3.cell? ⟨gb217, 5, none⟩ = some (.slice A0_5 l0_5.length c0_5) := (blk_cell BK217.out 5).trans rfl
        have hfz7_0 := blk_frozen BK217.out 0
        have hfz7_1 := blk_frozen BK217.out 1
        have hfz7_2 := blk_frozen BK217.out 2
        have hfz7_3 := blk_frozen BK217.out 3
        have hfz7_4 := blk_frozen BK217.out 4
        have hfz7_5 := blk_frozen BK217.out 5
        go_wp2
        go_meet
        case rel => exact ⟨_, (true), (by first | rfl | (simp; done) | (simp [*]; done)), H', ⟨by first | omega | exact Nat.le_refl _⟩, ⟨by (with_reducible repeat (first | refine blk_drewN ?_ _ | refine blk_drew ?_ | refine blk_alloc ?_ _)); exact BK217.out⟩, ⟨by repeat (first | (with_reducible first | exact HB.out | apply below_alloc | apply pw_below_drewN | apply below_drew1 | refine below_set ?_ GE217.out) | exact HB.out)⟩⟩
      · rw [if_neg c6] at H
        have c6b0 : decide (4 < (l0_3.length : Int)) = false := decide_eq_false c6
        have c6b1 : decide (4 < l0_3.length) = false := decide_eq_false (by omega)
        clear c6
        by_cases c8 : (l0_4.length : Int) > 10
        · rw [if_pos c8] at H
          have c8b0 : decide (10 < (l0_4.length : Int)) = true := decide_eq_true c8
          have c8b1 : decide (10 < l0_4.length) = true := decide_eq_true (by omega)
          clear c8
          have H' := Aside0.mk H
          clear H
          have hcz9_0 : w3.cell? ⟨gb217, 0, none⟩ = some (.int .i64 a0_0) := (blk_cell BK217.out 0).trans rfl
          have hcz9_1 : w3.cell? ⟨gb217, 1, none⟩ = some (.string a0_1) := (blk_cell BK217.out 1).trans rfl
          have hcz9_2 : w3.cell? ⟨gb217, 2, none⟩ = some (.int .i64 a0_2) := (blk_cell BK217.out 2).trans rfl
          have hcz9_3 : w3.cell? ⟨gb217, 3, none⟩ = some (.slice A0_3 l0_3.length c0_3) := (blk_cell BK217.out 3).trans rfl
          have hcz9_4 : w3.cell? ⟨gb217, 4, none⟩ = some (.slice A0_4 l0_4.length c0_4) := (blk_cell BK217.out 4).trans rfl
          have hcz9_5 : w3.cell? ⟨gb217, 5, none⟩ = some (.slice A0_5 l0_5.length c0_5) := (blk_cell BK217.out 5).trans rfl
          have hfz9_0 := blk_frozen BK217.out 0
          have hfz9_1 := blk_frozen BK217.out 1
          have hfz9_2 := blk_frozen BK217.out 2
          have hfz9_3 := blk_frozen BK217.out 3
          have hfz9_4 := blk_frozen BK217.out 4
          have hfz9_5 := blk_frozen BK217.out 5
          go_wp2
          go_meet
          case rel => exact ⟨_, (true), (by first | rfl | (simp; done) | (simp [*]; done)), H', ⟨by first | omega | exact Nat.le_refl _⟩, ⟨by (with_reducible repeat (first | refine blk_drewN ?_ _ | refine blk_drew ?_ | refine blk_alloc ?_ _)); exact BK217.out⟩, ⟨by repeat (first | (with_reducible first | exact HB.out | apply below_alloc | apply pw_below_drewN | apply below_drew1 | refine below_set ?_ GE217.out) | exact HB.out)⟩⟩
        · rw [if_neg c8] at H
          have c8b0 : decide (10 < (l0_4.length : Int)) = false := decide_eq_false c8
          have c8b1 : decide (10 < l0_4.length) = false := decide_eq_false (by omega)
          clear c8
          replace H := Option.bind_eq_some_iff.mp H
          obtain ⟨t218, A100, H⟩ := H
          replace H : (chalklineref08_Few.j0 k (decide (t218 > 300)) a0_0 a0_1 a0_2 l0_3 l0_4 l0_5) = some r := H
          have A10 := Aside0.mk A100
          clear A100
          have H' := Aside0.mk H
          clear H
          have hcz11_0 : w3.cell? ⟨gb217, 0, none⟩ = some (.int .i64 a0_0) := (blk_cell BK217.out 0).trans rfl
          have hcz11_1 : w3.cell? ⟨gb217, 1, none⟩ = some (.string a0_1) := (blk_cell BK217.out 1).trans rfl
          have hcz11_2 : w3.cell? ⟨gb217, 2, none⟩ = some (.int .i64 a0_2) := (blk_cell BK217.out 2).trans rfl
          have hcz11_3 : w3.cell? ⟨gb217, 3, none⟩ = some (.slice A0_3 l0_3.length c0_3) := (blk_cell BK217.out 3).trans rfl
          have hcz11_4 : w3.cell? ⟨gb217, 4, none⟩ = some (.slice A0_4 l0_4.length c0_4) := (blk_cell BK217.out 4).trans rfl
          have hcz11_5 : w3.cell? ⟨gb217, 5, none⟩ = some (.slice A0_5 l0_5.length c0_5) := (blk_cell BK217.out 5).trans rfl
          have hfz11_0 := blk_frozen BK217.out 0
          have hfz11_1 := blk_frozen BK217.out 1
          have hfz11_2 := blk_frozen BK217.out 2
          have hfz11_3 := blk_frozen BK217.out 3
          have hfz11_4 := blk_frozen BK217.out 4
          have hfz11_5 := blk_frozen BK217.out 5
          go_wp2_with (first | (go_at_call 25; (with_reducible refine (chalklineref06_Size.calls k a0_0 a0_1 a0_2 _ _ l0_3 _ _ l0_4 _ _ l0_5 t218 _ ?side1 ?side2 ?side3 ?side4 ?side5 ?side6 A10.out).mono ?_); (case side1 => repeat (first | exact (Kd.C_below HR0_3.out HB.out) | (with_reducible refine Kd.C_alloc ?_ _) | (with_reducible refine Kd.C_drewN ?_ _) | (with_reducible refine Kd.C_drew ?_))); (case side2 => exact HC0_3.out); (case side3 => repeat (first | exact (Kd.C_below HR0_4.out HB.out) | (with_reducible refine Kd.C_alloc ?_ _) | (with_reducible refine Kd.C_drewN ?_ _) | (with_reducible refine Kd.C_drew ?_))); (case side4 => exact HC0_4.out); (case side5 => repeat (first | exact (Kd.C_below HR0_5.out HB.out) | (with_reducible refine Kd.C_alloc ?_ _) | (with_reducible refine Kd.C_drewN ?_ _) | (with_reducible refine Kd.C_drew ?_))); (case side6 => exact HC0_5.out); rintro e w12 ⟨rfl, hb⟩; have n0_ := Aside0.mk (blk_below (g := gb217) (o := .cells #[.int .i64 a0_0, .string a0_1, .int .i64 a0_2, .slice A0_3 l0_3.length c0_3, .slice A0_4 l0_4.length c0_4, .slice A0_5 l0_5.length c0_5] 26 (0, 0)) (by (with_reducible repeat (first | refine blk_drewN ?_ _ | refine blk_drew ?_ | refine blk_alloc ?_ _)); exact BK217.out) hb); have n1_ := Aside0.mk (below_step (by repeat (first | (with_reducible first | exact HB.out | apply below_alloc | apply pw_below_drewN | apply below_drew1 | refine below_set ?_ GE217.out) | exact HB.out)) hb); clear BK217; clear HB; have BK217 := n0_; have HB := n1_; clear n0_ n1_; (try clear hb); (try clear hb2); (try clear hk); (try clear hi)))
          go_meet
          case rel => exact ⟨_, (decide (t218 > 300)), (by first | rfl | (simp; done) | (simp [*]; done)), H', ⟨by first | omega | exact Nat.le_refl _⟩, ⟨by (with_reducible repeat (first | refine blk_drewN ?_ _ | refine blk_drew ?_ | refine blk_alloc ?_ _)); exact BK217.out⟩, ⟨by repeat (first | (with_reducible first | exact HB.out | apply below_alloc | apply pw_below_drewN | apply below_drew1 | refine below_set ?_ GE217.out) | exact HB.out)⟩⟩
  case rest =>
    clear HC2
    try clear p2
    try clear c4
    try clear c4b0
    try clear c4b1
    try clear c6
    try clear c6b0
    try clear c6b1
    try clear c8
    try clear c8b0
    try clear c8b1
    try clear hcz11_0
    try clear hcz11_1
    try clear hcz11_2
    try clear hcz11_3
    try clear hcz11_4
    try clear hcz11_5
    try clear hcz5_0
    try clear hcz5_1
    try clear hcz5_2
    try clear hcz5_3
    try clear hcz5_4
    try clear hcz5_5
    try clear hcz7_0
    try clear hcz7_1
    try clear hcz7_2
    try clear hcz7_3
    try clear hcz7_4
    try clear hcz7_5
    try clear hcz9_0
    try clear hcz9_1
    try clear hcz9_2
    try clear hcz9_3
    try clear hcz9_4
    try clear hcz9_5
    try clear hfz11_0
    try clear hfz11_1
    try clear hfz11_2
    try clear hfz11_3
    try clear hfz11_4
    try clear hfz11_5
    try clear hfz5_0
    try clear hfz5_1
    try clear hfz5_2
    try clear hfz5_3
    try clear hfz5_4
    try clear hfz5_5
    try clear hfz7_0
    try clear hfz7_1
    try clear hfz7_2
    try clear hfz7_3
    try clear hfz7_4
    try clear hfz7_5
    try clear hfz9_0
    try clear hfz9_1
    try clear hfz9_2
    try clear hfz9_3
    try clear hfz9_4
    try clear hfz9_5
    obtain ⟨kq, x24_1, rfl, HA, HJ1, BK217, HB⟩ := hcut
    cases kq with
    | zero => exact absurd HA.out (by simp [chalklineref08_Few.j0])
    | succ kj1 =>
      have H := HA.out
      clear HA
      simp only [chalklineref08_Few.j0] at H
      by_cases c13 : x24_1 = true
      · subst c13
        have H1 : (some false) = some r := by rw [if_pos rfl] at H; exact H
        clear H
        have H := H1
        clear H1
        obtain rfl := Option.some.inj H
        go_wp2
        go_ret
        exact ⟨by first | rfl | (simp [errW_none, errW_some] <;> rfl) | (simp [*, errW_none, errW_some] <;> rfl), by repeat (first | (with_reducible first | exact HB.out | apply below_alloc | apply pw_below_drewN | apply below_drew1 | refine below_set ?_ GE217.out) | exact HB.out)⟩
      · replace c13 := Bool.eq_false_iff.mpr c13
        subst c13
        have H1 : (chalklineref08_Few.l0 kj1 0 a0_0 a0_1 a0_2 l0_3 l0_4 l0_5) = some r := by rw [if_neg (show ¬ (false = true) by decide)] at H; exact H
        clear H
        have H := H1
        clear H1
        have H' := Aside0.mk H
        clear H
        go_wp2
        go_loopg [3] kj1 (fun kq v3 w' => ∃ (x3_2 : Int), v3 = .int .i64 x3_2 ∧ Aside0 (chalklineref08_Few.l0 kq x3_2 a0_0 a0_1 a0_2 l0_3 l0_4 l0_5 = some r) ∧ Aside0 (kq ≤ kj1) ∧ Aside0 (w'.heap[gb217]? = some (.cells #[.int .i64 a0_0, .string a0_1, .int .i64 a0_2, (.slice A0_3 l0_3.length c0_3), (.slice A0_4 l0_4.length c0_4), (.slice A0_5 l0_5.length c0_5)] 26 (0, 0))) ∧ Aside0 (Below w.heap.size w w'))
        case atStart => exact ⟨(0), (by first | rfl | (simp; done) | (simp [*]; done)), H', ⟨Nat.le_refl _⟩, ⟨by (with_reducible repeat (first | refine blk_drewN ?_ _ | refine blk_drew ?_ | refine blk_alloc ?_ _)); exact BK217.out⟩, ⟨by repeat (first | (with_reducible first | exact HB.out | apply below_alloc | apply pw_below_drewN | apply below_drew1 | refine below_set ?_ GE217.out) | exact HB.out)⟩⟩
        case round =>
          clear H'
          try clear c1
          try clear p2
          try clear c4
          try clear c4b0
          try clear c4b1
          try clear c6
          try clear c6b0
          try clear c6b1
          try clear c8
          try clear c8b0
          try clear c8b1
          try clear c13
          try clear hcz11_0
          try clear hcz11_1
          try clear hcz11_2
          try clear hcz11_3
          try clear hcz11_4
          try clear hcz11_5
          try clear hcz5_0
          try clear hcz5_1
          try clear hcz5_2
          try clear hcz5_3
          try clear hcz5_4
          try clear hcz5_5
          try clear hcz7_0
          try clear hcz7_1
          try clear hcz7_2
          try clear hcz7_3
          try clear hcz7_4
          try clear hcz7_5
          try clear hcz9_0
          try clear hcz9_1
          try clear hcz9_2
          try clear hcz9_3
          try clear hcz9_4
          try clear hcz9_5
          try clear hfz11_0
          try clear hfz11_1
          try clear hfz11_2
          try clear hfz11_3
          try clear hfz11_4
          try clear hfz11_5
          try clear hfz5_0
          try clear hfz5_1
          try clear hfz5_2
          try clear hfz5_3
          try clear hfz5_4
          try clear hfz5_5
          try clear hfz7_0
          try clear hfz7_1
          try clear hfz7_2
          try clear hfz7_3
          try clear hfz7_4
          try clear hfz7_5
          try clear hfz9_0
          try clear hfz9_1
          try clear hfz9_2
          try clear hfz9_3
          try clear hfz9_4
          try clear hfz9_5
          try clear p2
          obtain ⟨x3_2, rfl, HA, HK2, BK217, HB⟩ := hrel
          cases gk with
          | zero => exact absurd HA.out (by simp [chalklineref08_Few.l0])
          | succ k2 =>
            have H := HA.out
            clear HA
            simp only [chalklineref08_Few.l0] at H
            by_cases c14 : x3_2 < (l0_5.length : Int)
            · rw [if_pos c14] at H
              have c14b0 : decide (x3_2 < (l0_5.length : Int)) = true := decide_eq_true c14
              clear c14
              by_cases c15 : 0 ≤ x3_2
              · rw [if_pos c15] at H
                have c15b0 : decide (0 ≤ x3_2) = true := decide_eq_true c15
                clear c15
                replace H := Option.bind_eq_some_iff.mp H
                obtain ⟨t220, A160, H⟩ := H
                replace H : (if t220 = true then (chalklineref08_Few.l0 k2 (wrap64 (x3_2 + 1)) a0_0 a0_1 a0_2 l0_3 l0_4 l0_5) else (some false)) = some r := H
                have A16 := Aside0.mk A160
                clear A160
                by_cases c17 : t220 = true
                · subst c17
                  have H1 : (chalklineref08_Few.l0 k2 (wrap64 (x3_2 + 1)) a0_0 a0_1 a0_2 l0_3 l0_4 l0_5) = some r := by rw [if_pos rfl] at H; exact H
                  clear H
                  have H := H1
                  clear H1
                  have H' := Aside0.mk H
                  clear H
                  have hcz18_0 : wr.cell? ⟨gb217, 0, none⟩ = some (.int .i64 a0_0) := (blk_cell BK217.out 0).trans rfl
                  have hcz18_1 : wr.cell? ⟨gb217, 1, none⟩ = some (.string a0_1) := (blk_cell BK217.out 1).trans rfl
                  have hcz18_2 : wr.cell? ⟨gb217, 2, none⟩ = some (.int .i64 a0_2) := (blk_cell BK217.out 2).trans rfl
                  have hcz18_3 : wr.cell? ⟨gb217, 3, none⟩ = some (.slice A0_3 l0_3.length c0_3) := (blk_cell BK217.out 3).trans rfl
                  have hcz18_4 : wr.cell? ⟨gb217, 4, none⟩ = some (.slice A0_4 l0_4.length c0_4) := (blk_cell BK217.out 4).trans rfl
                  have hcz18_5 : wr.cell? ⟨gb217, 5, none⟩ = some (.slice A0_5 l0_5.length c0_5) := (blk_cell BK217.out 5).trans rfl
                  have hfz18_0 := blk_frozen BK217.out 0
                  have hfz18_1 := blk_frozen BK217.out 1
                  have hfz18_2 := blk_frozen BK217.out 2
                  have hfz18_3 := blk_frozen BK217.out 3
                  have hfz18_4 := blk_frozen BK217.out 4
                  have hfz18_5 := blk_frozen BK217.out 5
                  have p219 : 0 ≤ (x3_2 : Int) := of_decide_eq_true (by first | (with_reducible assumption) | assumption)
                  have q219 : x3_2 < (l0_5.length : Int) := of_decide_eq_true (by first | (with_reducible assumption) | assumption)
                  obtain ⟨ad219, A219_3, c219_3, A219_4, c219_4, A219_5, c219_5, e219, hx219_0, hx219_1, hx219_2, hx219_3, hx219_4, hx219_5, hl219_3, hi219_3, hl219_4, hi219_4, hl219_5, hi219_5⟩ := at_T26 HR0_5.out x3_2 p219 q219
                  cases e219
                  replace hx219_0 := (HB.out.cell (World.block_lt_of_cell? w _ hx219_0)).trans hx219_0
                  replace hx219_1 := (HB.out.cell (World.block_lt_of_cell? w _ hx219_1)).trans hx219_1
                  replace hx219_2 := (HB.out.cell (World.block_lt_of_cell? w _ hx219_2)).trans hx219_2
                  replace hx219_3 := (HB.out.cell (World.block_lt_of_cell? w _ hx219_3)).trans hx219_3
                  replace hx219_4 := (HB.out.cell (World.block_lt_of_cell? w _ hx219_4)).trans hx219_4
                  replace hx219_5 := (HB.out.cell (World.block_lt_of_cell? w _ hx219_5)).trans hx219_5
                  have HR219_3 := Aside0.mk hi219_3
                  have HC219_3 := Aside0.mk hl219_3
                  clear hi219_3 hl219_3
                  have HR219_4 := Aside0.mk hi219_4
                  have HC219_4 := Aside0.mk hl219_4
                  clear hi219_4 hl219_4
                  have HR219_5 := Aside0.mk hi219_5
                  have HC219_5 := Aside0.mk hl219_5
                  clear hi219_5 hl219_5
                  replace p219 := eq_true p219
                  replace q219 := eq_true q219
                  go_wp2_with (first | ((with_reducible refine gate_callee (f := 64) rfl ?_); refine goesL_ (some 37) rfl rfl Tryd.func64 (by kernel_rfl) rfl #[.agg #[.int .i64 ((rd_T26 l0_5 x3_2).f0), .string ((rd_T26 l0_5 x3_2).f1), .int .i64 ((rd_T26 l0_5 x3_2).f2), .slice A219_3 ((rd_T26 l0_5 x3_2).f3).length c219_3, .slice A219_4 ((rd_T26 l0_5 x3_2).f4).length c219_4, .slice A219_5 ((rd_T26 l0_5 x3_2).f5).length c219_5]] rfl (by (try simp only [List.map_toArray, List.map_cons, List.map_nil]); first | done | rfl | (simp only [List.length_drop, List.length_take]; rfl)) ?_; (with_reducible refine (ih k2 (by have := HJ1.out; have := HK2.out; omega) ((rd_T26 l0_5 x3_2).f0) ((rd_T26 l0_5 x3_2).f1) ((rd_T26 l0_5 x3_2).f2) _ _ ((rd_T26 l0_5 x3_2).f3) _ _ ((rd_T26 l0_5 x3_2).f4) _ _ ((rd_T26 l0_5 x3_2).f5) true _ ?side1 ?side2 ?side3 ?side4 ?side5 ?side6 A16.out).mono ?_); (case side1 => repeat (first | exact (Kd.C_below HR219_3.out HB.out) | (with_reducible refine Kd.C_alloc ?_ _) | (with_reducible refine Kd.C_drewN ?_ _) | (with_reducible refine Kd.C_drew ?_))); (case side2 => exact HC219_3.out); (case side3 => repeat (first | exact (Kd.C_below HR219_4.out HB.out) | (with_reducible refine Kd.C_alloc ?_ _) | (with_reducible refine Kd.C_drewN ?_ _) | (with_reducible refine Kd.C_drew ?_))); (case side4 => exact HC219_4.out); (case side5 => repeat (first | exact (Kd.C_below HR219_5.out HB.out) | (with_reducible refine Kd.C_alloc ?_ _) | (with_reducible refine Kd.C_drewN ?_ _) | (with_reducible refine Kd.C_drew ?_))); (case side6 => exact HC219_5.out); rintro e w19 ⟨rfl, hb⟩; refine ⟨_, rfl, ?_⟩; have n0_ := Aside0.mk (blk_below (g := gb217) (o := .cells #[.int .i64 a0_0, .string a0_1, .int .i64 a0_2, .slice A0_3 l0_3.length c0_3, .slice A0_4 l0_4.length c0_4, .slice (some ad219) l0_5.length c0_5] 26 (0, 0)) (by (with_reducible repeat (first | refine blk_drewN ?_ _ | refine blk_drew ?_ | refine blk_alloc ?_ _)); exact BK217.out) hb); have n1_ := Aside0.mk (below_step (by repeat (first | (with_reducible first | exact HB.out | apply below_alloc | apply pw_below_drewN | apply below_drew1 | refine below_set ?_ GE217.out) | exact HB.out)) hb); clear BK217; clear HB; have BK217 := n0_; have HB := n1_; clear n0_ n1_; (try clear hb); (try clear hb2); (try clear hk); (try clear hi)))
                  go_roundg k2
                  case measure => have := HJ1.out; have := HK2.out; omega
                  case rel => exact ⟨(wrap64 (x3_2 + 1)), (by first | rfl | (simp; done) | (simp [*]; done)), H', ⟨by have := HJ1.out; have := HK2.out; omega⟩, ⟨by (with_reducible repeat (first | refine blk_drewN ?_ _ | refine blk_drew ?_ | refine blk_alloc ?_ _)); exact BK217.out⟩, ⟨by repeat (first | (with_reducible first | exact HB.out | apply below_alloc | apply pw_below_drewN | apply below_drew1 | refine below_set ?_ GE217.out) | exact HB.out)⟩⟩
                · replace c17 := Bool.eq_false_iff.mpr c17
                  subst c17
                  have H1 : (some false) = some r := by rw [if_neg (show ¬ (false = true) by decide)] at H; exact H
                  clear H
                  have H := H1
                  clear H1
                  obtain rfl := Option.some.inj H
                  have hcz20_0 : wr.cell? ⟨gb217, 0, none⟩ = some (.int .i64 a0_0) := (blk_cell BK217.out 0).trans rfl
                  have hcz20_1 : wr.cell? ⟨gb217, 1, none⟩ = some (.string a0_1) := (blk_cell BK217.out 1).trans rfl
                  have hcz20_2 : wr.cell? ⟨gb217, 2, none⟩ = some (.int .i64 a0_2) := (blk_cell BK217.out 2).trans rfl
                  have hcz20_3 : wr.cell? ⟨gb217, 3, none⟩ = some (.slice A0_3 l0_3.length c0_3) := (blk_cell BK217.out 3).trans rfl
                  have hcz20_4 : wr.cell? ⟨gb217, 4, none⟩ = some (.slice A0_4 l0_4.length c0_4) := (blk_cell BK217.out 4).trans rfl
                  have hcz20_5 : wr.cell? ⟨gb217, 5, none⟩ = some (.slice A0_5 l0_5.length c0_5) := (blk_cell BK217.out 5).trans rfl
                  have hfz20_0 := blk_frozen BK217.out 0
                  have hfz20_1 := blk_frozen BK217.out 1
                  have hfz20_2 := blk_frozen BK217.out 2
                  have hfz20_3 := blk_frozen BK217.out 3
                  have hfz20_4 := blk_frozen BK217.out 4
                  have hfz20_5 := blk_frozen BK217.out 5
                  have p219 : 0 ≤ (x3_2 : Int) := of_decide_eq_true (by first | (with_reducible assumption) | assumption)
                  have q219 : x3_2 < (l0_5.length : Int) := of_decide_eq_true (by first | (with_reducible assumption) | assumption)
                  obtain ⟨ad219, A219_3, c219_3, A219_4, c219_4, A219_5, c219_5, e219, hx219_0, hx219_1, hx219_2, hx219_3, hx219_4, hx219_5, hl219_3, hi219_3, hl219_4, hi219_4, hl219_5, hi219_5⟩ := at_T26 HR0_5.out x3_2 p219 q219
                  cases e219
                  replace hx219_0 := (HB.out.cell (World.block_lt_of_cell? w _ hx219_0)).trans hx219_0
                  replace hx219_1 := (HB.out.cell (World.block_lt_of_cell? w _ hx219_1)).trans hx219_1
                  replace hx219_2 := (HB.out.cell (World.block_lt_of_cell? w _ hx219_2)).trans hx219_2
                  replace hx219_3 := (HB.out.cell (World.block_lt_of_cell? w _ hx219_3)).trans hx219_3
                  replace hx219_4 := (HB.out.cell (World.block_lt_of_cell? w _ hx219_4)).trans hx219_4
                  replace hx219_5 := (HB.out.cell (World.block_lt_of_cell? w _ hx219_5)).trans hx219_5
                  have HR219_3 := Aside0.mk hi219_3
                  have HC219_3 := Aside0.mk hl219_3
                  clear hi219_3 hl219_3
                  have HR219_4 := Aside0.mk hi219_4
                  have HC219_4 := Aside0.mk hl219_4
                  clear hi219_4 hl219_4
                  have HR219_5 := Aside0.mk hi219_5
                  have HC219_5 := Aside0.mk hl219_5
                  clear hi219_5 hl219_5
                  replace p219 := eq_true p219
                  replace q219 := eq_true q219
                  go_wp2_with (first | ((with_reducible refine gate_callee (f := 64) rfl ?_); refine goesL_ (some 37) rfl rfl Tryd.func64 (by kernel_rfl) rfl #[.agg #[.int .i64 ((rd_T26 l0_5 x3_2).f0), .string ((rd_T26 l0_5 x3_2).f1), .int .i64 ((rd_T26 l0_5 x3_2).f2), .slice A219_3 ((rd_T26 l0_5 x3_2).f3).length c219_3, .slice A219_4 ((rd_T26 l0_5 x3_2).f4).length c219_4, .slice A219_5 ((rd_T26 l0_5 x3_2).f5).length c219_5]] rfl (by (try simp only [List.map_toArray, List.map_cons, List.map_nil]); first | done | rfl | (simp only [List.length_drop, List.length_take]; rfl)) ?_; (with_reducible refine (ih k2 (by have := HJ1.out; have := HK2.out; omega) ((rd_T26 l0_5 x3_2).f0) ((rd_T26 l0_5 x3_2).f1) ((rd_T26 l0_5 x3_2).f2) _ _ ((rd_T26 l0_5 x3_2).f3) _ _ ((rd_T26 l0_5 x3_2).f4) _ _ ((rd_T26 l0_5 x3_2).f5) false _ ?side1 ?side2 ?side3 ?side4 ?side5 ?side6 A16.out).mono ?_); (case side1 => repeat (first | exact (Kd.C_below HR219_3.out HB.out) | (with_reducible refine Kd.C_alloc ?_ _) | (with_reducible refine Kd.C_drewN ?_ _) | (with_reducible refine Kd.C_drew ?_))); (case side2 => exact HC219_3.out); (case side3 => repeat (first | exact (Kd.C_below HR219_4.out HB.out) | (with_reducible refine Kd.C_alloc ?_ _) | (with_reducible refine Kd.C_drewN ?_ _) | (with_reducible refine Kd.C_drew ?_))); (case side4 => exact HC219_4.out); (case side5 => repeat (first | exact (Kd.C_below HR219_5.out HB.out) | (with_reducible refine Kd.C_alloc ?_ _) | (with_reducible refine Kd.C_drewN ?_ _) | (with_reducible refine Kd.C_drew ?_))); (case side6 => exact HC219_5.out); rintro e w21 ⟨rfl, hb⟩; refine ⟨_, rfl, ?_⟩; have n0_ := Aside0.mk (blk_below (g := gb217) (o := .cells #[.int .i64 a0_0, .string a0_1, .int .i64 a0_2, .slice A0_3 l0_3.length c0_3, .slice A0_4 l0_4.length c0_4, .slice (some ad219) l0_5.length c0_5] 26 (0, 0)) (by (with_reducible repeat (first | refine blk_drewN ?_ _ | refine blk_drew ?_ | refine blk_alloc ?_ _)); exact BK217.out) hb); have n1_ := Aside0.mk (below_step (by repeat (first | (with_reducible first | exact HB.out | apply below_alloc | apply pw_below_drewN | apply below_drew1 | refine below_set ?_ GE217.out) | exact HB.out)) hb); clear BK217; clear HB; have BK217 := n0_; have HB := n1_; clear n0_ n1_; (try clear hb); (try clear hb2); (try clear hk); (try clear hi)))
                  go_ret
                  exact ⟨by first | rfl | (simp [errW_none, errW_some] <;> rfl) | (simp [*, errW_none, errW_some] <;> rfl), by repeat (first | (with_reducible first | exact HB.out | apply below_alloc | apply pw_below_drewN | apply below_drew1 | refine below_set ?_ GE217.out) | exact HB.out)⟩
              · rw [if_neg c15] at H
                exact absurd H (by simp)
            · rw [if_neg c14] at H
              have c14b0 : decide (x3_2 < (l0_5.length : Int)) = false := decide_eq_false c14
              clear c14
              obtain rfl := Option.some.inj H
              have hcz22_0 : wr.cell? ⟨gb217, 0, none⟩ = some (.int .i64 a0_0) := (blk_cell BK217.out 0).trans rfl
              have hcz22_1 : wr.cell? ⟨gb217, 1, none⟩ = some (.string a0_1) := (blk_cell BK217.out 1).trans rfl
              have hcz22_2 : wr.cell? ⟨gb217, 2, none⟩ = some (.int .i64 a0_2) := (blk_cell BK217.out 2).trans rfl
              have hcz22_3 : wr.cell? ⟨gb217, 3, none⟩ = some (.slice A0_3 l0_3.length c0_3) := (blk_cell BK217.out 3).trans rfl
              have hcz22_4 : wr.cell? ⟨gb217, 4, none⟩ = some (.slice A0_4 l0_4.length c0_4) := (blk_cell BK217.out 4).trans rfl
              have hcz22_5 : wr.cell? ⟨gb217, 5, none⟩ = some (.slice A0_5 l0_5.length c0_5) := (blk_cell BK217.out 5).trans rfl
              have hfz22_0 := blk_frozen BK217.out 0
              have hfz22_1 := blk_frozen BK217.out 1
              have hfz22_2 := blk_frozen BK217.out 2
              have hfz22_3 := blk_frozen BK217.out 3
              have hfz22_4 := blk_frozen BK217.out 4
              have hfz22_5 := blk_frozen BK217.out 5
              go_wp2
              go_ret
              exact ⟨by first | rfl | (simp [errW_none, errW_some] <;> rfl) | (simp [*, errW_none, errW_some] <;> rfl), by repeat (first | (with_reducible first | exact HB.out | apply below_alloc | apply pw_below_drewN | apply below_drew1 | refine below_set ?_ GE217.out) | exact HB.out)⟩
end Go.Proofs.YtmlcaecknocpoaaDoor.Pr
namespace Go.Proofs.YtmlcaecknocpoaaDoor.Pr
open Go.RowKit Go.Proofs.YtmlcaecknocpoaaDoorW.PrintWords Go.Proofs.YtmlcaecknocpoaaDoorW.PrintLast Go.Proofs.YtmlcaecknocpoaaDoorW.PrintMore
attribute [local go_sem] max2_int min2_int max_two min_two max_three min_three max_four min_four   
set_option linter.unusedVariables false
set_option linter.unusedSimpArgs false
def chalklinelaw08_few.f (k : Nat) (l0 : List (S42)) (a1_0 : Int) (a1_1 : ByteArray) (a1_2 : Int) (l1_3 : List (S47)) (l1_4 : List (S42)) (l1_5 : List (S26)) : Option (Bool) := if (l0.length : Int) ≤ 30 then ((chalklineref08_Few.f k a1_0 a1_1 a1_2 l1_3 l1_4 l1_5).bind fun t222 => (some t222)) else (some false)
set_option maxHeartbeats 8000000 in
set_option maxRecDepth 100000 in
theorem chalklinelaw08_few.calls (k : Nat) (A0 : Option Addr) (c0 : Nat) (l0 : List (S42)) (a1_0 : Int) (a1_1 : ByteArray) (a1_2 : Int) (A1_3 : Option Addr) (c1_3 : Nat) (l1_3 : List (S47)) (A1_4 : Option Addr) (c1_4 : Nat) (l1_4 : List (S42)) (A1_5 : Option Addr) (c1_5 : Nat) (l1_5 : List (S26)) (r : Bool) (w : World) (hr0 : Kd.C k42 w A0 l0.length l0) (hc0 : l0.length ≤ c0) (hr1_3 : Kd.C k47 w A1_3 l1_3.length l1_3) (hc1_3 : l1_3.length ≤ c1_3) (hr1_4 : Kd.C k42 w A1_4 l1_4.length l1_4) (hc1_4 : l1_4.length ≤ c1_4) (hr1_5 : Kd.C k26 w A1_5 l1_5.length l1_5) (hc1_5 : l1_5.length ≤ c1_5) (h : chalklinelaw08_few.f k l0 a1_0 a1_1 a1_2 l1_3 l1_4 l1_5 = some r) :
    Calls Tryd.prog 37 #[.slice A0 l0.length c0, .agg #[.int .i64 a1_0, .string a1_1, .int .i64 a1_2, .slice A1_3 l1_3.length c1_3, .slice A1_4 l1_4.length c1_4, .slice A1_5 l1_5.length c1_5]] w fun e w' => e = .returned (.bool r) ∧ Below w.heap.size w w' := by
  have hu26 := Tryd.underlying26
  have HR0 := Aside0.mk hr0
  have HC0 := Aside0.mk hc0
  clear hr0 hc0
  have HR1_3 := Aside0.mk hr1_3
  have HC1_3 := Aside0.mk hc1_3
  clear hr1_3 hc1_3
  have HR1_4 := Aside0.mk hr1_4
  have HC1_4 := Aside0.mk hc1_4
  clear hr1_4 hc1_4
  have HR1_5 := Aside0.mk hr1_5
  have HC1_5 := Aside0.mk hc1_5
  clear hr1_5 hc1_5
  have HB := Aside0.mk (Below.refl w.heap.size w)
  have H : (if (l0.length : Int) ≤ 30 then ((chalklineref08_Few.f k a1_0 a1_1 a1_2 l1_3 l1_4 l1_5).bind fun t222 => (some t222)) else (some false)) = some r := h
  clear h
  by_cases c3 : (l0.length : Int) ≤ 30
  · rw [if_pos c3] at H
    have c3b0 : decide ((l0.length : Int) ≤ 30) = true := decide_eq_true c3
    have c3b1 : decide (l0.length ≤ 30) = true := decide_eq_true (by omega)
    clear c3
    replace H := Option.bind_eq_some_iff.mp H
    obtain ⟨t222, A40, H⟩ := H
    replace H : (some t222) = some r := H
    have A4 := Aside0.mk A40
    clear A40
    obtain rfl := Option.some.inj H
    go_enter Tryd.func37, Tryd.ntmps37
    go_wp2_with (first | ((with_reducible refine gate_dst (N := 3) rfl ?_); refine box_event ?hg (N := 3) ?hd (cs := #[.int .i64 a1_0, .string a1_1, .int .i64 a1_2, .slice A1_3 l1_3.length c1_3, .slice A1_4 l1_4.length c1_4, .slice A1_5 l1_5.length c1_5]) (t := 26) ?hr ?_; (case hd => rfl); (case hg => rfl); (case hr => first | (go_simp; done) | (go_simp; rfl)); intro gb221 hg w5 hbox hb; have n0_ := Aside0.mk (below_step (by repeat (first | (with_reducible first | exact HB.out | apply below_alloc | apply pw_below_drewN | apply below_drew1) | exact HB.out)) hb); have n1_ := Aside0.mk (hbox); have n2_ := Aside0.mk ((by rw [hg]; exact (below_size (by repeat (first | (with_reducible first | exact HB.out | apply below_alloc | apply pw_below_drewN | apply below_drew1) | exact HB.out))) : w.heap.size ≤ gb221)); have n3_ := Aside0.mk ((by rw [hg]; exact (below_size (by repeat (first | (with_reducible first | exact HB.out | apply below_alloc | apply pw_below_drewN | apply below_drew1) | exact HB.out))) : w.heap.size ≤ gb221)); clear HB; have HB := n0_; have BK221 := n1_; have GW221 := n2_; have GE221 := n3_; clear n0_ n1_ n2_ n3_; clear hb hbox hg; have hcz6_0 : w5.cell? ⟨gb221, 0, none⟩ = some (.int .i64 a1_0) := (blk_cell BK221.out 0).trans rfl; have hcz6_1 : w5.cell? ⟨gb221, 1, none⟩ = some (.string a1_1) := (blk_cell BK221.out 1).trans rfl; have hcz6_2 : w5.cell? ⟨gb221, 2, none⟩ = some (.int .i64 a1_2) := (blk_cell BK221.out 2).trans rfl; have hcz6_3 : w5.cell? ⟨gb221, 3, none⟩ = some (.slice A1_3 l1_3.length c1_3) := (blk_cell BK221.out 3).trans rfl; have hcz6_4 : w5.cell? ⟨gb221, 4, none⟩ = some (.slice A1_4 l1_4.length c1_4) := (blk_cell BK221.out 4).trans rfl; have hcz6_5 : w5.cell? ⟨gb221, 5, none⟩ = some (.slice A1_5 l1_5.length c1_5) := (blk_cell BK221.out 5).trans rfl; have hfz6_0 := blk_frozen BK221.out 0; have hfz6_1 := blk_frozen BK221.out 1; have hfz6_2 := blk_frozen BK221.out 2; have hfz6_3 := blk_frozen BK221.out 3; have hfz6_4 := blk_frozen BK221.out 4; have hfz6_5 := blk_frozen BK221.out 5) | (go_at_call 64; (with_reducible refine (chalklineref08_Few.calls k a1_0 a1_1 a1_2 _ _ l1_3 _ _ l1_4 _ _ l1_5 t222 _ ?side1 ?side2 ?side3 ?side4 ?side5 ?side6 A4.out).mono ?_); (case side1 => repeat (first | exact (Kd.C_below HR1_3.out HB.out) | (with_reducible refine Kd.C_alloc ?_ _) | (with_reducible refine Kd.C_drewN ?_ _) | (with_reducible refine Kd.C_drew ?_))); (case side2 => exact HC1_3.out); (case side3 => repeat (first | exact (Kd.C_below HR1_4.out HB.out) | (with_reducible refine Kd.C_alloc ?_ _) | (with_reducible refine Kd.C_drewN ?_ _) | (with_reducible refine Kd.C_drew ?_))); (case side4 => exact HC1_4.out); (case side5 => repeat (first | exact (Kd.C_below HR1_5.out HB.out) | (with_reducible refine Kd.C_alloc ?_ _) | (with_reducible refine Kd.C_drewN ?_ _) | (with_reducible refine Kd.C_drew ?_))); (case side6 => exact HC1_5.out); rintro e w7 ⟨rfl, hb⟩; have n0_ := Aside0.mk (blk_below (g := gb221) (o := .cells #[.int .i64 a1_0, .string a1_1, .int .i64 a1_2, .slice A1_3 l1_3.length c1_3, .slice A1_4 l1_4.length c1_4, .slice A1_5 l1_5.length c1_5] 26 (0, 0)) (by (with_reducible repeat (first | refine blk_drewN ?_ _ | refine blk_drew ?_ | refine blk_alloc ?_ _)); exact BK221.out) hb); have n1_ := Aside0.mk (below_step (by repeat (first | (with_reducible first | exact HB.out | apply below_alloc | apply pw_below_drewN | apply below_drew1 | refine below_set ?_ GE221.out) | exact HB.out)) hb); clear BK221; clear HB; have BK221 := n0_; have HB := n1_; clear n0_ n1_; (try clear hb); (try clear hb2); (try clear hk); (try clear hi)))
    go_ret
    exact ⟨by first | rfl | (simp [errW_none, errW_some] <;> rfl) | (simp [*, errW_none, errW_some] <;> rfl), by repeat (first | (with_reducible first | exact HB.out | apply below_alloc | apply pw_below_drewN | apply below_drew1 | refine below_set ?_ GE221.out) | exact HB.out)⟩
  · rw [if_neg c3] at H
    have c3b0 : decide ((l0.length : Int) ≤ 30) = false := decide_eq_false c3
    have c3b1 : decide (l0.length ≤ 30) = false := decide_eq_false (by omega)
    clear c3
    obtain rfl := Option.some.inj H
    go_enter Tryd.func37, Tryd.ntmps37
    go_wp2_with (first | ((with_reducible refine gate_dst (N := 3) rfl ?_); refine box_event ?hg (N := 3) ?hd (cs := #[.int .i64 a1_0, .string a1_1, .int .i64 a1_2, .slice A1_3 l1_3.length c1_3, .slice A1_4 l1_4.length c1_4, .slice A1_5 l1_5.length c1_5]) (t := 26) ?hr ?_; (case hd => rfl); (case hg => rfl); (case hr => first | (go_simp; done) | (go_simp; rfl)); intro gb221 hg w8 hbox hb; have n0_ := Aside0.mk (below_step (by repeat (first | (with_reducible first | exact HB.out | apply below_alloc | apply pw_below_drewN | apply below_drew1) | exact HB.out)) hb); have n1_ := Aside0.mk (hbox); have n2_ := Aside0.mk ((by rw [hg]; exact (below_size (by repeat (first | (with_reducible first | exact HB.out | apply below_alloc | apply pw_below_drewN | apply below_drew1) | exact HB.out))) : w.heap.size ≤ gb221)); have n3_ := Aside0.mk ((by rw [hg]; exact (below_size (by repeat (first | (with_reducible first | exact HB.out | apply below_alloc | apply pw_below_drewN | apply below_drew1) | exact HB.out))) : w.heap.size ≤ gb221)); clear HB; have HB := n0_; have BK221 := n1_; have GW221 := n2_; have GE221 := n3_; clear n0_ n1_ n2_ n3_; clear hb hbox hg))
    go_ret
    exact ⟨by first | rfl | (simp [errW_none, errW_some] <;> rfl) | (simp [*, errW_none, errW_some] <;> rfl), by repeat (first | (with_reducible first | exact HB.out | apply below_alloc | apply pw_below_drewN | apply below_drew1 | refine below_set ?_ GE221.out) | exact HB.out)⟩
end Go.Proofs.YtmlcaecknocpoaaDoor.Pr
namespace Go.Proofs.YtmlcaecknocpoaaDoor.Pr
open Go.RowKit Go.Proofs.YtmlcaecknocpoaaDoorW.PrintWords Go.Proofs.YtmlcaecknocpoaaDoorW.PrintLast Go.Proofs.YtmlcaecknocpoaaDoorW.PrintMore
attribute [local go_sem] max2_int min2_int max_two min_two max_three min_three max_four min_four   
set_option linter.unusedVariables false
set_option linter.unusedSimpArgs false
end Go.Proofs.YtmlcaecknocpoaaDoor.Pr
namespace Go.Proofs.YtmlcaecknocpoaaDoor.Pr
open Go.RowKit Go.Proofs.YtmlcaecknocpoaaDoorW.PrintWords Go.Proofs.YtmlcaecknocpoaaDoorW.PrintLast Go.Proofs.YtmlcaecknocpoaaDoorW.PrintMore
attribute [local go_sem] max2_int min2_int max_two min_two max_three min_three max_four min_four   
set_option linter.unusedVariables false
set_option linter.unusedSimpArgs false
end Go.Proofs.YtmlcaecknocpoaaDoor.Pr
namespace Go.Proofs.YtmlcaecknocpoaaDoor.Pr
open Go.RowKit Go.Proofs.YtmlcaecknocpoaaDoorW.PrintWords Go.Proofs.YtmlcaecknocpoaaDoorW.PrintLast Go.Proofs.YtmlcaecknocpoaaDoorW.PrintMore
attribute [local go_sem] max2_int min2_int max_two min_two max_three min_three max_four min_four   
set_option linter.unusedVariables false
set_option linter.unusedSimpArgs false
end Go.Proofs.YtmlcaecknocpoaaDoor.Pr
namespace Go.Proofs.YtmlcaecknocpoaaDoor.Pr
open Go.RowKit Go.Proofs.YtmlcaecknocpoaaDoorW.PrintWords Go.Proofs.YtmlcaecknocpoaaDoorW.PrintLast Go.Proofs.YtmlcaecknocpoaaDoorW.PrintMore
attribute [local go_sem] max2_int min2_int max_two min_two max_three min_three max_four min_four   
set_option linter.unusedVariables false
set_option linter.unusedSimpArgs false
end Go.Proofs.YtmlcaecknocpoaaDoor.Pr
namespace Go.Proofs.YtmlcaecknocpoaaDoor.Pr
open Go.RowKit Go.Proofs.YtmlcaecknocpoaaDoorW.PrintWords Go.Proofs.YtmlcaecknocpoaaDoorW.PrintLast Go.Proofs.YtmlcaecknocpoaaDoorW.PrintMore
attribute [local go_sem] max2_int min2_int max_two min_two max_three min_three max_four min_four   
set_option linter.unusedVariables false
set_option linter.unusedSimpArgs false
end Go.Proofs.YtmlcaecknocpoaaDoor.Pr
namespace Go.Proofs.YtmlcaecknocpoaaDoor.Pr
open Go.RowKit Go.Proofs.YtmlcaecknocpoaaDoorW.PrintWords Go.Proofs.YtmlcaecknocpoaaDoorW.PrintLast Go.Proofs.YtmlcaecknocpoaaDoorW.PrintMore
attribute [local go_sem] max2_int min2_int max_two min_two max_three min_three max_four min_four   
set_option linter.unusedVariables false
set_option linter.unusedSimpArgs false
end Go.Proofs.YtmlcaecknocpoaaDoor.Pr
namespace Go.Proofs.YtmlcaecknocpoaaDoor.Pr
open Go.RowKit Go.Proofs.YtmlcaecknocpoaaDoorW.PrintWords Go.Proofs.YtmlcaecknocpoaaDoorW.PrintLast Go.Proofs.YtmlcaecknocpoaaDoorW.PrintMore
attribute [local go_sem] max2_int min2_int max_two min_two max_three min_three max_four min_four   
set_option linter.unusedVariables false
set_option linter.unusedSimpArgs false
end Go.Proofs.YtmlcaecknocpoaaDoor.Pr
namespace Go.Proofs.YtmlcaecknocpoaaDoor.Pr
open Go.RowKit Go.Proofs.YtmlcaecknocpoaaDoorW.PrintWords Go.Proofs.YtmlcaecknocpoaaDoorW.PrintLast Go.Proofs.YtmlcaecknocpoaaDoorW.PrintMore
attribute [local go_sem] max2_int min2_int max_two min_two max_three min_three max_four min_four   
set_option linter.unusedVariables false
set_option linter.unusedSimpArgs false
end Go.Proofs.YtmlcaecknocpoaaDoor.Pr
namespace Go.Proofs.YtmlcaecknocpoaaDoor.Pr
open Go.RowKit Go.Proofs.YtmlcaecknocpoaaDoorW.PrintWords Go.Proofs.YtmlcaecknocpoaaDoorW.PrintLast Go.Proofs.YtmlcaecknocpoaaDoorW.PrintMore
attribute [local go_sem] max2_int min2_int max_two min_two max_three min_three max_four min_four   
set_option linter.unusedVariables false
set_option linter.unusedSimpArgs false
end Go.Proofs.YtmlcaecknocpoaaDoor.Pr
namespace Go.Proofs.YtmlcaecknocpoaaDoor.Pr
open Go.RowKit Go.Proofs.YtmlcaecknocpoaaDoorW.PrintWords Go.Proofs.YtmlcaecknocpoaaDoorW.PrintLast Go.Proofs.YtmlcaecknocpoaaDoorW.PrintMore
attribute [local go_sem] max2_int min2_int max_two min_two max_three min_three max_four min_four   
set_option linter.unusedVariables false
set_option linter.unusedSimpArgs false
end Go.Proofs.YtmlcaecknocpoaaDoor.Pr
namespace Go.Proofs.YtmlcaecknocpoaaDoor.Pr
open Go.RowKit Go.Proofs.YtmlcaecknocpoaaDoorW.PrintWords Go.Proofs.YtmlcaecknocpoaaDoorW.PrintLast Go.Proofs.YtmlcaecknocpoaaDoorW.PrintMore
attribute [local go_sem] max2_int min2_int max_two min_two max_three min_three max_four min_four   
set_option linter.unusedVariables false
set_option linter.unusedSimpArgs false
end Go.Proofs.YtmlcaecknocpoaaDoor.Pr
namespace Go.Proofs.YtmlcaecknocpoaaDoor.It
set_option linter.unusedVariables false
set_option linter.unusedSimpArgs false
open Go Go.RowKit Go.Shelf Go.Proofs.YtmlcaecknocpoaaDoorW.PrintWords Go.Proofs.YtmlcaecknocpoaaDoorW.PrintLast Go.Proofs.YtmlcaecknocpoaaDoor.Pr Go.Proofs.YtmlcaecknocpoaaDoor.Sp
theorem few8_ev (s : Nat) : ∀ x : S26, size x ≤ s → size x ≤ 4611686018427387904 → NmOk x → ∃ r : Bool, Ev (fun k => chalklineref08_Few.f k x.f0 x.f1 x.f2 x.f3 x.f4 x.f5) r := by
  induction s with
  | zero => intro x h; rw [size_eq] at h; omega
  | succ s ih =>
    rintro ⟨k, nm, n, ts, bs, l⟩ hs hb hn
    have hsz := refSize_ev (size ⟨k, nm, n, ts, bs, l⟩) ⟨k, nm, n, ts, bs, l⟩ (Nat.le_refl _) hb
    simp only [size] at hs hb
    have hlen := len_sizes l
    have loop : ∀ d j : Nat, j + d = l.length → ∃ r, Ev (fun K => chalklineref08_Few.l0 K (j : Int) k nm n ts bs l) r := by
      intro d
      induction d with
      | zero =>
        intro j hj
        refine ⟨true, Ev.step (f := fun _ => some true) (fun K => ?_) (Ev.now _)⟩
        simp only [chalklineref08_Few.l0]
        rw [if_neg (by omega)]
      | succ d ihd =>
        intro j hj
        have hlt : j < l.length := by omega
        have hc := size_child l j hlt
        obtain ⟨r1, h1⟩ := ih (rd_T26 l j) (by omega) (by omega) (hn.child j hlt)
        obtain ⟨r2, h2⟩ := ihd (j + 1) (by omega)
        refine ⟨if r1 = true then r2 else false, Ev.step (f := fun K => (chalklineref08_Few.f K (rd_T26 l (j : Int)).f0 (rd_T26 l (j : Int)).f1 (rd_T26 l (j : Int)).f2 (rd_T26 l (j : Int)).f3 (rd_T26 l (j : Int)).f4 (rd_T26 l (j : Int)).f5).bind fun t220 => if t220 = true then chalklineref08_Few.l0 K ((j + 1 : Nat) : Int) k nm n ts bs l else some false) (fun K => ?_) (Ev.bind h1 (Ev.ite (fun h => ?_) (fun h => ?_)))⟩
        · simp only [chalklineref08_Few.l0]
          rw [if_pos (by omega), if_pos (by omega), wrap_one j (by omega)]
        · rw [if_pos h]; exact h2
        · rw [if_neg h]; exact Ev.now _
    have j0 : ∀ b : Bool, ∃ r, Ev (fun K => chalklineref08_Few.j0 K b k nm n ts bs l) r := fun b => by
      cases b
      · obtain ⟨r, h⟩ := loop l.length 0 (by omega)
        refine ⟨r, Ev.step (f := fun K => chalklineref08_Few.l0 K ((0 : Nat) : Int) k nm n ts bs l) (fun K => ?_) h⟩
        simp only [chalklineref08_Few.j0, Bool.false_eq_true, if_false]
        rfl
      · refine ⟨false, Ev.step (f := fun _ => some false) (fun K => ?_) (Ev.now _)⟩
        simp only [chalklineref08_Few.j0, if_true]
    obtain ⟨r1, h1⟩ := j0 true
    obtain ⟨r2, h2⟩ := j0 (decide ((((size ⟨k, nm, n, ts, bs, l⟩ : Nat) : Int)) > 300))
    by_cases c1 : (l.length : Int) > 4
    · refine ⟨r1, Ev.step (f := fun K => chalklineref08_Few.j0 K true k nm n ts bs l) (fun K => ?_) h1⟩
      simp only [chalklineref08_Few.f]; rw [if_pos c1]
    · by_cases c2 : (ts.length : Int) > 4
      · refine ⟨r1, Ev.step (f := fun K => chalklineref08_Few.j0 K true k nm n ts bs l) (fun K => ?_) h1⟩
        simp only [chalklineref08_Few.f]; rw [if_neg c1, if_pos c2]
      · by_cases c3 : (bs.length : Int) > 10
        · refine ⟨r1, Ev.step (f := fun K => chalklineref08_Few.j0 K true k nm n ts bs l) (fun K => ?_) h1⟩
          simp only [chalklineref08_Few.f]; rw [if_neg c1, if_neg c2, if_pos c3]
        · refine ⟨r2, Ev.step (f := fun K => (chalklineref06_Size.f K k nm n ts bs l).bind fun t218 => chalklineref08_Few.j0 K (decide (t218 > 300)) k nm n ts bs l) (fun K => ?_) (Ev.bind hsz h2)⟩
          simp only [chalklineref08_Few.f]; rw [if_neg c1, if_neg c2, if_neg c3]
theorem lawfew_ev (env : List S42) (x : S26) (hs : size x ≤ 4611686018427387904) (hn : NmOk x) : ∃ r : Bool, (r = true → env.length ≤ 30) ∧ Ev (fun k => chalklinelaw08_few.f k env x.f0 x.f1 x.f2 x.f3 x.f4 x.f5) r := by
  obtain ⟨r, h⟩ := few8_ev (size x) x (Nat.le_refl _) hs hn
  by_cases c : (env.length : Int) ≤ 30
  · exact ⟨r, fun _ => by omega, Ev.congr (fun K => if_pos c) (Ev.bind h (Ev.now _))⟩
  · exact ⟨false, (fun h => by cases h), Ev.congr (fun K => if_neg c) (Ev.now _)⟩
end Go.Proofs.YtmlcaecknocpoaaDoor.It
namespace Go.Proofs.YtmlcaecknocpoaaDoor.Pr
open Go.RowKit Go.Proofs.YtmlcaecknocpoaaDoorW.PrintWords Go.Proofs.YtmlcaecknocpoaaDoorW.PrintLast Go.Proofs.YtmlcaecknocpoaaDoorW.PrintMore
attribute [local go_sem] max2_int min2_int max_two min_two max_three min_three max_four min_four   
set_option linter.unusedVariables false
set_option linter.unusedSimpArgs false
end Go.Proofs.YtmlcaecknocpoaaDoor.Pr
namespace Go.Proofs.YtmlcaecknocpoaaDoor.Sp
open Go.Proofs.YtmlcaecknocpoaaDoor.Pr
theorem rule_zero {r : S54} (h : rule r = 0) : typ r.f3 r.f4 = 0 ∧ check r.f4 = 0 := by
  unfold rule at h
  cases ha : (name r.f0 && weight r.f1 r.f2 && decide (r.f3.length ≤ 6) && r.f3.all bind)
  · rw [ha] at h; exact absurd h (by simp)
  · rw [ha, if_pos rfl] at h
    by_cases hc : check r.f4 = 0
    · rw [if_pos hc] at h
      cases hfr : fresh [] r.f3
      · rw [hfr] at h; exact absurd h (by simp)
      · rw [hfr, if_pos rfl] at h
        simp only [Bool.and_eq_true] at ha
        refine ⟨typ_zero.2 ⟨?_, hc, h⟩, hc⟩
        unfold envOk
        rw [ha.2, hfr]; rfl
    · rw [if_neg hc] at h; exact absurd h hc
theorem rulesFrom_says (l : List S54) : ∀ pre : List S54, ((rulesFrom pre l).2 = 0 ∧ (rulesFrom pre l).1 = 0 ∧ ∀ r ∈ l, rule r = 0) ∨
    (rulesFrom pre l).2 ≠ 0 ∧ ∃ j : Nat, j < l.length ∧ (rulesFrom pre l).1 = ((pre.length + j : Nat) : Int) ∧ (∀ i, i < j → ∀ r, l[i]? = some r → rule r = 0) ∧ (∀ r, l[j]? = some r → rule r = (rulesFrom pre l).2 ∨ (rulesFrom pre l).2 = 82) := by
  induction l with
  | nil => intro pre; exact .inl ⟨rfl, rfl, fun r h => by cases h⟩
  | cons x l ih =>
    intro pre
    rw [rulesFrom]
    by_cases h : rule x = 0
    · rw [if_pos h]
      cases hp : pre.any fun p => decide (p.f0 = x.f0)
      · rw [if_neg (by decide)]
        rcases ih (pre ++ [x]) with ⟨h1, h2, h3⟩ | ⟨h1, j, hj, h2, h3, h4⟩
        · refine .inl ⟨h1, h2, fun r hr => ?_⟩
          cases hr with
          | head => exact h
          | tail _ hr => exact h3 r hr
        · refine .inr ⟨h1, j + 1, by simp; omega, ?_, fun i hi r hr => ?_, fun r hr => ?_⟩
          · rw [h2, List.length_append, List.length_singleton]; omega
          · cases i with
            | zero => simp only [List.getElem?_cons_zero, Option.some.injEq] at hr; rw [← hr]; exact h
            | succ i => exact h3 i (by omega) r (by simpa using hr)
          · exact h4 r (by simpa using hr)
      · rw [if_pos rfl]
        exact .inr ⟨show (82 : Int) ≠ 0 by decide, 0, by simp, by simp, fun i hi => by omega, fun r _ => .inr rfl⟩
    · rw [if_neg h]
      refine .inr ⟨h, 0, by simp, by simp, fun i hi => by omega, fun r hr => ?_⟩
      simp only [List.getElem?_cons_zero, Option.some.injEq] at hr
      rw [← hr]
      exact .inl rfl
theorem rules_says (l : List S54) : ((rules l).2 = 0 ∧ (rules l).1 = 0 ∧ ∀ r ∈ l, rule r = 0) ∨
    (rules l).2 ≠ 0 ∧ ∃ j : Nat, j < l.length ∧ (rules l).1 = (j : Int) ∧ (∀ i, i < j → ∀ r, l[i]? = some r → rule r = 0) ∧ (∀ r, l[j]? = some r → rule r = (rules l).2 ∨ (rules l).2 = 82) := by
  have := rulesFrom_says l []
  simpa [rules] using this
end Go.Proofs.YtmlcaecknocpoaaDoor.Sp
namespace Go.Proofs.YtmlcaecknocpoaaDoor.It
set_option linter.unusedVariables false
set_option linter.unusedSimpArgs false
open Go Go.RowKit Go.Shelf Go.Proofs.YtmlcaecknocpoaaDoorW.PrintWords Go.Proofs.YtmlcaecknocpoaaDoorW.PrintLast Go.Proofs.YtmlcaecknocpoaaDoor.Pr Go.Proofs.YtmlcaecknocpoaaDoor.Sp
section
variable {w : World} {env : List S42} {A : Option Addr} {c : Nat} {x : S26} {A3 : Option Addr} {c3 : Nat} {A4 : Option Addr} {c4 : Nat} {A5 : Option Addr} {c5 : Nat}
theorem few8_calls (hE : EnvA w env A c) (ha : Arg w x A3 c3 A4 c4 A5 c5) : ∃ r : Bool, (r = true → env.length ≤ 30) ∧ ∀ W, Below w.heap.size w W → Calls Tryd.prog 37 #[.slice A env.length c, .agg #[.int .i64 x.f0, .string x.f1, .int .i64 x.f2, .slice A3 x.f3.length c3, .slice A4 x.f4.length c4, .slice A5 x.f5.length c5]] W
    fun e w' => e = .returned (.bool r) ∧ Below W.heap.size W w' := by
  obtain ⟨r, h30, hr⟩ := lawfew_ev env x ha.size ha.nm
  obtain ⟨k, hk⟩ := hr.rounds
  exact ⟨r, h30, fun W hW => chalklinelaw08_few.calls k _ _ _ _ _ _ _ _ _ _ _ _ _ _ _ _ W (Kd.C_below hE.row hW) hE.le (ha.at_.below hW).g3 ha.at_.l3 (ha.at_.below hW).g4 ha.at_.l4 (ha.at_.below hW).g5 ha.at_.l5 hk⟩
theorem typA (hE : EnvA w env A c) (ha : Arg w x A3 c3 A4 c4 A5 c5) (hlen : env.length ≤ 1000000) (ht : Tabs w) (hk : Kinds w) : Calls Tryd.prog 38 #[.slice A env.length c, .agg #[.int .i64 x.f0, .string x.f1, .int .i64 x.f2, .slice A3 x.f3.length c3, .slice A4 x.f4.length c4, .slice A5 x.f5.length c5]] w
    fun e w' => e = .returned (.int .i64 (typ env x)) ∧ Below w.heap.size w w' := typ_calls env A c x A3 c3 A4 c4 A5 c5 w hE ha.at_ ha.size ha.deep ht hk (by have := ha.nb; omega)
end
end Go.Proofs.YtmlcaecknocpoaaDoor.It
namespace Go.Proofs.YtmlcaecknocpoaaDoor.Wt
set_option linter.unusedVariables false
set_option linter.unusedSimpArgs false
open Go Go.ChangeShapes Go.WideShapes Go.ChangeAt Go.RowKit
def firstCells : Array Value := match Go.Pinned.utf8First with
  | .agg l => (l.map fun d => match d with | .lit (.int k n) => Value.int k n | _ => undef).toArray
  | _ => #[]
noncomputable def world (os : Os) : World :=
  { World.doorLaid Tryd.prog 341 os with heap := (World.doorLaid Tryd.prog 341 os).heap.modify 6 fun
      | .cells _ t frozen => .cells firstCells t frozen
      | o => o }
end Go.Proofs.YtmlcaecknocpoaaDoor.Wt
namespace Go.Proofs.YtmlcaecknocpoaaDoor.It
set_option linter.unusedVariables false
set_option linter.unusedSimpArgs false
open Go Go.ChangeShapes Go.WideShapes Go.ChangeAt Go.RowKit
theorem own : ownKnob Tryd.prog.godebug = none := by kernel_rfl
theorem laidOut : laidOutB Tryd.prog = true := by kernel_rfl
structure ArgT (t : Pr.S47) : Prop where
  nm : t.f1.size ≤ 1048576
  k : I64 t.f0
  n : I64 t.f2
end Go.Proofs.YtmlcaecknocpoaaDoor.It
namespace Go.Proofs.YtmlcaecknocpoaaDoor.It
set_option linter.unusedVariables false
set_option linter.unusedSimpArgs false
open Go Go.ChangeShapes Go.WideShapes Go.ChangeAt Go.RowKit Go.Shelf Go.Deep Go.Proofs.YtmlcaecknocpoaaDoorW.PrintWords Go.Proofs.YtmlcaecknocpoaaDoorW.PrintLast Go.Proofs.YtmlcaecknocpoaaDoor.Pr
theorem ArgT.ok {t : Pr.S47} (h : ArgT t) : TOk t := ⟨by have := h.nm; omega, h.k, h.n⟩
end Go.Proofs.YtmlcaecknocpoaaDoor.It
namespace Go.Proofs.YtmlcaecknocpoaaDoor.Pr
open Go.RowKit Go.Proofs.YtmlcaecknocpoaaDoorW.PrintWords Go.Proofs.YtmlcaecknocpoaaDoorW.PrintLast Go.Proofs.YtmlcaecknocpoaaDoorW.PrintMore
attribute [local go_sem] max2_int min2_int max_two min_two max_three min_three max_four min_four   
set_option linter.unusedVariables false
set_option linter.unusedSimpArgs false
end Go.Proofs.YtmlcaecknocpoaaDoor.Pr
namespace Go.Proofs.YtmlcaecknocpoaaDoor.Pr
open Go.RowKit Go.Proofs.YtmlcaecknocpoaaDoorW.PrintWords Go.Proofs.YtmlcaecknocpoaaDoorW.PrintLast Go.Proofs.YtmlcaecknocpoaaDoorW.PrintMore
attribute [local go_sem] max2_int min2_int max_two min_two max_three min_three max_four min_four   
set_option linter.unusedVariables false
set_option linter.unusedSimpArgs false
end Go.Proofs.YtmlcaecknocpoaaDoor.Pr
namespace Go.Proofs.YtmlcaecknocpoaaDoor.It
set_option linter.unusedVariables false
set_option linter.unusedSimpArgs false
open Go Go.ChangeShapes Go.WideShapes Go.ChangeAt Go.RowKit Go.Shelf Go.Deep Go.Proofs.YtmlcaecknocpoaaDoorW.PrintWords Go.Proofs.YtmlcaecknocpoaaDoorW.PrintLast Go.Proofs.YtmlcaecknocpoaaDoor.Pr
theorem cells54 : Tryd.prog.cellsOf 54 = 10 := by kernel_rfl
theorem cells4 : Tryd.prog.cellsOf 4 = 1 := by kernel_rfl
structure RArg (r : S54) : Prop where
  nm : r.f0.size ≤ 9223372036854775807
  wt : I64 r.f2
  each : ∀ b ∈ r.f3, BOk b
  deep : Deep r.f4
  wt26 : It.wt26 r.f4 ≤ 1048576
  len : r.f3.length ≤ 1000000
structure RowsA (w : World) (l : List S54) (A : Option Addr) (c : Nat) : Prop where
  row : Kd.C k54 w A l.length l
  le : l.length ≤ c
  ok : ∀ r ∈ l, RArg r
section
variable {H : Type} {enc : TypeId × Value → H} {w : World} {base : Nat} {spare : Nat → Bool} {held : Bool}
theorem row23 {n : Nat} {cs : List Value} {x : DataW H × List MemPlace} (h : DataW.trod enc Tryd.prog w base spare held n 23 cs = some x) : ∃ A c xs, cs = [.slice A xs.length c] ∧ xs.length ≤ c ∧ Kd.C k42 w A xs.length xs ∧ (∀ b ∈ xs, b.f0.size ≤ 9223372036854775807 ∧ I64 b.f1) ∧ (xs.map fun _ => 3).sum + 1 ≤ Rows.uptoBulk x.1 :=
  read_row k42 rfl Tryd.underlying23 cells42 (fun t => t.f0.size ≤ 9223372036854775807 ∧ I64 t.f1) (fun _ => 3) z42 (fun n cs' y _ ht => by
    obtain ⟨t, rfl, hs, hb⟩ := read42 ht
    exact ⟨t, k42_mk w t, rfl, hs, by omega⟩) h
set_option maxRecDepth 100000 in
theorem read54 {n : Nat} {cs : List Value} {y : DataW H × List MemPlace} (hB : Rows.uptoBulk y.1 ≤ 1048576) (h : DataW.trod enc Tryd.prog w base spare held n 54 cs = some y) :
    ∃ r : S54, k54.K w r cs ∧ cs.length = 10 ∧ RArg r ∧ 3 ≤ Rows.uptoBulk y.1 := by
  obtain ⟨ys, n', hn', hy, hlen, hyl, hf⟩ := DataW.trod_struct Tryd.underlying54 h
  rw [cells54] at hlen
  match cs, hlen with
  | [q0, q1, q2, q3, q4, q5, q6, q7, q8, q9], _ =>
    match ys, hyl with
    | [y0, y1, y2, y3, y4], _ =>
      have h0 := hf 0 _ rfl
      have h1 := hf 1 _ rfl
      have h2 := hf 2 _ rfl
      have h3 := hf 3 _ rfl
      have h4 := hf 4 _ rfl
      simp only [cells3, cells9, cells4, cells23, cells26, List.drop_zero, List.drop_succ_cons, List.take_succ_cons, List.take_zero, List.getElem?_cons_zero, List.getElem?_cons_succ] at h0 h1 h2 h3 h4
      obtain ⟨nm, e0, ws, b0⟩ := one9 h0
      obtain ⟨hd, e1, b1⟩ := DataW.trod_bool Tryd.underlying4 h1
      obtain ⟨wt, e2, wk, b2⟩ := one3 h2
      obtain ⟨A3, c3, bs, e3, l3, g3, S3, B3⟩ := row23 h3
      subst hy
      have b1' : Rows.uptoBulk y1.1 = 1 := by rw [b1]; rfl
      have hB' : Rows.uptoBulk (DataW.agg [y0.1, y1.1, y2.1, y3.1, y4.1]) ≤ 1048576 := hB
      have hG : 3 ≤ Rows.uptoBulk (DataW.agg [y0.1, y1.1, y2.1, y3.1, y4.1]) := by simp only [Rows.uptoBulk, Rows.uptoBulkAll]; omega
      simp only [Rows.uptoBulk, Rows.uptoBulkAll] at hB'
      obtain ⟨x, A7, c7, A8, c8, A9, c9, e4, hat, hdp, hw⟩ := read26 (Rows.uptoBulk y4.1) n' _ y4 (Nat.le_refl _) h4
      obtain rfl := List.singleton_inj.1 e0
      obtain rfl := List.singleton_inj.1 e1
      obtain rfl := List.singleton_inj.1 e2
      obtain rfl := List.singleton_inj.1 e3
      injection e4 with e40 e4
      injection e4 with e41 e4
      injection e4 with e42 e4
      injection e4 with e43 e4
      injection e4 with e44 e4
      injection e4 with e45 e4
      subst e40 e41 e42 e43 e44 e45
      have hs3 := sum_const bs 3
      rw [hs3] at B3
      refine ⟨⟨nm, hd, wt, bs, x⟩, k54_mk w ⟨nm, hd, wt, bs, x⟩ l3 g3 hat.l3 hat.g3 hat.l4 hat.g4 hat.l5 hat.g5, rfl, ⟨ws, wk, fun b hb => ⟨(S3 b hb).1, (S3 b hb).2⟩, hdp, by show It.wt26 x ≤ _; omega, by show bs.length ≤ _; omega⟩, hG⟩
end
def z54 : S54 := ⟨ByteArray.empty, false, 0, [], z26⟩
set_option maxRecDepth 100000 in
theorem trod_rules {H : Type} {enc : TypeId × Value → H} {W : World} {base : Nat} {v : Value} {d : DataW H} {p : List MemPlace} (hv : Value.okWide Tryd.prog W .any base 52 v) (h : DataW.Trod enc Tryd.prog W 0 (fun _ => true) true 52 v d p) (hd : Rows.uptoBulk d ≤ 1048576) :
    ∃ (l : List S54) (A : Option Addr) (c : Nat), v = .slice A l.length c ∧ RowsA W l A c ∧ l.length ≤ 1000000 := by
  obtain ⟨fuel, hf⟩ := h
  have hdd : Rows.uptoBulk (d, p).1 = Rows.uptoBulk d := rfl
  obtain ⟨A, c, l, e, hl, hC, hS, hB⟩ := read_row (x := (d, p)) k54 rfl Tryd.underlying52 cells54 RArg (fun _ => 3) z54 (fun n cs' y hy ht => by
    obtain ⟨r, h1, h2, h3, h4⟩ := read54 (by omega) ht
    exact ⟨r, h1, h2, h3, by omega⟩) hf
  have e' : v = .slice A l.length c := by
    obtain ⟨a, n, c', e2⟩ := okWide_slice Tryd.underlying52 hv
    subst e2
    simpa [Value.cells] using e
  have hs3 := sum_const l 3
  rw [hs3] at hB
  exact ⟨l, A, c, e', ⟨hC, hl, hS⟩, by omega⟩
end Go.Proofs.YtmlcaecknocpoaaDoor.It
namespace Go.Proofs.YtmlcaecknocpoaaDoor.It
set_option linter.unusedVariables false
set_option linter.unusedSimpArgs false
open Go Go.RowKit Go.Shelf Go.Proofs.YtmlcaecknocpoaaDoorW.PrintWords Go.Proofs.YtmlcaecknocpoaaDoorW.PrintLast Go.Proofs.YtmlcaecknocpoaaDoor.Pr Go.Proofs.YtmlcaecknocpoaaDoor.Sp
attribute [local go_sem ↓] Go.wp_at_zero Go.wp_at_succ
section
variable {w : World} {l : List S54} {A : Option Addr} {c : Nat}
theorem RowsA.below (h : RowsA w l A c) {w1 : World} (hb : Below w.heap.size w w1) : RowsA w1 l A c := ⟨Kd.C_below h.row hb, h.le, h.ok⟩
theorem RArg.ok {r : S54} (h : RArg r) : ROk r := ⟨h.nm, h.wt, h.each, h.deep, by have := h.wt26; unfold It.wt26 at this; omega, by have := h.wt26; have := h.len; unfold It.wt26 at *; omega⟩
theorem fewR {r : S54} {A3 : Option Addr} {c3 : Nat} {A7 : Option Addr} {c7 : Nat} {A8 : Option Addr} {c8 : Nat} {A9 : Option Addr} {c9 : Nat} (h : RArg r) (hat : AtR w r A3 c3 A7 c7 A8 c8 A9 c9) : ∃ q : Bool, (q = true → r.f3.length ≤ 30) ∧ ∀ W, Below w.heap.size w W → Calls Tryd.prog 37 #[.slice A3 r.f3.length c3, .agg #[.int .i64 r.f4.f0, .string r.f4.f1, .int .i64 r.f4.f2, .slice A7 r.f4.f3.length c7, .slice A8 r.f4.f4.length c8, .slice A9 r.f4.f5.length c9]] W
    fun e w' => e = .returned (.bool q) ∧ Below W.heap.size W w' := few8_calls ⟨hat.row, hat.le, h.each⟩ ⟨hat.body, h.deep, h.wt26⟩
end
end Go.Proofs.YtmlcaecknocpoaaDoor.It
namespace Go.Proofs.YtmlcaecknocpoaaDoor.It
set_option linter.unusedVariables false
set_option linter.unusedSimpArgs false
open Go Go.RowKit Go.Shelf Go.Proofs.YtmlcaecknocpoaaDoorW.PrintWords Go.Proofs.YtmlcaecknocpoaaDoorW.PrintLast Go.Proofs.YtmlcaecknocpoaaDoor.Pr Go.Proofs.YtmlcaecknocpoaaDoor.Sp
attribute [local go_sem ↓] Go.wp_at_zero Go.wp_at_succ
theorem body_cases (l : List S54) (i : Nat) (hi : i < l.length) (r1 r2 v : Int) (h1 : (Sp.rules l).1 = r1) (h2 : (Sp.rules l).2 = r2) (hv : Sp.rule (rd_T54 l i) = v) :
    (¬ (i : Int) < r1 ∧ r2 = 0 ∧ v = 0) ∨ ((i : Int) < r1 ∧ ((i : Int) == r1) = false ∧ (r2 == 0) = false ∧ v = 0) ∨ (¬ (i : Int) < r1 ∧ ((i : Int) == r1) = true ∧ (r2 != 0) = true ∧ (r2 == 0) = false ∧ (v != r2) = false) ∨ (¬ (i : Int) < r1 ∧ ((i : Int) == r1) = true ∧ r2 = 82 ∧ (v != 82) = true) ∨ (¬ (i : Int) < r1 ∧ ((i : Int) == r1) = false ∧ (r2 == 0) = false) := by
  have hget : l[i]? = some (rd_T54 l i) := by simp [rd_T54, List.getD, hi]
  rcases Sp.rules_says l with ⟨a, b, c⟩ | ⟨a, j, hj, b, c, d⟩
  · rw [h1] at b; rw [h2] at a
    have := c _ (rd54_mem l i hi)
    rw [hv] at this
    exact .inl ⟨by omega, a, this⟩
  · rw [h1] at b; rw [h2] at a d
    rcases Nat.lt_trichotomy i j with hlt | rfl | hgt
    · have := c i hlt _ hget
      rw [hv] at this
      exact .inr (.inl ⟨by omega, by simp; omega, by simpa using a, this⟩)
    · have := d _ hget
      rw [hv] at this
      by_cases he : v = r2
      · exact .inr (.inr (.inl ⟨by omega, by simp; omega, by simpa using a, by simpa using a, by simpa using he⟩))
      · have h82 : r2 = 82 := this.resolve_left he
        exact .inr (.inr (.inr (.inl ⟨by omega, by simp; omega, h82, by rw [← h82]; simpa using he⟩)))
    · exact .inr (.inr (.inr (.inr ⟨by omega, by simp; omega, by simpa using a⟩)))
theorem body_end (l : List S54) (r1 r2 : Int) (h1 : (Sp.rules l).1 = r1) (h2 : (Sp.rules l).2 = r2) : (r2 = 0 ∧ r1 = 0) ∨ ((r2 == 0) = false ∧ (r2 != 0) = true ∧ r1 ≥ 0 ∧ r1 < (l.length : Int)) := by
  rcases Sp.rules_says l with ⟨a, b, _⟩ | ⟨a, j, hj, b, _, _⟩
  · rw [h1] at b; rw [h2] at a; exact .inl ⟨a, b⟩
  · rw [h1] at b; rw [h2] at a; exact .inr ⟨by simpa using a, by simpa using a, by omega, by omega⟩
theorem typR {w : World} {r : S54} {A3 : Option Addr} {c3 : Nat} {A7 : Option Addr} {c7 : Nat} {A8 : Option Addr} {c8 : Nat} {A9 : Option Addr} {c9 : Nat} (h : RArg r) (hat : AtR w r A3 c3 A7 c7 A8 c8 A9 c9) (ht : Tabs w) (hk : Kinds w) : Calls Tryd.prog 38 #[.slice A3 r.f3.length c3, .agg #[.int .i64 r.f4.f0, .string r.f4.f1, .int .i64 r.f4.f2, .slice A7 r.f4.f3.length c7, .slice A8 r.f4.f4.length c8, .slice A9 r.f4.f5.length c9]] w
    fun e w' => e = .returned (.int .i64 (typ r.f3 r.f4)) ∧ Below w.heap.size w w' := typA ⟨hat.row, hat.le, h.each⟩ ⟨hat.body, h.deep, h.wt26⟩ h.len ht hk
theorem checkR {w : World} {r : S54} {A3 : Option Addr} {c3 : Nat} {A7 : Option Addr} {c7 : Nat} {A8 : Option Addr} {c8 : Nat} {A9 : Option Addr} {c9 : Nat} (h : RArg r) (hat : AtR w r A3 c3 A7 c7 A8 c8 A9 c9) (ht : Tabs w) : Calls Tryd.prog 22 #[.agg #[.int .i64 r.f4.f0, .string r.f4.f1, .int .i64 r.f4.f2, .slice A7 r.f4.f3.length c7, .slice A8 r.f4.f4.length c8, .slice A9 r.f4.f5.length c9]] w
    fun e w' => e = .returned (.int .i64 (check r.f4)) ∧ Below w.heap.size w w' := check_calls r.f4 A7 c7 A8 c8 A9 c9 w hat.body h.ok.size h.deep ht
set_option maxRecDepth 100000 in
set_option maxHeartbeats 8000000 in
theorem law19 (l : List S54) (A : Option Addr) (c : Nat) (w : World) (hR : RowsA w l A c) (ht : Tabs w) (hk : Kinds w) (hl : l.length ≤ 1000000) :
    Calls Tryd.prog 19 #[.slice A l.length c] w fun e w' => e = .returned (.bool true) ∧ Below w.heap.size w w' := by
  have hu54 := Tryd.underlying54
  have hu26 := Tryd.underlying26
  have C36 := Aside0.mk (fun W (h : Below w.heap.size w W) => live8_calls W (ht.below h) (hk.below h))
  have C44 := Aside0.mk (fun W (h : Below w.heap.size w W) => rules_calls l A c W (hR.below h).row hl (fun r hr => (hR.ok r hr).ok) (ht.below h) (hk.below h))
  have C46 := Aside0.mk (fun r (hr : r ∈ l) A3 c3 A7 c7 A8 c8 A9 c9 W (h : Below w.heap.size w W) (hat : AtR W r A3 c3 A7 c7 A8 c8 A9 c9) => rule_calls r A3 c3 A7 c7 A8 c8 A9 c9 W hat (hR.ok r hr).ok (ht.below h) (hk.below h))
  have C38 := Aside0.mk (fun r (hr : r ∈ l) A3 c3 A7 c7 A8 c8 A9 c9 W (h : Below w.heap.size w W) (hat : AtR W r A3 c3 A7 c7 A8 c8 A9 c9) => typR (hR.ok r hr) hat (ht.below h) (hk.below h))
  have C22 := Aside0.mk (fun r (hr : r ∈ l) A3 c3 A7 c7 A8 c8 A9 c9 W (h : Below w.heap.size w W) (hat : AtR W r A3 c3 A7 c7 A8 c8 A9 c9) => checkR (hR.ok r hr) hat (ht.below h))
  obtain ⟨r1, h1⟩ : ∃ v, (Sp.rules l).1 = v := ⟨_, rfl⟩
  obtain ⟨r2, h2⟩ : ∃ v, (Sp.rules l).2 = v := ⟨_, rfl⟩
  have BC := Aside0.mk (fun i hi v hv => body_cases l i hi r1 r2 v h1 h2 hv)
  have BE := Aside0.mk (body_end l r1 r2 h1 h2)
  rw [h1, h2] at C44
  have HR := Aside0.mk hR
  have G0 := Aside0.mk (Below.refl w.heap.size w)
  clear hR ht hk h1 h2
  go_enter Tryd.func19, Tryd.ntmps19
  go_wp2_with (go_at_call 36; (with_reducible refine (C36.out _ G0.out).mono ?_); rintro e wa ⟨rfl, g⟩; replace G0 := Aside0.mk (G0.out.trans (g.mono G0.out.size)); clear g C36)
  go_loopg [2, 3] l.length (fun gg s2 s3 wr => ∃ j : Nat, j ≤ l.length ∧ l.length - j ≤ gg ∧ s3 = .int .i64 j ∧ Aside0 (Below w.heap.size w wr))
  case atStart => exact ⟨0, Nat.zero_le _, by omega, rfl, ⟨G0.out⟩⟩
  case round =>
    obtain ⟨j, hj, hg, rfl, HJ⟩ := hrel
    clear G0
    by_cases hlt : j < l.length ∧ j < 12
    · obtain ⟨hlt, h12⟩ := hlt
      have hltz : (j : Int) < (l.length : Int) := by omega
      have h12z : (j : Int) < 12 := by omega
      obtain ⟨ad, A3, c3, A7, c7, A8, c8, A9, c9, rfl, hat, y0, y1, y2, y3, y4, y5, y6, y7, y8, y9⟩ := ruleAt HR.out.row HJ.out j hlt
      have hm := HR.out.ok _ (rd54_mem l j hlt)
      obtain ⟨r, hr⟩ : ∃ r, rd_T54 l j = r := ⟨_, rfl⟩
      rw [hr] at hat hm y0 y1 y2 y3 y4 y5 y6 y7 y8 y9
      obtain ⟨q, _, hq⟩ := fewR hm hat
      have C37 := Aside0.mk (fun W (h : Below wr.heap.size wr W) => hq W (HJ.out.trans (h.mono HJ.out.size)))
      have G := Aside0.mk (Below.refl wr.heap.size wr)
      clear hr hm hat hq y0 y1 y2
      cases q with
      | false =>
        go_upto_region 6 with fail
        go_region_held3 (fun w' => w'.cell? ⟨(ad.add (j * 10)).block, (ad.add (j * 10)).off + 3, none⟩ = some (.slice A3 r.f3.length c3) ∧ w'.cell? ⟨(ad.add (j * 10)).block, (ad.add (j * 10)).off + 4, none⟩ = some (.int .i64 r.f4.f0) ∧ w'.cell? ⟨(ad.add (j * 10)).block, (ad.add (j * 10)).off + 5, none⟩ = some (.string r.f4.f1) ∧ w'.cell? ⟨(ad.add (j * 10)).block, (ad.add (j * 10)).off + 6, none⟩ = some (.int .i64 r.f4.f2) ∧ w'.cell? ⟨(ad.add (j * 10)).block, (ad.add (j * 10)).off + 7, none⟩ = some (.slice A7 r.f4.f3.length c7) ∧ w'.cell? ⟨(ad.add (j * 10)).block, (ad.add (j * 10)).off + 8, none⟩ = some (.slice A8 r.f4.f4.length c8) ∧ w'.cell? ⟨(ad.add (j * 10)).block, (ad.add (j * 10)).off + 9, none⟩ = some (.slice A9 r.f4.f5.length c9)) (go_keep)
          (first
            | (go_at_call 37; (with_reducible refine (C37.out _ G.out).mono ?_); rintro e wn ⟨rfl, g⟩; replace G := Aside0.mk (G.out.trans (g.mono G.out.size)); have z3 := up_cell G.out y3; have z4 := up_cell G.out y4; have z5 := up_cell G.out y5; have z6 := up_cell G.out y6; have z7 := up_cell G.out y7; have z8 := up_cell G.out y8; have z9 := up_cell G.out y9; clear g y3 y4 y5 y6 y7 y8 y9)
            | (go_at_call 37; (with_reducible refine (C37.out _ (below_drew G.out)).mono ?_); rintro e wn ⟨rfl, g⟩; replace G := Aside0.mk ((below_drew G.out).trans (g.mono (below_drew G.out).size)); have z3 := up_cell G.out y3; have z4 := up_cell G.out y4; have z5 := up_cell G.out y5; have z6 := up_cell G.out y6; have z7 := up_cell G.out y7; have z8 := up_cell G.out y8; have z9 := up_cell G.out y9; clear g y3 y4 y5 y6 y7 y8 y9))
        all_goals
          go_wp2_with fail
          go_ret
          exact ⟨rfl, HJ.out.trans (G.out.mono HJ.out.size)⟩
      | true =>
        go_upto_region 6 with fail
        go_region_held3 (fun w' => w'.cell? ⟨(ad.add (j * 10)).block, (ad.add (j * 10)).off + 3, none⟩ = some (.slice A3 r.f3.length c3) ∧ w'.cell? ⟨(ad.add (j * 10)).block, (ad.add (j * 10)).off + 4, none⟩ = some (.int .i64 r.f4.f0) ∧ w'.cell? ⟨(ad.add (j * 10)).block, (ad.add (j * 10)).off + 5, none⟩ = some (.string r.f4.f1) ∧ w'.cell? ⟨(ad.add (j * 10)).block, (ad.add (j * 10)).off + 6, none⟩ = some (.int .i64 r.f4.f2) ∧ w'.cell? ⟨(ad.add (j * 10)).block, (ad.add (j * 10)).off + 7, none⟩ = some (.slice A7 r.f4.f3.length c7) ∧ w'.cell? ⟨(ad.add (j * 10)).block, (ad.add (j * 10)).off + 8, none⟩ = some (.slice A8 r.f4.f4.length c8) ∧ w'.cell? ⟨(ad.add (j * 10)).block, (ad.add (j * 10)).off + 9, none⟩ = some (.slice A9 r.f4.f5.length c9)) (go_keep)
          (first
            | (go_at_call 37; (with_reducible refine (C37.out _ G.out).mono ?_); rintro e wn ⟨rfl, g⟩; replace G := Aside0.mk (G.out.trans (g.mono G.out.size)); have z3 := up_cell G.out y3; have z4 := up_cell G.out y4; have z5 := up_cell G.out y5; have z6 := up_cell G.out y6; have z7 := up_cell G.out y7; have z8 := up_cell G.out y8; have z9 := up_cell G.out y9; clear g y3 y4 y5 y6 y7 y8 y9)
            | (go_at_call 37; (with_reducible refine (C37.out _ (below_drew G.out)).mono ?_); rintro e wn ⟨rfl, g⟩; replace G := Aside0.mk ((below_drew G.out).trans (g.mono (below_drew G.out).size)); have z3 := up_cell G.out y3; have z4 := up_cell G.out y4; have z5 := up_cell G.out y5; have z6 := up_cell G.out y6; have z7 := up_cell G.out y7; have z8 := up_cell G.out y8; have z9 := up_cell G.out y9; clear g y3 y4 y5 y6 y7 y8 y9))
        all_goals
          go_wp2_with fail
          go_roundg (l.length - (j + 1))
          case measure => omega
          case rel => exact ⟨j + 1, by omega, by omega, by go_num, ⟨HJ.out.trans (G.out.mono HJ.out.size)⟩⟩
    · have htest : ((j : Int) < (l.length : Int)) → ¬ ((j : Int) < 12) := by omega
      by_cases h10 : 10 < l.length
      · have h10z : (l.length : Int) > 10 := by omega
        clear C44 C46 C38 C22 BC BE
        by_cases hlt2 : (j : Int) < (l.length : Int)
        · have h12 := htest hlt2
          clear htest hlt
          go_wp2_with fail
          go_ret
          exact ⟨rfl, HJ.out⟩
        · clear htest hlt
          go_wp2_with fail
          go_ret
          exact ⟨rfl, HJ.out⟩
      · have h10z : ¬ (l.length : Int) > 10 := by omega
        have hlt2 : ¬ (j : Int) < (l.length : Int) := by omega
        have H := HJ
        clear htest hlt
        go_wp2_with (go_at_call 44; (with_reducible refine (C44.out _ H.out).mono ?_); rintro e wb ⟨rfl, g⟩; replace H := Aside0.mk (H.out.trans (g.mono H.out.size)); clear g C44)
        go_loopg [2, 6, 7] l.length (fun gg s2 s6 s7 wr => ∃ i : Nat, i ≤ l.length ∧ l.length - i ≤ gg ∧ s6 = .int .i64 i ∧ Aside0 (Below w.heap.size w wr))
        case atStart => exact ⟨0, Nat.zero_le _, by omega, rfl, ⟨H.out⟩⟩
        case round =>
          clear HJ H hlt2 hj hg
          obtain ⟨i, hi, hgi, rfl, HI⟩ := hrel
          by_cases hlti : i < l.length
          · have hltiz : (i : Int) < (l.length : Int) := by omega
            obtain ⟨ad, A3, c3, A7, c7, A8, c8, A9, c9, rfl, hat, y0, y1, y2, y3, y4, y5, y6, y7, y8, y9⟩ := ruleAt HR.out.row HI.out i hlti
            have hm := rd54_mem l i hlti
            have HC := Aside0.mk (BC.out i hlti _ rfl)
            obtain ⟨r, hr⟩ : ∃ r, rd_T54 l i = r := ⟨_, rfl⟩
            rw [hr] at hat hm HC y0 y1 y2 y3 y4 y5 y6 y7 y8 y9
            have D46 := Aside0.mk (fun W (h : Below wr.heap.size wr W) => C46.out r hm A3 c3 A7 c7 A8 c8 A9 c9 W (HI.out.trans (h.mono HI.out.size)) (hat.below (HI.out.trans (h.mono HI.out.size))))
            have G := Aside0.mk (Below.refl wr.heap.size wr)
            by_cases hv0 : Sp.rule r = 0
            · have D38 := Aside0.mk (fun W (h : Below wr.heap.size wr W) => C38.out r hm A3 c3 A7 c7 A8 c8 A9 c9 W (HI.out.trans (h.mono HI.out.size)) (hat.below (HI.out.trans (h.mono HI.out.size))))
              have D22 := Aside0.mk (fun W (h : Below wr.heap.size wr W) => C22.out r hm A3 c3 A7 c7 A8 c8 A9 c9 W (HI.out.trans (h.mono HI.out.size)) (hat.below (HI.out.trans (h.mono HI.out.size))))
              obtain ⟨k1, k2⟩ := Sp.rule_zero hv0
              rw [hv0] at D46 HC
              rw [k1] at D38
              rw [k2] at D22
              clear hr hm hat hv0 k1 k2
              go_upto_region 15 with (go_at_call 46; (with_reducible refine (D46.out _ G.out).mono ?_); rintro e wn ⟨rfl, g⟩; replace G := Aside0.mk (G.out.trans (g.mono G.out.size)); have z0 := up_cell G.out y0; have z1 := up_cell G.out y1; have z2 := up_cell G.out y2; have z3 := up_cell G.out y3; have z4 := up_cell G.out y4; have z5 := up_cell G.out y5; have z6 := up_cell G.out y6; have z7 := up_cell G.out y7; have z8 := up_cell G.out y8; have z9 := up_cell G.out y9; clear g)
              go_region_held3 (fun w' => w'.cell? ⟨(ad.add (i * 10)).block, (ad.add (i * 10)).off + 3, none⟩ = some (.slice A3 r.f3.length c3) ∧ w'.cell? ⟨(ad.add (i * 10)).block, (ad.add (i * 10)).off + 4, none⟩ = some (.int .i64 r.f4.f0) ∧ w'.cell? ⟨(ad.add (i * 10)).block, (ad.add (i * 10)).off + 5, none⟩ = some (.string r.f4.f1) ∧ w'.cell? ⟨(ad.add (i * 10)).block, (ad.add (i * 10)).off + 6, none⟩ = some (.int .i64 r.f4.f2) ∧ w'.cell? ⟨(ad.add (i * 10)).block, (ad.add (i * 10)).off + 7, none⟩ = some (.slice A7 r.f4.f3.length c7) ∧ w'.cell? ⟨(ad.add (i * 10)).block, (ad.add (i * 10)).off + 8, none⟩ = some (.slice A8 r.f4.f4.length c8) ∧ w'.cell? ⟨(ad.add (i * 10)).block, (ad.add (i * 10)).off + 9, none⟩ = some (.slice A9 r.f4.f5.length c9)) (go_keep)
                (first
                  | (go_at_call 38; (with_reducible refine (D38.out _ G.out).mono ?_); rintro e wn ⟨rfl, g⟩; replace G := Aside0.mk (G.out.trans (g.mono G.out.size)); have z0 := up_cell G.out y0; have z1 := up_cell G.out y1; have z2 := up_cell G.out y2; have z3 := up_cell G.out y3; have z4 := up_cell G.out y4; have z5 := up_cell G.out y5; have z6 := up_cell G.out y6; have z7 := up_cell G.out y7; have z8 := up_cell G.out y8; have z9 := up_cell G.out y9; clear g)
                  | (go_at_call 38; (with_reducible refine (D38.out _ (below_drew G.out)).mono ?_); rintro e wn ⟨rfl, g⟩; replace G := Aside0.mk ((below_drew G.out).trans (g.mono (below_drew G.out).size)); have z0 := up_cell G.out y0; have z1 := up_cell G.out y1; have z2 := up_cell G.out y2; have z3 := up_cell G.out y3; have z4 := up_cell G.out y4; have z5 := up_cell G.out y5; have z6 := up_cell G.out y6; have z7 := up_cell G.out y7; have z8 := up_cell G.out y8; have z9 := up_cell G.out y9; clear g)
                  | (go_at_call 22; (with_reducible refine (D22.out _ G.out).mono ?_); rintro e wn ⟨rfl, g⟩; replace G := Aside0.mk (G.out.trans (g.mono G.out.size)); have z0 := up_cell G.out y0; have z1 := up_cell G.out y1; have z2 := up_cell G.out y2; have z3 := up_cell G.out y3; have z4 := up_cell G.out y4; have z5 := up_cell G.out y5; have z6 := up_cell G.out y6; have z7 := up_cell G.out y7; have z8 := up_cell G.out y8; have z9 := up_cell G.out y9; clear g)
                  | (go_at_call 22; (with_reducible refine (D22.out _ (below_drew G.out)).mono ?_); rintro e wn ⟨rfl, g⟩; replace G := Aside0.mk ((below_drew G.out).trans (g.mono (below_drew G.out).size)); have z0 := up_cell G.out y0; have z1 := up_cell G.out y1; have z2 := up_cell G.out y2; have z3 := up_cell G.out y3; have z4 := up_cell G.out y4; have z5 := up_cell G.out y5; have z6 := up_cell G.out y6; have z7 := up_cell G.out y7; have z8 := up_cell G.out y8; have z9 := up_cell G.out y9; clear g))
              all_goals
                rcases HC.out with ⟨a1, a2, a3⟩ | ⟨a1, a2, a3, a4⟩ | ⟨a1, a2, a3, a4, a5⟩ | ⟨a1, a2, a3, a4⟩ | ⟨a1, a2, a3⟩
                · subst a2
                  cases hq : ((i : Int) == r1)
                  all_goals
                    go_wp2_with fail
                    go_roundg (l.length - (i + 1))
                    case measure => omega
                    case rel => exact ⟨i + 1, by omega, by omega, by go_num, ⟨HI.out.trans (G.out.mono HI.out.size)⟩⟩
                · go_wp2_with fail
                  go_roundg (l.length - (i + 1))
                  case measure => omega
                  case rel => exact ⟨i + 1, by omega, by omega, by go_num, ⟨HI.out.trans (G.out.mono HI.out.size)⟩⟩
                · go_wp2_with fail
                  go_roundg (l.length - (i + 1))
                  case measure => omega
                  case rel => exact ⟨i + 1, by omega, by omega, by go_num, ⟨HI.out.trans (G.out.mono HI.out.size)⟩⟩
                · subst a3
                  go_wp2_with fail
                  go_roundg (l.length - (i + 1))
                  case measure => omega
                  case rel => exact ⟨i + 1, by omega, by omega, by go_num, ⟨HI.out.trans (G.out.mono HI.out.size)⟩⟩
                · go_wp2_with fail
                  go_roundg (l.length - (i + 1))
                  case measure => omega
                  case rel => exact ⟨i + 1, by omega, by omega, by go_num, ⟨HI.out.trans (G.out.mono HI.out.size)⟩⟩
            · obtain ⟨v, hv⟩ : ∃ v, Sp.rule r = v := ⟨_, rfl⟩
              rw [hv] at D46 HC hv0
              have b0 : (v == 0) = false := by simpa using hv0
              have b1 : (v != 0) = true := by simpa using hv0
              clear hr hm hat hv C38 C22
              go_upto_region 15 with (go_at_call 46; (with_reducible refine (D46.out _ G.out).mono ?_); rintro e wn ⟨rfl, g⟩; replace G := Aside0.mk (G.out.trans (g.mono G.out.size)); have z0 := up_cell G.out y0; have z1 := up_cell G.out y1; have z2 := up_cell G.out y2; have z3 := up_cell G.out y3; have z4 := up_cell G.out y4; have z5 := up_cell G.out y5; have z6 := up_cell G.out y6; have z7 := up_cell G.out y7; have z8 := up_cell G.out y8; have z9 := up_cell G.out y9; clear g)
              go_quiet (fail)
              have GG := Aside0.mk (G.out.trans ((Drawn0.mk ⟨_, rfl⟩ : Drawn0 wn (wn.drewN nq)).below.mono G.out.size))
              rcases HC.out with ⟨a1, a2, a3⟩ | ⟨a1, a2, a3, a4⟩ | ⟨a1, a2, a3, a4, a5⟩ | ⟨a1, a2, a3, a4⟩ | ⟨a1, a2, a3⟩
              · exact absurd a3 hv0
              · exact absurd a4 hv0
              · go_wp2_with fail
                go_roundg (l.length - (i + 1))
                case measure => omega
                case rel => exact ⟨i + 1, by omega, by omega, by go_num, ⟨HI.out.trans (GG.out.mono HI.out.size)⟩⟩
              · subst a3
                go_wp2_with fail
                go_roundg (l.length - (i + 1))
                case measure => omega
                case rel => exact ⟨i + 1, by omega, by omega, by go_num, ⟨HI.out.trans (GG.out.mono HI.out.size)⟩⟩
              · go_wp2_with fail
                go_roundg (l.length - (i + 1))
                case measure => omega
                case rel => exact ⟨i + 1, by omega, by omega, by go_num, ⟨HI.out.trans (GG.out.mono HI.out.size)⟩⟩
          · have hltiz : ¬ (i : Int) < (l.length : Int) := by omega
            rcases BE.out with ⟨a1, a2⟩ | ⟨a1, a2, a3, a4⟩
            · subst a1 a2
              go_wp2_with fail
              go_ret
              exact ⟨rfl, HI.out⟩
            · go_wp2_with fail
              go_ret
              exact ⟨rfl, HI.out⟩
end Go.Proofs.YtmlcaecknocpoaaDoor.It
namespace Go.Proofs.YtmlcaecknocpoaaDoor.C19
set_option linter.unusedVariables false
set_option linter.unusedSimpArgs false
open Go Go.ChangeShapes Go.WideShapes Go.ChangeAt Go.RowKit Go.Proofs.YtmlcaecknocpoaaDoor.It
open Go.ChangeMaps (open_string shut_string)
set_option maxRecDepth 100000 in
theorem contract (H : Type) (enc : TypeId × Value → H) (W : World) (base : Nat) (args : Array Value) (ds gs : List (DataW H)) (before : List MemPlace)
    (hval0 : ∀ (j : Nat) t v, Tryd.f19.params[j]? = some t → args[j]? = some v → Value.okWide Tryd.prog W .any base t v)
    (hW : DataW.Whole enc Tryd.prog Tryd.f19.params.toList Rows.typesBodiesSpec.vars false W args.toList ds gs before) (hk : Rows.uptoSmall H (ds ++ gs) = true) (hL : laidMetH Tryd.prog Rows.typesBodiesUptoRow.laid W) :
    Calls Tryd.prog 19 args W fun e W' => ∃ v, e = .returned v ∧ Rows.typesBodiesSpec.post enc Tryd.prog Tryd.f19 false true false false W args v W' := by
  have hval : ∀ (j : Nat) t v, Tryd.f19.params[j]? = some t → args[j]? = some v → Value.okWide Tryd.prog W .any base t v := hval0
  have hW' := hW
  obtain ⟨p, q, hA0, hV, rfl, hfz, hnd⟩ := hW
  have hA : DataW.TrodAll enc Tryd.prog W 0 (fun _ => true) true Tryd.f19.params.toList args.toList ds p := hA0
  rw [Tryd.params19] at hA hval
  obtain ⟨v0, vs0, d0, ds0, p0, q0, hargs, rfl, rfl, h0, r0⟩ := trodAll_cons hA
  obtain ⟨rfl, rfl, rfl⟩ := trodAll_nil r0
  obtain rfl : args = #[v0] := by cases args; simp_all
  obtain ⟨rfl, rfl⟩ := trodVars_none hV
  have hk2 := of_decide_eq_true hk
  clear hk
  simp only [List.append_nil, Rows.uptoBulkAll] at hk2
  obtain ⟨x0, A30, c30, rfl, ha0, hn0⟩ := trod_rules (hval 0 52 v0 rfl rfl) h0 (by omega)
  have lt0 : ∀ y ∈ p0, y.block < W.heap.size := by
    obtain ⟨m, hm⟩ := h0
    exact DataW.trod_lt m _ _ _ hm
  have hl := hL
  rw [MakeChecks.laidMetH_plain _ _ _ (by kernel_rfl)] at hl
  have ht : Tabs W := tabs_laid hl (by simp [Rows.typesBodiesUptoRow]) (by simp [Rows.typesBodiesUptoRow]) (by simp [Rows.typesBodiesUptoRow])
  have hk : Kinds W := kinds_laid hl (by simp [Rows.typesBodiesUptoRow]) (by simp [Rows.typesBodiesUptoRow])
  refine (law19 x0 A30 c30 W ha0 ht hk hn0).mono fun e W' ⟨he, bel⟩ => ?_
  subst he
  exact ⟨_, rfl, _, _, _, [], _, [], hW', trodAll_mk1 (shut_bool Tryd.underlying4 _), (trodAll_cons_mk (Below.trod laidOut (by kernel_rfl) (of_decide_eq_true (by kernel_rfl)) h0 bel lt0) trodAll_mk0), rfl, bel.frame _, fun h => by cases h⟩
theorem met (os : Os) : laidMetH Tryd.prog Rows.typesBodiesUptoRow.laid ((Wt.world os).forCall (fun _ _ => 0) ⟨#[], #[.slice none 0 0], []⟩).memory :=
  laidMetH_of_parts3 (fuel := 8) (laidMet_of_run' 8 (by kernel_rfl) (by kernel_rfl)) (by kernel_rfl) (by kernel_rfl)
set_option maxRecDepth 100000 in
theorem lifted (os : Os) (started : os.Started) (H : Type) (enc : TypeId × Value → H) (F : Stop.Interp) :
    ReturnsInHanded {} Tryd.checked os 19 .any ((Rows.OpenSpec.upto Rows.typesBodiesSpec).preRow enc Tryd.prog Tryd.f19 Rows.typesBodiesUptoRow.domain false Rows.typesBodiesUptoRow.laid) (((Rows.OpenSpec.upto Rows.typesBodiesSpec).at F).post enc Tryd.prog Tryd.f19 false true false false) := by
  have hx : DataW.whole enc Tryd.prog ((Wt.world os).forCall (fun _ _ => 0) ⟨#[], #[.slice none 0 0], []⟩).memory Tryd.f19.params.toList Rows.typesBodiesSpec.vars false (#[.slice none 0 0] : Array Value).toList 8 = some ([.nil], [], []) := by kernel_rfl
  refine returnsInHanded_of_row (C := Tryd.checked) (s := Rows.OpenSpec.upto Rows.typesBodiesSpec) own started (by kernel_rfl) Tryd.func19
    (witness_row_atRef (enc := enc) (C := Tryd.checked) false (Wt.world os) #[.slice none 0 0] rfl (by kernel_rfl) (by kernel_rfl) (by kernel_rfl)
      (OpenSpec.preRow_of_cond 8 hx (by kernel_rfl) (fun k hk => by cases hk; kernel_rfl) (by kernel_rfl) (met os))) ?_
  intro W base args ds gs before hval hW _ hcond _ hL _ _
  exact contract H enc W base args ds gs before hval hW (hcond _ rfl) hL
end Go.Proofs.YtmlcaecknocpoaaDoor.C19
namespace Go.Proofs.YtmlcaecknocpoaaDoor.C19
set_option linter.unusedVariables false
open Go Go.ChangeShapes Go.WideShapes Go.ChangeAt Go.RowKit
theorem isInst : Func.isInstance Tryd.pinned.checked.prog Tryd.f19 Rows.typesBodiesUptoRow.origin Rows.typesBodiesUptoRow.targs := of_decide_eq_true (by kernel_rfl)
theorem isWrap : Func.isWrapper Tryd.pinned.checked.prog Tryd.f19 Rows.typesBodiesUptoRow.wrapper Rows.typesBodiesUptoRow.mainSum := by
  unfold Func.isWrapper; first | (rw [if_pos (by decide +kernel)]; kernel_rfl) | (rw [if_neg (by decide +kernel)]; exact ⟨rfl, rfl⟩)
theorem isName : Tryd.pinned.checked.prog.funcNamed Rows.typesBodiesUptoRow.func = some 19 := by kernel_rfl
theorem saidUpto : Rows.TypesBodiesUptoSaid :=
  OpenClaim.holds_of_cond 19 Tryd.f19 rfl rfl rfl rfl rfl rfl rfl ⟨rfl, rfl, rfl, rfl, rfl⟩ rfl rfl rfl rfl rfl isName Tryd.func19 F19.closed isInst isWrap
    (fun os started H enc _ F => by rw [OpenClaim.pre_eq_preRow]; exact lifted os started H enc F)
theorem plain (f : FuncId) (fn : Func) (hf : Tryd.pinned.checked.prog.funcNamed "chalkline/chalklinelaw08.TypesBodies" = some f) (hfn : Tryd.pinned.checked.prog.funcs[f]? = some fn) :
    false = Tryd.pinned.checked.prog.looks [] ∧ ∀ (j : Nat) t, fn.params[j]? = some t → Tryd.pinned.checked.prog.wantsStandIn t = false := by
  obtain rfl : f = 19 := Option.some.inj ((show Tryd.prog.funcNamed "chalkline/chalklinelaw08.TypesBodies" = some 19 by kernel_rfl).symm.trans hf) |>.symm
  obtain rfl : fn = Tryd.f19 := (Option.some.inj (Tryd.func19.symm.trans hfn)).symm
  refine ⟨by kernel_rfl, fun j t ht => ?_⟩
  rw [Tryd.params19] at ht
  have hm := Array.mem_of_getElem? ht
  simp only [List.mem_toArray, List.mem_cons, List.not_mem_nil, or_false] at hm
  subst hm; exact (show Tryd.prog.wantsStandIn 52 = false by kernel_rfl)
theorem wfText : Rows.typesBodiesUptoRow.wfByText (Rows.OpenSpec.upto Rows.typesBodiesSpec) = true := by kernel_rfl
theorem goes : false = Rows.typesBodiesUptoRow.goesBy Tryd.pinned.checked.prog := by kernel_rfl
theorem cardUpto : Rows.TypesBodiesUptoCardSaid :=
  Claim7.holds_tied_plain_at .later [] _ _ _ _ saidUpto (fun _ h => by cases h) wfText (fun _ h => by cases h) typesBodiesUpto_row_tie rfl ⟨rfl, rfl⟩ HH.mainIs rfl plain goes
end Go.Proofs.YtmlcaecknocpoaaDoor.C19
namespace Go.Proofs.YtmlcaecknocpoaaDoor
theorem typesBodiesUpto_holds : Rows.TypesBodiesUptoCardSaid := C19.cardUpto
#print axioms typesBodiesUpto_holds
end Go.Proofs.YtmlcaecknocpoaaDoor
