/-
  chalklinelaw08.TypesConnectives answers true, for every input that reads as data and is of bulk at most 1048576; what it reads stands as it stood.
  Conditions: the listed package-level variables hold what the program's text lays (tied by the card); the arguments' bulk is at most 1048576.
-/
import Derived.Test.YtmlcaecknocpoaaDoorQoK5
import Derived.BigQuiet
import Derived.Deep.RegionHeld3
import Derived.ProofKit
import Derived.LaidMore
import Derived.Deep.DeepHandedRow
import Derived.Deep.DeepWitnessRowRef
import Derived.WalkKit
import Derived.OpenShut
import Derived.ChangeOld
import Derived.Below
import Derived.SizedLaws
import Derived.Lib.SmallJoins
import Derived.SevenTiedAt
import Derived.Test.YtmlcaecknocpoaaDoorCards
import Derived.Test.YtmlcaecknocpoaaDoorTie
import Derived.Test.YtmlcaecknocpoaaDoorH25
import Derived.Test.YtmlcaecknocpoaaDoorH26
import Derived.Test.YtmlcaecknocpoaaDoorH27
import Derived.Test.YtmlcaecknocpoaaDoorF18
import Derived.Test.YtmlcaecknocpoaaDoorH28
namespace Go.Proofs.YtmlcaecknocpoaaDoor.Pr
open Go.RowKit Go.Proofs.YtmlcaecknocpoaaDoorW.PrintWords Go.Proofs.YtmlcaecknocpoaaDoorW.PrintLast Go.Proofs.YtmlcaecknocpoaaDoorW.PrintMore
attribute [local go_sem] max2_int min2_int max_two min_two max_three min_three max_four min_four   
set_option linter.unusedVariables false
set_option linter.unusedSimpArgs false
mutual
def chalklineref08_Few.j0 : Nat → Bool → Int → ByteArray → Int → List (S47) → List (S42) → List (S26) → Option (Bool)
  | 0, _, _, _, _, _, _, _ => none
  | k + 1, x24, x218000, x218001, x218002, x218003, x218004, x218005 => if x24 = true then (some false) else (chalklineref08_Few.l0 k 0 x218000 x218001 x218002 x218003 x218004 x218005)
def chalklineref08_Few.l0 : Nat → Int → Int → ByteArray → Int → List (S47) → List (S42) → List (S26) → Option (Bool)
  | 0, _, _, _, _, _, _, _ => none
  | k + 1, x3, x218000, x218001, x218002, x218003, x218004, x218005 => if x3 < (x218005.length : Int) then (if 0 ≤ x3 then ((chalklineref08_Few.f k ((rd_T26 x218005 x3).f0) ((rd_T26 x218005 x3).f1) ((rd_T26 x218005 x3).f2) ((rd_T26 x218005 x3).f3) ((rd_T26 x218005 x3).f4) ((rd_T26 x218005 x3).f5)).bind fun t220 => (if t220 = true then (chalklineref08_Few.l0 k (wrap64 (x3 + 1)) x218000 x218001 x218002 x218003 x218004 x218005) else (some false))) else (none)) else (some true)
def chalklineref08_Few.f : Nat → Int → ByteArray → Int → List (S47) → List (S42) → List (S26) → Option (Bool)
  | 0, _, _, _, _, _, _ => none
  | k + 1, a0_0, a0_1, a0_2, l0_3, l0_4, l0_5 => if (l0_5.length : Int) > 4 then (chalklineref08_Few.j0 k true a0_0 a0_1 a0_2 l0_3 l0_4 l0_5) else (if (l0_3.length : Int) > 4 then (chalklineref08_Few.j0 k true a0_0 a0_1 a0_2 l0_3 l0_4 l0_5) else (if (l0_4.length : Int) > 10 then (chalklineref08_Few.j0 k true a0_0 a0_1 a0_2 l0_3 l0_4 l0_5) else ((chalklineref06_Size.f k a0_0 a0_1 a0_2 l0_3 l0_4 l0_5).bind fun t218 => (chalklineref08_Few.j0 k (decide (t218 > 300)) a0_0 a0_1 a0_2 l0_3 l0_4 l0_5))))
end
set_option maxHeartbeats 8000000 in
set_option maxRecDepth 100000 in
theorem chalklineref08_Few.calls (k : Nat) : ∀ (a0_0 : Int) (a0_1 : ByteArray) (a0_2 : Int) (A0_3 : Option Addr) (c0_3 : Nat) (l0_3 : List (S47)) (A0_4 : Option Addr) (c0_4 : Nat) (l0_4 : List (S42)) (A0_5 : Option Addr) (c0_5 : Nat) (l0_5 : List (S26)) (r : Bool) (w : World) (hr0_3 : Kd.C k47 w A0_3 l0_3.length l0_3) (hc0_3 : l0_3.length ≤ c0_3) (hr0_4 : Kd.C k42 w A0_4 l0_4.length l0_4) (hc0_4 : l0_4.length ≤ c0_4) (hr0_5 : Kd.C k26 w A0_5 l0_5.length l0_5) (hc0_5 : l0_5.length ≤ c0_5) (h : chalklineref08_Few.f k a0_0 a0_1 a0_2 l0_3 l0_4 l0_5 = some r),
    Calls Tryd.prog 64 #[.agg #[.int .i64 a0_0, .string a0_1, .int .i64 a0_2, .slice A0_3 l0_3.length c0_3, .slice A0_4 l0_4.length c0_4, .slice A0_5 l0_5.length c0_5]] w fun e w' => e = .returned (.bool r) ∧ Below w.heap.size w w' := by
  induction k using Nat.strongRecOn with
  | _ k ih =>
  intro a0_0 a0_1 a0_2 A0_3 c0_3 l0_3 A0_4 c0_4 l0_4 A0_5 c0_5 l0_5 r w hr0_3 hc0_3 hr0_4 hc0_4 hr0_5 hc0_5 h
  cases k with
  | zero => exact absurd h (by simp [chalklineref08_Few.f])
  | succ k =>
  simp only [chalklineref08_Few.f] at h
  have hu26 := Tryd.underlying26
  have HR0_3 := Aside0.mk hr0_3
  have HC0_3 := Aside0.mk hc0_3
  clear hr0_3 hc0_3
  have HR0_4 := Aside0.mk hr0_4
  have HC0_4 := Aside0.mk hc0_4
  clear hr0_4 hc0_4
  have HR0_5 := Aside0.mk hr0_5
  have HC0_5 := Aside0.mk hc0_5
  clear hr0_5 hc0_5
  have HB := Aside0.mk (Below.refl w.heap.size w)
  have H : (if (l0_5.length : Int) > 4 then (chalklineref08_Few.j0 k true a0_0 a0_1 a0_2 l0_3 l0_4 l0_5) else (if (l0_3.length : Int) > 4 then (chalklineref08_Few.j0 k true a0_0 a0_1 a0_2 l0_3 l0_4 l0_5) else (if (l0_4.length : Int) > 10 then (chalklineref08_Few.j0 k true a0_0 a0_1 a0_2 l0_3 l0_4 l0_5) else ((chalklineref06_Size.f k a0_0 a0_1 a0_2 l0_3 l0_4 l0_5).bind fun t218 => (chalklineref08_Few.j0 k (decide (t218 > 300)) a0_0 a0_1 a0_2 l0_3 l0_4 l0_5))))) = some r := h
  clear h
  have HC2 := Aside0.mk H
  clear H
  go_enter Tryd.func64, Tryd.ntmps64
  go_upto_region 1 with (first | ((with_reducible refine gate_dst (N := 1) rfl ?_); (try (refine gate_guard (by rfl) ?_; dsimp only)); refine box_event ?hg (N := 1) ?hd (cs := #[.int .i64 a0_0, .string a0_1, .int .i64 a0_2, .slice A0_3 l0_3.length c0_3, .slice A0_4 l0_4.length c0_4, .slice A0_5 l0_5.length c0_5]) (t := 26) ?hr ?_; (case hd => rfl); (case hg => rfl); (case hr => first | (go_simp; done) | (go_simp; rfl)); intro gb217 hg w3 hbox hb; have n0_ := Aside0.mk (below_step (by repeat (first | (with_reducible first | exact HB.out | apply below_alloc | apply pw_below_drewN | apply below_drew1) | exact HB.out)) hb); have n1_ := Aside0.mk (hbox); have n2_ := Aside0.mk ((by rw [hg]; exact (below_size (by repeat (first | (with_reducible first | exact HB.out | apply below_alloc | apply pw_below_drewN | apply below_drew1) | exact HB.out))) : w.heap.size ≤ gb217)); have n3_ := Aside0.mk ((by rw [hg]; exact (below_size (by repeat (first | (with_reducible first | exact HB.out | apply below_alloc | apply pw_below_drewN | apply below_drew1) | exact HB.out))) : w.heap.size ≤ gb217)); clear HB; have HB := n0_; have BK217 := n1_; have GW217 := n2_; have GE217 := n3_; clear n0_ n1_ n2_ n3_; clear hb hbox hg))
  (try simp only [Act.put, List.setIfInBounds_toArray, List.set_cons_zero, List.set_cons_succ])
  go_cut [24] (fun v24 wc => ∃ (kq : Nat) (x24_1 : Bool), v24 = .bool x24_1 ∧ Aside0 (chalklineref08_Few.j0 kq x24_1 a0_0 a0_1 a0_2 l0_3 l0_4 l0_5 = some r) ∧ Aside0 (kq ≤ k) ∧ Aside0 (wc.heap[gb217]? = some (.cells #[.int .i64 a0_0, .string a0_1, .int .i64 a0_2, (.slice A0_3 l0_3.length c0_3), (.slice A0_4 l0_4.length c0_4), (.slice A0_5 l0_5.length c0_5)] 26 (0, 0))) ∧ Aside0 (Below w.heap.size w wc))
  case first =>
    have H := HC2.out
    clear HC2
    by_cases c4 : (l0_5.length : Int) > 4
    · rw [if_pos c4] at H
      have c4b0 : decide (4 < (l0_5.length : Int)) = true := decide_eq_true c4
      have c4b1 : decide (4 < l0_5.length) = true := decide_eq_true (by omega)
      clear c4
      (first | rw [c4b0] | (simp only [i64_w, i32_w]; rw [c4b0]) | skip)
      have H' := Aside0.mk H
      clear H
      have hcz5_0 : w3.cell? ⟨gb217, 0, none⟩ = some (.int .i64 a0_0) := (blk_cell BK217.out 0).trans rfl
      have hcz5_1 : w3.cell? ⟨gb217, 1, none⟩ = some (.string a0_1) := (blk_cell BK217.out 1).trans rfl
      have hcz5_2 : w3.cell? ⟨gb217, 2, none⟩ = some (.int .i64 a0_2) := (blk_cell BK217.out 2).trans rfl
      have hcz5_3 : w3.cell? ⟨gb217, 3, none⟩ = some (.slice A0_3 l0_3.length c0_3) := (blk_cell BK217.out 3).trans rfl
      have hcz5_4 : w3.cell? ⟨gb217, 4, none⟩ = some (.slice A0_4 l0_4.length c0_4) := (blk_cell BK217.out 4).trans rfl
      have hcz5_5 : w3.cell? ⟨gb217, 5, none⟩ = some (.slice A0_5 l0_5.length c0_5) := (blk_cell BK217.out 5).trans rfl
      have hfz5_0 := blk_frozen BK217.out 0
      have hfz5_1 := blk_frozen BK217.out 1
      have hfz5_2 := blk_frozen BK217.out 2
      have hfz5_3 := blk_frozen BK217.out 3
      have hfz5_4 := blk_frozen BK217.out 4
      have hfz5_5 := blk_frozen BK217.out 5
      go_wp2
      go_meet
      case rel => exact ⟨_, (true), (by first | rfl | (simp; done) | (simp [*]; done)), H', ⟨by first | omega | exact Nat.le_refl _⟩, ⟨by (with_reducible repeat (first | refine blk_drewN ?_ _ | refine blk_drew ?_ | refine blk_alloc ?_ _)); exact BK217.out⟩, ⟨by repeat (first | (with_reducible first | exact HB.out | apply below_alloc | apply pw_below_drewN | apply below_drew1 | refine below_set ?_ GE217.out) | exact HB.out)⟩⟩
    · rw [if_neg c4] at H
      have c4b0 : decide (4 < (l0_5.length : Int)) = false := decide_eq_false c4
      have c4b1 : decide (4 < l0_5.length) = false := decide_eq_false (by omega)
      clear c4
      (first | rw [c4b0] | (simp only [i64_w, i32_w]; rw [c4b0]) | skip)
      by_cases c6 : (l0_3.length : Int) > 4
      · rw [if_pos c6] at H
        have c6b0 : decide (4 < (l0_3.length : Int)) = true := decide_eq_true c6
        have c6b1 : decide (4 < l0_3.length) = true := decide_eq_true (by omega)
        clear c6
        have H' := Aside0.mk H
        clear H
        have hcz7_0 : w3.cell? ⟨gb217, 0, none⟩ = some (.int .i64 a0_0) := (blk_cell BK217.out 0).trans rfl
        have hcz7_1 : w3.cell? ⟨gb217, 1, none⟩ = some (.string a0_1) := (blk_cell BK217.out 1).trans rfl
        have hcz7_2 : w3.cell? ⟨gb217, 2, none⟩ = some (.int .i64 a0_2) := (blk_cell BK217.out 2).trans rfl
        have hcz7_3 : w3.cell? ⟨gb217, 3, none⟩ = some (.slice A0_3 l0_3.length c0_3) := (blk_cell BK217.out 3).trans rfl
        have hcz7_4 : w3.cell? ⟨gb217, 4, none⟩ = some (.slice A0_4 l0_4.length c0_4) := (blk_cell BK217.out 4).trans rfl
        have hcz7_5 : w3.cell? ⟨gb217, 5, none⟩ = some (.slice A0_5 l0_5.length c0_5) := (blk_cell BK217.out 5).trans rfl
        have hfz7_0 := blk_frozen BK217.out 0
        have hfz7_1 := blk_frozen BK217.out 1
        have hfz7_2 := blk_frozen BK217.out 2
        have hfz7_3 := blk_frozen BK217.out 3
        have hfz7_4 := blk_frozen BK217.out 4
        have hfz7_5 := blk_frozen BK217.out 5
        go_wp2
        go_meet
        case rel => exact ⟨_, (true), (by first | rfl | (simp; done) | (simp [*]; done)), H', ⟨by first | omega | exact Nat.le_refl _⟩, ⟨by (with_reducible repeat (first | refine blk_drewN ?_ _ | refine blk_drew ?_ | refine blk_alloc ?_ _)); exact BK217.out⟩, ⟨by repeat (first | (with_reducible first | exact HB.out | apply below_alloc | apply pw_below_drewN | apply below_drew1 | refine below_set ?_ GE217.out) | exact HB.out)⟩⟩
      · rw [if_neg c6] at H
        have c6b0 : decide (4 < (l0_3.length : Int)) = false := decide_eq_false c6
        have c6b1 : decide (4 < l0_3.length) = false := decide_eq_false (by omega)
        clear c6
        by_cases c8 : (l0_4.length : Int) > 10
        · rw [if_pos c8] at H
          have c8b0 : decide (10 < (l0_4.length : Int)) = true := decide_eq_true c8
          have c8b1 : decide (10 < l0_4.length) = true := decide_eq_true (by omega)
          clear c8
          have H' := Aside0.mk H
          clear H
          have hcz9_0 : w3.cell? ⟨gb217, 0, none⟩ = some (.int .i64 a0_0) := (blk_cell BK217.out 0).trans rfl
          have hcz9_1 : w3.cell? ⟨gb217, 1, none⟩ = some (.string a0_1) := (blk_cell BK217.out 1).trans rfl
          have hcz9_2 : w3.cell? ⟨gb217, 2, none⟩ = some (.int .i64 a0_2) := (blk_cell BK217.out 2).trans rfl
          have hcz9_3 : w3.cell? ⟨gb217, 3, none⟩ = some (.slice A0_3 l0_3.length c0_3) := (blk_cell BK217.out 3).trans rfl
          have hcz9_4 : w3.cell? ⟨gb217, 4, none⟩ = some (.slice A0_4 l0_4.length c0_4) := (blk_cell BK217.out 4).trans rfl
          have hcz9_5 : w3.cell? ⟨gb217, 5, none⟩ = some (.slice A0_5 l0_5.length c0_5) := (blk_cell BK217.out 5).trans rfl
          have hfz9_0 := blk_frozen BK217.out 0
          have hfz9_1 := blk_frozen BK217.out 1
          have hfz9_2 := blk_frozen BK217.out 2
          have hfz9_3 := blk_frozen BK217.out 3
          have hfz9_4 := blk_frozen BK217.out 4
          have hfz9_5 := blk_frozen BK217.out 5
          go_wp2
          go_meet
          case rel => exact ⟨_, (true), (by first | rfl | (simp; done) | (simp [*]; done)), H', ⟨by first | omega | exact Nat.le_refl _⟩, ⟨by (with_reducible repeat (first | refine blk_drewN ?_ _ | refine blk_drew ?_ | refine blk_alloc ?_ _)); exact BK217.out⟩, ⟨by repeat (first | (with_reducible first | exact HB.out | apply below_alloc | apply pw_below_drewN | apply below_drew1 | refine below_set ?_ GE217.out) | exact HB.out)⟩⟩
        · rw [if_neg c8] at H
          have c8b0 : decide (10 < (l0_4.length : Int)) = false := decide_eq_false c8
          have c8b1 : decide (10 < l0_4.length) = false := decide_eq_false (by omega)
          clear c8
          replace H := Option.bind_eq_some_iff.mp H
          obtain ⟨t218, A100, H⟩ := H
          replace H : (chalklineref08_Few.j0 k (decide (t218 > 300)) a0_0 a0_1 a0_2 l0_3 l0_4 l0_5) = some r := H
          have A10 := Aside0.mk A100
          clear A100
          have H' := Aside0.mk H
          clear H
          have hcz11_0 : w3.cell? ⟨gb217, 0, none⟩ = some (.int .i64 a0_0) := (blk_cell BK217.out 0).trans rfl
          have hcz11_1 : w3.cell? ⟨gb217, 1, none⟩ = some (.string a0_1) := (blk_cell BK217.out 1).trans rfl
          have hcz11_2 : w3.cell? ⟨gb217, 2, none⟩ = some (.int .i64 a0_2) := (blk_cell BK217.out 2).trans rfl
          have hcz11_3 : w3.cell? ⟨gb217, 3, none⟩ = some (.slice A0_3 l0_3.length c0_3) := (blk_cell BK217.out 3).trans rfl
          have hcz11_4 : w3.cell? ⟨gb217, 4, none⟩ = some (.slice A0_4 l0_4.length c0_4) := (blk_cell BK217.out 4).trans rfl
          have hcz11_5 : w3.cell? ⟨gb217, 5, none⟩ = some (.slice A0_5 l0_5.length c0_5) := (blk_cell BK217.out 5).trans rfl
          have hfz11_0 := blk_frozen BK217.out 0
          have hfz11_1 := blk_frozen BK217.out 1
          have hfz11_2 := blk_frozen BK217.out 2
          have hfz11_3 := blk_frozen BK217.out 3
          have hfz11_4 := blk_frozen BK217.out 4
          have hfz11_5 := blk_frozen BK217.out 5
          go_wp2_with (first | (go_at_call 25; (with_reducible refine (chalklineref06_Size.calls k a0_0 a0_1 a0_2 _ _ l0_3 _ _ l0_4 _ _ l0_5 t218 _ ?side1 ?side2 ?side3 ?side4 ?side5 ?side6 A10.out).mono ?_); (case side1 => repeat (first | exact (Kd.C_below HR0_3.out HB.out) | (with_reducible refine Kd.C_alloc ?_ _) | (with_reducible refine Kd.C_drewN ?_ _) | (with_reducible refine Kd.C_drew ?_))); (case side2 => exact HC0_3.out); (case side3 => repeat (first | exact (Kd.C_below HR0_4.out HB.out) | (with_reducible refine Kd.C_alloc ?_ _) | (with_reducible refine Kd.C_drewN ?_ _) | (with_reducible refine Kd.C_drew ?_))); (case side4 => exact HC0_4.out); (case side5 => repeat (first | exact (Kd.C_below HR0_5.out HB.out) | (with_reducible refine Kd.C_alloc ?_ _) | (with_reducible refine Kd.C_drewN ?_ _) | (with_reducible refine Kd.C_drew ?_))); (case side6 => exact HC0_5.out); rintro e w12 ⟨rfl, hb⟩; have n0_ := Aside0.mk (blk_below (g := gb217) (o := .cells #[.int .i64 a0_0, .string a0_1, .int .i64 a0_2, .slice A0_3 l0_3.length c0_3, .slice A0_4 l0_4.length c0_4, .slice A0_5 l0_5.length c0_5] 26 (0, 0)) (by (with_reducible repeat (first | refine blk_drewN ?_ _ | refine blk_drew ?_ | refine blk_alloc ?_ _)); exact BK217.out) hb); have n1_ := Aside0.mk (below_step (by repeat (first | (with_reducible first | exact HB.out | apply below_alloc | apply pw_below_drewN | apply below_drew1 | refine below_set ?_ GE217.out) | exact HB.out)) hb); clear BK217; clear HB; have BK217 := n0_; have HB := n1_; clear n0_ n1_; (try clear hb); (try clear hb2); (try clear hk); (try clear hi)))
          go_meet
          case rel => exact ⟨_, (decide (t218 > 300)), (by first | rfl | (simp; done) | (simp [*]; done)), H', ⟨by first | omega | exact Nat.le_refl _⟩, ⟨by (with_reducible repeat (first | refine blk_drewN ?_ _ | refine blk_drew ?_ | refine blk_alloc ?_ _)); exact BK217.out⟩, ⟨by repeat (first | (with_reducible first | exact HB.out | apply below_alloc | apply pw_below_drewN | apply below_drew1 | refine below_set ?_ GE217.out) | exact HB.out)⟩⟩
  case rest =>
    clear HC2
    try clear p2
    try clear c4
    try clear c4b0
    try clear c4b1
    try clear c6
    try clear c6b0
    try clear c6b1
    try clear c8
    try clear c8b0
    try clear c8b1
    try clear hcz11_0
    try clear hcz11_1
    try clear hcz11_2
    try clear hcz11_3
    try clear hcz11_4
    try clear hcz11_5
    try clear hcz5_0
    try clear hcz5_1
    try clear hcz5_2
    try clear hcz5_3
    try clear hcz5_4
    try clear hcz5_5
    try clear hcz7_0
    try clear hcz7_1
    try clear hcz7_2
    try clear hcz7_3
    try clear hcz7_4
    try clear hcz7_5
    try clear hcz9_0
    try clear hcz9_1
    try clear hcz9_2
    try clear hcz9_3
    try clear hcz9_4
    try clear hcz9_5
    try clear hfz11_0
    try clear hfz11_1
    try clear hfz11_2
    try clear hfz11_3
    try clear hfz11_4
    try clear hfz11_5
    try clear hfz5_0
    try clear hfz5_1
    try clear hfz5_2
    try clear hfz5_3
    try clear hfz5_4
    try clear hfz5_5
    try clear hfz7_0
    try clear hfz7_1
    try clear hfz7_2
    try clear hfz7_3
    try clear hfz7_4
    try clear hfz7_5
    try clear hfz9_0
    try clear hfz9_1
    try clear hfz9_2
    try clear hfz9_3
    try clear hfz9_4
    try clear hfz9_5
    obtain ⟨kq, x24_1, rfl, HA, HJ1, BK217, HB⟩ := hcut
    cases kq with
    | zero => exact absurd HA.out (by simp [chalklineref08_Few.j0])
    | succ kj1 =>
      have H := HA.out
      clear HA
      simp only [chalklineref08_Few.j0] at H
      by_cases c13 : x24_1 = true
      · subst c13
        have H1 : (some false) = some r := by rw [if_pos rfl] at H; exact H
        clear H
        have H := H1
        clear H1
        obtain rfl := Option.some.inj H
        go_wp2
        go_ret
        exact ⟨by first | rfl | (simp [errW_none, errW_some] <;> rfl) | (simp [*, errW_none, errW_some] <;> rfl), by repeat (first | (with_reducible first | exact HB.out | apply below_alloc | apply pw_below_drewN | apply below_drew1 | refine below_set ?_ GE217.out) | exact HB.out)⟩
      · replace c13 := Bool.eq_false_iff.mpr c13
        subst c13
        have H1 : (chalklineref08_Few.l0 kj1 0 a0_0 a0_1 a0_2 l0_3 l0_4 l0_5) = some r := by rw [if_neg (show ¬ (false = true) by decide)] at H; exact H
        clear H
        have H := H1
        clear H1
        have H' := Aside0.mk H
        clear H
        go_wp2
        go_loopg [3] kj1 (fun kq v3 w' => ∃ (x3_2 : Int), v3 = .int .i64 x3_2 ∧ Aside0 (chalklineref08_Few.l0 kq x3_2 a0_0 a0_1 a0_2 l0_3 l0_4 l0_5 = some r) ∧ Aside0 (kq ≤ kj1) ∧ Aside0 (w'.heap[gb217]? = some (.cells #[.int .i64 a0_0, .string a0_1, .int .i64 a0_2, (.slice A0_3 l0_3.length c0_3), (.slice A0_4 l0_4.length c0_4), (.slice A0_5 l0_5.length c0_5)] 26 (0, 0))) ∧ Aside0 (Below w.heap.size w w'))
        case atStart => exact ⟨(0), (by first | rfl | (simp; done) | (simp [*]; done)), H', ⟨Nat.le_refl _⟩, ⟨by (with_reducible repeat (first | refine blk_drewN ?_ _ | refine blk_drew ?_ | refine blk_alloc ?_ _)); exact BK217.out⟩, ⟨by repeat (first | (with_reducible first | exact HB.out | apply below_alloc | apply pw_below_drewN | apply below_drew1 | refine below_set ?_ GE217.out) | exact HB.out)⟩⟩
        case round =>
          clear H'
          try clear c1
          try clear p2
          try clear c4
          try clear c4b0
          try clear c4b1
          try clear c6
          try clear c6b0
          try clear c6b1
          try clear c8
          try clear c8b0
          try clear c8b1
          try clear c13
          try clear hcz11_0
          try clear hcz11_1
          try clear hcz11_2
          try clear hcz11_3
          try clear hcz11_4
          try clear hcz11_5
          try clear hcz5_0
          try clear hcz5_1
          try clear hcz5_2
          try clear hcz5_3
          try clear hcz5_4
          try clear hcz5_5
          try clear hcz7_0
          try clear hcz7_1
          try clear hcz7_2
          try clear hcz7_3
          try clear hcz7_4
          try clear hcz7_5
          try clear hcz9_0
          try clear hcz9_1
          try clear hcz9_2
          try clear hcz9_3
          try clear hcz9_4
          try clear hcz9_5
          try clear hfz11_0
          try clear hfz11_1
          try clear hfz11_2
          try clear hfz11_3
          try clear hfz11_4
          try clear hfz11_5
          try clear hfz5_0
          try clear hfz5_1
          try clear hfz5_2
          try clear hfz5_3
          try clear hfz5_4
          try clear hfz5_5
          try clear hfz7_0
          try clear hfz7_1
          try clear hfz7_2
          try clear hfz7_3
          try clear hfz7_4
          try clear hfz7_5
          try clear hfz9_0
          try clear hfz9_1
          try clear hfz9_2
          try clear hfz9_3
          try clear hfz9_4
          try clear hfz9_5
          try clear p2
          obtain ⟨x3_2, rfl, HA, HK2, BK217, HB⟩ := hrel
          cases gk with
          | zero => exact absurd HA.out (by simp [chalklineref08_Few.l0])
          | succ k2 =>
            have H := HA.out
            clear HA
            simp only [chalklineref08_Few.l0] at H
            by_cases c14 : x3_2 < (l0_5.length : Int)
            · rw [if_pos c14] at H
              have c14b0 : decide (x3_2 < (l0_5.length : Int)) = true := decide_eq_true c14
              clear c14
              by_cases c15 : 0 ≤ x3_2
              · rw [if_pos c15] at H
                have c15b0 : decide (0 ≤ x3_2) = true := decide_eq_true c15
                clear c15
                replace H := Option.bind_eq_some_iff.mp H
                obtain ⟨t220, A160, H⟩ := H
                replace H : (if t220 = true then (chalklineref08_Few.l0 k2 (wrap64 (x3_2 + 1)) a0_0 a0_1 a0_2 l0_3 l0_4 l0_5) else (some false)) = some r := H
                have A16 := Aside0.mk A160
                clear A160
                by_cases c17 : t220 = true
                · subst c17
                  have H1 : (chalklineref08_Few.l0 k2 (wrap64 (x3_2 + 1)) a0_0 a0_1 a0_2 l0_3 l0_4 l0_5) = some r := by rw [if_pos rfl] at H; exact H
                  clear H
                  have H := H1
                  clear H1
                  have H' := Aside0.mk H
                  clear H
                  have hcz18_0 : wr.cell? ⟨gb217, 0, none⟩ = some (.int .i64 a0_0) := (blk_cell BK217.out 0).trans rfl
                  have hcz18_1 : wr.cell? ⟨gb217, 1, none⟩ = some (.string a0_1) := (blk_cell BK217.out 1).trans rfl
                  have hcz18_2 : wr.cell? ⟨gb217, 2, none⟩ = some (.int .i64 a0_2) := (blk_cell BK217.out 2).trans rfl
                  have hcz18_3 : wr.cell? ⟨gb217, 3, none⟩ = some (.slice A0_3 l0_3.length c0_3) := (blk_cell BK217.out 3).trans rfl
                  have hcz18_4 : wr.cell? ⟨gb217, 4, none⟩ = some (.slice A0_4 l0_4.length c0_4) := (blk_cell BK217.out 4).trans rfl
                  have hcz18_5 : wr.cell? ⟨gb217, 5, none⟩ = some (.slice A0_5 l0_5.length c0_5) := (blk_cell BK217.out 5).trans rfl
                  have hfz18_0 := blk_frozen BK217.out 0
                  have hfz18_1 := blk_frozen BK217.out 1
                  have hfz18_2 := blk_frozen BK217.out 2
                  have hfz18_3 := blk_frozen BK217.out 3
                  have hfz18_4 := blk_frozen BK217.out 4
                  have hfz18_5 := blk_frozen BK217.out 5
                  have p219 : 0 ≤ (x3_2 : Int) := of_decide_eq_true (by first | (with_reducible assumption) | assumption)
                  have q219 : x3_2 < (l0_5.length : Int) := of_decide_eq_true (by first | (with_reducible assumption) | assumption)
                  obtain ⟨ad219, A219_3, c219_3, A219_4, c219_4, A219_5, c219_5, e219, hx219_0, hx219_1, hx219_2, hx219_3, hx219_4, hx219_5, hl219_3, hi219_3, hl219_4, hi219_4, hl219_5, hi219_5⟩ := at_T26 HR0_5.out x3_2 p219 q219
                  cases e219
                  replace hx219_0 := (HB.out.cell (World.block_lt_of_cell? w _ hx219_0)).trans hx219_0
                  replace hx219_1 := (HB.out.cell (World.block_lt_of_cell? w _ hx219_1)).trans hx219_1
                  replace hx219_2 := (HB.out.cell (World.block_lt_of_cell? w _ hx219_2)).trans hx219_2
                  replace hx219_3 := (HB.out.cell (World.block_lt_of_cell? w _ hx219_3)).trans hx219_3
                  replace hx219_4 := (HB.out.cell (World.block_lt_of_cell? w _ hx219_4)).trans hx219_4
                  replace hx219_5 := (HB.out.cell (World.block_lt_of_cell? w _ hx219_5)).trans hx219_5
                  have HR219_3 := Aside0.mk hi219_3
                  have HC219_3 := Aside0.mk hl219_3
                  clear hi219_3 hl219_3
                  have HR219_4 := Aside0.mk hi219_4
                  have HC219_4 := Aside0.mk hl219_4
                  clear hi219_4 hl219_4
                  have HR219_5 := Aside0.mk hi219_5
                  have HC219_5 := Aside0.mk hl219_5
                  clear hi219_5 hl219_5
                  replace p219 := eq_true p219
                  replace q219 := eq_true q219
                  go_wp2_with (first | ((with_reducible refine gate_callee (f := 64) rfl ?_); refine goesL_ (some 37) rfl rfl Tryd.func64 (by kernel_rfl) rfl #[.agg #[.int .i64 ((rd_T26 l0_5 x3_2).f0), .string ((rd_T26 l0_5 x3_2).f1), .int .i64 ((rd_T26 l0_5 x3_2).f2), .slice A219_3 ((rd_T26 l0_5 x3_2).f3).length c219_3, .slice A219_4 ((rd_T26 l0_5 x3_2).f4).length c219_4, .slice A219_5 ((rd_T26 l0_5 x3_2).f5).length c219_5]] rfl (by (try simp only [List.map_toArray, List.map_cons, List.map_nil]); first | done | rfl | (simp only [List.length_drop, List.length_take]; rfl)) ?_; (with_reducible refine (ih k2 (by have := HJ1.out; have := HK2.out; omega) ((rd_T26 l0_5 x3_2).f0) ((rd_T26 l0_5 x3_2).f1) ((rd_T26 l0_5 x3_2).f2) _ _ ((rd_T26 l0_5 x3_2).f3) _ _ ((rd_T26 l0_5 x3_2).f4) _ _ ((rd_T26 l0_5 x3_2).f5) true _ ?side1 ?side2 ?side3 ?side4 ?side5 ?side6 A16.out).mono ?_); (case side1 => repeat (first | exact (Kd.C_below HR219_3.out HB.out) | (with_reducible refine Kd.C_alloc ?_ _) | (with_reducible refine Kd.C_drewN ?_ _) | (with_reducible refine Kd.C_drew ?_))); (case side2 => exact HC219_3.out); (case side3 => repeat (first | exact (Kd.C_below HR219_4.out HB.out) | (with_reducible refine Kd.C_alloc ?_ _) | (with_reducible refine Kd.C_drewN ?_ _) | (with_reducible refine Kd.C_drew ?_))); (case side4 => exact HC219_4.out); (case side5 => repeat (first | exact (Kd.C_below HR219_5.out HB.out) | (with_reducible refine Kd.C_alloc ?_ _) | (with_reducible refine Kd.C_drewN ?_ _) | (with_reducible refine Kd.C_drew ?_))); (case side6 => exact HC219_5.out); rintro e w19 ⟨rfl, hb⟩; refine ⟨_, rfl, ?_⟩; have n0_ := Aside0.mk (blk_below (g := gb217) (o := .cells #[.int .i64 a0_0, .string a0_1, .int .i64 a0_2, .slice A0_3 l0_3.length c0_3, .slice A0_4 l0_4.length c0_4, .slice (some ad219) l0_5.length c0_5] 26 (0, 0)) (by (with_reducible repeat (first | refine blk_drewN ?_ _ | refine blk_drew ?_ | refine blk_alloc ?_ _)); exact BK217.out) hb); have n1_ := Aside0.mk (below_step (by repeat (first | (with_reducible first | exact HB.out | apply below_alloc | apply pw_below_drewN | apply below_drew1 | refine below_set ?_ GE217.out) | exact HB.out)) hb); clear BK217; clear HB; have BK217 := n0_; have HB := n1_; clear n0_ n1_; (try clear hb); (try clear hb2); (try clear hk); (try clear hi)))
                  go_roundg k2
                  case measure => have := HJ1.out; have := HK2.out; omega
                  case rel => exact ⟨(wrap64 (x3_2 + 1)), (by first | rfl | (simp; done) | (simp [*]; done)), H', ⟨by have := HJ1.out; have := HK2.out; omega⟩, ⟨by (with_reducible repeat (first | refine blk_drewN ?_ _ | refine blk_drew ?_ | refine blk_alloc ?_ _)); exact BK217.out⟩, ⟨by repeat (first | (with_reducible first | exact HB.out | apply below_alloc | apply pw_below_drewN | apply below_drew1 | refine below_set ?_ GE217.out) | exact HB.out)⟩⟩
                · replace c17 := Bool.eq_false_iff.mpr c17
                  subst c17
                  have H1 : (some false) = some r := by rw [if_neg (show ¬ (false = true) by decide)] at H; exact H
                  clear H
                  have H := H1
                  clear H1
                  obtain rfl := Option.some.inj H
                  have hcz20_0 : wr.cell? ⟨gb217, 0, none⟩ = some (.int .i64 a0_0) := (blk_cell BK217.out 0).trans rfl
                  have hcz20_1 : wr.cell? ⟨gb217, 1, none⟩ = some (.string a0_1) := (blk_cell BK217.out 1).trans rfl
                  have hcz20_2 : wr.cell? ⟨gb217, 2, none⟩ = some (.int .i64 a0_2) := (blk_cell BK217.out 2).trans rfl
                  have hcz20_3 : wr.cell? ⟨gb217, 3, none⟩ = some (.slice A0_3 l0_3.length c0_3) := (blk_cell BK217.out 3).trans rfl
                  have hcz20_4 : wr.cell? ⟨gb217, 4, none⟩ = some (.slice A0_4 l0_4.length c0_4) := (blk_cell BK217.out 4).trans rfl
                  have hcz20_5 : wr.cell? ⟨gb217, 5, none⟩ = some (.slice A0_5 l0_5.length c0_5) := (blk_cell BK217.out 5).trans rfl
                  have hfz20_0 := blk_frozen BK217.out 0
                  have hfz20_1 := blk_frozen BK217.out 1
                  have hfz20_2 := blk_frozen BK217.out 2
                  have hfz20_3 := blk_frozen BK217.out 3
                  have hfz20_4 := blk_frozen BK217.out 4
                  have hfz20_5 := blk_frozen BK217.out 5
                  have p219 : 0 ≤ (x3_2 : Int) := of_decide_eq_true (by first | (with_reducible assumption) | assumption)
                  have q219 : x3_2 < (l0_5.length : Int) := of_decide_eq_true (by first | (with_reducible assumption) | assumption)
                  obtain ⟨ad219, A219_3, c219_3, A219_4, c219_4, A219_5, c219_5, e219, hx219_0, hx219_1, hx219_2, hx219_3, hx219_4, hx219_5, hl219_3, hi219_3, hl219_4, hi219_4, hl219_5, hi219_5⟩ := at_T26 HR0_5.out x3_2 p219 q219
                  cases e219
                  replace hx219_0 := (HB.out.cell (World.block_lt_of_cell? w _ hx219_0)).trans hx219_0
                  replace hx219_1 := (HB.out.cell (World.block_lt_of_cell? w _ hx219_1)).trans hx219_1
                  replace hx219_2 := (HB.out.cell (World.block_lt_of_cell? w _ hx219_2)).trans hx219_2
                  replace hx219_3 := (HB.out.cell (World.block_lt_of_cell? w _ hx219_3)).trans hx219_3
                  replace hx219_4 := (HB.out.cell (World.block_lt_of_cell? w _ hx219_4)).trans hx219_4
                  replace hx219_5 := (HB.out.cell (World.block_lt_of_cell? w _ hx219_5)).trans hx219_5
                  have HR219_3 := Aside0.mk hi219_3
                  have HC219_3 := Aside0.mk hl219_3
                  clear hi219_3 hl219_3
                  have HR219_4 := Aside0.mk hi219_4
                  have HC219_4 := Aside0.mk hl219_4
                  clear hi219_4 hl219_4
                  have HR219_5 := Aside0.mk hi219_5
                  have HC219_5 := Aside0.mk hl219_5
                  clear hi219_5 hl219_5
                  replace p219 := eq_true p219
                  replace q219 := eq_true q219
                  go_wp2_with (first | ((with_reducible refine gate_callee (f := 64) rfl ?_); refine goesL_ (some 37) rfl rfl Tryd.func64 (by kernel_rfl) rfl #[.agg #[.int .i64 ((rd_T26 l0_5 x3_2).f0), .string ((rd_T26 l0_5 x3_2).f1), .int .i64 ((rd_T26 l0_5 x3_2).f2), .slice A219_3 ((rd_T26 l0_5 x3_2).f3).length c219_3, .slice A219_4 ((rd_T26 l0_5 x3_2).f4).length c219_4, .slice A219_5 ((rd_T26 l0_5 x3_2).f5).length c219_5]] rfl (by (try simp only [List.map_toArray, List.map_cons, List.map_nil]); first | done | rfl | (simp only [List.length_drop, List.length_take]; rfl)) ?_; (with_reducible refine (ih k2 (by have := HJ1.out; have := HK2.out; omega) ((rd_T26 l0_5 x3_2).f0) ((rd_T26 l0_5 x3_2).f1) ((rd_T26 l0_5 x3_2).f2) _ _ ((rd_T26 l0_5 x3_2).f3) _ _ ((rd_T26 l0_5 x3_2).f4) _ _ ((rd_T26 l0_5 x3_2).f5) false _ ?side1 ?side2 ?side3 ?side4 ?side5 ?side6 A16.out).mono ?_); (case side1 => repeat (first | exact (Kd.C_below HR219_3.out HB.out) | (with_reducible refine Kd.C_alloc ?_ _) | (with_reducible refine Kd.C_drewN ?_ _) | (with_reducible refine Kd.C_drew ?_))); (case side2 => exact HC219_3.out); (case side3 => repeat (first | exact (Kd.C_below HR219_4.out HB.out) | (with_reducible refine Kd.C_alloc ?_ _) | (with_reducible refine Kd.C_drewN ?_ _) | (with_reducible refine Kd.C_drew ?_))); (case side4 => exact HC219_4.out); (case side5 => repeat (first | exact (Kd.C_below HR219_5.out HB.out) | (with_reducible refine Kd.C_alloc ?_ _) | (with_reducible refine Kd.C_drewN ?_ _) | (with_reducible refine Kd.C_drew ?_))); (case side6 => exact HC219_5.out); rintro e w21 ⟨rfl, hb⟩; refine ⟨_, rfl, ?_⟩; have n0_ := Aside0.mk (blk_below (g := gb217) (o := .cells #[.int .i64 a0_0, .string a0_1, .int .i64 a0_2, .slice A0_3 l0_3.length c0_3, .slice A0_4 l0_4.length c0_4, .slice (some ad219) l0_5.length c0_5] 26 (0, 0)) (by (with_reducible repeat (first | refine blk_drewN ?_ _ | refine blk_drew ?_ | refine blk_alloc ?_ _)); exact BK217.out) hb); have n1_ := Aside0.mk (below_step (by repeat (first | (with_reducible first | exact HB.out | apply below_alloc | apply pw_below_drewN | apply below_drew1 | refine below_set ?_ GE217.out) | exact HB.out)) hb); clear BK217; clear HB; have BK217 := n0_; have HB := n1_; clear n0_ n1_; (try clear hb); (try clear hb2); (try clear hk); (try clear hi)))
                  go_ret
                  exact ⟨by first | rfl | (simp [errW_none, errW_some] <;> rfl) | (simp [*, errW_none, errW_some] <;> rfl), by repeat (first | (with_reducible first | exact HB.out | apply below_alloc | apply pw_below_drewN | apply below_drew1 | refine below_set ?_ GE217.out) | exact HB.out)⟩
              · rw [if_neg c15] at H
                exact absurd H (by simp)
            · rw [if_neg c14] at H
              have c14b0 : decide (x3_2 < (l0_5.length : Int)) = false := decide_eq_false c14
              clear c14
              obtain rfl := Option.some.inj H
              have hcz22_0 : wr.cell? ⟨gb217, 0, none⟩ = some (.int .i64 a0_0) := (blk_cell BK217.out 0).trans rfl
              have hcz22_1 : wr.cell? ⟨gb217, 1, none⟩ = some (.string a0_1) := (blk_cell BK217.out 1).trans rfl
              have hcz22_2 : wr.cell? ⟨gb217, 2, none⟩ = some (.int .i64 a0_2) := (blk_cell BK217.out 2).trans rfl
              have hcz22_3 : wr.cell? ⟨gb217, 3, none⟩ = some (.slice A0_3 l0_3.length c0_3) := (blk_cell BK217.out 3).trans rfl
              have hcz22_4 : wr.cell? ⟨gb217, 4, none⟩ = some (.slice A0_4 l0_4.length c0_4) := (blk_cell BK217.out 4).trans rfl
              have hcz22_5 : wr.cell? ⟨gb217, 5, none⟩ = some (.slice A0_5 l0_5.length c0_5) := (blk_cell BK217.out 5).trans rfl
              have hfz22_0 := blk_frozen BK217.out 0
              have hfz22_1 := blk_frozen BK217.out 1
              have hfz22_2 := blk_frozen BK217.out 2
              have hfz22_3 := blk_frozen BK217.out 3
              have hfz22_4 := blk_frozen BK217.out 4
              have hfz22_5 := blk_frozen BK217.out 5
              go_wp2
              go_ret
              exact ⟨by first | rfl | (simp [errW_none, errW_some] <;> rfl) | (simp [*, errW_none, errW_some] <;> rfl), by repeat (first | (with_reducible first | exact HB.out | apply below_alloc | apply pw_below_drewN | apply below_drew1 | refine below_set ?_ GE217.out) | exact HB.out)⟩
end Go.Proofs.YtmlcaecknocpoaaDoor.Pr
namespace Go.Proofs.YtmlcaecknocpoaaDoor.Pr
open Go.RowKit Go.Proofs.YtmlcaecknocpoaaDoorW.PrintWords Go.Proofs.YtmlcaecknocpoaaDoorW.PrintLast Go.Proofs.YtmlcaecknocpoaaDoorW.PrintMore
attribute [local go_sem] max2_int min2_int max_two min_two max_three min_three max_four min_four   
set_option linter.unusedVariables false
set_option linter.unusedSimpArgs false
def chalklinelaw08_few.f (k : Nat) (l0 : List (S42)) (a1_0 : Int) (a1_1 : ByteArray) (a1_2 : Int) (l1_3 : List (S47)) (l1_4 : List (S42)) (l1_5 : List (S26)) : Option (Bool) := if (l0.length : Int) ≤ 30 then ((chalklineref08_Few.f k a1_0 a1_1 a1_2 l1_3 l1_4 l1_5).bind fun t222 => (some t222)) else (some false)
set_option maxHeartbeats 8000000 in
set_option maxRecDepth 100000 in
theorem chalklinelaw08_few.calls (k : Nat) (A0 : Option Addr) (c0 : Nat) (l0 : List (S42)) (a1_0 : Int) (a1_1 : ByteArray) (a1_2 : Int) (A1_3 : Option Addr) (c1_3 : Nat) (l1_3 : List (S47)) (A1_4 : Option Addr) (c1_4 : Nat) (l1_4 : List (S42)) (A1_5 : Option Addr) (c1_5 : Nat) (l1_5 : List (S26)) (r : Bool) (w : World) (hr0 : Kd.C k42 w A0 l0.length l0) (hc0 : l0.length ≤ c0) (hr1_3 : Kd.C k47 w A1_3 l1_3.length l1_3) (hc1_3 : l1_3.length ≤ c1_3) (hr1_4 : Kd.C k42 w A1_4 l1_4.length l1_4) (hc1_4 : l1_4.length ≤ c1_4) (hr1_5 : Kd.C k26 w A1_5 l1_5.length l1_5) (hc1_5 : l1_5.length ≤ c1_5) (h : chalklinelaw08_few.f k l0 a1_0 a1_1 a1_2 l1_3 l1_4 l1_5 = some r) :
    Calls Tryd.prog 37 #[.slice A0 l0.length c0, .agg #[.int .i64 a1_0, .string a1_1, .int .i64 a1_2, .slice A1_3 l1_3.length c1_3, .slice A1_4 l1_4.length c1_4, .slice A1_5 l1_5.length c1_5]] w fun e w' => e = .returned (.bool r) ∧ Below w.heap.size w w' := by
  have hu26 := Tryd.underlying26
  have HR0 := Aside0.mk hr0
  have HC0 := Aside0.mk hc0
  clear hr0 hc0
  have HR1_3 := Aside0.mk hr1_3
  have HC1_3 := Aside0.mk hc1_3
  clear hr1_3 hc1_3
  have HR1_4 := Aside0.mk hr1_4
  have HC1_4 := Aside0.mk hc1_4
  clear hr1_4 hc1_4
  have HR1_5 := Aside0.mk hr1_5
  have HC1_5 := Aside0.mk hc1_5
  clear hr1_5 hc1_5
  have HB := Aside0.mk (Below.refl w.heap.size w)
  have H : (if (l0.length : Int) ≤ 30 then ((chalklineref08_Few.f k a1_0 a1_1 a1_2 l1_3 l1_4 l1_5).bind fun t222 => (some t222)) else (some false)) = some r := h
  clear h
  by_cases c3 : (l0.length : Int) ≤ 30
  · rw [if_pos c3] at H
    have c3b0 : decide ((l0.length : Int) ≤ 30) = true := decide_eq_true c3
    have c3b1 : decide (l0.length ≤ 30) = true := decide_eq_true (by omega)
    clear c3
    replace H := Option.bind_eq_some_iff.mp H
    obtain ⟨t222, A40, H⟩ := H
    replace H : (some t222) = some r := H
    have A4 := Aside0.mk A40
    clear A40
    obtain rfl := Option.some.inj H
    go_enter Tryd.func37, Tryd.ntmps37
    go_wp2_with (first | ((with_reducible refine gate_dst (N := 3) rfl ?_); refine box_event ?hg (N := 3) ?hd (cs := #[.int .i64 a1_0, .string a1_1, .int .i64 a1_2, .slice A1_3 l1_3.length c1_3, .slice A1_4 l1_4.length c1_4, .slice A1_5 l1_5.length c1_5]) (t := 26) ?hr ?_; (case hd => rfl); (case hg => rfl); (case hr => first | (go_simp; done) | (go_simp; rfl)); intro gb221 hg w5 hbox hb; have n0_ := Aside0.mk (below_step (by repeat (first | (with_reducible first | exact HB.out | apply below_alloc | apply pw_below_drewN | apply below_drew1) | exact HB.out)) hb); have n1_ := Aside0.mk (hbox); have n2_ := Aside0.mk ((by rw [hg]; exact (below_size (by repeat (first | (with_reducible first | exact HB.out | apply below_alloc | apply pw_below_drewN | apply below_drew1) | exact HB.out))) : w.heap.size ≤ gb221)); have n3_ := Aside0.mk ((by rw [hg]; exact (below_size (by repeat (first | (with_reducible first | exact HB.out | apply below_alloc | apply pw_below_drewN | apply below_drew1) | exact HB.out))) : w.heap.size ≤ gb221)); clear HB; have HB := n0_; have BK221 := n1_; have GW221 := n2_; have GE221 := n3_; clear n0_ n1_ n2_ n3_; clear hb hbox hg; have hcz6_0 : w5.cell? ⟨gb221, 0, none⟩ = some (.int .i64 a1_0) := (blk_cell BK221.out 0).trans rfl; have hcz6_1 : w5.cell? ⟨gb221, 1, none⟩ = some (.string a1_1) := (blk_cell BK221.out 1).trans rfl; have hcz6_2 : w5.cell? ⟨gb221, 2, none⟩ = some (.int .i64 a1_2) := (blk_cell BK221.out 2).trans rfl; have hcz6_3 : w5.cell? ⟨gb221, 3, none⟩ = some (.slice A1_3 l1_3.length c1_3) := (blk_cell BK221.out 3).trans rfl; have hcz6_4 : w5.cell? ⟨gb221, 4, none⟩ = some (.slice A1_4 l1_4.length c1_4) := (blk_cell BK221.out 4).trans rfl; have hcz6_5 : w5.cell? ⟨gb221, 5, none⟩ = some (.slice A1_5 l1_5.length c1_5) := (blk_cell BK221.out 5).trans rfl; have hfz6_0 := blk_frozen BK221.out 0; have hfz6_1 := blk_frozen BK221.out 1; have hfz6_2 := blk_frozen BK221.out 2; have hfz6_3 := blk_frozen BK221.out 3; have hfz6_4 := blk_frozen BK221.out 4; have hfz6_5 := blk_frozen BK221.out 5) | (go_at_call 64; (with_reducible refine (chalklineref08_Few.calls k a1_0 a1_1 a1_2 _ _ l1_3 _ _ l1_4 _ _ l1_5 t222 _ ?side1 ?side2 ?side3 ?side4 ?side5 ?side6 A4.out).mono ?_); (case side1 => repeat (first | exact (Kd.C_below HR1_3.out HB.out) | (with_reducible refine Kd.C_alloc ?_ _) | (with_reducible refine Kd.C_drewN ?_ _) | (with_reducible refine Kd.C_drew ?_))); (case side2 => exact HC1_3.out); (case side3 => repeat (first | exact (Kd.C_below HR1_4.out HB.out) | (with_reducible refine Kd.C_alloc ?_ _) | (with_reducible refine Kd.C_drewN ?_ _) | (with_reducible refine Kd.C_drew ?_))); (case side4 => exact HC1_4.out); (case side5 => repeat (first | exact (Kd.C_below HR1_5.out HB.out) | (with_reducible refine Kd.C_alloc ?_ _) | (with_reducible refine Kd.C_drewN ?_ _) | (with_reducible refine Kd.C_drew ?_))); (case side6 => exact HC1_5.out); rintro e w7 ⟨rfl, hb⟩; have n0_ := Aside0.mk (blk_below (g := gb221) (o := .cells #[.int .i64 a1_0, .string a1_1, .int .i64 a1_2, .slice A1_3 l1_3.length c1_3, .slice A1_4 l1_4.length c1_4, .slice A1_5 l1_5.length c1_5] 26 (0, 0)) (by (with_reducible repeat (first | refine blk_drewN ?_ _ | refine blk_drew ?_ | refine blk_alloc ?_ _)); exact BK221.out) hb); have n1_ := Aside0.mk (below_step (by repeat (first | (with_reducible first | exact HB.out | apply below_alloc | apply pw_below_drewN | apply below_drew1 | refine below_set ?_ GE221.out) | exact HB.out)) hb); clear BK221; clear HB; have BK221 := n0_; have HB := n1_; clear n0_ n1_; (try clear hb); (try clear hb2); (try clear hk); (try clear hi)))
    go_ret
    exact ⟨by first | rfl | (simp [errW_none, errW_some] <;> rfl) | (simp [*, errW_none, errW_some] <;> rfl), by repeat (first | (with_reducible first | exact HB.out | apply below_alloc | apply pw_below_drewN | apply below_drew1 | refine below_set ?_ GE221.out) | exact HB.out)⟩
  · rw [if_neg c3] at H
    have c3b0 : decide ((l0.length : Int) ≤ 30) = false := decide_eq_false c3
    have c3b1 : decide (l0.length ≤ 30) = false := decide_eq_false (by omega)
    clear c3
    obtain rfl := Option.some.inj H
    go_enter Tryd.func37, Tryd.ntmps37
    go_wp2_with (first | ((with_reducible refine gate_dst (N := 3) rfl ?_); refine box_event ?hg (N := 3) ?hd (cs := #[.int .i64 a1_0, .string a1_1, .int .i64 a1_2, .slice A1_3 l1_3.length c1_3, .slice A1_4 l1_4.length c1_4, .slice A1_5 l1_5.length c1_5]) (t := 26) ?hr ?_; (case hd => rfl); (case hg => rfl); (case hr => first | (go_simp; done) | (go_simp; rfl)); intro gb221 hg w8 hbox hb; have n0_ := Aside0.mk (below_step (by repeat (first | (with_reducible first | exact HB.out | apply below_alloc | apply pw_below_drewN | apply below_drew1) | exact HB.out)) hb); have n1_ := Aside0.mk (hbox); have n2_ := Aside0.mk ((by rw [hg]; exact (below_size (by repeat (first | (with_reducible first | exact HB.out | apply below_alloc | apply pw_below_drewN | apply below_drew1) | exact HB.out))) : w.heap.size ≤ gb221)); have n3_ := Aside0.mk ((by rw [hg]; exact (below_size (by repeat (first | (with_reducible first | exact HB.out | apply below_alloc | apply pw_below_drewN | apply below_drew1) | exact HB.out))) : w.heap.size ≤ gb221)); clear HB; have HB := n0_; have BK221 := n1_; have GW221 := n2_; have GE221 := n3_; clear n0_ n1_ n2_ n3_; clear hb hbox hg))
    go_ret
    exact ⟨by first | rfl | (simp [errW_none, errW_some] <;> rfl) | (simp [*, errW_none, errW_some] <;> rfl), by repeat (first | (with_reducible first | exact HB.out | apply below_alloc | apply pw_below_drewN | apply below_drew1 | refine below_set ?_ GE221.out) | exact HB.out)⟩
end Go.Proofs.YtmlcaecknocpoaaDoor.Pr
namespace Go.Proofs.YtmlcaecknocpoaaDoor.Pr
open Go.RowKit Go.Proofs.YtmlcaecknocpoaaDoorW.PrintWords Go.Proofs.YtmlcaecknocpoaaDoorW.PrintLast Go.Proofs.YtmlcaecknocpoaaDoorW.PrintMore
attribute [local go_sem] max2_int min2_int max_two min_two max_three min_three max_four min_four   
set_option linter.unusedVariables false
set_option linter.unusedSimpArgs false
end Go.Proofs.YtmlcaecknocpoaaDoor.Pr
namespace Go.Proofs.YtmlcaecknocpoaaDoor.Pr
open Go.RowKit Go.Proofs.YtmlcaecknocpoaaDoorW.PrintWords Go.Proofs.YtmlcaecknocpoaaDoorW.PrintLast Go.Proofs.YtmlcaecknocpoaaDoorW.PrintMore
attribute [local go_sem] max2_int min2_int max_two min_two max_three min_three max_four min_four   
set_option linter.unusedVariables false
set_option linter.unusedSimpArgs false
end Go.Proofs.YtmlcaecknocpoaaDoor.Pr
namespace Go.Proofs.YtmlcaecknocpoaaDoor.Pr
open Go.RowKit Go.Proofs.YtmlcaecknocpoaaDoorW.PrintWords Go.Proofs.YtmlcaecknocpoaaDoorW.PrintLast Go.Proofs.YtmlcaecknocpoaaDoorW.PrintMore
attribute [local go_sem] max2_int min2_int max_two min_two max_three min_three max_four min_four   
set_option linter.unusedVariables false
set_option linter.unusedSimpArgs false
end Go.Proofs.YtmlcaecknocpoaaDoor.Pr
namespace Go.Proofs.YtmlcaecknocpoaaDoor.Pr
open Go.RowKit Go.Proofs.YtmlcaecknocpoaaDoorW.PrintWords Go.Proofs.YtmlcaecknocpoaaDoorW.PrintLast Go.Proofs.YtmlcaecknocpoaaDoorW.PrintMore
attribute [local go_sem] max2_int min2_int max_two min_two max_three min_three max_four min_four   
set_option linter.unusedVariables false
set_option linter.unusedSimpArgs false
end Go.Proofs.YtmlcaecknocpoaaDoor.Pr
namespace Go.Proofs.YtmlcaecknocpoaaDoor.Pr
open Go.RowKit Go.Proofs.YtmlcaecknocpoaaDoorW.PrintWords Go.Proofs.YtmlcaecknocpoaaDoorW.PrintLast Go.Proofs.YtmlcaecknocpoaaDoorW.PrintMore
attribute [local go_sem] max2_int min2_int max_two min_two max_three min_three max_four min_four   
set_option linter.unusedVariables false
set_option linter.unusedSimpArgs false
end Go.Proofs.YtmlcaecknocpoaaDoor.Pr
namespace Go.Proofs.YtmlcaecknocpoaaDoor.Pr
open Go.RowKit Go.Proofs.YtmlcaecknocpoaaDoorW.PrintWords Go.Proofs.YtmlcaecknocpoaaDoorW.PrintLast Go.Proofs.YtmlcaecknocpoaaDoorW.PrintMore
attribute [local go_sem] max2_int min2_int max_two min_two max_three min_three max_four min_four   
set_option linter.unusedVariables false
set_option linter.unusedSimpArgs false
end Go.Proofs.YtmlcaecknocpoaaDoor.Pr
namespace Go.Proofs.YtmlcaecknocpoaaDoor.Pr
open Go.RowKit Go.Proofs.YtmlcaecknocpoaaDoorW.PrintWords Go.Proofs.YtmlcaecknocpoaaDoorW.PrintLast Go.Proofs.YtmlcaecknocpoaaDoorW.PrintMore
attribute [local go_sem] max2_int min2_int max_two min_two max_three min_three max_four min_four   
set_option linter.unusedVariables false
set_option linter.unusedSimpArgs false
end Go.Proofs.YtmlcaecknocpoaaDoor.Pr
namespace Go.Proofs.YtmlcaecknocpoaaDoor.Pr
open Go.RowKit Go.Proofs.YtmlcaecknocpoaaDoorW.PrintWords Go.Proofs.YtmlcaecknocpoaaDoorW.PrintLast Go.Proofs.YtmlcaecknocpoaaDoorW.PrintMore
attribute [local go_sem] max2_int min2_int max_two min_two max_three min_three max_four min_four   
set_option linter.unusedVariables false
set_option linter.unusedSimpArgs false
end Go.Proofs.YtmlcaecknocpoaaDoor.Pr
namespace Go.Proofs.YtmlcaecknocpoaaDoor.Pr
open Go.RowKit Go.Proofs.YtmlcaecknocpoaaDoorW.PrintWords Go.Proofs.YtmlcaecknocpoaaDoorW.PrintLast Go.Proofs.YtmlcaecknocpoaaDoorW.PrintMore
attribute [local go_sem] max2_int min2_int max_two min_two max_three min_three max_four min_four   
set_option linter.unusedVariables false
set_option linter.unusedSimpArgs false
end Go.Proofs.YtmlcaecknocpoaaDoor.Pr
namespace Go.Proofs.YtmlcaecknocpoaaDoor.Pr
open Go.RowKit Go.Proofs.YtmlcaecknocpoaaDoorW.PrintWords Go.Proofs.YtmlcaecknocpoaaDoorW.PrintLast Go.Proofs.YtmlcaecknocpoaaDoorW.PrintMore
attribute [local go_sem] max2_int min2_int max_two min_two max_three min_three max_four min_four   
set_option linter.unusedVariables false
set_option linter.unusedSimpArgs false
end Go.Proofs.YtmlcaecknocpoaaDoor.Pr
namespace Go.Proofs.YtmlcaecknocpoaaDoor.Pr
open Go.RowKit Go.Proofs.YtmlcaecknocpoaaDoorW.PrintWords Go.Proofs.YtmlcaecknocpoaaDoorW.PrintLast Go.Proofs.YtmlcaecknocpoaaDoorW.PrintMore
attribute [local go_sem] max2_int min2_int max_two min_two max_three min_three max_four min_four   
set_option linter.unusedVariables false
set_option linter.unusedSimpArgs false
end Go.Proofs.YtmlcaecknocpoaaDoor.Pr
namespace Go.Proofs.YtmlcaecknocpoaaDoor.It
set_option linter.unusedVariables false
set_option linter.unusedSimpArgs false
open Go Go.RowKit Go.Shelf Go.Proofs.YtmlcaecknocpoaaDoorW.PrintWords Go.Proofs.YtmlcaecknocpoaaDoorW.PrintLast Go.Proofs.YtmlcaecknocpoaaDoor.Pr Go.Proofs.YtmlcaecknocpoaaDoor.Sp
theorem few8_ev (s : Nat) : ∀ x : S26, size x ≤ s → size x ≤ 4611686018427387904 → NmOk x → ∃ r : Bool, Ev (fun k => chalklineref08_Few.f k x.f0 x.f1 x.f2 x.f3 x.f4 x.f5) r := by
  induction s with
  | zero => intro x h; rw [size_eq] at h; omega
  | succ s ih =>
    rintro ⟨k, nm, n, ts, bs, l⟩ hs hb hn
    have hsz := refSize_ev (size ⟨k, nm, n, ts, bs, l⟩) ⟨k, nm, n, ts, bs, l⟩ (Nat.le_refl _) hb
    simp only [size] at hs hb
    have hlen := len_sizes l
    have loop : ∀ d j : Nat, j + d = l.length → ∃ r, Ev (fun K => chalklineref08_Few.l0 K (j : Int) k nm n ts bs l) r := by
      intro d
      induction d with
      | zero =>
        intro j hj
        refine ⟨true, Ev.step (f := fun _ => some true) (fun K => ?_) (Ev.now _)⟩
        simp only [chalklineref08_Few.l0]
        rw [if_neg (by omega)]
      | succ d ihd =>
        intro j hj
        have hlt : j < l.length := by omega
        have hc := size_child l j hlt
        obtain ⟨r1, h1⟩ := ih (rd_T26 l j) (by omega) (by omega) (hn.child j hlt)
        obtain ⟨r2, h2⟩ := ihd (j + 1) (by omega)
        refine ⟨if r1 = true then r2 else false, Ev.step (f := fun K => (chalklineref08_Few.f K (rd_T26 l (j : Int)).f0 (rd_T26 l (j : Int)).f1 (rd_T26 l (j : Int)).f2 (rd_T26 l (j : Int)).f3 (rd_T26 l (j : Int)).f4 (rd_T26 l (j : Int)).f5).bind fun t220 => if t220 = true then chalklineref08_Few.l0 K ((j + 1 : Nat) : Int) k nm n ts bs l else some false) (fun K => ?_) (Ev.bind h1 (Ev.ite (fun h => ?_) (fun h => ?_)))⟩
        · simp only [chalklineref08_Few.l0]
          rw [if_pos (by omega), if_pos (by omega), wrap_one j (by omega)]
        · rw [if_pos h]; exact h2
        · rw [if_neg h]; exact Ev.now _
    have j0 : ∀ b : Bool, ∃ r, Ev (fun K => chalklineref08_Few.j0 K b k nm n ts bs l) r := fun b => by
      cases b
      · obtain ⟨r, h⟩ := loop l.length 0 (by omega)
        refine ⟨r, Ev.step (f := fun K => chalklineref08_Few.l0 K ((0 : Nat) : Int) k nm n ts bs l) (fun K => ?_) h⟩
        simp only [chalklineref08_Few.j0, Bool.false_eq_true, if_false]
        rfl
      · refine ⟨false, Ev.step (f := fun _ => some false) (fun K => ?_) (Ev.now _)⟩
        simp only [chalklineref08_Few.j0, if_true]
    obtain ⟨r1, h1⟩ := j0 true
    obtain ⟨r2, h2⟩ := j0 (decide ((((size ⟨k, nm, n, ts, bs, l⟩ : Nat) : Int)) > 300))
    by_cases c1 : (l.length : Int) > 4
    · refine ⟨r1, Ev.step (f := fun K => chalklineref08_Few.j0 K true k nm n ts bs l) (fun K => ?_) h1⟩
      simp only [chalklineref08_Few.f]; rw [if_pos c1]
    · by_cases c2 : (ts.length : Int) > 4
      · refine ⟨r1, Ev.step (f := fun K => chalklineref08_Few.j0 K true k nm n ts bs l) (fun K => ?_) h1⟩
        simp only [chalklineref08_Few.f]; rw [if_neg c1, if_pos c2]
      · by_cases c3 : (bs.length : Int) > 10
        · refine ⟨r1, Ev.step (f := fun K => chalklineref08_Few.j0 K true k nm n ts bs l) (fun K => ?_) h1⟩
          simp only [chalklineref08_Few.f]; rw [if_neg c1, if_neg c2, if_pos c3]
        · refine ⟨r2, Ev.step (f := fun K => (chalklineref06_Size.f K k nm n ts bs l).bind fun t218 => chalklineref08_Few.j0 K (decide (t218 > 300)) k nm n ts bs l) (fun K => ?_) (Ev.bind hsz h2)⟩
          simp only [chalklineref08_Few.f]; rw [if_neg c1, if_neg c2, if_neg c3]
theorem lawfew_ev (env : List S42) (x : S26) (hs : size x ≤ 4611686018427387904) (hn : NmOk x) : ∃ r : Bool, (r = true → env.length ≤ 30) ∧ Ev (fun k => chalklinelaw08_few.f k env x.f0 x.f1 x.f2 x.f3 x.f4 x.f5) r := by
  obtain ⟨r, h⟩ := few8_ev (size x) x (Nat.le_refl _) hs hn
  by_cases c : (env.length : Int) ≤ 30
  · exact ⟨r, fun _ => by omega, Ev.congr (fun K => if_pos c) (Ev.bind h (Ev.now _))⟩
  · exact ⟨false, (fun h => by cases h), Ev.congr (fun K => if_neg c) (Ev.now _)⟩
end Go.Proofs.YtmlcaecknocpoaaDoor.It
namespace Go.Proofs.YtmlcaecknocpoaaDoor.Pr
open Go.RowKit Go.Proofs.YtmlcaecknocpoaaDoorW.PrintWords Go.Proofs.YtmlcaecknocpoaaDoorW.PrintLast Go.Proofs.YtmlcaecknocpoaaDoorW.PrintMore
attribute [local go_sem] max2_int min2_int max_two min_two max_three min_three max_four min_four   
set_option linter.unusedVariables false
set_option linter.unusedSimpArgs false
end Go.Proofs.YtmlcaecknocpoaaDoor.Pr
namespace Go.Proofs.YtmlcaecknocpoaaDoor.Sp
open Go.Proofs.YtmlcaecknocpoaaDoor.Pr
theorem check_one {k n : Int} {bs : List S42} {y : S26} (h : check ⟨k, e0, n, [], bs, [y]⟩ = 0) : check y = 0 := by
  obtain ⟨h1, h2, h3⟩ := check_zero.1 h
  simp only [form, forms, Bool.and_eq_true] at h1
  simp only [size, sizes] at h2
  simp only [depth, depths] at h3
  exact check_zero.2 ⟨h1.2.1, by omega, by omega⟩
theorem check_two {k : Int} {y z : S26} (h : check ⟨k, e0, 0, [], [], [y, z]⟩ = 0) : check y = 0 ∧ check z = 0 := by
  obtain ⟨h1, h2, h3⟩ := check_zero.1 h
  simp only [form, forms, Bool.and_eq_true] at h1
  simp only [size, sizes] at h2
  simp only [depth, depths] at h3
  exact ⟨check_zero.2 ⟨h1.2.1, by omega, by omega⟩, check_zero.2 ⟨h1.2.2.1, by omega, by omega⟩⟩
theorem typ_two {env : List S42} {k : Int} {y z : S26} (hk : k = 11 ∨ k = 12 ∨ k = 13) (hc : check ⟨k, e0, 0, [], [], [y, z]⟩ = 0) : typ env ⟨k, e0, 0, [], [], [y, z]⟩ = if typ env y = 0 then typ env z else typ env y := by
  obtain ⟨h1, h2⟩ := check_two hc
  unfold typ
  rw [if_pos hc, if_pos h1, if_pos h2, first_two hk]
  cases envOk env
  · rfl
  · simp
theorem typ_not {env : List S42} {y : S26} (hc : check ⟨10, e0, 0, [], [], [y]⟩ = 0) : typ env ⟨10, e0, 0, [], [], [y]⟩ = typ env y := by
  have h1 := check_one hc
  unfold typ
  rw [if_pos hc, if_pos h1, first_not]
end Go.Proofs.YtmlcaecknocpoaaDoor.Sp
namespace Go.Proofs.YtmlcaecknocpoaaDoor.It
set_option linter.unusedVariables false
set_option linter.unusedSimpArgs false
open Go Go.RowKit Go.Shelf Go.Proofs.YtmlcaecknocpoaaDoorW.PrintWords Go.Proofs.YtmlcaecknocpoaaDoorW.PrintLast Go.Proofs.YtmlcaecknocpoaaDoor.Pr Go.Proofs.YtmlcaecknocpoaaDoor.Sp
section
variable {w : World} {env : List S42} {A : Option Addr} {c : Nat} {x : S26} {A3 : Option Addr} {c3 : Nat} {A4 : Option Addr} {c4 : Nat} {A5 : Option Addr} {c5 : Nat}
theorem few8_calls (hE : EnvA w env A c) (ha : Arg w x A3 c3 A4 c4 A5 c5) : ∃ r : Bool, (r = true → env.length ≤ 30) ∧ ∀ W, Below w.heap.size w W → Calls Tryd.prog 37 #[.slice A env.length c, .agg #[.int .i64 x.f0, .string x.f1, .int .i64 x.f2, .slice A3 x.f3.length c3, .slice A4 x.f4.length c4, .slice A5 x.f5.length c5]] W
    fun e w' => e = .returned (.bool r) ∧ Below W.heap.size W w' := by
  obtain ⟨r, h30, hr⟩ := lawfew_ev env x ha.size ha.nm
  obtain ⟨k, hk⟩ := hr.rounds
  exact ⟨r, h30, fun W hW => chalklinelaw08_few.calls k _ _ _ _ _ _ _ _ _ _ _ _ _ _ _ _ W (Kd.C_below hE.row hW) hE.le (ha.at_.below hW).g3 ha.at_.l3 (ha.at_.below hW).g4 ha.at_.l4 (ha.at_.below hW).g5 ha.at_.l5 hk⟩
theorem typA (hE : EnvA w env A c) (ha : Arg w x A3 c3 A4 c4 A5 c5) (hlen : env.length ≤ 1000000) (ht : Tabs w) (hk : Kinds w) : Calls Tryd.prog 38 #[.slice A env.length c, .agg #[.int .i64 x.f0, .string x.f1, .int .i64 x.f2, .slice A3 x.f3.length c3, .slice A4 x.f4.length c4, .slice A5 x.f5.length c5]] w
    fun e w' => e = .returned (.int .i64 (typ env x)) ∧ Below w.heap.size w w' := typ_calls env A c x A3 c3 A4 c4 A5 c5 w hE ha.at_ ha.size ha.deep ht hk (by have := ha.nb; omega)
end
end Go.Proofs.YtmlcaecknocpoaaDoor.It
namespace Go.Proofs.YtmlcaecknocpoaaDoor.It
set_option linter.unusedVariables false
set_option linter.unusedSimpArgs false
open Go Go.RowKit Go.Shelf Go.Proofs.YtmlcaecknocpoaaDoorW.PrintWords Go.Proofs.YtmlcaecknocpoaaDoorW.PrintLast Go.Proofs.YtmlcaecknocpoaaDoor.Pr Go.Proofs.YtmlcaecknocpoaaDoor.Sp
def Strs (w : World) (A : Option Addr) (l : List ByteArray) : Prop := Kd.C Kd.string w A l.length l
theorem Strs.below {w w1 : World} {A : Option Addr} {l : List ByteArray} (h : Strs w A l) (hb : Below w.heap.size w w1) : Strs w1 A l := Kd.C_below h hb
section
variable {w : World} {x : S26} {A3 : Option Addr} {c3 : Nat} {A4 : Option Addr} {c4 : Nat} {A5 : Option Addr} {c5 : Nat}
end
structure St2 (w0 w : World) (B : Nat) (x : S26) (A3 : Option Addr) (c3 : Nat) (A4 : Option Addr) (c4 : Nat) (A5 : Option Addr) (c5 : Nat) (C : Nat) (y : S26) (B3 : Option Addr) (d3 : Nat) (B4 : Option Addr) (d4 : Nat) (B5 : Option Addr) (d5 : Nat) : Prop where
  bx : BoxF w B x A3 c3 A4 c4 A5 c5
  byy : BoxF w C y B3 d3 B4 d4 B5 d5
  b : Below w0.heap.size w0 w
section
variable {w0 w : World} {B C : Nat} {x y : S26} {A3 : Option Addr} {c3 : Nat} {A4 : Option Addr} {c4 : Nat} {A5 : Option Addr} {c5 : Nat} {B3 : Option Addr} {d3 : Nat} {B4 : Option Addr} {d4 : Nat} {B5 : Option Addr} {d5 : Nat}
theorem St2.below (h : St2 w0 w B x A3 c3 A4 c4 A5 c5 C y B3 d3 B4 d4 B5 d5) {w1 : World} (g : Below w.heap.size w w1) : St2 w0 w1 B x A3 c3 A4 c4 A5 c5 C y B3 d3 B4 d4 B5 d5 := ⟨h.bx.below g, h.byy.below g, h.b.trans (g.mono h.b.size)⟩
theorem St2.drew (h : St2 w0 w B x A3 c3 A4 c4 A5 c5 C y B3 d3 B4 d4 B5 d5) : St2 w0 w.drew B x A3 c3 A4 c4 A5 c5 C y B3 d3 B4 d4 B5 d5 := h.below (below_drew (Below.refl _ _))
theorem St2.start (h : At w0 x A3 c3 A4 c4 A5 c5) (h' : At w0 y B3 d3 B4 d4 B5 d5) : St2 w0 ((w0.alloc (.cells #[.int .i64 x.f0, .string x.f1, .int .i64 x.f2, .slice A3 x.f3.length c3, .slice A4 x.f4.length c4, .slice A5 x.f5.length c5] 26)).alloc (.cells #[.int .i64 y.f0, .string y.f1, .int .i64 y.f2, .slice B3 y.f3.length d3, .slice B4 y.f4.length d4, .slice B5 y.f5.length d5] 26)) w0.heap.size x A3 c3 A4 c4 A5 c5 (w0.heap.size + 1) y B3 d3 B4 d4 B5 d5 :=
  ⟨⟨heap_new2a w0 _ _, h.below (up2 w0 _ _)⟩, ⟨heap_new2b w0 _ _, h'.below (up2 w0 _ _)⟩, up2 w0 _ _⟩
end
end Go.Proofs.YtmlcaecknocpoaaDoor.It
namespace Go.Proofs.YtmlcaecknocpoaaDoor.It
set_option linter.unusedVariables false
set_option linter.unusedSimpArgs false
open Go Go.RowKit Go.Shelf Go.Proofs.YtmlcaecknocpoaaDoorW.PrintWords Go.Proofs.YtmlcaecknocpoaaDoorW.PrintLast Go.Proofs.YtmlcaecknocpoaaDoor.Pr Go.Proofs.YtmlcaecknocpoaaDoor.Sp
theorem Slim.neg {x : S26} (h : Slim x) (hs : Sp.size x ≤ 4194303) : Slim (Sp.neg x) :=
  ⟨deep_of (own_bare [] _ rfl rfl (by simp) (by simp)) (fun y hy => by obtain rfl := List.mem_singleton.1 hy; exact h.deep), by rw [size_neg]; omega, by have := h.nb; simp [Sp.neg, It.nb, nbs]; omega, by have := h.nt; simp [Sp.neg, It.nt, nts]; omega⟩
theorem check_two {x : S26} (h : form x = true) : check x = 0 ∨ check x = 2 := by
  rcases check_cases x with ⟨h', _⟩ | ⟨_, _, h'⟩ | ⟨_, _, _, h'⟩
  · rw [h] at h'; cases h'
  · exact .inr h'
  · exact .inl h'
end Go.Proofs.YtmlcaecknocpoaaDoor.It
namespace Go.Proofs.YtmlcaecknocpoaaDoor.Sp
open Go.Proofs.YtmlcaecknocpoaaDoor.Pr
def pair (k : Int) (a b : S26) : S26 := ⟨k, e0, 0, [], [], [a, b]⟩
theorem pair_form {k : Int} (h : k = 11 ∨ k = 12 ∨ k = 13) (a b : S26) : form (pair k a b) = (form a && form b) := by
  rcases h with rfl | rfl | rfl
  · simp [pair, form, here, forms, termsOk_none (show Sp.atom 11 = false from rfl), bindsOk_none (show quant 11 = false from rfl)]; intros; rfl
  · simp [pair, form, here, forms, termsOk_none (show Sp.atom 12 = false from rfl), bindsOk_none (show quant 12 = false from rfl)]; intros; rfl
  · simp [pair, form, here, forms, termsOk_none (show Sp.atom 13 = false from rfl), bindsOk_none (show quant 13 = false from rfl)]; intros; rfl
theorem pair_size (k : Int) (a b : S26) : size (pair k a b) = 1 + size a + size b := by simp [pair, size, sizes]; omega
theorem pair_depth (k : Int) (a b : S26) : depth (pair k a b) = 1 + max (depth a) (depth b) := by simp [pair, depth, depths]; omega
theorem size_pos (a : S26) : 1 ≤ size a := by rcases a with ⟨k, nm, n, ts, bs, l⟩; simp [size]
theorem pair_check {k : Int} (h : k = 12 ∨ k = 13) (a b : S26) : check (pair k a b) = check (pair 11 a b) := by
  have e1 := pair_form (k := k) (by omega) a b
  have e2 := pair_form (k := 11) (.inl rfl) a b
  unfold check
  rw [e1, e2, pair_size, pair_size, pair_depth, pair_depth]
theorem pair_good {a b : S26} (h : check (pair 11 a b) = 0) : check a = 0 ∧ check b = 0 ∧ check (neg a) = 0 := by
  have h1 := check_zero.1 h
  rw [pair_form (.inl rfl), pair_size, pair_depth, Bool.and_eq_true] at h1
  have := size_pos a
  have := size_pos b
  refine ⟨check_zero.2 ⟨h1.1.1, by omega, by omega⟩, check_zero.2 ⟨h1.1.2, by omega, by omega⟩, check_zero.2 ⟨by rw [form_neg]; exact h1.1.1, by rw [size_neg]; omega, by rw [depth_neg]; omega⟩⟩
end Go.Proofs.YtmlcaecknocpoaaDoor.Sp
namespace Go.Proofs.YtmlcaecknocpoaaDoor.It
open Go Go.RowKit Go.Shelf Go.Proofs.YtmlcaecknocpoaaDoorW.PrintWords Go.Proofs.YtmlcaecknocpoaaDoorW.PrintLast Go.Proofs.YtmlcaecknocpoaaDoor.Pr Go.Proofs.YtmlcaecknocpoaaDoor.Sp
theorem own_pair {k : Int} (l : List S26) (hk : I64 k) : Own1 ⟨k, e0, 0, [], [], l⟩ := own_bare [] l hk rfl (by simp) (by simp)
theorem pair_deep {k : Int} {a b : S26} (hk : I64 k) (ha : Deep a) (hb : Deep b) : Deep (pair k a b) :=
  deep_of (own_pair _ hk) fun y hy => by
    have hy' : y ∈ [a, b] := hy
    rcases List.mem_cons.1 hy' with rfl | hy'
    · exact ha
    · obtain rfl := List.mem_singleton.1 hy'; exact hb
theorem pair_nb (k : Int) (a b : S26) : nb (pair k a b) = nb a + nb b := by simp [pair, nb, nbs]
theorem pair_nt (k : Int) (a b : S26) : nt (pair k a b) = nt a + nt b := by simp [pair, nt, nts]
end Go.Proofs.YtmlcaecknocpoaaDoor.It
namespace Go.Proofs.YtmlcaecknocpoaaDoor.It
set_option linter.unusedVariables false
set_option linter.unusedSimpArgs false
open Go Go.RowKit Go.Shelf Go.Proofs.YtmlcaecknocpoaaDoorW.PrintWords Go.Proofs.YtmlcaecknocpoaaDoorW.PrintLast Go.Proofs.YtmlcaecknocpoaaDoor.Pr Go.Proofs.YtmlcaecknocpoaaDoor.Sp
structure St4 (w0 w : World) (B : Nat) (x : S26) (A3 : Option Addr) (c3 : Nat) (A4 : Option Addr) (c4 : Nat) (A5 : Option Addr) (c5 : Nat) (C : Nat) (y : S26) (B3 : Option Addr) (d3 : Nat) (B4 : Option Addr) (d4 : Nat) (B5 : Option Addr) (d5 : Nat) (D : Nat) (a : Addr) (E : Nat) (b : Addr) : Prop where
  two : St2 w0 w B x A3 c3 A4 c4 A5 c5 C y B3 d3 B4 d4 B5 d5
  and_ : BoxF w D (pair 11 x y) none 0 none 0 (some a) 2
  imp : BoxF w E (pair 13 x y) none 0 none 0 (some b) 2
section
variable {w0 w : World} {B C D E : Nat} {a b : Addr} {x : S26} {A3 : Option Addr} {c3 : Nat} {A4 : Option Addr} {c4 : Nat} {A5 : Option Addr} {c5 : Nat} {y : S26} {B3 : Option Addr} {d3 : Nat} {B4 : Option Addr} {d4 : Nat} {B5 : Option Addr} {d5 : Nat}
theorem St4.below (h : St4 w0 w B x A3 c3 A4 c4 A5 c5 C y B3 d3 B4 d4 B5 d5 D a E b) {w1 : World} (g : Below w.heap.size w w1) : St4 w0 w1 B x A3 c3 A4 c4 A5 c5 C y B3 d3 B4 d4 B5 d5 D a E b := ⟨h.two.below g, h.and_.below g, h.imp.below g⟩
theorem St4.drew (h : St4 w0 w B x A3 c3 A4 c4 A5 c5 C y B3 d3 B4 d4 B5 d5 D a E b) : St4 w0 w.drew B x A3 c3 A4 c4 A5 c5 C y B3 d3 B4 d4 B5 d5 D a E b := h.below (below_drew (Below.refl _ _))
theorem six_pair {k : Int} (h : BoxF w D (pair k x y) none 0 none 0 (some a) 2) :
    w.cell? ⟨D, 0, none⟩ = some (.int .i64 k) ∧ w.cell? ⟨D, 1, none⟩ = some (.string ⟨#[]⟩) ∧ w.cell? ⟨D, 2, none⟩ = some (.int .i64 0) ∧ w.cell? ⟨D, 3, none⟩ = some (.slice none 0 0) ∧ w.cell? ⟨D, 4, none⟩ = some (.slice none 0 0) ∧ w.cell? ⟨D, 5, none⟩ = some (.slice (some a) 2 2) := h.six
theorem at_pair {G : Nat} (k : Int) (hG : w.heap[G]? = some (.cells #[.int .i64 x.f0, .string x.f1, .int .i64 x.f2, .slice A3 x.f3.length c3, .slice A4 x.f4.length c4, .slice A5 x.f5.length c5, .int .i64 y.f0, .string y.f1, .int .i64 y.f2, .slice B3 y.f3.length d3, .slice B4 y.f4.length d4, .slice B5 y.f5.length d5] 26 (0, 0))) (hx : At w x A3 c3 A4 c4 A5 c5) (hy : At w y B3 d3 B4 d4 B5 d5) : At w (pair k x y) none 0 none 0 (some ⟨G, 0, none⟩) 2 :=
  ⟨Nat.le_refl _, Kd.C_nil _ _, Nat.le_refl _, Kd.C_nil _ _, Nat.le_refl _, row_two hG hx hy⟩
theorem St4.make (h : St2 w0 w B x A3 c3 A4 c4 A5 c5 C y B3 d3 B4 d4 B5 d5) {w4 : World} (e : (((w.alloc (.cells #[.int .i64 x.f0, .string x.f1, .int .i64 x.f2, .slice A3 x.f3.length c3, .slice A4 x.f4.length c4, .slice A5 x.f5.length c5, .int .i64 y.f0, .string y.f1, .int .i64 y.f2, .slice B3 y.f3.length d3, .slice B4 y.f4.length d4, .slice B5 y.f5.length d5] 26)).alloc (.cells #[.int .i64 11, .string ⟨#[]⟩, .int .i64 0, .slice none 0 0, .slice none 0 0, .slice (some ⟨w.heap.size, 0, none⟩) 2 2] 26)).alloc (.cells #[.int .i64 x.f0, .string x.f1, .int .i64 x.f2, .slice A3 x.f3.length c3, .slice A4 x.f4.length c4, .slice A5 x.f5.length c5, .int .i64 y.f0, .string y.f1, .int .i64 y.f2, .slice B3 y.f3.length d3, .slice B4 y.f4.length d4, .slice B5 y.f5.length d5] 26)).alloc (.cells #[.int .i64 13, .string ⟨#[]⟩, .int .i64 0, .slice none 0 0, .slice none 0 0, .slice (some ⟨w.heap.size + 1 + 1, 0, none⟩) 2 2] 26) = w4) :
    St4 w0 w4 B x A3 c3 A4 c4 A5 c5 C y B3 d3 B4 d4 B5 d5 (w.heap.size + 1) ⟨w.heap.size, 0, none⟩ (w.heap.size + 1 + 1 + 1) ⟨w.heap.size + 1 + 1, 0, none⟩ := by
  obtain ⟨h1, h2, h3, h4, hb, _⟩ := four_blocks w _ _ _ _ w4 e
  have h' := h.below hb
  exact ⟨h', ⟨h2, at_pair 11 h1 h'.bx.at_ h'.byy.at_⟩, ⟨h4, at_pair 13 h3 h'.bx.at_ h'.byy.at_⟩⟩
end
theorem pair_slim (k : Int) (x y : S26) (hk : I64 k) (hx : Deep x) (hy : Deep y) (hw : wt26 x + wt26 y ≤ 1048576) : Slim (pair k x y) := by
  unfold wt26 at hw
  exact ⟨pair_deep hk hx hy, by rw [pair_size]; omega, by rw [pair_nb]; omega, by rw [pair_nt]; omega⟩
end Go.Proofs.YtmlcaecknocpoaaDoor.It
namespace Go.Proofs.YtmlcaecknocpoaaDoor.It
set_option linter.unusedVariables false
set_option linter.unusedSimpArgs false
open Go Go.RowKit Go.Shelf Go.Proofs.YtmlcaecknocpoaaDoorW.PrintWords Go.Proofs.YtmlcaecknocpoaaDoorW.PrintLast Go.Proofs.YtmlcaecknocpoaaDoor.Pr Go.Proofs.YtmlcaecknocpoaaDoor.Sp
attribute [local go_sem ↓] Go.wp_at_zero Go.wp_at_succ
structure S18 (w0 w : World) (B : Nat) (x : S26) (A3 : Option Addr) (c3 : Nat) (A4 : Option Addr) (c4 : Nat) (A5 : Option Addr) (c5 : Nat) (C : Nat) (y : S26) (B3 : Option Addr) (d3 : Nat) (B4 : Option Addr) (d4 : Nat) (B5 : Option Addr) (d5 : Nat) (k : Int) (D : Nat) (a : Addr) (E : Nat) (b : Addr) : Prop where
  two : St2 w0 w B x A3 c3 A4 c4 A5 c5 C y B3 d3 B4 d4 B5 d5
  pr : BoxF w D (pair k x y) none 0 none 0 (some a) 2
  ng : BoxF w E (neg x) none 0 none 0 (some b) 1
section
variable {w0 w : World} {B : Nat} {x : S26} {A3 : Option Addr} {c3 : Nat} {A4 : Option Addr} {c4 : Nat} {A5 : Option Addr} {c5 : Nat} {C : Nat} {y : S26} {B3 : Option Addr} {d3 : Nat} {B4 : Option Addr} {d4 : Nat} {B5 : Option Addr} {d5 : Nat} {k : Int} {D : Nat} {a : Addr} {E : Nat} {b : Addr}
theorem S18.below (h : S18 w0 w B x A3 c3 A4 c4 A5 c5 C y B3 d3 B4 d4 B5 d5 k D a E b) {w1 : World} (g : Below w.heap.size w w1) : S18 w0 w1 B x A3 c3 A4 c4 A5 c5 C y B3 d3 B4 d4 B5 d5 k D a E b := ⟨h.two.below g, h.pr.below g, h.ng.below g⟩
theorem S18.drew (h : S18 w0 w B x A3 c3 A4 c4 A5 c5 C y B3 d3 B4 d4 B5 d5 k D a E b) : S18 w0 w.drew B x A3 c3 A4 c4 A5 c5 C y B3 d3 B4 d4 B5 d5 k D a E b := h.below (below_drew (Below.refl _ _))
theorem six_neg {D : Nat} (h : BoxF w D (neg x) none 0 none 0 (some a) 1) :
    w.cell? ⟨D, 0, none⟩ = some (.int .i64 10) ∧ w.cell? ⟨D, 1, none⟩ = some (.string ⟨#[]⟩) ∧ w.cell? ⟨D, 2, none⟩ = some (.int .i64 0) ∧ w.cell? ⟨D, 3, none⟩ = some (.slice none 0 0) ∧ w.cell? ⟨D, 4, none⟩ = some (.slice none 0 0) ∧ w.cell? ⟨D, 5, none⟩ = some (.slice (some a) 1 1) := h.six
theorem at_neg {G : Nat} (hG : w.heap[G]? = some (.cells #[.int .i64 x.f0, .string x.f1, .int .i64 x.f2, .slice A3 x.f3.length c3, .slice A4 x.f4.length c4, .slice A5 x.f5.length c5] 26 (0, 0))) (hx : At w x A3 c3 A4 c4 A5 c5) : At w (neg x) none 0 none 0 (some ⟨G, 0, none⟩) 1 :=
  ⟨Nat.le_refl _, Kd.C_nil _ _, Nat.le_refl _, Kd.C_nil _ _, Nat.le_refl _, row_one hG hx⟩
theorem S18.make (h : St2 w0 w B x A3 c3 A4 c4 A5 c5 C y B3 d3 B4 d4 B5 d5) {w4 : World} (e : (((w.alloc (.cells #[.int .i64 x.f0, .string x.f1, .int .i64 x.f2, .slice A3 x.f3.length c3, .slice A4 x.f4.length c4, .slice A5 x.f5.length c5, .int .i64 y.f0, .string y.f1, .int .i64 y.f2, .slice B3 y.f3.length d3, .slice B4 y.f4.length d4, .slice B5 y.f5.length d5] 26)).alloc (.cells #[.int .i64 k, .string ⟨#[]⟩, .int .i64 0, .slice none 0 0, .slice none 0 0, .slice (some ⟨w.heap.size, 0, none⟩) 2 2] 26)).alloc (.cells #[.int .i64 x.f0, .string x.f1, .int .i64 x.f2, .slice A3 x.f3.length c3, .slice A4 x.f4.length c4, .slice A5 x.f5.length c5] 26)).alloc (.cells #[.int .i64 10, .string ⟨#[]⟩, .int .i64 0, .slice none 0 0, .slice none 0 0, .slice (some ⟨w.heap.size + 1 + 1, 0, none⟩) 1 1] 26) = w4) :
    S18 w0 w4 B x A3 c3 A4 c4 A5 c5 C y B3 d3 B4 d4 B5 d5 k (w.heap.size + 1) ⟨w.heap.size, 0, none⟩ (w.heap.size + 1 + 1 + 1) ⟨w.heap.size + 1 + 1, 0, none⟩ := by
  obtain ⟨h1, h2, h3, h4, hb, _⟩ := four_blocks w _ _ _ _ w4 e
  have h' := h.below hb
  exact ⟨h', ⟨h2, at_pair k h1 h'.bx.at_ h'.byy.at_⟩, ⟨h4, at_neg h3 h'.bx.at_⟩⟩
end
theorem mark3 (m : Int) (hm : (Lit.int .u8 m).wf = true) : wrap64 (11 + (wrap64 m).tmod 3) = 11 ∨ wrap64 (11 + (wrap64 m).tmod 3) = 12 ∨ wrap64 (11 + (wrap64 m).tmod 3) = 13 := by
  have h1 : IntKind.u8.min = 0 := rfl
  have h2 : IntKind.u8.max = 255 := rfl
  unfold Lit.wf at hm
  simp [h1, h2] at hm
  have h3 : wrap64 m = m := IntWalk.wrap64_in _ (by omega)
  have := Int.tmod_eq_emod_of_nonneg (a := m) (b := 3) hm.1
  rw [h3, IntWalk.wrap64_in _ (by omega)]
  omega
theorem checkP (k : Int) (x y : S26) (ad : Addr) (W : World) (hs : Slim (pair k x y)) (hat : At W (pair k x y) none 0 none 0 (some ad) 2) (ht : Tabs W) :
    Calls Tryd.prog 22 #[.agg #[.int .i64 k, .string ⟨#[]⟩, .int .i64 0, .slice none 0 0, .slice none 0 0, .slice (some ad) 2 2]] W fun e w' => e = .returned (.int .i64 (check (pair k x y))) ∧ Below W.heap.size W w' := check_calls (pair k x y) none 0 none 0 (some ad) 2 W hat (by have := hs.size; omega) hs.deep ht
theorem checkN (x : S26) (ad : Addr) (W : World) (hs : Slim (neg x)) (hat : At W (neg x) none 0 none 0 (some ad) 1) (ht : Tabs W) :
    Calls Tryd.prog 22 #[.agg #[.int .i64 10, .string ⟨#[]⟩, .int .i64 0, .slice none 0 0, .slice none 0 0, .slice (some ad) 1 1]] W fun e w' => e = .returned (.int .i64 (check (neg x))) ∧ Below W.heap.size W w' := check_calls (neg x) none 0 none 0 (some ad) 1 W hat (by have := hs.size; omega) hs.deep ht
theorem typP (env : List S42) (A : Option Addr) (c : Nat) (k : Int) (x y : S26) (ad : Addr) (W : World) (hE : EnvA W env A c) (hlen : env.length ≤ 1000000) (hs : Slim (pair k x y)) (hat : At W (pair k x y) none 0 none 0 (some ad) 2) (ht : Tabs W) (hk : Kinds W) :
    Calls Tryd.prog 38 #[.slice A env.length c, .agg #[.int .i64 k, .string ⟨#[]⟩, .int .i64 0, .slice none 0 0, .slice none 0 0, .slice (some ad) 2 2]] W fun e w' => e = .returned (.int .i64 (typ env (pair k x y))) ∧ Below W.heap.size W w' := typ_calls env A c (pair k x y) none 0 none 0 (some ad) 2 W hE hat (by have := hs.size; omega) hs.deep ht hk (by have := hs.nb; omega)
theorem typN (env : List S42) (A : Option Addr) (c : Nat) (x : S26) (ad : Addr) (W : World) (hE : EnvA W env A c) (hlen : env.length ≤ 1000000) (hs : Slim (neg x)) (hat : At W (neg x) none 0 none 0 (some ad) 1) (ht : Tabs W) (hk : Kinds W) :
    Calls Tryd.prog 38 #[.slice A env.length c, .agg #[.int .i64 10, .string ⟨#[]⟩, .int .i64 0, .slice none 0 0, .slice none 0 0, .slice (some ad) 1 1]] W fun e w' => e = .returned (.int .i64 (typ env (neg x))) ∧ Below W.heap.size W w' := typ_calls env A c (neg x) none 0 none 0 (some ad) 1 W hE hat (by have := hs.size; omega) hs.deep ht hk (by have := hs.nb; omega)
end Go.Proofs.YtmlcaecknocpoaaDoor.It
namespace Go.Proofs.YtmlcaecknocpoaaDoor.It
set_option linter.unusedVariables false
set_option linter.unusedSimpArgs false
open Go Go.RowKit Go.Shelf Go.Proofs.YtmlcaecknocpoaaDoorW.PrintWords Go.Proofs.YtmlcaecknocpoaaDoorW.PrintLast Go.Proofs.YtmlcaecknocpoaaDoor.Pr Go.Proofs.YtmlcaecknocpoaaDoor.Sp
attribute [local go_sem ↓] Go.wp_at_zero Go.wp_at_succ
set_option maxRecDepth 100000 in
set_option maxHeartbeats 8000000 in
theorem law18 (env : List S42) (x y : S26) (m : Int) (A : Option Addr) (c : Nat) (A3 : Option Addr) (c3 : Nat) (A4 : Option Addr) (c4 : Nat) (A5 : Option Addr) (c5 : Nat) (B3 : Option Addr) (d3 : Nat) (B4 : Option Addr) (d4 : Nat) (B5 : Option Addr) (d5 : Nat) (w : World) (hE : EnvA w env A c) (ha : Arg w x A3 c3 A4 c4 A5 c5) (hb : Arg w y B3 d3 B4 d4 B5 d5) (hm : (Lit.int .u8 m).wf = true) (ht : Tabs w) (hk : Kinds w) (hw : wt26 x + wt26 y ≤ 1048576) :
    Calls Tryd.prog 18 #[.slice A env.length c, .agg #[.int .i64 x.f0, .string x.f1, .int .i64 x.f2, .slice A3 x.f3.length c3, .slice A4 x.f4.length c4, .slice A5 x.f5.length c5], .agg #[.int .i64 y.f0, .string y.f1, .int .i64 y.f2, .slice B3 y.f3.length d3, .slice B4 y.f4.length d4, .slice B5 y.f5.length d5], .int .u8 m] w fun e w' => e = .returned (.bool true) ∧ Below w.heap.size w w' := by
  have hu26 := Tryd.underlying26
  obtain ⟨few, h30, hfew⟩ := few8_calls hE ha
  obtain ⟨few2, h302, hfew2⟩ := few8_calls hE hb
  have C36 := Aside0.mk (fun W (h : St2 w W w.heap.size x A3 c3 A4 c4 A5 c5 (w.heap.size + 1) y B3 d3 B4 d4 B5 d5) => live8_calls W (ht.below h.b) (hk.below h.b))
  have C37 := Aside0.mk (fun W (h : St2 w W w.heap.size x A3 c3 A4 c4 A5 c5 (w.heap.size + 1) y B3 d3 B4 d4 B5 d5) => hfew W h.b)
  have D37 := Aside0.mk (fun W (h : St2 w W w.heap.size x A3 c3 A4 c4 A5 c5 (w.heap.size + 1) y B3 d3 B4 d4 B5 d5) => hfew2 W h.b)
  have T := Aside0.mk (St2.start ha.at_ hb.at_)
  cases few
  · clear hE ha hb ht hk hfew hfew2 h30 h302
    go_enter Tryd.func18, Tryd.ntmps18
    go_wp2_with (first
      | (go_at_call 36; (with_reducible refine (C36.out _ T.out).mono ?_); rintro e wn ⟨rfl, g⟩; replace T := Aside0.mk (T.out.below g); clear g ; obtain ⟨p0, p1, p2, p3, p4, p5⟩ := T.out.bx.six; obtain ⟨q0, q1, q2, q3, q4, q5⟩ := T.out.byy.six)
      | (go_at_call 37; (with_reducible refine (C37.out _ T.out).mono ?_); rintro e wn ⟨rfl, g⟩; replace T := Aside0.mk (T.out.below g); clear g p0 p1 p2 p3 p4 p5 q0 q1 q2 q3 q4 q5; skip))
    go_ret
    exact ⟨rfl, T.out.b⟩
  · cases few2
    · clear hE ha hb ht hk hfew hfew2 h30 h302
      go_enter Tryd.func18, Tryd.ntmps18
      go_wp2_with (first
        | (go_at_call 36; (with_reducible refine (C36.out _ T.out).mono ?_); rintro e wn ⟨rfl, g⟩; replace T := Aside0.mk (T.out.below g); clear g ; obtain ⟨p0, p1, p2, p3, p4, p5⟩ := T.out.bx.six; obtain ⟨q0, q1, q2, q3, q4, q5⟩ := T.out.byy.six)
        | (go_at_call 37; (with_reducible refine (C37.out _ T.out).mono ?_); rintro e wn ⟨rfl, g⟩; replace T := Aside0.mk (T.out.below g); clear g p0 p1 p2 p3 p4 p5 q0 q1 q2 q3 q4 q5; obtain ⟨p0, p1, p2, p3, p4, p5⟩ := T.out.bx.six; obtain ⟨q0, q1, q2, q3, q4, q5⟩ := T.out.byy.six)
        | (go_at_call 37; (with_reducible refine (D37.out _ T.out).mono ?_); rintro e wn ⟨rfl, g⟩; replace T := Aside0.mk (T.out.below g); clear g p0 p1 p2 p3 p4 p5 q0 q1 q2 q3 q4 q5; skip))
      go_ret
      exact ⟨rfl, T.out.b⟩
    · have h30 := h30 rfl
      have hk3 := mark3 m hm
      have hsl := pair_slim (wrap64 (11 + (wrap64 m).tmod 3)) x y (by rcases hk3 with h | h | h <;> rw [h] <;> exact rfl) ha.deep hb.deep hw
      have hsn := ha.argN.slim.neg (by have := ha.wt; unfold wt26 at this; omega)
      have P22 := Aside0.mk (fun W (hb_ : Below w.heap.size w W) a (h : At W (pair (wrap64 (11 + (wrap64 m).tmod 3)) x y) none 0 none 0 (some a) 2) => checkP (wrap64 (11 + (wrap64 m).tmod 3)) x y a W hsl h (ht.below hb_))
      by_cases hg : check (pair (wrap64 (11 + (wrap64 m).tmod 3)) x y) = 0
      · rw [hg] at P22
        have hg' : check (pair 11 x y) = 0 := by rcases hk3 with h | h | h <;> rw [h] at hg <;> first | exact hg | exact (pair_check (by omega) x y).symm.trans hg
        have hn0 := (pair_good hg').2.2
        have N22 := Aside0.mk (fun W (hb_ : Below w.heap.size w W) a (h : At W (neg x) none 0 none 0 (some a) 1) => checkN x a W hsn h (ht.below hb_))
        rw [hn0] at N22
        have P38 := Aside0.mk (fun W (hb_ : Below w.heap.size w W) a (h : At W (pair (wrap64 (11 + (wrap64 m).tmod 3)) x y) none 0 none 0 (some a) 2) => typP env A c (wrap64 (11 + (wrap64 m).tmod 3)) x y a W (hE.below hb_) (by omega) hsl h (ht.below hb_) (hk.below hb_))
        have N38 := Aside0.mk (fun W (hb_ : Below w.heap.size w W) a (h : At W (neg x) none 0 none 0 (some a) 1) => typN env A c x a W (hE.below hb_) (by omega) hsn h (ht.below hb_) (hk.below hb_))
        have C38 := Aside0.mk (fun W (hb_ : Below w.heap.size w W) => typA (hE.below hb_) (ha.below hb_) (by omega) (ht.below hb_) (hk.below hb_))
        have D38 := Aside0.mk (fun W (hb_ : Below w.heap.size w W) => typA (hE.below hb_) (hb.below hb_) (by omega) (ht.below hb_) (hk.below hb_))
        have e1 : typ env (pair (wrap64 (11 + (wrap64 m).tmod 3)) x y) = _ := typ_two hk3 hg
        have e2 : typ env (neg x) = _ := typ_not hn0
        rw [e1] at P38
        rw [e2] at N38
        obtain ⟨r, hr⟩ : ∃ r, typ env y = r := ⟨_, rfl⟩
        rw [hr] at P38 D38
        by_cases h0 : typ env x = 0
        · rw [h0] at C38 N38 P38
          rw [if_pos rfl] at P38
          clear hE ha hb ht hk hfew hfew2 h30 h302 hk3 hsl hsn hg hg' hn0 e1 e2 hr h0 hw hm
          go_enter Tryd.func18, Tryd.ntmps18
          go_upto_region 11 with (first
            | (go_at_call 36; (with_reducible refine (C36.out _ T.out).mono ?_); rintro e wn ⟨rfl, g⟩; replace T := Aside0.mk (T.out.below g); clear g ; obtain ⟨p0, p1, p2, p3, p4, p5⟩ := T.out.bx.six; obtain ⟨q0, q1, q2, q3, q4, q5⟩ := T.out.byy.six)
            | (go_at_call 37; (with_reducible refine (C37.out _ T.out).mono ?_); rintro e wn ⟨rfl, g⟩; replace T := Aside0.mk (T.out.below g); clear g p0 p1 p2 p3 p4 p5 q0 q1 q2 q3 q4 q5; obtain ⟨p0, p1, p2, p3, p4, p5⟩ := T.out.bx.six; obtain ⟨q0, q1, q2, q3, q4, q5⟩ := T.out.byy.six)
            | (go_at_call 37; (with_reducible refine (D37.out _ T.out).mono ?_); rintro e wf ⟨rfl, g⟩; replace T := Aside0.mk (T.out.below g); clear g p0 p1 p2 p3 p4 p5 q0 q1 q2 q3 q4 q5; obtain ⟨p0, p1, p2, p3, p4, p5⟩ := T.out.bx.six; obtain ⟨q0, q1, q2, q3, q4, q5⟩ := T.out.byy.six; have U := Aside0.mk (T.out.below (up2 wf (.cells #[.int .i64 x.f0, .string x.f1, .int .i64 x.f2, .slice A3 x.f3.length c3, .slice A4 x.f4.length c4, .slice A5 x.f5.length c5, .int .i64 y.f0, .string y.f1, .int .i64 y.f2, .slice B3 y.f3.length d3, .slice B4 y.f4.length d4, .slice B5 y.f5.length d5] 26) (.cells #[.int .i64 (wrap64 (11 + (wrap64 m).tmod 3)), .string ⟨#[]⟩, .int .i64 0, .slice none 0 0, .slice none 0 0, .slice (some ⟨wf.heap.size, 0, none⟩) 2 2] 26))); obtain ⟨u0, u1, u2, u3, u4, u5⟩ := U.out.bx.six; obtain ⟨v0, v1, v2, v3, v4, v5⟩ := U.out.byy.six; replace T := Aside0.mk (S18.make (k := (wrap64 (11 + (wrap64 m).tmod 3))) T.out rfl); obtain ⟨r0, r1, r2, r3, r4, r5⟩ := six_pair T.out.pr; obtain ⟨s0, s1, s2, s3, s4, s5⟩ := six_neg T.out.ng; obtain ⟨y0, y1, y2, y3, y4, y5⟩ := T.out.two.bx.six)
            | (go_at_call 22; (with_reducible refine (P22.out _ T.out.two.b _ T.out.pr.at_).mono ?_); rintro e wn ⟨rfl, g⟩; replace T := Aside0.mk (T.out.below g); clear g; clear u0 u1 u2 u3 u4 u5 v0 v1 v2 v3 v4 v5 p0 p1 p2 p3 p4 p5 q0 q1 q2 q3 q4 q5 r0 r1 r2 r3 r4 r5 s0 s1 s2 s3 s4 s5 y0 y1 y2 y3 y4 y5; obtain ⟨p0, p1, p2, p3, p4, p5⟩ := T.out.two.bx.six; obtain ⟨s0, s1, s2, s3, s4, s5⟩ := six_neg T.out.ng)
            | (go_at_call 22; (with_reducible refine (N22.out _ T.out.two.b _ T.out.ng.at_).mono ?_); rintro e wn ⟨rfl, g⟩; replace T := Aside0.mk (T.out.below g); clear g; clear p0 p1 p2 p3 p4 p5 s0 s1 s2 s3 s4 s5; obtain ⟨p0, p1, p2, p3, p4, p5⟩ := T.out.two.bx.six)
            | (go_at_call 38; (with_reducible refine (C38.out _ T.out.two.b).mono ?_); rintro e wn ⟨rfl, g⟩; replace T := Aside0.mk (T.out.below g); clear g; clear p0 p1 p2 p3 p4 p5; obtain ⟨q0, q1, q2, q3, q4, q5⟩ := T.out.two.byy.six; obtain ⟨r0, r1, r2, r3, r4, r5⟩ := six_pair T.out.pr; obtain ⟨s0, s1, s2, s3, s4, s5⟩ := six_neg T.out.ng))
          go_region_held3 (fun w' => w'.cell? ⟨w.heap.size + 1, 0, none⟩ = some (.int .i64 y.f0) ∧ w'.cell? ⟨w.heap.size + 1, 1, none⟩ = some (.string y.f1) ∧ w'.cell? ⟨w.heap.size + 1, 2, none⟩ = some (.int .i64 y.f2) ∧ w'.cell? ⟨w.heap.size + 1, 3, none⟩ = some (.slice B3 y.f3.length d3) ∧ w'.cell? ⟨w.heap.size + 1, 4, none⟩ = some (.slice B4 y.f4.length d4) ∧ w'.cell? ⟨w.heap.size + 1, 5, none⟩ = some (.slice B5 y.f5.length d5) ∧ w'.cell? ⟨wf.heap.size + 1, 0, none⟩ = some (.int .i64 (wrap64 (11 + (wrap64 m).tmod 3))) ∧ w'.cell? ⟨wf.heap.size + 1, 1, none⟩ = some (.string ⟨#[]⟩) ∧ w'.cell? ⟨wf.heap.size + 1, 2, none⟩ = some (.int .i64 0) ∧ w'.cell? ⟨wf.heap.size + 1, 3, none⟩ = some (.slice none 0 0) ∧ w'.cell? ⟨wf.heap.size + 1, 4, none⟩ = some (.slice none 0 0) ∧ w'.cell? ⟨wf.heap.size + 1, 5, none⟩ = some (.slice (some ⟨wf.heap.size, 0, none⟩) 2 2) ∧ w'.cell? ⟨wf.heap.size + 1 + 1 + 1, 0, none⟩ = some (.int .i64 10) ∧ w'.cell? ⟨wf.heap.size + 1 + 1 + 1, 1, none⟩ = some (.string ⟨#[]⟩) ∧ w'.cell? ⟨wf.heap.size + 1 + 1 + 1, 2, none⟩ = some (.int .i64 0) ∧ w'.cell? ⟨wf.heap.size + 1 + 1 + 1, 3, none⟩ = some (.slice none 0 0) ∧ w'.cell? ⟨wf.heap.size + 1 + 1 + 1, 4, none⟩ = some (.slice none 0 0) ∧ w'.cell? ⟨wf.heap.size + 1 + 1 + 1, 5, none⟩ = some (.slice (some ⟨wf.heap.size + 1 + 1, 0, none⟩) 1 1)) (go_keep)
            (first
              | (go_at_call 38; (with_reducible refine (P38.out _ T.out.two.b _ T.out.pr.at_).mono ?_); rintro e wn ⟨rfl, g⟩; replace T := Aside0.mk (T.out.below g); clear g; clear q0 q1 q2 q3 q4 q5 r0 r1 r2 r3 r4 r5 s0 s1 s2 s3 s4 s5; obtain ⟨q0, q1, q2, q3, q4, q5⟩ := T.out.two.byy.six; obtain ⟨r0, r1, r2, r3, r4, r5⟩ := six_pair T.out.pr; obtain ⟨s0, s1, s2, s3, s4, s5⟩ := six_neg T.out.ng)
              | (go_at_call 38; (with_reducible refine (P38.out _ T.out.drew.two.b _ T.out.drew.pr.at_).mono ?_); rintro e wn ⟨rfl, g⟩; replace T := Aside0.mk (T.out.drew.below g); clear g; clear q0 q1 q2 q3 q4 q5 r0 r1 r2 r3 r4 r5 s0 s1 s2 s3 s4 s5; obtain ⟨q0, q1, q2, q3, q4, q5⟩ := T.out.two.byy.six; obtain ⟨r0, r1, r2, r3, r4, r5⟩ := six_pair T.out.pr; obtain ⟨s0, s1, s2, s3, s4, s5⟩ := six_neg T.out.ng)
              | (go_at_call 38; (with_reducible refine (D38.out _ T.out.two.b).mono ?_); rintro e wn ⟨rfl, g⟩; replace T := Aside0.mk (T.out.below g); clear g; clear q0 q1 q2 q3 q4 q5 r0 r1 r2 r3 r4 r5 s0 s1 s2 s3 s4 s5; obtain ⟨q0, q1, q2, q3, q4, q5⟩ := T.out.two.byy.six; obtain ⟨r0, r1, r2, r3, r4, r5⟩ := six_pair T.out.pr; obtain ⟨s0, s1, s2, s3, s4, s5⟩ := six_neg T.out.ng)
              | (go_at_call 38; (with_reducible refine (D38.out _ T.out.drew.two.b).mono ?_); rintro e wn ⟨rfl, g⟩; replace T := Aside0.mk (T.out.drew.below g); clear g; clear q0 q1 q2 q3 q4 q5 r0 r1 r2 r3 r4 r5 s0 s1 s2 s3 s4 s5; obtain ⟨q0, q1, q2, q3, q4, q5⟩ := T.out.two.byy.six; obtain ⟨r0, r1, r2, r3, r4, r5⟩ := six_pair T.out.pr; obtain ⟨s0, s1, s2, s3, s4, s5⟩ := six_neg T.out.ng)
              | (go_at_call 38; (with_reducible refine (N38.out _ T.out.two.b _ T.out.ng.at_).mono ?_); rintro e wn ⟨rfl, g⟩; replace T := Aside0.mk (T.out.below g); clear g; clear q0 q1 q2 q3 q4 q5 r0 r1 r2 r3 r4 r5 s0 s1 s2 s3 s4 s5; obtain ⟨q0, q1, q2, q3, q4, q5⟩ := T.out.two.byy.six; obtain ⟨r0, r1, r2, r3, r4, r5⟩ := six_pair T.out.pr; obtain ⟨s0, s1, s2, s3, s4, s5⟩ := six_neg T.out.ng)
              | (go_at_call 38; (with_reducible refine (N38.out _ T.out.drew.two.b _ T.out.drew.ng.at_).mono ?_); rintro e wn ⟨rfl, g⟩; replace T := Aside0.mk (T.out.drew.below g); clear g; clear q0 q1 q2 q3 q4 q5 r0 r1 r2 r3 r4 r5 s0 s1 s2 s3 s4 s5; obtain ⟨q0, q1, q2, q3, q4, q5⟩ := T.out.two.byy.six; obtain ⟨r0, r1, r2, r3, r4, r5⟩ := six_pair T.out.pr; obtain ⟨s0, s1, s2, s3, s4, s5⟩ := six_neg T.out.ng))
          all_goals
            go_wp2_with fail
            go_ret
            exact ⟨by first | rfl | (simp; rfl), T.out.two.b⟩
        · rw [if_neg h0] at P38
          obtain ⟨v, hv⟩ : ∃ v, typ env x = v := ⟨_, rfl⟩
          rw [hv] at C38 N38 P38 h0
          have b1 : (v == 0) = false := by simpa using h0
          clear hE ha hb ht hk hfew hfew2 h30 h302 hk3 hsl hsn hg hg' hn0 e1 e2 hr h0 hw hm hv D38
          go_enter Tryd.func18, Tryd.ntmps18
          go_wp2_with (first
            | (go_at_call 36; (with_reducible refine (C36.out _ T.out).mono ?_); rintro e wn ⟨rfl, g⟩; replace T := Aside0.mk (T.out.below g); clear g ; obtain ⟨p0, p1, p2, p3, p4, p5⟩ := T.out.bx.six; obtain ⟨q0, q1, q2, q3, q4, q5⟩ := T.out.byy.six)
            | (go_at_call 37; (with_reducible refine (C37.out _ T.out).mono ?_); rintro e wn ⟨rfl, g⟩; replace T := Aside0.mk (T.out.below g); clear g p0 p1 p2 p3 p4 p5 q0 q1 q2 q3 q4 q5; obtain ⟨p0, p1, p2, p3, p4, p5⟩ := T.out.bx.six; obtain ⟨q0, q1, q2, q3, q4, q5⟩ := T.out.byy.six)
            | (go_at_call 37; (with_reducible refine (D37.out _ T.out).mono ?_); rintro e wf ⟨rfl, g⟩; replace T := Aside0.mk (T.out.below g); clear g p0 p1 p2 p3 p4 p5 q0 q1 q2 q3 q4 q5; obtain ⟨p0, p1, p2, p3, p4, p5⟩ := T.out.bx.six; obtain ⟨q0, q1, q2, q3, q4, q5⟩ := T.out.byy.six; have U := Aside0.mk (T.out.below (up2 wf (.cells #[.int .i64 x.f0, .string x.f1, .int .i64 x.f2, .slice A3 x.f3.length c3, .slice A4 x.f4.length c4, .slice A5 x.f5.length c5, .int .i64 y.f0, .string y.f1, .int .i64 y.f2, .slice B3 y.f3.length d3, .slice B4 y.f4.length d4, .slice B5 y.f5.length d5] 26) (.cells #[.int .i64 (wrap64 (11 + (wrap64 m).tmod 3)), .string ⟨#[]⟩, .int .i64 0, .slice none 0 0, .slice none 0 0, .slice (some ⟨wf.heap.size, 0, none⟩) 2 2] 26))); obtain ⟨u0, u1, u2, u3, u4, u5⟩ := U.out.bx.six; obtain ⟨v0, v1, v2, v3, v4, v5⟩ := U.out.byy.six; replace T := Aside0.mk (S18.make (k := (wrap64 (11 + (wrap64 m).tmod 3))) T.out rfl); obtain ⟨r0, r1, r2, r3, r4, r5⟩ := six_pair T.out.pr; obtain ⟨s0, s1, s2, s3, s4, s5⟩ := six_neg T.out.ng; obtain ⟨y0, y1, y2, y3, y4, y5⟩ := T.out.two.bx.six)
            | (go_at_call 22; (with_reducible refine (P22.out _ T.out.two.b _ T.out.pr.at_).mono ?_); rintro e wn ⟨rfl, g⟩; replace T := Aside0.mk (T.out.below g); clear g; clear u0 u1 u2 u3 u4 u5 v0 v1 v2 v3 v4 v5 p0 p1 p2 p3 p4 p5 q0 q1 q2 q3 q4 q5 r0 r1 r2 r3 r4 r5 s0 s1 s2 s3 s4 s5 y0 y1 y2 y3 y4 y5; obtain ⟨p0, p1, p2, p3, p4, p5⟩ := T.out.two.bx.six; obtain ⟨s0, s1, s2, s3, s4, s5⟩ := six_neg T.out.ng)
            | (go_at_call 22; (with_reducible refine (N22.out _ T.out.two.b _ T.out.ng.at_).mono ?_); rintro e wn ⟨rfl, g⟩; replace T := Aside0.mk (T.out.below g); clear g; clear p0 p1 p2 p3 p4 p5 s0 s1 s2 s3 s4 s5; obtain ⟨p0, p1, p2, p3, p4, p5⟩ := T.out.two.bx.six)
            | (go_at_call 38; (with_reducible refine (C38.out _ T.out.two.b).mono ?_); rintro e wn ⟨rfl, g⟩; replace T := Aside0.mk (T.out.below g); clear g; clear p0 p1 p2 p3 p4 p5; obtain ⟨r0, r1, r2, r3, r4, r5⟩ := six_pair T.out.pr; obtain ⟨s0, s1, s2, s3, s4, s5⟩ := six_neg T.out.ng)
            | (go_at_call 38; (with_reducible refine (P38.out _ T.out.two.b _ T.out.pr.at_).mono ?_); rintro e wn ⟨rfl, g⟩; replace T := Aside0.mk (T.out.below g); clear g; clear r0 r1 r2 r3 r4 r5 s0 s1 s2 s3 s4 s5; obtain ⟨r0, r1, r2, r3, r4, r5⟩ := six_pair T.out.pr; obtain ⟨s0, s1, s2, s3, s4, s5⟩ := six_neg T.out.ng)
            | (go_at_call 38; (with_reducible refine (N38.out _ T.out.two.b _ T.out.ng.at_).mono ?_); rintro e wn ⟨rfl, g⟩; replace T := Aside0.mk (T.out.below g); clear g; clear r0 r1 r2 r3 r4 r5 s0 s1 s2 s3 s4 s5; skip))
          go_ret
          exact ⟨by first | rfl | (simp; rfl), T.out.two.b⟩
      · obtain ⟨g0, hg0⟩ : ∃ g, check (pair (wrap64 (11 + (wrap64 m).tmod 3)) x y) = g := ⟨_, rfl⟩
        rw [hg0] at P22 hg
        have b1 : (g0 != 0) = true := by simpa using hg
        clear hE ha hb ht hk hfew hfew2 h30 h302 hk3 hsl hsn hg hg0 hw hm
        go_enter Tryd.func18, Tryd.ntmps18
        go_wp2_with (first
          | (go_at_call 36; (with_reducible refine (C36.out _ T.out).mono ?_); rintro e wn ⟨rfl, g⟩; replace T := Aside0.mk (T.out.below g); clear g ; obtain ⟨p0, p1, p2, p3, p4, p5⟩ := T.out.bx.six; obtain ⟨q0, q1, q2, q3, q4, q5⟩ := T.out.byy.six)
          | (go_at_call 37; (with_reducible refine (C37.out _ T.out).mono ?_); rintro e wn ⟨rfl, g⟩; replace T := Aside0.mk (T.out.below g); clear g p0 p1 p2 p3 p4 p5 q0 q1 q2 q3 q4 q5; obtain ⟨p0, p1, p2, p3, p4, p5⟩ := T.out.bx.six; obtain ⟨q0, q1, q2, q3, q4, q5⟩ := T.out.byy.six)
          | (go_at_call 37; (with_reducible refine (D37.out _ T.out).mono ?_); rintro e wf ⟨rfl, g⟩; replace T := Aside0.mk (T.out.below g); clear g p0 p1 p2 p3 p4 p5 q0 q1 q2 q3 q4 q5; obtain ⟨p0, p1, p2, p3, p4, p5⟩ := T.out.bx.six; obtain ⟨q0, q1, q2, q3, q4, q5⟩ := T.out.byy.six; have U := Aside0.mk (T.out.below (up2 wf (.cells #[.int .i64 x.f0, .string x.f1, .int .i64 x.f2, .slice A3 x.f3.length c3, .slice A4 x.f4.length c4, .slice A5 x.f5.length c5, .int .i64 y.f0, .string y.f1, .int .i64 y.f2, .slice B3 y.f3.length d3, .slice B4 y.f4.length d4, .slice B5 y.f5.length d5] 26) (.cells #[.int .i64 (wrap64 (11 + (wrap64 m).tmod 3)), .string ⟨#[]⟩, .int .i64 0, .slice none 0 0, .slice none 0 0, .slice (some ⟨wf.heap.size, 0, none⟩) 2 2] 26))); obtain ⟨u0, u1, u2, u3, u4, u5⟩ := U.out.bx.six; obtain ⟨v0, v1, v2, v3, v4, v5⟩ := U.out.byy.six; replace T := Aside0.mk (S18.make (k := (wrap64 (11 + (wrap64 m).tmod 3))) T.out rfl); obtain ⟨r0, r1, r2, r3, r4, r5⟩ := six_pair T.out.pr; obtain ⟨s0, s1, s2, s3, s4, s5⟩ := six_neg T.out.ng; obtain ⟨y0, y1, y2, y3, y4, y5⟩ := T.out.two.bx.six)
          | (go_at_call 22; (with_reducible refine (P22.out _ T.out.two.b _ T.out.pr.at_).mono ?_); rintro e wn ⟨rfl, g⟩; replace T := Aside0.mk (T.out.below g); clear g; clear u0 u1 u2 u3 u4 u5 v0 v1 v2 v3 v4 v5 p0 p1 p2 p3 p4 p5 q0 q1 q2 q3 q4 q5 r0 r1 r2 r3 r4 r5 s0 s1 s2 s3 s4 s5 y0 y1 y2 y3 y4 y5; skip))
        go_ret
        exact ⟨rfl, T.out.two.b⟩
end Go.Proofs.YtmlcaecknocpoaaDoor.It
namespace Go.Proofs.YtmlcaecknocpoaaDoor.Wt
set_option linter.unusedVariables false
set_option linter.unusedSimpArgs false
open Go Go.ChangeShapes Go.WideShapes Go.ChangeAt Go.RowKit
def firstCells : Array Value := match Go.Pinned.utf8First with
  | .agg l => (l.map fun d => match d with | .lit (.int k n) => Value.int k n | _ => undef).toArray
  | _ => #[]
noncomputable def world (os : Os) : World :=
  { World.doorLaid Tryd.prog 341 os with heap := (World.doorLaid Tryd.prog 341 os).heap.modify 6 fun
      | .cells _ t frozen => .cells firstCells t frozen
      | o => o }
def zero26 : Value := .agg #[.int .i64 0, .string ByteArray.empty, .int .i64 0, .slice none 0 0, .slice none 0 0, .slice none 0 0]
end Go.Proofs.YtmlcaecknocpoaaDoor.Wt
namespace Go.Proofs.YtmlcaecknocpoaaDoor.It
set_option linter.unusedVariables false
set_option linter.unusedSimpArgs false
open Go Go.ChangeShapes Go.WideShapes Go.ChangeAt Go.RowKit
theorem own : ownKnob Tryd.prog.godebug = none := by kernel_rfl
theorem laidOut : laidOutB Tryd.prog = true := by kernel_rfl
structure ArgT (t : Pr.S47) : Prop where
  nm : t.f1.size ≤ 1048576
  k : I64 t.f0
  n : I64 t.f2
end Go.Proofs.YtmlcaecknocpoaaDoor.It
namespace Go.Proofs.YtmlcaecknocpoaaDoor.It
open Go Go.ChangeShapes Go.WideShapes Go.ChangeAt Go.RowKit
set_option maxRecDepth 100000 in
theorem trod_val2 {H : Type} {enc : TypeId × Value → H} {W : World} {base : Nat} {v : Value} {d : DataW H} {p : List MemPlace} (hv : Value.okWide Tryd.prog W .any base 26 v) (h : DataW.Trod enc Tryd.prog W 0 (fun _ => true) true 26 v d p) (hd : Rows.uptoBulk d ≤ 1048576) :
    ∃ (x : Pr.S26) (A3 : Option Addr) (c3 : Nat) (A4 : Option Addr) (c4 : Nat) (A5 : Option Addr) (c5 : Nat), v = .agg #[.int .i64 x.f0, .string x.f1, .int .i64 x.f2, .slice A3 x.f3.length c3, .slice A4 x.f4.length c4, .slice A5 x.f5.length c5] ∧ Arg W x A3 c3 A4 c4 A5 c5 ∧ wt26 x ≤ Rows.uptoBulk d := by
  obtain ⟨cs, rfl, hsz⟩ := okWide_struct Tryd.underlying26 hv
  obtain ⟨fuel, hf⟩ := h
  obtain ⟨x, A3, c3, A4, c4, A5, c5, he, hat, hdp, hw⟩ := read26 (Rows.uptoBulk d) fuel _ (d, p) (Nat.le_refl _) hf
  obtain ⟨l⟩ := cs
  have he' : l = [.int .i64 x.f0, .string x.f1, .int .i64 x.f2, .slice A3 x.f3.length c3, .slice A4 x.f4.length c4, .slice A5 x.f5.length c5] := by simpa [Value.cells] using he
  subst he'
  exact ⟨x, A3, c3, A4, c4, A5, c5, rfl, ⟨hat, hdp, Nat.le_trans hw hd⟩, hw⟩
end Go.Proofs.YtmlcaecknocpoaaDoor.It
namespace Go.Proofs.YtmlcaecknocpoaaDoor.It
set_option linter.unusedVariables false
set_option linter.unusedSimpArgs false
open Go Go.ChangeShapes Go.WideShapes Go.ChangeAt Go.RowKit Go.Shelf Go.Deep Go.Proofs.YtmlcaecknocpoaaDoorW.PrintWords Go.Proofs.YtmlcaecknocpoaaDoorW.PrintLast Go.Proofs.YtmlcaecknocpoaaDoor.Pr
set_option maxRecDepth 100000 in
theorem trod_env {H : Type} {enc : TypeId × Value → H} {W : World} {base : Nat} {v : Value} {d : DataW H} {p : List MemPlace} (hv : Value.okWide Tryd.prog W .any base 23 v) (h : DataW.Trod enc Tryd.prog W 0 (fun _ => true) true 23 v d p) (hd : Rows.uptoBulk d ≤ 1048576) :
    ∃ (env : List Pr.S42) (A : Option Addr) (c : Nat), v = .slice A env.length c ∧ EnvA W env A c ∧ env.length ≤ 1000000 := by
  obtain ⟨fuel, hf⟩ := h
  obtain ⟨A, c, l, e, hl, hC, hS, hB⟩ := read_row (x := (d, p)) k42 rfl Tryd.underlying23 cells42 (fun t => t.f0.size ≤ 9223372036854775807 ∧ I64 t.f1) (fun _ => 3) z42 (fun n cs' y _ ht => by
          obtain ⟨t, rfl, hs, hb⟩ := read42 ht
          exact ⟨t, k42_mk W t, rfl, hs, by omega⟩) hf
  have e' : v = .slice A l.length c := by
    obtain ⟨a, n, c', e2⟩ := okWide_slice Tryd.underlying23 hv
    subst e2
    simpa [Value.cells] using e
  have hs3 := sum_const l 3
  rw [hs3] at hB
  have : Rows.uptoBulk (d, p).1 = Rows.uptoBulk d := rfl
  exact ⟨l, A, c, e', ⟨hC, hl, fun b hb => ⟨(hS b hb).1, (hS b hb).2⟩⟩, by omega⟩
theorem ArgT.ok {t : Pr.S47} (h : ArgT t) : TOk t := ⟨by have := h.nm; omega, h.k, h.n⟩
end Go.Proofs.YtmlcaecknocpoaaDoor.It
namespace Go.Proofs.YtmlcaecknocpoaaDoor.C18
set_option linter.unusedVariables false
set_option linter.unusedSimpArgs false
open Go Go.ChangeShapes Go.WideShapes Go.ChangeAt Go.RowKit Go.Proofs.YtmlcaecknocpoaaDoor.It
open Go.ChangeMaps (open_string shut_string)
set_option maxRecDepth 100000 in
theorem contract (H : Type) (enc : TypeId × Value → H) (W : World) (base : Nat) (args : Array Value) (ds gs : List (DataW H)) (before : List MemPlace)
    (hval0 : ∀ (j : Nat) t v, Tryd.f18.params[j]? = some t → args[j]? = some v → Value.okWide Tryd.prog W .any base t v)
    (hW : DataW.Whole enc Tryd.prog Tryd.f18.params.toList Rows.typesConnectivesSpec.vars false W args.toList ds gs before) (hk : Rows.uptoSmall H (ds ++ gs) = true) (hL : laidMetH Tryd.prog Rows.typesConnectivesUptoRow.laid W) :
    Calls Tryd.prog 18 args W fun e W' => ∃ v, e = .returned v ∧ Rows.typesConnectivesSpec.post enc Tryd.prog Tryd.f18 false true false false W args v W' := by
  have hval : ∀ (j : Nat) t v, Tryd.f18.params[j]? = some t → args[j]? = some v → Value.okWide Tryd.prog W .any base t v := hval0
  have hW' := hW
  obtain ⟨p, q, hA0, hV, rfl, hfz, hnd⟩ := hW
  have hA : DataW.TrodAll enc Tryd.prog W 0 (fun _ => true) true Tryd.f18.params.toList args.toList ds p := hA0
  rw [Tryd.params18] at hA hval
  obtain ⟨v0, vs0, d0, ds0, p0, q0, hargs, rfl, rfl, h0, r0⟩ := trodAll_cons hA
  obtain ⟨v1, vs1, d1, ds1, p1, q1, rfl, rfl, rfl, h1, r1⟩ := trodAll_cons r0
  obtain ⟨v2, vs2, d2, ds2, p2, q2, rfl, rfl, rfl, h2, r2⟩ := trodAll_cons r1
  obtain ⟨v3, vs3, d3, ds3, p3, q3, rfl, rfl, rfl, h3, r3⟩ := trodAll_cons r2
  obtain ⟨rfl, rfl, rfl⟩ := trodAll_nil r3
  obtain rfl : args = #[v0, v1, v2, v3] := by cases args; simp_all
  obtain ⟨rfl, rfl⟩ := trodVars_none hV
  have hk2 := of_decide_eq_true hk
  clear hk
  simp only [List.append_nil, Rows.uptoBulkAll] at hk2
  obtain ⟨x0, A30, c30, rfl, ha0, hn0⟩ := trod_env (hval 0 23 v0 rfl rfl) h0 (by omega)
  have lt0 : ∀ y ∈ p0, y.block < W.heap.size := by
    obtain ⟨m, hm⟩ := h0
    exact DataW.trod_lt m _ _ _ hm
  obtain ⟨x1, A31, c31, A41, c41, A51, c51, rfl, ha1, hq1⟩ := trod_val2 (hval 1 26 v1 rfl rfl) h1 (by omega)
  have lt1 : ∀ y ∈ p1, y.block < W.heap.size := by
    obtain ⟨m, hm⟩ := h1
    exact DataW.trod_lt m _ _ _ hm
  obtain ⟨x2, A32, c32, A42, c42, A52, c52, rfl, ha2, hq2⟩ := trod_val2 (hval 2 26 v2 rfl rfl) h2 (by omega)
  have lt2 : ∀ y ∈ p2, y.block < W.heap.size := by
    obtain ⟨m, hm⟩ := h2
    exact DataW.trod_lt m _ _ _ hm
  obtain ⟨x3, rfl, rfl, rfl, ha3⟩ := open_int Tryd.underlying5 (hval 3 5 v3 rfl rfl) h3
  have hl := hL
  rw [MakeChecks.laidMetH_plain _ _ _ (by kernel_rfl)] at hl
  have ht : Tabs W := tabs_laid hl (by simp [Rows.typesConnectivesUptoRow]) (by simp [Rows.typesConnectivesUptoRow]) (by simp [Rows.typesConnectivesUptoRow])
  have hk : Kinds W := kinds_laid hl (by simp [Rows.typesConnectivesUptoRow]) (by simp [Rows.typesConnectivesUptoRow])
  refine (law18 x0 x1 x2 x3 A30 c30 A31 c31 A41 c41 A51 c51 A32 c32 A42 c42 A52 c52 W ha0 ha1 ha2 ha3 ht hk (by omega)).mono fun e W' ⟨he, bel⟩ => ?_
  subst he
  exact ⟨_, rfl, _, _, _, [], _, [], hW', trodAll_mk1 (shut_bool Tryd.underlying4 _), (trodAll_cons_mk (Below.trod laidOut (by kernel_rfl) (of_decide_eq_true (by kernel_rfl)) h0 bel lt0) (trodAll_cons_mk (Below.trod laidOut (by kernel_rfl) (of_decide_eq_true (by kernel_rfl)) h1 bel lt1) (trodAll_cons_mk (Below.trod laidOut (by kernel_rfl) (of_decide_eq_true (by kernel_rfl)) h2 bel lt2) (trodAll_cons_mk (shut_int Tryd.underlying5 ha3) trodAll_mk0)))), rfl, bel.frame _, fun h => by cases h⟩
theorem met (os : Os) : laidMetH Tryd.prog Rows.typesConnectivesUptoRow.laid ((Wt.world os).forCall (fun _ _ => 0) ⟨#[], #[.slice none 0 0, Wt.zero26, Wt.zero26, .int .u8 0], []⟩).memory :=
  laidMetH_of_parts3 (fuel := 8) (laidMet_of_run' 8 (by kernel_rfl) (by kernel_rfl)) (by kernel_rfl) (by kernel_rfl)
set_option maxRecDepth 100000 in
theorem lifted (os : Os) (started : os.Started) (H : Type) (enc : TypeId × Value → H) (F : Stop.Interp) :
    ReturnsInHanded {} Tryd.checked os 18 .any ((Rows.OpenSpec.upto Rows.typesConnectivesSpec).preRow enc Tryd.prog Tryd.f18 Rows.typesConnectivesUptoRow.domain false Rows.typesConnectivesUptoRow.laid) (((Rows.OpenSpec.upto Rows.typesConnectivesSpec).at F).post enc Tryd.prog Tryd.f18 false true false false) := by
  have hx : DataW.whole enc Tryd.prog ((Wt.world os).forCall (fun _ _ => 0) ⟨#[], #[.slice none 0 0, Wt.zero26, Wt.zero26, .int .u8 0], []⟩).memory Tryd.f18.params.toList Rows.typesConnectivesSpec.vars false (#[.slice none 0 0, Wt.zero26, Wt.zero26, .int .u8 0] : Array Value).toList 8 = some ([.nil, .agg [.lit (.int .i64 0), .lit (.string []), .lit (.int .i64 0), .nil, .nil, .nil], .agg [.lit (.int .i64 0), .lit (.string []), .lit (.int .i64 0), .nil, .nil, .nil], .lit (.int .u8 0)], [], []) := by kernel_rfl
  refine returnsInHanded_of_row (C := Tryd.checked) (s := Rows.OpenSpec.upto Rows.typesConnectivesSpec) own started (by kernel_rfl) Tryd.func18
    (witness_row_atRef (enc := enc) (C := Tryd.checked) false (Wt.world os) #[.slice none 0 0, Wt.zero26, Wt.zero26, .int .u8 0] rfl (by kernel_rfl) (by kernel_rfl) (by kernel_rfl)
      (OpenSpec.preRow_of_cond 8 hx (by kernel_rfl) (fun k hk => by cases hk; kernel_rfl) (by kernel_rfl) (met os))) ?_
  intro W base args ds gs before hval hW _ hcond _ hL _ _
  exact contract H enc W base args ds gs before hval hW (hcond _ rfl) hL
end Go.Proofs.YtmlcaecknocpoaaDoor.C18
namespace Go.Proofs.YtmlcaecknocpoaaDoor.C18
set_option linter.unusedVariables false
open Go Go.ChangeShapes Go.WideShapes Go.ChangeAt Go.RowKit
theorem isInst : Func.isInstance Tryd.pinned.checked.prog Tryd.f18 Rows.typesConnectivesUptoRow.origin Rows.typesConnectivesUptoRow.targs := of_decide_eq_true (by kernel_rfl)
theorem isWrap : Func.isWrapper Tryd.pinned.checked.prog Tryd.f18 Rows.typesConnectivesUptoRow.wrapper Rows.typesConnectivesUptoRow.mainSum := by
  unfold Func.isWrapper; first | (rw [if_pos (by decide +kernel)]; kernel_rfl) | (rw [if_neg (by decide +kernel)]; exact ⟨rfl, rfl⟩)
theorem isName : Tryd.pinned.checked.prog.funcNamed Rows.typesConnectivesUptoRow.func = some 18 := by kernel_rfl
theorem saidUpto : Rows.TypesConnectivesUptoSaid :=
  OpenClaim.holds_of_cond 18 Tryd.f18 rfl rfl rfl rfl rfl rfl rfl ⟨rfl, rfl, rfl, rfl, rfl⟩ rfl rfl rfl rfl rfl isName Tryd.func18 F18.closed isInst isWrap
    (fun os started H enc _ F => by rw [OpenClaim.pre_eq_preRow]; exact lifted os started H enc F)
theorem plain (f : FuncId) (fn : Func) (hf : Tryd.pinned.checked.prog.funcNamed "chalkline/chalklinelaw08.TypesConnectives" = some f) (hfn : Tryd.pinned.checked.prog.funcs[f]? = some fn) :
    false = Tryd.pinned.checked.prog.looks [] ∧ ∀ (j : Nat) t, fn.params[j]? = some t → Tryd.pinned.checked.prog.wantsStandIn t = false := by
  obtain rfl : f = 18 := Option.some.inj ((show Tryd.prog.funcNamed "chalkline/chalklinelaw08.TypesConnectives" = some 18 by kernel_rfl).symm.trans hf) |>.symm
  obtain rfl : fn = Tryd.f18 := (Option.some.inj (Tryd.func18.symm.trans hfn)).symm
  refine ⟨by kernel_rfl, fun j t ht => ?_⟩
  rw [Tryd.params18] at ht
  have hm := Array.mem_of_getElem? ht
  simp only [List.mem_toArray, List.mem_cons, List.not_mem_nil, or_false] at hm
  rcases hm with rfl | rfl | rfl | rfl
  · exact (show Tryd.prog.wantsStandIn 23 = false by kernel_rfl)
  · exact (show Tryd.prog.wantsStandIn 26 = false by kernel_rfl)
  · exact (show Tryd.prog.wantsStandIn 26 = false by kernel_rfl)
  · exact (show Tryd.prog.wantsStandIn 5 = false by kernel_rfl)
theorem wfText : Rows.typesConnectivesUptoRow.wfByText (Rows.OpenSpec.upto Rows.typesConnectivesSpec) = true := by kernel_rfl
theorem goes : false = Rows.typesConnectivesUptoRow.goesBy Tryd.pinned.checked.prog := by kernel_rfl
theorem cardUpto : Rows.TypesConnectivesUptoCardSaid :=
  Claim7.holds_tied_plain_at .later [] _ _ _ _ saidUpto (fun _ h => by cases h) wfText (fun _ h => by cases h) typesConnectivesUpto_row_tie rfl ⟨rfl, rfl⟩ HH.mainIs rfl plain goes
end Go.Proofs.YtmlcaecknocpoaaDoor.C18
namespace Go.Proofs.YtmlcaecknocpoaaDoor
theorem typesConnectivesUpto_holds : Rows.TypesConnectivesUptoCardSaid := C18.cardUpto
#print axioms typesConnectivesUpto_holds
end Go.Proofs.YtmlcaecknocpoaaDoor
