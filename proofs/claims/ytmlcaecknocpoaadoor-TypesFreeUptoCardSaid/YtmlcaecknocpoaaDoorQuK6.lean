/- Lemmas and walks for the claim below. -/
import Derived.Test.YtmlcaecknocpoaaDoorQuK5
import Derived.Deep.RegionHeld3
import Derived.Deep.RegionWith
import Derived.BigQuiet
import Derived.ProofKit
import Derived.LaidMore
import Derived.Deep.DeepHandedRow
import Derived.Deep.DeepWitnessRowRef
import Derived.WalkKit
import Derived.OpenShut
import Derived.ChangeOld
import Derived.Below
import Derived.SizedLaws
import Derived.Lib.SmallJoins
import Derived.Test.YtmlcaecknocpoaaDoorCards
import Derived.Test.YtmlcaecknocpoaaDoorTie
namespace Go.Proofs.YtmlcaecknocpoaaDoor.Pr
open Go.RowKit Go.Proofs.YtmlcaecknocpoaaDoorW.PrintWords Go.Proofs.YtmlcaecknocpoaaDoorW.PrintLast Go.Proofs.YtmlcaecknocpoaaDoorW.PrintMore
attribute [local go_sem] max2_int min2_int max_two min_two max_three min_three max_four min_four   
set_option linter.unusedVariables false
set_option linter.unusedSimpArgs false
def chalklinelaw08_cmp.f (a0 : Int) (a1 : ByteArray) (a2 : ByteArray) (a3 : Int) : Option (Int × ByteArray × Int × (List (S47)) × (List (S42)) × (List (S26))) := some (9, a2, 0, (([(⟨a0, a1, 0⟩ : S47), (⟨1, (⟨#[]⟩ : ByteArray), a3⟩ : S47)] : List (S47))), ([] : List (S42)), ([] : List (S26)))
set_option maxHeartbeats 8000000 in
set_option maxRecDepth 100000 in
theorem chalklinelaw08_cmp.calls (a0 : Int) (a1 : ByteArray) (a2 : ByteArray) (a3 : Int) (r1 : Int) (r2 : ByteArray) (r3 : Int) (r4 : List (S47)) (r5 : List (S42)) (r6 : List (S26)) (w : World) (h : chalklinelaw08_cmp.f a0 a1 a2 a3 = some (r1, r2, r3, r4, r5, r6)) :
    Calls Tryd.prog 63 #[.int .i64 a0, .string a1, .string a2, .int .i64 a3] w fun e w' => ∃ v3_ v4_ v5_ : Value, e = .returned (.agg #[.int .i64 r1, .string r2, .int .i64 r3, v3_, v4_, v5_]) ∧ Kd.R k47 47 w' w.heap.size (fun _ => True) v3_ r4 ∧ Kd.R k42 42 w' w.heap.size (fun _ => True) v4_ r5 ∧ Kd.R k26 26 w' w.heap.size (fun k_ => some k_ ≠ (v3_ : Value).ownBlock ∧ some k_ ≠ (v4_ : Value).ownBlock) v5_ r6 ∧ Below w.heap.size w w' := by
  have hu26 := Tryd.underlying26
  have hu47 := Tryd.underlying47
  have HB := Aside0.mk (Below.refl w.heap.size w)
  have H : (some (9, a2, 0, (([(⟨a0, a1, 0⟩ : S47), (⟨1, (⟨#[]⟩ : ByteArray), a3⟩ : S47)] : List (S47))), ([] : List (S42)), ([] : List (S26)))) = some (r1, r2, r3, r4, r5, r6) := h
  clear h
  obtain ⟨y208, hy208⟩ : ∃ y_ : List (S47), y_ = (([(⟨a0, a1, 0⟩ : S47), (⟨1, (⟨#[]⟩ : ByteArray), a3⟩ : S47)] : List (S47))) := ⟨_, rfl⟩
  replace H : (some (9, a2, 0, y208, ([] : List (S42)), ([] : List (S26)))) = some (r1, r2, r3, r4, r5, r6) := by first | (rw [hy208]; with_reducible exact H) | (have H2_ := (Option.bind_some _ _).symm.trans H; rw [hy208]; with_reducible exact H2_) | (have H2_ := (Option.bind_some _ _).symm.trans H; with_reducible exact H2_) | with_reducible exact H | (rw [hy208]; exact H) | exact H
  have Ny208 := Aside0.mk hy208
  clear hy208
  simp only [Option.some.injEq, Prod.mk.injEq] at H
  obtain ⟨rfl, rfl, rfl, rfl, rfl, rfl⟩ := H
  go_enter Tryd.func63, Tryd.ntmps63
  go_wp2_with (first | ((with_reducible refine gate_dst (N := 8) rfl ?_); refine box_event ?hg (N := 8) ?hd (cs := #[.int .i64 0, .string (⟨#[]⟩ : ByteArray), .int .i64 0, .slice none 0 0, .slice none 0 0, .slice none 0 0]) (t := 26) ?hr ?_; (case hd => rfl); (case hg => rfl); (case hr => first | (go_simp; done) | (go_simp; rfl)); intro gb207 hg w5 hbox hb; have n0_ := Aside0.mk (below_step (by repeat (first | (with_reducible first | exact HB.out | apply below_alloc | apply pw_below_drewN | apply below_drew1) | exact HB.out)) hb); have n1_ := Aside0.mk (hbox); have n2_ := Aside0.mk ((by rw [hg]; exact (below_size (by repeat (first | (with_reducible first | exact HB.out | apply below_alloc | apply pw_below_drewN | apply below_drew1) | exact HB.out))) : w.heap.size ≤ gb207)); have n3_ := Aside0.mk ((by rw [hg]; exact (below_size (by repeat (first | (with_reducible first | exact HB.out | apply below_alloc | apply pw_below_drewN | apply below_drew1) | exact HB.out))) : w.heap.size ≤ gb207)); clear HB; have HB := n0_; have BK207 := n1_; have GW207 := n2_; have GE207 := n3_; clear n0_ n1_ n2_ n3_; clear hb hbox hg) | ((with_reducible refine gate_dst (N := 15) rfl ?_); refine Kd.R_lit k47 _ 47 ?hg (N := 15) ?hd (xs := ([(⟨a0, a1, 0⟩ : S47), (⟨1, (⟨#[]⟩ : ByteArray), a3⟩ : S47)] : List (S47))) (inner := [.int .i64 a0, .string a1, .int .i64 0, .int .i64 1, .string (⟨#[]⟩ : ByteArray), .int .i64 a3]) (ok := fun _ => True) (okp := fun _ => True) ?hr ?hp (fun _ hk => hk) trivial (Below.refl _ _) (Nat.le_refl _) (by simp) ?_; (case hd => rfl); (case hg => rfl); (case hr => first | (go_simp; done) | (go_simp; rfl)); (case hp => exact (Reps.c3 (show Kd.M k47 _ _ _ (⟨a0, a1, 0⟩ : S47) [.int .i64 a0, .string a1, .int .i64 0] from (k47_mkM _ _ _ (⟨a0, a1, 0⟩ : S47) )) (Reps.c3 (show Kd.M k47 _ _ _ (⟨1, (⟨#[]⟩ : ByteArray), a3⟩ : S47) [.int .i64 1, .string (⟨#[]⟩ : ByteArray), .int .i64 a3] from (k47_mkM _ _ _ (⟨1, (⟨#[]⟩ : ByteArray), a3⟩ : S47) )) (Reps.none _ _)))); intro v209 w6 ho7 hb hg_ hnew_; clear hg_ hnew_; (first | rw [← Ny208.out] at ho7 | (simp only [Int.reduceToNat] at ho7; rw [← Ny208.out] at ho7)); have n0_ := Aside0.mk (Kd.R_lower ho7 (below_size (by repeat (first | (with_reducible first | exact HB.out | apply below_alloc | apply pw_below_drewN | apply below_drew1 | refine below_set ?_ GE207.out) | exact HB.out)))); have n1_ := Aside0.mk (blk_below (g := gb207) (o := .cells #[.int .i64 0, .string (⟨#[]⟩ : ByteArray), .int .i64 0, .slice none 0 0, .slice none 0 0, .slice none 0 0] 26 (0, 0)) (by (with_reducible repeat (first | refine blk_drewN ?_ _ | refine blk_drew ?_ | refine blk_alloc ?_ _)); exact BK207.out) hb); have n2_ := Aside0.mk (below_step (by repeat (first | (with_reducible first | exact HB.out | apply below_alloc | apply pw_below_drewN | apply below_drew1 | refine below_set ?_ GE207.out) | exact HB.out)) hb); clear BK207; clear HB; have HO210 := n0_; have BK207 := n1_; have HB := n2_; clear n0_ n1_ n2_; clear hb ho7; obtain ⟨Ao8, co8, eo8⟩ := Kd.R_slice HO210.out; subst eo8; have hcz9_0 : w6.cell? ⟨gb207, 0, none⟩ = some (.int .i64 0) := (blk_cell BK207.out 0).trans rfl; have hcz9_1 : w6.cell? ⟨gb207, 1, none⟩ = some (.string (⟨#[]⟩ : ByteArray)) := (blk_cell BK207.out 1).trans rfl; have hcz9_2 : w6.cell? ⟨gb207, 2, none⟩ = some (.int .i64 0) := (blk_cell BK207.out 2).trans rfl; have hcz9_3 : w6.cell? ⟨gb207, 3, none⟩ = some (.slice none 0 0) := (blk_cell BK207.out 3).trans rfl; have hcz9_4 : w6.cell? ⟨gb207, 4, none⟩ = some (.slice none 0 0) := (blk_cell BK207.out 4).trans rfl; have hcz9_5 : w6.cell? ⟨gb207, 5, none⟩ = some (.slice none 0 0) := (blk_cell BK207.out 5).trans rfl; have hfz9_0 := blk_frozen BK207.out 0; have hfz9_1 := blk_frozen BK207.out 1; have hfz9_2 := blk_frozen BK207.out 2; have hfz9_3 := blk_frozen BK207.out 3; have hfz9_4 := blk_frozen BK207.out 4; have hfz9_5 := blk_frozen BK207.out 5))
  refine bodyPost_ret (results_cell_row rfl _ _ gb207 26 #[.int .i64 9, .string a2, .int .i64 0, .slice Ao8 y208.length co8, .slice none 0 0, .slice none 0 0] (0, 0) _ rfl (by (with_reducible repeat (first | refine blk_drewN ?_ _ | refine blk_drew ?_ | refine blk_alloc ?_ _)); refine blk_put (cs := #[.int .i64 9, .string a2, .int .i64 0, .slice Ao8 y208.length co8, .slice none 0 0, .slice none 0 0]) ?_ 5 _ rfl; (with_reducible repeat (first | refine blk_drewN ?_ _ | refine blk_drew ?_ | refine blk_alloc ?_ _)); refine blk_put (cs := #[.int .i64 9, .string a2, .int .i64 0, .slice Ao8 y208.length co8, .slice none 0 0, .slice none 0 0]) ?_ 4 _ rfl; (with_reducible repeat (first | refine blk_drewN ?_ _ | refine blk_drew ?_ | refine blk_alloc ?_ _)); refine blk_put (cs := #[.int .i64 9, .string a2, .int .i64 0, .slice none 0 0, .slice none 0 0, .slice none 0 0]) ?_ 3 _ rfl; (with_reducible repeat (first | refine blk_drewN ?_ _ | refine blk_drew ?_ | refine blk_alloc ?_ _)); refine blk_put (cs := #[.int .i64 9, .string a2, .int .i64 0, .slice none 0 0, .slice none 0 0, .slice none 0 0]) ?_ 2 _ rfl; (with_reducible repeat (first | refine blk_drewN ?_ _ | refine blk_drew ?_ | refine blk_alloc ?_ _)); refine blk_put (cs := #[.int .i64 9, .string (⟨#[]⟩ : ByteArray), .int .i64 0, .slice none 0 0, .slice none 0 0, .slice none 0 0]) ?_ 1 _ rfl; (with_reducible repeat (first | refine blk_drewN ?_ _ | refine blk_drew ?_ | refine blk_alloc ?_ _)); refine blk_put (cs := #[.int .i64 0, .string (⟨#[]⟩ : ByteArray), .int .i64 0, .slice none 0 0, .slice none 0 0, .slice none 0 0]) ?_ 0 _ rfl; (with_reducible repeat (first | refine blk_drewN ?_ _ | refine blk_drew ?_ | refine blk_alloc ?_ _)); exact BK207.out) Tryd.underlying26 rfl (by kernel_rfl)) rfl ?_
  exact ⟨_, _, _, by first | rfl | (simp [errW_none, errW_some] <;> rfl) | (simp [*, errW_none, errW_some] <;> rfl), by (with_reducible repeat (first | apply Kd.R_alloc | apply Kd.R_drewN | apply Kd.R_drew)); exact Kd.R_mono (Kd.R_far (p := ⟨gb207, 5, none⟩) (Kd.R_far (p := ⟨gb207, 4, none⟩) (Kd.R_far (p := ⟨gb207, 3, none⟩) (Kd.R_far (p := ⟨gb207, 2, none⟩) (Kd.R_far (p := ⟨gb207, 1, none⟩) (Kd.R_far (p := ⟨gb207, 0, none⟩) (Kd.R_types HO210.out BK207.out (by decide)) (fun _ hk => hk.2) (.int .i64 9)) (fun _ hk => hk.2) (.string a2)) (fun _ hk => hk.2) (.int .i64 0)) (fun _ hk => hk.2) (.slice Ao8 y208.length co8)) (fun _ hk => hk.2) (.slice none 0 0)) (fun _ hk => hk.2) (.slice none 0 0)) (fun _ hk => trivial), by first | exact Kd.R_nil _ _ _ _ _ | exact Kd.N_nil _ _ _ _ _ | exact Kd.V_nil _ _ _ _ _ | exact Kd.Q_nil _ _ _ _ _ | exact Kd.S_nil _ _ _ _ _, by first | exact Kd.R_nil _ _ _ _ _ | exact Kd.N_nil _ _ _ _ _ | exact Kd.V_nil _ _ _ _ _ | exact Kd.Q_nil _ _ _ _ _ | exact Kd.S_nil _ _ _ _ _, by repeat (first | (with_reducible first | exact HB.out | apply below_alloc | apply pw_below_drewN | apply below_drew1 | refine below_set ?_ GE207.out) | exact HB.out)⟩
end Go.Proofs.YtmlcaecknocpoaaDoor.Pr
namespace Go.Proofs.YtmlcaecknocpoaaDoor.It
set_option linter.unusedVariables false
set_option linter.unusedSimpArgs false
open Go Go.RowKit Go.Shelf Go.Proofs.YtmlcaecknocpoaaDoorW.PrintWords Go.Proofs.YtmlcaecknocpoaaDoorW.PrintLast Go.Proofs.YtmlcaecknocpoaaDoor.Pr Go.Proofs.YtmlcaecknocpoaaDoor.Sp
attribute [local go_sem ↓] Go.wp_at_zero Go.wp_at_succ
def gAt (a b : ByteArray) : S26 := ⟨3, e0, 0, [⟨2, a, 0⟩, ⟨2, b, 0⟩], [], []⟩
def gCmp (k : Int) (a op : ByteArray) (n : Int) : S26 := ⟨9, op, 0, [⟨k, a, 0⟩, ⟨1, e0, n⟩], [], []⟩
theorem rowC {α : Type} {d : Kd α} {e : Nat} {w : World} {base : Nat} {ok : Nat → Prop} {v : Value} {xs : List α} (h : d.R e w base ok v xs) : ∃ A c, v = .slice A xs.length c ∧ xs.length ≤ c ∧ d.C w A xs.length xs := by
  obtain ⟨A, c, rfl⟩ := Kd.R_slice h
  exact ⟨A, c, rfl, (Kd.R_reads' h).2.1, (Kd.R_reads' h).2.2⟩
theorem gAt_calls (a b : ByteArray) (w : World) : Calls Tryd.prog 62 #[.string a, .string b] w fun e w' => ∃ A3 c3 A4 c4 A5 c5, e = .returned (.agg #[.int .i64 3, .string ⟨#[]⟩, .int .i64 0, .slice A3 2 c3, .slice A4 0 c4, .slice A5 0 c5]) ∧ Below w.heap.size w w' ∧ At w' (gAt a b) A3 c3 A4 c4 A5 c5 :=
  (chalklinelaw08_at.calls a b 3 ⟨#[]⟩ 0 [⟨2, a, 0⟩, ⟨2, b, 0⟩] [] [] w rfl).mono fun e w' ⟨v3, v4, v5, he, h3, h4, h5, hb⟩ => by
    obtain ⟨A3, c3, rfl, l3, g3⟩ := rowC h3
    obtain ⟨A4, c4, rfl, l4, g4⟩ := rowC h4
    obtain ⟨A5, c5, rfl, l5, g5⟩ := rowC h5
    exact ⟨A3, c3, A4, c4, A5, c5, he, hb, l3, g3, l4, g4, l5, g5⟩
theorem R_set {α : Type} {d : Kd α} {e base : Nat} {w : World} {v : Value} {xs : List α} (h : d.R e w base (fun _ => True) v xs) {B : Nat} (hB : B < base) (j : Nat) (u : Value) : d.R e (w.setCell ⟨B, j, none⟩ u) base (fun _ => True) v xs :=
  Kd.R_mono (Kd.R_far (Kd.R_bound h) (p := ⟨B, j, none⟩) (fun k hk e => by have := hk.2.1; simp only at e; omega) u) (fun _ _ => trivial)
theorem gAtR_calls (a b : ByteArray) (w : World) : Calls Tryd.prog 62 #[.string a, .string b] w fun e w' => ∃ A3 c3 A4 c4 A5 c5, e = .returned (.agg #[.int .i64 3, .string ⟨#[]⟩, .int .i64 0, .slice A3 2 c3, .slice A4 0 c4, .slice A5 0 c5]) ∧ Below w.heap.size w w' ∧ k47.R 47 w' w.heap.size (fun _ => True) (.slice A3 2 c3) [⟨2, a, 0⟩, ⟨2, b, 0⟩] :=
  (chalklinelaw08_at.calls a b 3 ⟨#[]⟩ 0 [⟨2, a, 0⟩, ⟨2, b, 0⟩] [] [] w rfl).mono fun e w' ⟨v3, v4, v5, he, h3, h4, h5, hb⟩ => by
    obtain ⟨A3, c3, rfl, l3, g3⟩ := rowC h3
    obtain ⟨A4, c4, rfl, l4, g4⟩ := rowC h4
    obtain ⟨A5, c5, rfl, l5, g5⟩ := rowC h5
    exact ⟨A3, c3, A4, c4, A5, c5, he, hb, Kd.R_mono h3 (fun _ _ => trivial)⟩
theorem gAt_of {w : World} {base : Nat} {A3 : Option Addr} {c3 : Nat} {a b : ByteArray} (A4 : Option Addr) (c4 : Nat) (A5 : Option Addr) (c5 : Nat) (h : k47.R 47 w base (fun _ => True) (.slice A3 2 c3) [⟨2, a, 0⟩, ⟨2, b, 0⟩]) : At w (gAt a b) A3 c3 A4 c4 A5 c5 := by
  obtain ⟨A, c, e, hl, hC⟩ := rowC h
  injection e with e1 e2 e3
  subst e1 e3
  exact ⟨hl, hC, Nat.zero_le _, ⟨rfl, Nat.zero_le _, fun h => absurd h (Nat.lt_irrefl 0)⟩, Nat.zero_le _, ⟨rfl, Nat.zero_le _, fun h => absurd h (Nat.lt_irrefl 0)⟩⟩
theorem gCmp_calls (k : Int) (a op : ByteArray) (n : Int) (w : World) : Calls Tryd.prog 63 #[.int .i64 k, .string a, .string op, .int .i64 n] w fun e w' => ∃ A3 c3 A4 c4 A5 c5, e = .returned (.agg #[.int .i64 9, .string op, .int .i64 0, .slice A3 2 c3, .slice A4 0 c4, .slice A5 0 c5]) ∧ Below w.heap.size w w' ∧ At w' (gCmp k a op n) A3 c3 A4 c4 A5 c5 :=
  (chalklinelaw08_cmp.calls k a op n 9 op 0 [⟨k, a, 0⟩, ⟨1, ⟨#[]⟩, n⟩] [] [] w rfl).mono fun e w' ⟨v3, v4, v5, he, h3, h4, h5, hb⟩ => by
    obtain ⟨A3, c3, rfl, l3, g3⟩ := rowC h3
    obtain ⟨A4, c4, rfl, l4, g4⟩ := rowC h4
    obtain ⟨A5, c5, rfl, l5, g5⟩ := rowC h5
    exact ⟨A3, c3, A4, c4, A5, c5, he, hb, l3, g3, l4, g4, l5, g5⟩
def sT : ByteArray := ⟨#[116]⟩
def gEnv : List S42 := [⟨sL, 1⟩, ⟨sS, 2⟩]
def gAll : S26 := ⟨14, e0, 0, [], [⟨sS, 2⟩], [gAt sL sS]⟩
def gRule : S54 := ⟨sR, true, 0, [⟨sL, 1⟩], gAll⟩
theorem g_term : typT gEnv ⟨3, sS, 0⟩ = (6, 0) := by decide +kernel
theorem g_ls : typ gEnv (gAt sL sS) = 0 := by decide +kernel
theorem g_sl : typ gEnv (gAt sS sL) = 80 := by decide +kernel
theorem g_lt : typ gEnv (gAt sL sT) = 81 := by decide +kernel
theorem g_day : typ gEnv (gCmp 3 sS ⟨#[61]⟩ 1) = 80 := by decide +kernel
theorem g_hour : typ gEnv (gCmp 4 sS ⟨#[60]⟩ 3) = 0 := by decide +kernel
theorem g_all : typ gEnv gAll = 82 := by decide +kernel
theorem g_one : typ [⟨sL, 1⟩] gAll = 0 := by decide +kernel
theorem g_rule : rule gRule = 0 := by decide +kernel
theorem g_rules : rules [gRule, gRule] = (1, 82) := by decide +kernel
theorem g_zero : rule z54 = 1 := by decide +kernel
theorem row_binds2 {w : World} {B : Nat} {t u : S42} (hB : w.heap[B]? = some (.cells #[.string t.f0, .int .i64 t.f1, .string u.f0, .int .i64 u.f1] 42 (0, 0))) : Kd.C k42 w (some ⟨B, 0, none⟩) 2 [t, u] ∧ Kd.C k42 w (some ⟨B, 2, none⟩) 1 [u] ∧ Kd.C k42 w (some ⟨B, 0, none⟩) 1 [t] := by
  have hn := World.news_of_block hB
  refine ⟨⟨rfl, by omega, fun _ => ⟨⟨B, 0, none⟩, rfl, fun j p hj => ?_⟩⟩, ⟨rfl, by omega, fun _ => ⟨⟨B, 2, none⟩, rfl, fun j p hj => ?_⟩⟩, ⟨rfl, by omega, fun _ => ⟨⟨B, 0, none⟩, rfl, fun j p hj => ?_⟩⟩⟩
  · match j, hj with
    | 0, hj =>
      obtain rfl : t = p := by simpa using hj
      refine ⟨_, rfl, k42_mk w t, fun i v hv => ?_⟩
      rw [Nat.zero_mul, Nat.zero_add]
      refine hn i v ?_
      match i, hv with
      | 0, hv => exact hv
      | 1, hv => exact hv
      | i + 2, hv => simp at hv
    | 1, hj =>
      obtain rfl : u = p := by simpa using hj
      refine ⟨_, rfl, k42_mk w u, fun i v hv => ?_⟩
      refine hn (1 * 2 + i) v ?_
      match i, hv with
      | 0, hv => exact hv
      | 1, hv => exact hv
      | i + 2, hv => simp at hv
    | j + 2, hj => simp at hj
  · match j, hj with
    | 0, hj =>
      obtain rfl : u = p := by simpa using hj
      refine ⟨_, rfl, k42_mk w u, fun i v hv => ?_⟩
      rw [Nat.zero_mul, Nat.zero_add]
      have : w.cell? ((⟨B, 0, none⟩ : Addr).add (2 + i)) = some v := by
        refine hn (2 + i) v ?_
        match i, hv with
        | 0, hv => exact hv
        | 1, hv => exact hv
        | i + 2, hv => simp at hv
      cases i <;> simpa [Addr.add] using this
    | j + 1, hj => simp at hj
  · match j, hj with
    | 0, hj =>
      obtain rfl : t = p := by simpa using hj
      refine ⟨_, rfl, k42_mk w t, fun i v hv => ?_⟩
      rw [Nat.zero_mul, Nat.zero_add]
      refine hn i v ?_
      match i, hv with
      | 0, hv => exact hv
      | 1, hv => exact hv
      | i + 2, hv => simp at hv
    | j + 1, hj => simp at hj
theorem all_box {wx : World} {B G E : Nat} {A3 : Option Addr} {c3 : Nat} {A4 : Option Addr} {c4 : Nat} {A5 : Option Addr} {c5 : Nat} (hB : wx.heap[B]? = some (.cells #[.int .i64 14, .string ⟨#[]⟩, .int .i64 0, .slice none 0 0, .slice (some ⟨E, 2, none⟩) 1 1, .slice (some ⟨G, 0, none⟩) 1 1] 26 (0, 0)))
    (hG : wx.heap[G]? = some (.cells #[.int .i64 3, .string ⟨#[]⟩, .int .i64 0, .slice A3 2 c3, .slice A4 0 c4, .slice A5 0 c5] 26 (0, 0))) (hE : wx.heap[E]? = some (.cells #[.string ⟨#[108]⟩, .int .i64 1, .string ⟨#[115]⟩, .int .i64 2] 42 (0, 0))) (hat : At wx (gAt sL sS) A3 c3 A4 c4 A5 c5) :
    BoxF wx B gAll none 0 (some ⟨E, 2, none⟩) 1 (some ⟨G, 0, none⟩) 1 :=
  ⟨hB, ⟨Nat.le_refl _, Kd.C_nil _ _, Nat.le_refl _, (row_binds2 (t := ⟨sL, 1⟩) (u := ⟨sS, 2⟩) hE).2.1, Nat.le_refl _, row_one (y := gAt sL sS) hG hat⟩⟩
theorem zero_box {X w1 : World} (g : Below (X.alloc (.cells #[.int .i64 0, .string ⟨#[]⟩, .int .i64 0, .slice none 0 0, .slice none 0 0, .slice none 0 0] 26)).drew.heap.size (X.alloc (.cells #[.int .i64 0, .string ⟨#[]⟩, .int .i64 0, .slice none 0 0, .slice none 0 0, .slice none 0 0] 26)).drew w1) :
    w1.heap[X.heap.size]? = some (.cells #[.int .i64 0, .string ⟨#[]⟩, .int .i64 0, .slice none 0 0, .slice none 0 0, .slice none 0 0] 26 (0, 0)) := blk_below g (heap_new X (.cells #[.int .i64 0, .string ⟨#[]⟩, .int .i64 0, .slice none 0 0, .slice none 0 0, .slice none 0 0] 26))
theorem zero_cells {W : World} {B : Nat} (h : W.heap[B]? = some (.cells #[.int .i64 0, .string ⟨#[]⟩, .int .i64 0, .slice none 0 0, .slice none 0 0, .slice none 0 0] 26 (0, 0))) :
    W.cell? ⟨B, 0, none⟩ = some (.int .i64 0) ∧ W.cell? ⟨B, 1, none⟩ = some (.string ⟨#[]⟩) ∧ W.cell? ⟨B, 2, none⟩ = some (.int .i64 0) ∧ W.cell? ⟨B, 3, none⟩ = some (.slice none 0 0) ∧ W.cell? ⟨B, 4, none⟩ = some (.slice none 0 0) ∧ W.cell? ⟨B, 5, none⟩ = some (.slice none 0 0) ∧
      W.frozen? ⟨B, 0, none⟩ = false ∧ W.frozen? ⟨B, 1, none⟩ = false ∧ W.frozen? ⟨B, 2, none⟩ = false ∧ W.frozen? ⟨B, 3, none⟩ = false ∧ W.frozen? ⟨B, 4, none⟩ = false ∧ W.frozen? ⟨B, 5, none⟩ = false :=
  ⟨(blk_cell h 0).trans rfl, (blk_cell h 1).trans rfl, (blk_cell h 2).trans rfl, (blk_cell h 3).trans rfl, (blk_cell h 4).trans rfl, (blk_cell h 5).trans rfl, blk_frozen h 0, blk_frozen h 1, blk_frozen h 2, blk_frozen h 3, blk_frozen h 4, blk_frozen h 5⟩
theorem gAt_deep {a b : ByteArray} (ha : a.size ≤ 9223372036854775807) (hb : b.size ≤ 9223372036854775807) : Deep (gAt a b) :=
  deep_of ⟨rfl, (by decide : e0.size ≤ 9223372036854775807), by simp [gAt]; exact ⟨ha, hb⟩, by simp [gAt], rfl, by simp [gAt]; exact ⟨rfl, rfl⟩, by simp [gAt]⟩ (fun y hy => by simp [gAt] at hy)
theorem gCmp_deep {k n : Int} {a op : ByteArray} (hk : I64 k) (hn : I64 n) (ha : a.size ≤ 9223372036854775807) (hop : op.size ≤ 9223372036854775807) : Deep (gCmp k a op n) :=
  deep_of ⟨rfl, hop, by simp [gCmp]; exact ⟨ha, by decide⟩, by simp [gCmp], rfl, by simp [gCmp]; exact ⟨⟨hk, rfl⟩, rfl, hn⟩, by simp [gCmp]⟩ (fun y hy => by simp [gCmp] at hy)
theorem gAll_deep : Deep gAll :=
  deep_of (own_bare [⟨sS, 2⟩] _ rfl rfl (by simp; decide) (by simp; exact rfl)) (fun y hy => by obtain rfl := List.mem_singleton.1 hy; exact gAt_deep (by decide) (by decide))
theorem gAt_small (a b : ByteArray) : size (gAt a b) = 1 ∧ nb (gAt a b) = 0 := by simp [gAt, size, sizes, nb, nbs]
theorem gCmp_small (k n : Int) (a op : ByteArray) : size (gCmp k a op n) = 1 ∧ nb (gCmp k a op n) = 0 := by simp [gCmp, size, sizes, nb, nbs]
theorem gAll_small : size gAll = 2 ∧ nb gAll = 1 := by decide +kernel
theorem gRule_ok : ROk gRule := ⟨by decide, rfl, by simp [gRule]; exact ⟨by decide, rfl⟩, gAll_deep, by show size gAll ≤ _; rw [gAll_small.1]; decide, by show 1 + nb gAll ≤ _; rw [gAll_small.2]; decide⟩
theorem z26_deep : Deep z26 := bare_deep (k := 0) rfl
theorem zRule_ok : ROk z54 := ⟨by decide, rfl, by simp [z54], z26_deep, by decide +kernel, by decide +kernel⟩
structure SL (w wx : World) (B : Nat) (a : Addr) : Prop where
  b : Below w.heap.size w wx
  env : wx.heap[w.heap.size]? = some (.cells #[.string ⟨#[108]⟩, .int .i64 1, .string ⟨#[115]⟩, .int .i64 2] 42 (0, 0))
  all : BoxF wx B gAll none 0 (some ⟨w.heap.size, 2, none⟩) 1 (some a) 1
section
variable {w wx : World} {B : Nat} {a : Addr}
theorem SL.below (h : SL w wx B a) {w1 : World} (g : Below wx.heap.size wx w1) : SL w w1 B a := ⟨h.b.trans (g.mono h.b.size), blk_below g h.env, h.all.below g⟩
theorem SL.drew (h : SL w wx B a) : SL w wx.drew B a := h.below (below_drew (Below.refl _ _))
theorem SL.envA (h : SL w wx B a) : EnvA wx gEnv (some ⟨w.heap.size, 0, none⟩) 2 := ⟨(row_binds2 (t := ⟨sL, 1⟩) (u := ⟨sS, 2⟩) h.env).1, by decide, by simp [gEnv]; exact ⟨⟨by decide, rfl⟩, by decide, rfl⟩⟩
theorem SL.env1 (h : SL w wx B a) : EnvA wx [⟨sL, 1⟩] (some ⟨w.heap.size, 0, none⟩) 2 := ⟨(row_binds2 (t := ⟨sL, 1⟩) (u := ⟨sS, 2⟩) h.env).2.2, by decide, by simp; exact ⟨by decide, rfl⟩⟩
theorem SL.six (h : SL w wx B a) : wx.cell? ⟨B, 0, none⟩ = some (.int .i64 14) ∧ wx.cell? ⟨B, 1, none⟩ = some (.string ⟨#[]⟩) ∧ wx.cell? ⟨B, 2, none⟩ = some (.int .i64 0) ∧ wx.cell? ⟨B, 3, none⟩ = some (.slice none 0 0) ∧ wx.cell? ⟨B, 4, none⟩ = some (.slice (some ⟨w.heap.size, 2, none⟩) 1 1) ∧ wx.cell? ⟨B, 5, none⟩ = some (.slice (some a) 1 1) := h.all.six
theorem SL.term (h : SL w wx B a) (ht : Tabs wx) (hk : Kinds wx) : Calls Tryd.prog 41 #[.slice (some ⟨w.heap.size, 0, none⟩) 2 2, .agg #[.int .i64 3, .string ⟨#[115]⟩, .int .i64 0]] wx fun e w' => e = .returned (.tuple #[.int .i64 6, .int .i64 0]) ∧ Below wx.heap.size wx w' := by
  have hh := typT_calls gEnv (some ⟨w.heap.size, 0, none⟩) 2 ⟨3, sS, 0⟩ wx h.envA ⟨by decide, rfl, rfl⟩ ht hk
  rw [g_term] at hh
  exact hh
theorem SL.atF (h : SL w wx B a) (ht : Tabs wx) (hk : Kinds wx) (x y : ByteArray) (hx : x.size ≤ 9223372036854775807) (hy : y.size ≤ 9223372036854775807) (r : Int) (hr : typ gEnv (gAt x y) = r) {A3 : Option Addr} {c3 : Nat} {A4 : Option Addr} {c4 : Nat} {A5 : Option Addr} {c5 : Nat} (hat : At wx (gAt x y) A3 c3 A4 c4 A5 c5) :
    Calls Tryd.prog 38 #[.slice (some ⟨w.heap.size, 0, none⟩) 2 2, .agg #[.int .i64 3, .string ⟨#[]⟩, .int .i64 0, .slice A3 2 c3, .slice A4 0 c4, .slice A5 0 c5]] wx fun e w' => e = .returned (.int .i64 r) ∧ Below wx.heap.size wx w' := by
  have hh := typ_calls gEnv (some ⟨w.heap.size, 0, none⟩) 2 (gAt x y) A3 c3 A4 c4 A5 c5 wx h.envA hat (by rw [(gAt_small x y).1]; decide) (gAt_deep hx hy) ht hk (by rw [(gAt_small x y).2]; decide)
  rw [hr] at hh
  exact hh
theorem SL.cmpF (h : SL w wx B a) (ht : Tabs wx) (hk : Kinds wx) (k n : Int) (x op : ByteArray) (hkk : I64 k) (hn : I64 n) (hx : x.size ≤ 9223372036854775807) (hop : op.size ≤ 9223372036854775807) (r : Int) (hr : typ gEnv (gCmp k x op n) = r) {A3 : Option Addr} {c3 : Nat} {A4 : Option Addr} {c4 : Nat} {A5 : Option Addr} {c5 : Nat} (hat : At wx (gCmp k x op n) A3 c3 A4 c4 A5 c5) :
    Calls Tryd.prog 38 #[.slice (some ⟨w.heap.size, 0, none⟩) 2 2, .agg #[.int .i64 9, .string op, .int .i64 0, .slice A3 2 c3, .slice A4 0 c4, .slice A5 0 c5]] wx fun e w' => e = .returned (.int .i64 r) ∧ Below wx.heap.size wx w' := by
  have hh := typ_calls gEnv (some ⟨w.heap.size, 0, none⟩) 2 (gCmp k x op n) A3 c3 A4 c4 A5 c5 wx h.envA hat (by rw [(gCmp_small k n x op).1]; decide) (gCmp_deep hkk hn hx hop) ht hk (by rw [(gCmp_small k n x op).2]; decide)
  rw [hr] at hh
  exact hh
theorem SL.allF (h : SL w wx B a) (ht : Tabs wx) (hk : Kinds wx) : Calls Tryd.prog 38 #[.slice (some ⟨w.heap.size, 0, none⟩) 2 2, .agg #[.int .i64 14, .string ⟨#[]⟩, .int .i64 0, .slice none 0 0, .slice (some ⟨w.heap.size, 2, none⟩) 1 1, .slice (some a) 1 1]] wx fun e w' => e = .returned (.int .i64 82) ∧ Below wx.heap.size wx w' := by
  have hh := typ_calls gEnv (some ⟨w.heap.size, 0, none⟩) 2 gAll none 0 (some ⟨w.heap.size, 2, none⟩) 1 (some a) 1 wx h.envA h.all.at_ (by rw [gAll_small.1]; decide) gAll_deep ht hk (by rw [gAll_small.2]; decide)
  rw [g_all] at hh
  exact hh
theorem SL.oneF (h : SL w wx B a) (ht : Tabs wx) (hk : Kinds wx) : Calls Tryd.prog 38 #[.slice (some ⟨w.heap.size, 0, none⟩) 1 2, .agg #[.int .i64 14, .string ⟨#[]⟩, .int .i64 0, .slice none 0 0, .slice (some ⟨w.heap.size, 2, none⟩) 1 1, .slice (some a) 1 1]] wx fun e w' => e = .returned (.int .i64 0) ∧ Below wx.heap.size wx w' := by
  have hh := typ_calls [⟨sL, 1⟩] (some ⟨w.heap.size, 0, none⟩) 2 gAll none 0 (some ⟨w.heap.size, 2, none⟩) 1 (some a) 1 wx h.env1 h.all.at_ (by rw [gAll_small.1]; decide) gAll_deep ht hk (by rw [gAll_small.2]; decide)
  rw [g_one] at hh
  exact hh
theorem SL.atR (h : SL w wx B a) : AtR wx gRule (some ⟨w.heap.size, 0, none⟩) 2 none 0 (some ⟨w.heap.size, 2, none⟩) 1 (some a) 1 := ⟨by decide, h.env1.row, h.all.at_⟩
theorem SL.ruleF (h : SL w wx B a) (ht : Tabs wx) (hk : Kinds wx) : Calls Tryd.prog 46 #[.agg #[.string ⟨#[114]⟩, .bool true, .int .i64 0, .slice (some ⟨w.heap.size, 0, none⟩) 1 2, .int .i64 14, .string ⟨#[]⟩, .int .i64 0, .slice none 0 0, .slice (some ⟨w.heap.size, 2, none⟩) 1 1, .slice (some a) 1 1]] wx fun e w' => e = .returned (.int .i64 0) ∧ Below wx.heap.size wx w' := by
  have hh := rule_calls gRule (some ⟨w.heap.size, 0, none⟩) 2 none 0 (some ⟨w.heap.size, 2, none⟩) 1 (some a) 1 wx h.atR gRule_ok ht hk
  rw [g_rule] at hh
  exact hh
theorem zero_rule (ht : Tabs wx) (hk : Kinds wx) : Calls Tryd.prog 46 #[.agg #[.string ⟨#[]⟩, .bool false, .int .i64 0, .slice none 0 0, .int .i64 0, .string ⟨#[]⟩, .int .i64 0, .slice none 0 0, .slice none 0 0, .slice none 0 0]] wx fun e w' => e = .returned (.int .i64 1) ∧ Below wx.heap.size wx w' := by
  have hh := rule_calls z54 none 0 none 0 none 0 none 0 wx ⟨Nat.le_refl _, Kd.C_nil _ _, bare_at wx 0⟩ zRule_ok ht hk
  rw [g_zero] at hh
  exact hh
theorem row_rules2 {w : World} {G : Nat} {t u : S54} {A3 : Option Addr} {c3 : Nat} {A7 : Option Addr} {c7 : Nat} {A8 : Option Addr} {c8 : Nat} {A9 : Option Addr} {c9 : Nat} {B3 : Option Addr} {d3 : Nat} {B7 : Option Addr} {d7 : Nat} {B8 : Option Addr} {d8 : Nat} {B9 : Option Addr} {d9 : Nat} (h1 : AtR w t A3 c3 A7 c7 A8 c8 A9 c9) (h2 : AtR w u B3 d3 B7 d7 B8 d8 B9 d9)
    (hB : w.heap[G]? = some (.cells #[.string t.f0, .bool t.f1, .int .i64 t.f2, .slice A3 t.f3.length c3, .int .i64 t.f4.f0, .string t.f4.f1, .int .i64 t.f4.f2, .slice A7 t.f4.f3.length c7, .slice A8 t.f4.f4.length c8, .slice A9 t.f4.f5.length c9, .string u.f0, .bool u.f1, .int .i64 u.f2, .slice B3 u.f3.length d3, .int .i64 u.f4.f0, .string u.f4.f1, .int .i64 u.f4.f2, .slice B7 u.f4.f3.length d7, .slice B8 u.f4.f4.length d8, .slice B9 u.f4.f5.length d9] 54 (0, 0))) : Kd.C k54 w (some ⟨G, 0, none⟩) 2 [t, u] := by
  have hn := World.news_of_block hB
  refine ⟨rfl, by omega, fun _ => ⟨⟨G, 0, none⟩, rfl, fun j p hj => ?_⟩⟩
  match j, hj with
  | 0, hj =>
    obtain rfl : t = p := by simpa using hj
    refine ⟨_, rfl, k54_mk w t h1.le h1.row h1.body.l3 h1.body.g3 h1.body.l4 h1.body.g4 h1.body.l5 h1.body.g5, fun i v hv => ?_⟩
    rw [Nat.zero_mul, Nat.zero_add]
    refine hn i v ?_
    match i, hv with
    | 0, hv => exact hv
    | 1, hv => exact hv
    | 2, hv => exact hv
    | 3, hv => exact hv
    | 4, hv => exact hv
    | 5, hv => exact hv
    | 6, hv => exact hv
    | 7, hv => exact hv
    | 8, hv => exact hv
    | 9, hv => exact hv
    | i + 10, hv => simp at hv
  | 1, hj =>
    obtain rfl : u = p := by simpa using hj
    refine ⟨_, rfl, k54_mk w u h2.le h2.row h2.body.l3 h2.body.g3 h2.body.l4 h2.body.g4 h2.body.l5 h2.body.g5, fun i v hv => ?_⟩
    refine hn (1 * 10 + i) v ?_
    match i, hv with
    | 0, hv => exact hv
    | 1, hv => exact hv
    | 2, hv => exact hv
    | 3, hv => exact hv
    | 4, hv => exact hv
    | 5, hv => exact hv
    | 6, hv => exact hv
    | 7, hv => exact hv
    | 8, hv => exact hv
    | 9, hv => exact hv
    | i + 10, hv => simp at hv
  | j + 2, hj => simp at hj
theorem SL.rulesF (h : SL w wx B a) (ht : Tabs wx) (hk : Kinds wx) {G : Nat} (hG : wx.heap[G]? = some (.cells #[.string ⟨#[114]⟩, .bool true, .int .i64 0, .slice (some ⟨w.heap.size, 0, none⟩) 1 2, .int .i64 14, .string ⟨#[]⟩, .int .i64 0, .slice none 0 0, .slice (some ⟨w.heap.size, 2, none⟩) 1 1, .slice (some a) 1 1, .string ⟨#[114]⟩, .bool true, .int .i64 0, .slice (some ⟨w.heap.size, 0, none⟩) 1 2, .int .i64 14, .string ⟨#[]⟩, .int .i64 0, .slice none 0 0, .slice (some ⟨w.heap.size, 2, none⟩) 1 1, .slice (some a) 1 1] 54 (0, 0))) :
    Calls Tryd.prog 44 #[.slice (some ⟨G, 0, none⟩) 2 2] wx fun e w' => e = .returned (.tuple #[.int .i64 1, .int .i64 82]) ∧ Below wx.heap.size wx w' := by
  have hh := rules_calls [gRule, gRule] (some ⟨G, 0, none⟩) 2 wx (row_rules2 (t := gRule) (u := gRule) h.atR h.atR hG) (by decide) (by simp; exact gRule_ok) ht hk
  rw [g_rules] at hh
  exact hh
end
end Go.Proofs.YtmlcaecknocpoaaDoor.It
namespace Go.Proofs.YtmlcaecknocpoaaDoor.It
set_option linter.unusedVariables false
set_option linter.unusedSimpArgs false
open Go Go.RowKit Go.Shelf Go.Proofs.YtmlcaecknocpoaaDoorW.PrintWords Go.Proofs.YtmlcaecknocpoaaDoorW.PrintLast Go.Proofs.YtmlcaecknocpoaaDoor.Pr Go.Proofs.YtmlcaecknocpoaaDoor.Sp
attribute [local go_sem ↓] Go.wp_at_zero Go.wp_at_succ
set_option maxRecDepth 100000 in
set_option maxHeartbeats 8000000 in
theorem live8_calls (w : World) (ht : Tabs w) (hk : Kinds w) : Calls Tryd.prog 36 #[] w fun e w' => e = .returned (.bool true) ∧ Below w.heap.size w w' := by
  have hu26 := Tryd.underlying26
  have hu42 := Tryd.underlying42
  have hu47 := Tryd.underlying47
  have hu54 := Tryd.underlying54
  have hu23 := Tryd.underlying23
  have HT := Aside0.mk (And.intro ht hk)
  clear ht hk
  have HE := Aside0.mk (And.intro (heap_new w (.cells #[.string ⟨#[108]⟩, .int .i64 1, .string ⟨#[115]⟩, .int .i64 2] 42)) (up1 w (.cells #[.string ⟨#[108]⟩, .int .i64 1, .string ⟨#[115]⟩, .int .i64 2] 42)))
  go_enter Tryd.func36, Tryd.ntmps36
  go_upto_region 2 with fail
  go_cut [2] (fun s2 wx => ∃ B a, s2 = .pointer (some ⟨B, 0, none⟩) ∧ Aside0 (Below (w.alloc (.cells #[.string ⟨#[108]⟩, .int .i64 1, .string ⟨#[115]⟩, .int .i64 2] 42)).heap.size (w.alloc (.cells #[.string ⟨#[108]⟩, .int .i64 1, .string ⟨#[115]⟩, .int .i64 2] 42)) wx ∧ BoxF wx B gAll none 0 (some ⟨w.heap.size, 2, none⟩) 1 (some a) 1))
  case first =>
    go_region_with (go_at_call 62; (with_reducible refine (gAtR_calls _ _ _).mono ?_); rintro e w1 ⟨A3, c3, A4, c4, A5, c5, rfl, g, hx⟩; replace hx := Aside0.mk hx; (try (have hz := zero_box g; rw [show (w.alloc (.cells #[.string ⟨#[108]⟩, .int .i64 1, .string ⟨#[115]⟩, .int .i64 2] 42)).heap.size = w.heap.size + 1 by simp] at hz; have hz2 := Aside0.mk hz; obtain ⟨z0, z1, z2, z3, z4, z5, f0, f1, f2, f3, f4, f5⟩ := zero_cells (blk_below (up1 w1 (.cells #[.int .i64 3, .string ⟨#[]⟩, .int .i64 0, .slice A3 2 c3, .slice A4 0 c4, .slice A5 0 c5] 26)) hz); clear hz)); replace g := Aside0.mk g)
    · go_wp2_with fail
      go_meet
      have g0 : Below (w.alloc (.cells #[.string ⟨#[108]⟩, .int .i64 1, .string ⟨#[115]⟩, .int .i64 2] 42)).heap.size (w.alloc (.cells #[.string ⟨#[108]⟩, .int .i64 1, .string ⟨#[115]⟩, .int .i64 2] 42)) w1 := (below_drew (Below.refl _ _)).trans g.out
      have g1 := up2 w1 (.cells #[.int .i64 3, .string ⟨#[]⟩, .int .i64 0, .slice A3 2 c3, .slice A4 0 c4, .slice A5 0 c5] 26) (.cells #[.int .i64 14, .string ⟨#[]⟩, .int .i64 0, .slice none 0 0, .slice (some ⟨w.heap.size, 2, none⟩) 1 1, .slice (some ⟨w1.heap.size, 0, none⟩) 1 1] 26)
      have g2 := g0.trans (g1.mono g0.size)
      exact ⟨w1.heap.size + 1, ⟨w1.heap.size, 0, none⟩, rfl, ⟨g2, all_box (heap_new2b w1 _ _) (heap_new2a w1 _ _) (blk_below g2 HE.out.1) ((gAt_of A4 c4 A5 c5 hx.out).below g1)⟩⟩
    · go_wp2_with fail
      go_meet
      have g0 : Below (w.alloc (.cells #[.string ⟨#[108]⟩, .int .i64 1, .string ⟨#[115]⟩, .int .i64 2] 42)).heap.size (w.alloc (.cells #[.string ⟨#[108]⟩, .int .i64 1, .string ⟨#[115]⟩, .int .i64 2] 42)) w1 := (below_drew (Below.refl _ _)).trans g.out
      have g1 := up2 w1 (.cells #[.int .i64 14, .string ⟨#[]⟩, .int .i64 0, .slice none 0 0, .slice (some ⟨w.heap.size, 2, none⟩) 1 1, .slice (some ⟨w1.heap.size + 1, 0, none⟩) 1 1] 26) (.cells #[.int .i64 3, .string ⟨#[]⟩, .int .i64 0, .slice A3 2 c3, .slice A4 0 c4, .slice A5 0 c5] 26)
      have g2 := g0.trans (g1.mono g0.size)
      exact ⟨w1.heap.size, ⟨w1.heap.size + 1, 0, none⟩, rfl, ⟨g2, all_box (heap_new2a w1 _ _) (heap_new2b w1 _ _) (blk_below g2 HE.out.1) ((gAt_of A4 c4 A5 c5 hx.out).below g1)⟩⟩
    · go_wp2_with fail
      go_meet
      have g0 : Below ((w.alloc (.cells #[.string ⟨#[108]⟩, .int .i64 1, .string ⟨#[115]⟩, .int .i64 2] 42)).alloc (.cells #[.int .i64 0, .string ⟨#[]⟩, .int .i64 0, .slice none 0 0, .slice none 0 0, .slice none 0 0] 26)).heap.size ((w.alloc (.cells #[.string ⟨#[108]⟩, .int .i64 1, .string ⟨#[115]⟩, .int .i64 2] 42)).alloc (.cells #[.int .i64 0, .string ⟨#[]⟩, .int .i64 0, .slice none 0 0, .slice none 0 0, .slice none 0 0] 26)) w1 := (below_drew (Below.refl _ _)).trans g.out
      have hs1 := (Array.getElem?_eq_some_iff.1 hz2.out).1
      have k0 := (blk_below (up1 w1 (.cells #[.int .i64 3, .string ⟨#[]⟩, .int .i64 0, .slice A3 2 c3, .slice A4 0 c4, .slice A5 0 c5] 26)) hz2.out)
      have kG := heap_new w1 (.cells #[.int .i64 3, .string ⟨#[]⟩, .int .i64 0, .slice A3 2 c3, .slice A4 0 c4, .slice A5 0 c5] 26)
      have kE := blk_below (up1 w1 (.cells #[.int .i64 3, .string ⟨#[]⟩, .int .i64 0, .slice A3 2 c3, .slice A4 0 c4, .slice A5 0 c5] 26)) (blk_below ((up1 _ _).trans (g0.mono (up1 _ _).size)) HE.out.1)
      have kR := Kd.R_alloc hx.out (.cells #[.int .i64 3, .string ⟨#[]⟩, .int .i64 0, .slice A3 2 c3, .slice A4 0 c4, .slice A5 0 c5] 26)
      have bel := ((up1 (w.alloc (.cells #[.string ⟨#[108]⟩, .int .i64 1, .string ⟨#[115]⟩, .int .i64 2] 42)) (.cells #[.int .i64 0, .string ⟨#[]⟩, .int .i64 0, .slice none 0 0, .slice none 0 0, .slice none 0 0] 26)).trans (g0.mono (up1 _ _).size)).trans ((up1 w1 (.cells #[.int .i64 3, .string ⟨#[]⟩, .int .i64 0, .slice A3 2 c3, .slice A4 0 c4, .slice A5 0 c5] 26)).mono (Nat.le_trans (by simp) ((up1 _ _).trans (g0.mono (up1 _ _).size)).size))
      have hlt : w.heap.size + 1 < w1.heap.size := hs1
      have hE : w.heap.size ≠ w.heap.size + 1 := by omega
      have hsz : (w.alloc (.cells #[.string ⟨#[108]⟩, .int .i64 1, .string ⟨#[115]⟩, .int .i64 2] 42)).heap.size ≤ w.heap.size + 1 := by simp
      refine ⟨w.heap.size + 1, ⟨w1.heap.size, 0, none⟩, rfl, ⟨((((((bel.setCell (p := ⟨w.heap.size + 1, 0, none⟩) hsz _).setCell (p := ⟨w.heap.size + 1, 1, none⟩) hsz _).setCell (p := ⟨w.heap.size + 1, 2, none⟩) hsz _).setCell (p := ⟨w.heap.size + 1, 3, none⟩) hsz _).setCell (p := ⟨w.heap.size + 1, 4, none⟩) hsz _).setCell (p := ⟨w.heap.size + 1, 5, none⟩) hsz _), ?_⟩⟩
      refine all_box (blk_put (blk_put (blk_put (blk_put (blk_put (blk_put k0 0 _ rfl) 1 _ rfl) 2 _ rfl) 3 _ rfl) 4 _ rfl) 5 _ rfl) ?_ ?_ (gAt_of A4 c4 A5 c5 (R_set (R_set (R_set (R_set (R_set (R_set kR (by simp) 0 _) (by simp) 1 _) (by simp) 2 _) (by simp) 3 _) (by simp) 4 _) (by simp) 5 _))
      · exact (Below.heap_setCell _ _ _ _ (by simp; omega)).trans ((Below.heap_setCell _ _ _ _ (by simp; omega)).trans ((Below.heap_setCell _ _ _ _ (by simp; omega)).trans ((Below.heap_setCell _ _ _ _ (by simp; omega)).trans ((Below.heap_setCell _ _ _ _ (by simp; omega)).trans ((Below.heap_setCell _ _ _ _ (by simp; omega)).trans kG)))))
      · exact (Below.heap_setCell _ _ _ _ (by simp)).trans ((Below.heap_setCell _ _ _ _ (by simp)).trans ((Below.heap_setCell _ _ _ _ (by simp)).trans ((Below.heap_setCell _ _ _ _ (by simp)).trans ((Below.heap_setCell _ _ _ _ (by simp)).trans ((Below.heap_setCell _ _ _ _ (by simp)).trans kE)))))
  case rest =>
    obtain ⟨B2, a2, rfl, h2⟩ := hcut
    have T := Aside0.mk (SL.mk (HE.out.2.trans (h2.out.1.mono HE.out.2.size)) (blk_below h2.out.1 HE.out.1) h2.out.2)
    have F0 := Aside0.mk (fun W (h : SL w W B2 a2) => h.term (HT.out.1.below h.b) (HT.out.2.below h.b))
    have F1 := Aside0.mk (fun W (h : SL w W B2 a2) A3 c3 A4 c4 A5 c5 (hat : At W (gAt sL sS) A3 c3 A4 c4 A5 c5) => h.atF (HT.out.1.below h.b) (HT.out.2.below h.b) sL sS (by decide) (by decide) 0 g_ls hat)
    have F2 := Aside0.mk (fun W (h : SL w W B2 a2) A3 c3 A4 c4 A5 c5 (hat : At W (gAt sS sL) A3 c3 A4 c4 A5 c5) => h.atF (HT.out.1.below h.b) (HT.out.2.below h.b) sS sL (by decide) (by decide) 80 g_sl hat)
    have F3 := Aside0.mk (fun W (h : SL w W B2 a2) A3 c3 A4 c4 A5 c5 (hat : At W (gAt sL sT) A3 c3 A4 c4 A5 c5) => h.atF (HT.out.1.below h.b) (HT.out.2.below h.b) sL sT (by decide) (by decide) 81 g_lt hat)
    have F4 := Aside0.mk (fun W (h : SL w W B2 a2) A3 c3 A4 c4 A5 c5 (hat : At W (gCmp 3 sS ⟨#[61]⟩ 1) A3 c3 A4 c4 A5 c5) => h.cmpF (HT.out.1.below h.b) (HT.out.2.below h.b) 3 1 sS ⟨#[61]⟩ rfl rfl (by decide) (by decide) 80 g_day hat)
    have F5 := Aside0.mk (fun W (h : SL w W B2 a2) A3 c3 A4 c4 A5 c5 (hat : At W (gCmp 4 sS ⟨#[60]⟩ 3) A3 c3 A4 c4 A5 c5) => h.cmpF (HT.out.1.below h.b) (HT.out.2.below h.b) 4 3 sS ⟨#[60]⟩ rfl rfl (by decide) (by decide) 0 g_hour hat)
    have F6 := Aside0.mk (fun W (h : SL w W B2 a2) => h.allF (HT.out.1.below h.b) (HT.out.2.below h.b))
    have F7 := Aside0.mk (fun W (h : SL w W B2 a2) => h.oneF (HT.out.1.below h.b) (HT.out.2.below h.b))
    have F8 := Aside0.mk (fun W (h : SL w W B2 a2) => h.ruleF (HT.out.1.below h.b) (HT.out.2.below h.b))
    have F9 := Aside0.mk (fun W (h : SL w W B2 a2) G hG => h.rulesF (HT.out.1.below h.b) (HT.out.2.below h.b) (G := G) hG)
    have FZ := Aside0.mk (fun W (h : SL w W B2 a2) => zero_rule (HT.out.1.below h.b) (HT.out.2.below h.b))
    simp only [sL, sS, sT] at F1 F2 F3 F4 F5
    clear h2 HE HT
    go_upto_region 4 with (first
      | (go_at_call 41; (with_reducible refine (F0.out _ T.out).mono ?_); rintro e w1 ⟨rfl, g⟩; replace T := Aside0.mk (T.out.below g); clear g F0; obtain ⟨p0, p1, p2, p3, p4, p5⟩ := T.out.six))
    go_cut [5] (fun s5 wx => ∃ R, s5 = .pointer (some ⟨R, 0, none⟩) ∧ Aside0 (SL w wx B2 a2 ∧ wx.heap[R]? = some (.cells #[.string ⟨#[114]⟩, .bool true, .int .i64 0, .slice (some ⟨w.heap.size, 0, none⟩) 1 2, .int .i64 14, .string ⟨#[]⟩, .int .i64 0, .slice none 0 0, .slice (some ⟨w.heap.size, 2, none⟩) 1 1, .slice (some a2) 1 1] 54 (0, 0))))
    case first =>
      have U := Aside0.mk (T.out.below (up1 w1 (.cells #[.string ⟨#[]⟩, .bool false, .int .i64 0, .slice none 0 0, .int .i64 0, .string ⟨#[]⟩, .int .i64 0, .slice none 0 0, .slice none 0 0, .slice none 0 0] 54)))
      obtain ⟨u0, u1, u2, u3, u4, u5⟩ := U.out.six
      go_region
      go_wp2_with fail
      go_meet
      exact ⟨w1.heap.size, rfl, ⟨(T.out.below (up1 w1 _)).drew, heap_new w1 _⟩⟩
    case rest =>
      obtain ⟨R, rfl, h5⟩ := hcut
      clear T p0 p1 p2 p3 p4 p5
      have T := Aside0.mk h5.out.1
      have RB := Aside0.mk h5.out.2
      clear h5
      have q0 := (blk_cell RB.out 0).trans rfl; have q1 := (blk_cell RB.out 1).trans rfl; have q2 := (blk_cell RB.out 2).trans rfl; have q3 := (blk_cell RB.out 3).trans rfl; have q4 := (blk_cell RB.out 4).trans rfl; have q5 := (blk_cell RB.out 5).trans rfl; have q6 := (blk_cell RB.out 6).trans rfl; have q7 := (blk_cell RB.out 7).trans rfl; have q8 := (blk_cell RB.out 8).trans rfl; have q9 := (blk_cell RB.out 9).trans rfl
      have T9 := Aside0.mk (T.out.below (up1 wc (.cells #[.string ⟨#[114]⟩, .bool true, .int .i64 0, .slice (some ⟨w.heap.size, 0, none⟩) 1 2, .int .i64 14, .string ⟨#[]⟩, .int .i64 0, .slice none 0 0, .slice (some ⟨w.heap.size, 2, none⟩) 1 1, .slice (some a2) 1 1, .string ⟨#[114]⟩, .bool true, .int .i64 0, .slice (some ⟨w.heap.size, 0, none⟩) 1 2, .int .i64 14, .string ⟨#[]⟩, .int .i64 0, .slice none 0 0, .slice (some ⟨w.heap.size, 2, none⟩) 1 1, .slice (some a2) 1 1] 54)))
      have HN := Aside0.mk (heap_new wc (.cells #[.string ⟨#[114]⟩, .bool true, .int .i64 0, .slice (some ⟨w.heap.size, 0, none⟩) 1 2, .int .i64 14, .string ⟨#[]⟩, .int .i64 0, .slice none 0 0, .slice (some ⟨w.heap.size, 2, none⟩) 1 1, .slice (some a2) 1 1, .string ⟨#[114]⟩, .bool true, .int .i64 0, .slice (some ⟨w.heap.size, 0, none⟩) 1 2, .int .i64 14, .string ⟨#[]⟩, .int .i64 0, .slice none 0 0, .slice (some ⟨w.heap.size, 2, none⟩) 1 1, .slice (some a2) 1 1] 54))
      have RB9 := Aside0.mk (blk_below (up1 wc (.cells #[.string ⟨#[114]⟩, .bool true, .int .i64 0, .slice (some ⟨w.heap.size, 0, none⟩) 1 2, .int .i64 14, .string ⟨#[]⟩, .int .i64 0, .slice none 0 0, .slice (some ⟨w.heap.size, 2, none⟩) 1 1, .slice (some a2) 1 1, .string ⟨#[114]⟩, .bool true, .int .i64 0, .slice (some ⟨w.heap.size, 0, none⟩) 1 2, .int .i64 14, .string ⟨#[]⟩, .int .i64 0, .slice none 0 0, .slice (some ⟨w.heap.size, 2, none⟩) 1 1, .slice (some a2) 1 1] 54)) RB.out)
      go_upto_region 6 with (first
        | (go_at_call 44; (with_reducible refine (F9.out _ T9.out _ HN.out).mono ?_); rintro e w2 ⟨rfl, g⟩; replace T := Aside0.mk (T9.out.below g); replace RB := Aside0.mk (blk_below g RB9.out); clear g F9 T9 HN RB9 q0 q1 q2 q3 q4 q5 q6 q7 q8 q9; obtain ⟨p0, p1, p2, p3, p4, p5⟩ := T.out.six))
      go_cut [8] (fun s8 wx => s8 = .bool true ∧ Aside0 (SL w wx B2 a2 ∧ wx.heap[R]? = some (.cells #[.string ⟨#[114]⟩, .bool true, .int .i64 0, .slice (some ⟨w.heap.size, 0, none⟩) 1 2, .int .i64 14, .string ⟨#[]⟩, .int .i64 0, .slice none 0 0, .slice (some ⟨w.heap.size, 2, none⟩) 1 1, .slice (some a2) 1 1] 54 (0, 0))))
      case first =>
        go_region_held3 (fun w' => w'.cell? ⟨B2, 0, none⟩ = some (.int .i64 14) ∧ w'.cell? ⟨B2, 1, none⟩ = some (.string ⟨#[]⟩) ∧ w'.cell? ⟨B2, 2, none⟩ = some (.int .i64 0) ∧ w'.cell? ⟨B2, 3, none⟩ = some (.slice none 0 0) ∧ w'.cell? ⟨B2, 4, none⟩ = some (.slice (some ⟨w.heap.size, 2, none⟩) 1 1) ∧ w'.cell? ⟨B2, 5, none⟩ = some (.slice (some a2) 1 1)) (go_keep)
          (first
            | (go_at_call 62; (with_reducible refine (gAt_calls _ _ _).mono ?_); rintro e wn ⟨A3, c3, A4, c4, A5, c5, rfl, g, hx⟩; have HF := Aside0.mk hx; replace T := Aside0.mk (T.out.below g); replace RB := Aside0.mk (blk_below g RB.out); clear p0 p1 p2 p3 p4 p5 g hx; obtain ⟨p0, p1, p2, p3, p4, p5⟩ := T.out.six)
            | (go_at_call 63; (with_reducible refine (gCmp_calls _ _ _ _ _).mono ?_); rintro e wn ⟨A3, c3, A4, c4, A5, c5, rfl, g, hx⟩; have HF := Aside0.mk hx; replace T := Aside0.mk (T.out.below g); replace RB := Aside0.mk (blk_below g RB.out); clear p0 p1 p2 p3 p4 p5 g hx; obtain ⟨p0, p1, p2, p3, p4, p5⟩ := T.out.six)
            | (go_at_call 62; (with_reducible refine (gAt_calls _ _ _).mono ?_); rintro e wn ⟨A3, c3, A4, c4, A5, c5, rfl, g, hx⟩; have HF := Aside0.mk hx; replace T := Aside0.mk (T.out.drew.below g); replace RB := Aside0.mk (blk_below g RB.out); clear p0 p1 p2 p3 p4 p5 g hx; obtain ⟨p0, p1, p2, p3, p4, p5⟩ := T.out.six)
            | (go_at_call 63; (with_reducible refine (gCmp_calls _ _ _ _ _).mono ?_); rintro e wn ⟨A3, c3, A4, c4, A5, c5, rfl, g, hx⟩; have HF := Aside0.mk hx; replace T := Aside0.mk (T.out.drew.below g); replace RB := Aside0.mk (blk_below g RB.out); clear p0 p1 p2 p3 p4 p5 g hx; obtain ⟨p0, p1, p2, p3, p4, p5⟩ := T.out.six)
            | (go_at_call 38; (with_reducible refine (F1.out _ T.out _ _ _ _ _ _ HF.out).mono ?_); rintro e wn ⟨rfl, g⟩; clear HF; replace T := Aside0.mk (T.out.below g); replace RB := Aside0.mk (blk_below g RB.out); clear p0 p1 p2 p3 p4 p5 g; obtain ⟨p0, p1, p2, p3, p4, p5⟩ := T.out.six)
            | (go_at_call 38; (with_reducible refine (F2.out _ T.out _ _ _ _ _ _ HF.out).mono ?_); rintro e wn ⟨rfl, g⟩; clear HF; replace T := Aside0.mk (T.out.below g); replace RB := Aside0.mk (blk_below g RB.out); clear p0 p1 p2 p3 p4 p5 g; obtain ⟨p0, p1, p2, p3, p4, p5⟩ := T.out.six)
            | (go_at_call 38; (with_reducible refine (F3.out _ T.out _ _ _ _ _ _ HF.out).mono ?_); rintro e wn ⟨rfl, g⟩; clear HF; replace T := Aside0.mk (T.out.below g); replace RB := Aside0.mk (blk_below g RB.out); clear p0 p1 p2 p3 p4 p5 g; obtain ⟨p0, p1, p2, p3, p4, p5⟩ := T.out.six)
            | (go_at_call 38; (with_reducible refine (F4.out _ T.out _ _ _ _ _ _ HF.out).mono ?_); rintro e wn ⟨rfl, g⟩; clear HF; replace T := Aside0.mk (T.out.below g); replace RB := Aside0.mk (blk_below g RB.out); clear p0 p1 p2 p3 p4 p5 g; obtain ⟨p0, p1, p2, p3, p4, p5⟩ := T.out.six)
            | (go_at_call 38; (with_reducible refine (F5.out _ T.out _ _ _ _ _ _ HF.out).mono ?_); rintro e wn ⟨rfl, g⟩; clear HF; replace T := Aside0.mk (T.out.below g); replace RB := Aside0.mk (blk_below g RB.out); clear p0 p1 p2 p3 p4 p5 g; obtain ⟨p0, p1, p2, p3, p4, p5⟩ := T.out.six)
            | (go_at_call 38; (with_reducible refine (F6.out _ T.out).mono ?_); rintro e wn ⟨rfl, g⟩; replace T := Aside0.mk (T.out.below g); replace RB := Aside0.mk (blk_below g RB.out); clear p0 p1 p2 p3 p4 p5 g; obtain ⟨p0, p1, p2, p3, p4, p5⟩ := T.out.six)
            | (go_at_call 38; (with_reducible refine (F7.out _ T.out).mono ?_); rintro e wn ⟨rfl, g⟩; replace T := Aside0.mk (T.out.below g); replace RB := Aside0.mk (blk_below g RB.out); clear p0 p1 p2 p3 p4 p5 g; obtain ⟨p0, p1, p2, p3, p4, p5⟩ := T.out.six))
        all_goals
          go_wp2_with fail
          go_meet
          exact ⟨rfl, ⟨T.out, RB.out⟩⟩
      case rest =>
        obtain ⟨rfl, h8⟩ := hcut
        clear T RB p0 p1 p2 p3 p4 p5
        have T := Aside0.mk h8.out.1
        have RB := Aside0.mk h8.out.2
        clear h8
        have q0 := (blk_cell RB.out 0).trans rfl; have q1 := (blk_cell RB.out 1).trans rfl; have q2 := (blk_cell RB.out 2).trans rfl; have q3 := (blk_cell RB.out 3).trans rfl; have q4 := (blk_cell RB.out 4).trans rfl; have q5 := (blk_cell RB.out 5).trans rfl; have q6 := (blk_cell RB.out 6).trans rfl; have q7 := (blk_cell RB.out 7).trans rfl; have q8 := (blk_cell RB.out 8).trans rfl; have q9 := (blk_cell RB.out 9).trans rfl
        go_wp2_with (first
          | (go_at_call 46; (with_reducible refine (F8.out _ T.out).mono ?_); rintro e w3 ⟨rfl, g⟩; replace T := Aside0.mk (T.out.below g); clear g q0 q1 q2 q3 q4 q5 q6 q7 q8 q9)
          | (go_at_call 46; (with_reducible refine (FZ.out _ T.out).mono ?_); rintro e w4 ⟨rfl, g⟩; replace T := Aside0.mk (T.out.below g); clear g))
        go_ret
        exact ⟨rfl, T.out.b⟩
end Go.Proofs.YtmlcaecknocpoaaDoor.It
namespace Go.Proofs.YtmlcaecknocpoaaDoor.Pr
open Go.RowKit Go.Proofs.YtmlcaecknocpoaaDoorW.PrintWords Go.Proofs.YtmlcaecknocpoaaDoorW.PrintLast Go.Proofs.YtmlcaecknocpoaaDoorW.PrintMore
attribute [local go_sem] max2_int min2_int max_two min_two max_three min_three max_four min_four   
set_option linter.unusedVariables false
set_option linter.unusedSimpArgs false
def chalklinelaw08_bound.l0 : Nat → List (S42) → ByteArray → Int → Option (Bool)
  | 0, _, _, _ => none
  | k + 1, x0, x1, x5 => if x5 < (x0.length : Int) then (if 0 ≤ x5 then (if ((rd_T42 x0 x5).f0).toList = x1.toList then (some true) else (chalklinelaw08_bound.l0 k x0 x1 (wrap64 (x5 + 1)))) else (none)) else (some false)
def chalklinelaw08_bound.f (k : Nat) (l0 : List (S42)) (a1 : ByteArray) : Option (Bool) := chalklinelaw08_bound.l0 k l0 a1 0
set_option maxHeartbeats 8000000 in
set_option maxRecDepth 100000 in
theorem chalklinelaw08_bound.calls (k : Nat) (A0 : Option Addr) (c0 : Nat) (l0 : List (S42)) (a1 : ByteArray) (r : Bool) (w : World) (hr0 : Kd.C k42 w A0 l0.length l0) (hc0 : l0.length ≤ c0) (h : chalklinelaw08_bound.f k l0 a1 = some r) :
    Calls Tryd.prog 39 #[.slice A0 l0.length c0, .string a1] w fun e w' => e = .returned (.bool r) ∧ Drawn0 w w' := by
  have HR0 := Aside0.mk hr0
  have HC0 := Aside0.mk hc0
  clear hr0 hc0
  have H : (chalklinelaw08_bound.l0 k l0 a1 0) = some r := h
  clear h
  have H' := Aside0.mk H
  clear H
  go_enter Tryd.func39, Tryd.ntmps39
  go_wp2
  go_loopg [5] k (fun kq v5 w' => ∃ (x5_1 : Int), v5 = .int .i64 x5_1 ∧ Aside0 (chalklinelaw08_bound.l0 kq l0 a1 x5_1 = some r) ∧ Aside0 (kq ≤ k) ∧ Drawn0 w w')
  case atStart => exact ⟨(0), (by first | rfl | (simp; done) | (simp [*]; done)), H', ⟨Nat.le_refl _⟩, by repeat (first | exact Drawn0.refl _ | apply Drawn0.step)⟩
  case round =>
    clear H'
    try clear p2
    obtain ⟨x5_1, rfl, HA, HK1, ⟨m1, rfl⟩⟩ := hrel
    cases gk with
    | zero => exact absurd HA.out (by simp [chalklinelaw08_bound.l0])
    | succ k1 =>
      have H := HA.out
      clear HA
      simp only [chalklinelaw08_bound.l0] at H
      by_cases c3 : x5_1 < (l0.length : Int)
      · rw [if_pos c3] at H
        have c3b0 : decide (x5_1 < (l0.length : Int)) = true := decide_eq_true c3
        clear c3
        by_cases c4 : 0 ≤ x5_1
        · rw [if_pos c4] at H
          have c4b0 : decide (0 ≤ x5_1) = true := decide_eq_true c4
          clear c4
          by_cases c5 : ((rd_T42 l0 x5_1).f0).toList = a1.toList
          · rw [if_pos c5] at H
            have c5b0 : (((rd_T42 l0 x5_1).f0).toList == a1.toList) = true := beq_iff_eq.mpr c5
            have c5b1 : (((rd_T42 l0 x5_1).f0).toList != a1.toList) = false := bne_eq_false_iff_eq.mpr c5
            clear c5
            obtain rfl := Option.some.inj H
            have p211 : 0 ≤ (x5_1 : Int) := of_decide_eq_true (by first | (with_reducible assumption) | assumption)
            have q211 : x5_1 < (l0.length : Int) := of_decide_eq_true (by first | (with_reducible assumption) | assumption)
            obtain ⟨ad211, e211, hx211_0, hx211_1⟩ := at_T42 HR0.out x5_1 p211 q211
            cases e211
            replace p211 := eq_true p211
            replace q211 := eq_true q211
            go_wp2
            go_ret
            exact ⟨by first | rfl | (simp; done) | (simp [*]; done), by repeat (first | exact Drawn0.refl _ | apply Drawn0.step)⟩
          · rw [if_neg c5] at H
            have c5b0 : (((rd_T42 l0 x5_1).f0).toList == a1.toList) = false := beq_eq_false_iff_ne.mpr c5
            have c5b1 : (((rd_T42 l0 x5_1).f0).toList != a1.toList) = true := bne_iff_ne.mpr c5
            have H' := Aside0.mk H
            clear H
            have p211 : 0 ≤ (x5_1 : Int) := of_decide_eq_true (by first | (with_reducible assumption) | assumption)
            have q211 : x5_1 < (l0.length : Int) := of_decide_eq_true (by first | (with_reducible assumption) | assumption)
            obtain ⟨ad211, e211, hx211_0, hx211_1⟩ := at_T42 HR0.out x5_1 p211 q211
            cases e211
            replace p211 := eq_true p211
            replace q211 := eq_true q211
            go_wp2
            go_roundg k1
            case measure => have := HK1.out; omega
            case rel => exact ⟨(wrap64 (x5_1 + 1)), (by first | rfl | (simp; done) | (simp [*]; done)), H', ⟨by have := HK1.out; omega⟩, by repeat (first | exact Drawn0.refl _ | apply Drawn0.step)⟩
        · rw [if_neg c4] at H
          exact absurd H (by simp)
      · rw [if_neg c3] at H
        have c3b0 : decide (x5_1 < (l0.length : Int)) = false := decide_eq_false c3
        clear c3
        obtain rfl := Option.some.inj H
        go_wp2
        go_ret
        exact ⟨by first | rfl | (simp; done) | (simp [*]; done), by repeat (first | exact Drawn0.refl _ | apply Drawn0.step)⟩
end Go.Proofs.YtmlcaecknocpoaaDoor.Pr
namespace Go.Proofs.YtmlcaecknocpoaaDoor.Pr
open Go.RowKit Go.Proofs.YtmlcaecknocpoaaDoorW.PrintWords Go.Proofs.YtmlcaecknocpoaaDoorW.PrintLast Go.Proofs.YtmlcaecknocpoaaDoorW.PrintMore
attribute [local go_sem] max2_int min2_int max_two min_two max_three min_three max_four min_four   
set_option linter.unusedVariables false
set_option linter.unusedSimpArgs false
mutual
def chalklineref08_Few.j0 : Nat → Bool → Int → ByteArray → Int → List (S47) → List (S42) → List (S26) → Option (Bool)
  | 0, _, _, _, _, _, _, _ => none
  | k + 1, x24, x218000, x218001, x218002, x218003, x218004, x218005 => if x24 = true then (some false) else (chalklineref08_Few.l0 k 0 x218000 x218001 x218002 x218003 x218004 x218005)
def chalklineref08_Few.l0 : Nat → Int → Int → ByteArray → Int → List (S47) → List (S42) → List (S26) → Option (Bool)
  | 0, _, _, _, _, _, _, _ => none
  | k + 1, x3, x218000, x218001, x218002, x218003, x218004, x218005 => if x3 < (x218005.length : Int) then (if 0 ≤ x3 then ((chalklineref08_Few.f k ((rd_T26 x218005 x3).f0) ((rd_T26 x218005 x3).f1) ((rd_T26 x218005 x3).f2) ((rd_T26 x218005 x3).f3) ((rd_T26 x218005 x3).f4) ((rd_T26 x218005 x3).f5)).bind fun t220 => (if t220 = true then (chalklineref08_Few.l0 k (wrap64 (x3 + 1)) x218000 x218001 x218002 x218003 x218004 x218005) else (some false))) else (none)) else (some true)
def chalklineref08_Few.f : Nat → Int → ByteArray → Int → List (S47) → List (S42) → List (S26) → Option (Bool)
  | 0, _, _, _, _, _, _ => none
  | k + 1, a0_0, a0_1, a0_2, l0_3, l0_4, l0_5 => if (l0_5.length : Int) > 4 then (chalklineref08_Few.j0 k true a0_0 a0_1 a0_2 l0_3 l0_4 l0_5) else (if (l0_3.length : Int) > 4 then (chalklineref08_Few.j0 k true a0_0 a0_1 a0_2 l0_3 l0_4 l0_5) else (if (l0_4.length : Int) > 10 then (chalklineref08_Few.j0 k true a0_0 a0_1 a0_2 l0_3 l0_4 l0_5) else ((chalklineref06_Size.f k a0_0 a0_1 a0_2 l0_3 l0_4 l0_5).bind fun t218 => (chalklineref08_Few.j0 k (decide (t218 > 300)) a0_0 a0_1 a0_2 l0_3 l0_4 l0_5))))
end
set_option maxHeartbeats 8000000 in
set_option maxRecDepth 100000 in
theorem chalklineref08_Few.calls (k : Nat) : ∀ (a0_0 : Int) (a0_1 : ByteArray) (a0_2 : Int) (A0_3 : Option Addr) (c0_3 : Nat) (l0_3 : List (S47)) (A0_4 : Option Addr) (c0_4 : Nat) (l0_4 : List (S42)) (A0_5 : Option Addr) (c0_5 : Nat) (l0_5 : List (S26)) (r : Bool) (w : World) (hr0_3 : Kd.C k47 w A0_3 l0_3.length l0_3) (hc0_3 : l0_3.length ≤ c0_3) (hr0_4 : Kd.C k42 w A0_4 l0_4.length l0_4) (hc0_4 : l0_4.length ≤ c0_4) (hr0_5 : Kd.C k26 w A0_5 l0_5.length l0_5) (hc0_5 : l0_5.length ≤ c0_5) (h : chalklineref08_Few.f k a0_0 a0_1 a0_2 l0_3 l0_4 l0_5 = some r),
    Calls Tryd.prog 64 #[.agg #[.int .i64 a0_0, .string a0_1, .int .i64 a0_2, .slice A0_3 l0_3.length c0_3, .slice A0_4 l0_4.length c0_4, .slice A0_5 l0_5.length c0_5]] w fun e w' => e = .returned (.bool r) ∧ Below w.heap.size w w' := by
  induction k using Nat.strongRecOn with
  | _ k ih =>
  intro a0_0 a0_1 a0_2 A0_3 c0_3 l0_3 A0_4 c0_4 l0_4 A0_5 c0_5 l0_5 r w hr0_3 hc0_3 hr0_4 hc0_4 hr0_5 hc0_5 h
  cases k with
  | zero => exact absurd h (by simp [chalklineref08_Few.f])
  | succ k =>
  simp only [chalklineref08_Few.f] at h
  have hu26 := Tryd.underlying26
  have HR0_3 := Aside0.mk hr0_3
  have HC0_3 := Aside0.mk hc0_3
  clear hr0_3 hc0_3
  have HR0_4 := Aside0.mk hr0_4
  have HC0_4 := Aside0.mk hc0_4
  clear hr0_4 hc0_4
  have HR0_5 := Aside0.mk hr0_5
  have HC0_5 := Aside0.mk hc0_5
  clear hr0_5 hc0_5
  have HB := Aside0.mk (Below.refl w.heap.size w)
  have H : (if (l0_5.length : Int) > 4 then (chalklineref08_Few.j0 k true a0_0 a0_1 a0_2 l0_3 l0_4 l0_5) else (if (l0_3.length : Int) > 4 then (chalklineref08_Few.j0 k true a0_0 a0_1 a0_2 l0_3 l0_4 l0_5) else (if (l0_4.length : Int) > 10 then (chalklineref08_Few.j0 k true a0_0 a0_1 a0_2 l0_3 l0_4 l0_5) else ((chalklineref06_Size.f k a0_0 a0_1 a0_2 l0_3 l0_4 l0_5).bind fun t218 => (chalklineref08_Few.j0 k (decide (t218 > 300)) a0_0 a0_1 a0_2 l0_3 l0_4 l0_5))))) = some r := h
  clear h
  have HC2 := Aside0.mk H
  clear H
  go_enter Tryd.func64, Tryd.ntmps64
  go_upto_region 1 with (first | ((with_reducible refine gate_dst (N := 1) rfl ?_); (try (refine gate_guard (by rfl) ?_; dsimp only)); refine box_event ?hg (N := 1) ?hd (cs := #[.int .i64 a0_0, .string a0_1, .int .i64 a0_2, .slice A0_3 l0_3.length c0_3, .slice A0_4 l0_4.length c0_4, .slice A0_5 l0_5.length c0_5]) (t := 26) ?hr ?_; (case hd => rfl); (case hg => rfl); (case hr => first | (go_simp; done) | (go_simp; rfl)); intro gb217 hg w3 hbox hb; have n0_ := Aside0.mk (below_step (by repeat (first | (with_reducible first | exact HB.out | apply below_alloc | apply pw_below_drewN | apply below_drew1) | exact HB.out)) hb); have n1_ := Aside0.mk (hbox); have n2_ := Aside0.mk ((by rw [hg]; exact (below_size (by repeat (first | (with_reducible first | exact HB.out | apply below_alloc | apply pw_below_drewN | apply below_drew1) | exact HB.out))) : w.heap.size ≤ gb217)); have n3_ := Aside0.mk ((by rw [hg]; exact (below_size (by repeat (first | (with_reducible first | exact HB.out | apply below_alloc | apply pw_below_drewN | apply below_drew1) | exact HB.out))) : w.heap.size ≤ gb217)); clear HB; have HB := n0_; have BK217 := n1_; have GW217 := n2_; have GE217 := n3_; clear n0_ n1_ n2_ n3_; clear hb hbox hg))
  (try simp only [Act.put, List.setIfInBounds_toArray, List.set_cons_zero, List.set_cons_succ])
  go_cut [24] (fun v24 wc => ∃ (kq : Nat) (x24_1 : Bool), v24 = .bool x24_1 ∧ Aside0 (chalklineref08_Few.j0 kq x24_1 a0_0 a0_1 a0_2 l0_3 l0_4 l0_5 = some r) ∧ Aside0 (kq ≤ k) ∧ Aside0 (wc.heap[gb217]? = some (.cells #[.int .i64 a0_0, .string a0_1, .int .i64 a0_2, (.slice A0_3 l0_3.length c0_3), (.slice A0_4 l0_4.length c0_4), (.slice A0_5 l0_5.length c0_5)] 26 (0, 0))) ∧ Aside0 (Below w.heap.size w wc))
  case first =>
    have H := HC2.out
    clear HC2
    by_cases c4 : (l0_5.length : Int) > 4
    · rw [if_pos c4] at H
      have c4b0 : decide (4 < (l0_5.length : Int)) = true := decide_eq_true c4
      have c4b1 : decide (4 < l0_5.length) = true := decide_eq_true (by omega)
      clear c4
      (first | rw [c4b0] | (simp only [i64_w, i32_w]; rw [c4b0]) | skip)
      have H' := Aside0.mk H
      clear H
      have hcz5_0 : w3.cell? ⟨gb217, 0, none⟩ = some (.int .i64 a0_0) := (blk_cell BK217.out 0).trans rfl
      have hcz5_1 : w3.cell? ⟨gb217, 1, none⟩ = some (.string a0_1) := (blk_cell BK217.out 1).trans rfl
      have hcz5_2 : w3.cell? ⟨gb217, 2, none⟩ = some (.int .i64 a0_2) := (blk_cell BK217.out 2).trans rfl
      have hcz5_3 : w3.cell? ⟨gb217, 3, none⟩ = some (.slice A0_3 l0_3.length c0_3) := (blk_cell BK217.out 3).trans rfl
      have hcz5_4 : w3.cell? ⟨gb217, 4, none⟩ = some (.slice A0_4 l0_4.length c0_4) := (blk_cell BK217.out 4).trans rfl
      have hcz5_5 : w3.cell? ⟨gb217, 5, none⟩ = some (.slice A0_5 l0_5.length c0_5) := (blk_cell BK217.out 5).trans rfl
      have hfz5_0 := blk_frozen BK217.out 0
      have hfz5_1 := blk_frozen BK217.out 1
      have hfz5_2 := blk_frozen BK217.out 2
      have hfz5_3 := blk_frozen BK217.out 3
      have hfz5_4 := blk_frozen BK217.out 4
      have hfz5_5 := blk_frozen BK217.out 5
      go_wp2
      go_meet
      case rel => exact ⟨_, (true), (by first | rfl | (simp; done) | (simp [*]; done)), H', ⟨by first | omega | exact Nat.le_refl _⟩, ⟨by (with_reducible repeat (first | refine blk_drewN ?_ _ | refine blk_drew ?_ | refine blk_alloc ?_ _)); exact BK217.out⟩, ⟨by repeat (first | (with_reducible first | exact HB.out | apply below_alloc | apply pw_below_drewN | apply below_drew1 | refine below_set ?_ GE217.out) | exact HB.out)⟩⟩
    · rw [if_neg c4] at H
      have c4b0 : decide (4 < (l0_5.length : Int)) = false := decide_eq_false c4
      have c4b1 : decide (4 < l0_5.length) = false := decide_eq_false (by omega)
      clear c4
      (first | rw [c4b0] | (simp only [i64_w, i32_w]; rw [c4b0]) | skip)
      by_cases c6 : (l0_3.length : Int) > 4
      · rw [if_pos c6] at H
        have c6b0 : decide (4 < (l0_3.length : Int)) = true := decide_eq_true c6
        have c6b1 : decide (4 < l0_3.length) = true := decide_eq_true (by omega)
        clear c6
        have H' := Aside0.mk H
        clear H
        have hcz7_0 : w3.cell? ⟨gb217, 0, none⟩ = some (.int .i64 a0_0) := (blk_cell BK217.out 0).trans rfl
        have hcz7_1 : w3.cell? ⟨gb217, 1, none⟩ = some (.string a0_1) := (blk_cell BK217.out 1).trans rfl
        have hcz7_2 : w3.cell? ⟨gb217, 2, none⟩ = some (.int .i64 a0_2) := (blk_cell BK217.out 2).trans rfl
        have hcz7_3 : w3.cell? ⟨gb217, 3, none⟩ = some (.slice A0_3 l0_3.length c0_3) := (blk_cell BK217.out 3).trans rfl
        have hcz7_4 : w3.cell? ⟨gb217, 4, none⟩ = some (.slice A0_4 l0_4.length c0_4) := (blk_cell BK217.out 4).trans rfl
        have hcz7_5 : w3.cell? ⟨gb217, 5, none⟩ = some (.slice A0_5 l0_5.length c0_5) := (blk_cell BK217.out 5).trans rfl
        have hfz7_0 := blk_frozen BK217.out 0
        have hfz7_1 := blk_frozen BK217.out 1
        have hfz7_2 := blk_frozen BK217.out 2
        have hfz7_3 := blk_frozen BK217.out 3
        have hfz7_4 := blk_frozen BK217.out 4
        have hfz7_5 := blk_frozen BK217.out 5
        go_wp2
        go_meet
        case rel => exact ⟨_, (true), (by first | rfl | (simp; done) | (simp [*]; done)), H', ⟨by first | omega | exact Nat.le_refl _⟩, ⟨by (with_reducible repeat (first | refine blk_drewN ?_ _ | refine blk_drew ?_ | refine blk_alloc ?_ _)); exact BK217.out⟩, ⟨by repeat (first | (with_reducible first | exact HB.out | apply below_alloc | apply pw_below_drewN | apply below_drew1 | refine below_set ?_ GE217.out) | exact HB.out)⟩⟩
      · rw [if_neg c6] at H
        have c6b0 : decide (4 < (l0_3.length : Int)) = false := decide_eq_false c6
        have c6b1 : decide (4 < l0_3.length) = false := decide_eq_false (by omega)
        clear c6
        by_cases c8 : (l0_4.length : Int) > 10
        · rw [if_pos c8] at H
          have c8b0 : decide (10 < (l0_4.length : Int)) = true := decide_eq_true c8
          have c8b1 : decide (10 < l0_4.length) = true := decide_eq_true (by omega)
          clear c8
          have H' := Aside0.mk H
          clear H
          have hcz9_0 : w3.cell? ⟨gb217, 0, none⟩ = some (.int .i64 a0_0) := (blk_cell BK217.out 0).trans rfl
          have hcz9_1 : w3.cell? ⟨gb217, 1, none⟩ = some (.string a0_1) := (blk_cell BK217.out 1).trans rfl
          have hcz9_2 : w3.cell? ⟨gb217, 2, none⟩ = some (.int .i64 a0_2) := (blk_cell BK217.out 2).trans rfl
          have hcz9_3 : w3.cell? ⟨gb217, 3, none⟩ = some (.slice A0_3 l0_3.length c0_3) := (blk_cell BK217.out 3).trans rfl
          have hcz9_4 : w3.cell? ⟨gb217, 4, none⟩ = some (.slice A0_4 l0_4.length c0_4) := (blk_cell BK217.out 4).trans rfl
          have hcz9_5 : w3.cell? ⟨gb217, 5, none⟩ = some (.slice A0_5 l0_5.length c0_5) := (blk_cell BK217.out 5).trans rfl
          have hfz9_0 := blk_frozen BK217.out 0
          have hfz9_1 := blk_frozen BK217.out 1
          have hfz9_2 := blk_frozen BK217.out 2
          have hfz9_3 := blk_frozen BK217.out 3
          have hfz9_4 := blk_frozen BK217.out 4
          have hfz9_5 := blk_frozen BK217.out 5
          go_wp2
          go_meet
          case rel => exact ⟨_, (true), (by first | rfl | (simp; done) | (simp [*]; done)), H', ⟨by first | omega | exact Nat.le_refl _⟩, ⟨by (with_reducible repeat (first | refine blk_drewN ?_ _ | refine blk_drew ?_ | refine blk_alloc ?_ _)); exact BK217.out⟩, ⟨by repeat (first | (with_reducible first | exact HB.out | apply below_alloc | apply pw_below_drewN | apply below_drew1 | refine below_set ?_ GE217.out) | exact HB.out)⟩⟩
        · rw [if_neg c8] at H
          have c8b0 : decide (10 < (l0_4.length : Int)) = false := decide_eq_false c8
          have c8b1 : decide (10 < l0_4.length) = false := decide_eq_false (by omega)
          clear c8
          replace H := Option.bind_eq_some_iff.mp H
          obtain ⟨t218, A100, H⟩ := H
          replace H : (chalklineref08_Few.j0 k (decide (t218 > 300)) a0_0 a0_1 a0_2 l0_3 l0_4 l0_5) = some r := H
          have A10 := Aside0.mk A100
          clear A100
          have H' := Aside0.mk H
          clear H
          have hcz11_0 : w3.cell? ⟨gb217, 0, none⟩ = some (.int .i64 a0_0) := (blk_cell BK217.out 0).trans rfl
          have hcz11_1 : w3.cell? ⟨gb217, 1, none⟩ = some (.string a0_1) := (blk_cell BK217.out 1).trans rfl
          have hcz11_2 : w3.cell? ⟨gb217, 2, none⟩ = some (.int .i64 a0_2) := (blk_cell BK217.out 2).trans rfl
          have hcz11_3 : w3.cell? ⟨gb217, 3, none⟩ = some (.slice A0_3 l0_3.length c0_3) := (blk_cell BK217.out 3).trans rfl
          have hcz11_4 : w3.cell? ⟨gb217, 4, none⟩ = some (.slice A0_4 l0_4.length c0_4) := (blk_cell BK217.out 4).trans rfl
          have hcz11_5 : w3.cell? ⟨gb217, 5, none⟩ = some (.slice A0_5 l0_5.length c0_5) := (blk_cell BK217.out 5).trans rfl
          have hfz11_0 := blk_frozen BK217.out 0
          have hfz11_1 := blk_frozen BK217.out 1
          have hfz11_2 := blk_frozen BK217.out 2
          have hfz11_3 := blk_frozen BK217.out 3
          have hfz11_4 := blk_frozen BK217.out 4
          have hfz11_5 := blk_frozen BK217.out 5
          go_wp2_with (first | (go_at_call 25; (with_reducible refine (chalklineref06_Size.calls k a0_0 a0_1 a0_2 _ _ l0_3 _ _ l0_4 _ _ l0_5 t218 _ ?side1 ?side2 ?side3 ?side4 ?side5 ?side6 A10.out).mono ?_); (case side1 => repeat (first | exact (Kd.C_below HR0_3.out HB.out) | (with_reducible refine Kd.C_alloc ?_ _) | (with_reducible refine Kd.C_drewN ?_ _) | (with_reducible refine Kd.C_drew ?_))); (case side2 => exact HC0_3.out); (case side3 => repeat (first | exact (Kd.C_below HR0_4.out HB.out) | (with_reducible refine Kd.C_alloc ?_ _) | (with_reducible refine Kd.C_drewN ?_ _) | (with_reducible refine Kd.C_drew ?_))); (case side4 => exact HC0_4.out); (case side5 => repeat (first | exact (Kd.C_below HR0_5.out HB.out) | (with_reducible refine Kd.C_alloc ?_ _) | (with_reducible refine Kd.C_drewN ?_ _) | (with_reducible refine Kd.C_drew ?_))); (case side6 => exact HC0_5.out); rintro e w12 ⟨rfl, hb⟩; have n0_ := Aside0.mk (blk_below (g := gb217) (o := .cells #[.int .i64 a0_0, .string a0_1, .int .i64 a0_2, .slice A0_3 l0_3.length c0_3, .slice A0_4 l0_4.length c0_4, .slice A0_5 l0_5.length c0_5] 26 (0, 0)) (by (with_reducible repeat (first | refine blk_drewN ?_ _ | refine blk_drew ?_ | refine blk_alloc ?_ _)); exact BK217.out) hb); have n1_ := Aside0.mk (below_step (by repeat (first | (with_reducible first | exact HB.out | apply below_alloc | apply pw_below_drewN | apply below_drew1 | refine below_set ?_ GE217.out) | exact HB.out)) hb); clear BK217; clear HB; have BK217 := n0_; have HB := n1_; clear n0_ n1_; (try clear hb); (try clear hb2); (try clear hk); (try clear hi)))
          go_meet
          case rel => exact ⟨_, (decide (t218 > 300)), (by first | rfl | (simp; done) | (simp [*]; done)), H', ⟨by first | omega | exact Nat.le_refl _⟩, ⟨by (with_reducible repeat (first | refine blk_drewN ?_ _ | refine blk_drew ?_ | refine blk_alloc ?_ _)); exact BK217.out⟩, ⟨by repeat (first | (with_reducible first | exact HB.out | apply below_alloc | apply pw_below_drewN | apply below_drew1 | refine below_set ?_ GE217.out) | exact HB.out)⟩⟩
  case rest =>
    clear HC2
    try clear p2
    try clear c4
    try clear c4b0
    try clear c4b1
    try clear c6
    try clear c6b0
    try clear c6b1
    try clear c8
    try clear c8b0
    try clear c8b1
    try clear hcz11_0
    try clear hcz11_1
    try clear hcz11_2
    try clear hcz11_3
    try clear hcz11_4
    try clear hcz11_5
    try clear hcz5_0
    try clear hcz5_1
    try clear hcz5_2
    try clear hcz5_3
    try clear hcz5_4
    try clear hcz5_5
    try clear hcz7_0
    try clear hcz7_1
    try clear hcz7_2
    try clear hcz7_3
    try clear hcz7_4
    try clear hcz7_5
    try clear hcz9_0
    try clear hcz9_1
    try clear hcz9_2
    try clear hcz9_3
    try clear hcz9_4
    try clear hcz9_5
    try clear hfz11_0
    try clear hfz11_1
    try clear hfz11_2
    try clear hfz11_3
    try clear hfz11_4
    try clear hfz11_5
    try clear hfz5_0
    try clear hfz5_1
    try clear hfz5_2
    try clear hfz5_3
    try clear hfz5_4
    try clear hfz5_5
    try clear hfz7_0
    try clear hfz7_1
    try clear hfz7_2
    try clear hfz7_3
    try clear hfz7_4
    try clear hfz7_5
    try clear hfz9_0
    try clear hfz9_1
    try clear hfz9_2
    try clear hfz9_3
    try clear hfz9_4
    try clear hfz9_5
    obtain ⟨kq, x24_1, rfl, HA, HJ1, BK217, HB⟩ := hcut
    cases kq with
    | zero => exact absurd HA.out (by simp [chalklineref08_Few.j0])
    | succ kj1 =>
      have H := HA.out
      clear HA
      simp only [chalklineref08_Few.j0] at H
      by_cases c13 : x24_1 = true
      · subst c13
        have H1 : (some false) = some r := by rw [if_pos rfl] at H; exact H
        clear H
        have H := H1
        clear H1
        obtain rfl := Option.some.inj H
        go_wp2
        go_ret
        exact ⟨by first | rfl | (simp [errW_none, errW_some] <;> rfl) | (simp [*, errW_none, errW_some] <;> rfl), by repeat (first | (with_reducible first | exact HB.out | apply below_alloc | apply pw_below_drewN | apply below_drew1 | refine below_set ?_ GE217.out) | exact HB.out)⟩
      · replace c13 := Bool.eq_false_iff.mpr c13
        subst c13
        have H1 : (chalklineref08_Few.l0 kj1 0 a0_0 a0_1 a0_2 l0_3 l0_4 l0_5) = some r := by rw [if_neg (show ¬ (false = true) by decide)] at H; exact H
        clear H
        have H := H1
        clear H1
        have H' := Aside0.mk H
        clear H
        go_wp2
        go_loopg [3] kj1 (fun kq v3 w' => ∃ (x3_2 : Int), v3 = .int .i64 x3_2 ∧ Aside0 (chalklineref08_Few.l0 kq x3_2 a0_0 a0_1 a0_2 l0_3 l0_4 l0_5 = some r) ∧ Aside0 (kq ≤ kj1) ∧ Aside0 (w'.heap[gb217]? = some (.cells #[.int .i64 a0_0, .string a0_1, .int .i64 a0_2, (.slice A0_3 l0_3.length c0_3), (.slice A0_4 l0_4.length c0_4), (.slice A0_5 l0_5.length c0_5)] 26 (0, 0))) ∧ Aside0 (Below w.heap.size w w'))
        case atStart => exact ⟨(0), (by first | rfl | (simp; done) | (simp [*]; done)), H', ⟨Nat.le_refl _⟩, ⟨by (with_reducible repeat (first | refine blk_drewN ?_ _ | refine blk_drew ?_ | refine blk_alloc ?_ _)); exact BK217.out⟩, ⟨by repeat (first | (with_reducible first | exact HB.out | apply below_alloc | apply pw_below_drewN | apply below_drew1 | refine below_set ?_ GE217.out) | exact HB.out)⟩⟩
        case round =>
          clear H'
          try clear c1
          try clear p2
          try clear c4
          try clear c4b0
          try clear c4b1
          try clear c6
          try clear c6b0
          try clear c6b1
          try clear c8
          try clear c8b0
          try clear c8b1
          try clear c13
          try clear hcz11_0
          try clear hcz11_1
          try clear hcz11_2
          try clear hcz11_3
          try clear hcz11_4
          try clear hcz11_5
          try clear hcz5_0
          try clear hcz5_1
          try clear hcz5_2
          try clear hcz5_3
          try clear hcz5_4
          try clear hcz5_5
          try clear hcz7_0
          try clear hcz7_1
          try clear hcz7_2
          try clear hcz7_3
          try clear hcz7_4
          try clear hcz7_5
          try clear hcz9_0
          try clear hcz9_1
          try clear hcz9_2
          try clear hcz9_3
          try clear hcz9_4
          try clear hcz9_5
          try clear hfz11_0
          try clear hfz11_1
          try clear hfz11_2
          try clear hfz11_3
          try clear hfz11_4
          try clear hfz11_5
          try clear hfz5_0
          try clear hfz5_1
          try clear hfz5_2
          try clear hfz5_3
          try clear hfz5_4
          try clear hfz5_5
          try clear hfz7_0
          try clear hfz7_1
          try clear hfz7_2
          try clear hfz7_3
          try clear hfz7_4
          try clear hfz7_5
          try clear hfz9_0
          try clear hfz9_1
          try clear hfz9_2
          try clear hfz9_3
          try clear hfz9_4
          try clear hfz9_5
          try clear p2
          obtain ⟨x3_2, rfl, HA, HK2, BK217, HB⟩ := hrel
          cases gk with
          | zero => exact absurd HA.out (by simp [chalklineref08_Few.l0])
          | succ k2 =>
            have H := HA.out
            clear HA
            simp only [chalklineref08_Few.l0] at H
            by_cases c14 : x3_2 < (l0_5.length : Int)
            · rw [if_pos c14] at H
              have c14b0 : decide (x3_2 < (l0_5.length : Int)) = true := decide_eq_true c14
              clear c14
              by_cases c15 : 0 ≤ x3_2
              · rw [if_pos c15] at H
                have c15b0 : decide (0 ≤ x3_2) = true := decide_eq_true c15
                clear c15
                replace H := Option.bind_eq_some_iff.mp H
                obtain ⟨t220, A160, H⟩ := H
                replace H : (if t220 = true then (chalklineref08_Few.l0 k2 (wrap64 (x3_2 + 1)) a0_0 a0_1 a0_2 l0_3 l0_4 l0_5) else (some false)) = some r := H
                have A16 := Aside0.mk A160
                clear A160
                by_cases c17 : t220 = true
                · subst c17
                  have H1 : (chalklineref08_Few.l0 k2 (wrap64 (x3_2 + 1)) a0_0 a0_1 a0_2 l0_3 l0_4 l0_5) = some r := by rw [if_pos rfl] at H; exact H
                  clear H
                  have H := H1
                  clear H1
                  have H' := Aside0.mk H
                  clear H
                  have hcz18_0 : wr.cell? ⟨gb217, 0, none⟩ = some (.int .i64 a0_0) := (blk_cell BK217.out 0).trans rfl
                  have hcz18_1 : wr.cell? ⟨gb217, 1, none⟩ = some (.string a0_1) := (blk_cell BK217.out 1).trans rfl
                  have hcz18_2 : wr.cell? ⟨gb217, 2, none⟩ = some (.int .i64 a0_2) := (blk_cell BK217.out 2).trans rfl
                  have hcz18_3 : wr.cell? ⟨gb217, 3, none⟩ = some (.slice A0_3 l0_3.length c0_3) := (blk_cell BK217.out 3).trans rfl
                  have hcz18_4 : wr.cell? ⟨gb217, 4, none⟩ = some (.slice A0_4 l0_4.length c0_4) := (blk_cell BK217.out 4).trans rfl
                  have hcz18_5 : wr.cell? ⟨gb217, 5, none⟩ = some (.slice A0_5 l0_5.length c0_5) := (blk_cell BK217.out 5).trans rfl
                  have hfz18_0 := blk_frozen BK217.out 0
                  have hfz18_1 := blk_frozen BK217.out 1
                  have hfz18_2 := blk_frozen BK217.out 2
                  have hfz18_3 := blk_frozen BK217.out 3
                  have hfz18_4 := blk_frozen BK217.out 4
                  have hfz18_5 := blk_frozen BK217.out 5
                  have p219 : 0 ≤ (x3_2 : Int) := of_decide_eq_true (by first | (with_reducible assumption) | assumption)
                  have q219 : x3_2 < (l0_5.length : Int) := of_decide_eq_true (by first | (with_reducible assumption) | assumption)
                  obtain ⟨ad219, A219_3, c219_3, A219_4, c219_4, A219_5, c219_5, e219, hx219_0, hx219_1, hx219_2, hx219_3, hx219_4, hx219_5, hl219_3, hi219_3, hl219_4, hi219_4, hl219_5, hi219_5⟩ := at_T26 HR0_5.out x3_2 p219 q219
                  cases e219
                  replace hx219_0 := (HB.out.cell (World.block_lt_of_cell? w _ hx219_0)).trans hx219_0
                  replace hx219_1 := (HB.out.cell (World.block_lt_of_cell? w _ hx219_1)).trans hx219_1
                  replace hx219_2 := (HB.out.cell (World.block_lt_of_cell? w _ hx219_2)).trans hx219_2
                  replace hx219_3 := (HB.out.cell (World.block_lt_of_cell? w _ hx219_3)).trans hx219_3
                  replace hx219_4 := (HB.out.cell (World.block_lt_of_cell? w _ hx219_4)).trans hx219_4
                  replace hx219_5 := (HB.out.cell (World.block_lt_of_cell? w _ hx219_5)).trans hx219_5
                  have HR219_3 := Aside0.mk hi219_3
                  have HC219_3 := Aside0.mk hl219_3
                  clear hi219_3 hl219_3
                  have HR219_4 := Aside0.mk hi219_4
                  have HC219_4 := Aside0.mk hl219_4
                  clear hi219_4 hl219_4
                  have HR219_5 := Aside0.mk hi219_5
                  have HC219_5 := Aside0.mk hl219_5
                  clear hi219_5 hl219_5
                  replace p219 := eq_true p219
                  replace q219 := eq_true q219
                  go_wp2_with (first | ((with_reducible refine gate_callee (f := 64) rfl ?_); refine goesL_ (some 37) rfl rfl Tryd.func64 (by kernel_rfl) rfl #[.agg #[.int .i64 ((rd_T26 l0_5 x3_2).f0), .string ((rd_T26 l0_5 x3_2).f1), .int .i64 ((rd_T26 l0_5 x3_2).f2), .slice A219_3 ((rd_T26 l0_5 x3_2).f3).length c219_3, .slice A219_4 ((rd_T26 l0_5 x3_2).f4).length c219_4, .slice A219_5 ((rd_T26 l0_5 x3_2).f5).length c219_5]] rfl (by (try simp only [List.map_toArray, List.map_cons, List.map_nil]); first | done | rfl | (simp only [List.length_drop, List.length_take]; rfl)) ?_; (with_reducible refine (ih k2 (by have := HJ1.out; have := HK2.out; omega) ((rd_T26 l0_5 x3_2).f0) ((rd_T26 l0_5 x3_2).f1) ((rd_T26 l0_5 x3_2).f2) _ _ ((rd_T26 l0_5 x3_2).f3) _ _ ((rd_T26 l0_5 x3_2).f4) _ _ ((rd_T26 l0_5 x3_2).f5) true _ ?side1 ?side2 ?side3 ?side4 ?side5 ?side6 A16.out).mono ?_); (case side1 => repeat (first | exact (Kd.C_below HR219_3.out HB.out) | (with_reducible refine Kd.C_alloc ?_ _) | (with_reducible refine Kd.C_drewN ?_ _) | (with_reducible refine Kd.C_drew ?_))); (case side2 => exact HC219_3.out); (case side3 => repeat (first | exact (Kd.C_below HR219_4.out HB.out) | (with_reducible refine Kd.C_alloc ?_ _) | (with_reducible refine Kd.C_drewN ?_ _) | (with_reducible refine Kd.C_drew ?_))); (case side4 => exact HC219_4.out); (case side5 => repeat (first | exact (Kd.C_below HR219_5.out HB.out) | (with_reducible refine Kd.C_alloc ?_ _) | (with_reducible refine Kd.C_drewN ?_ _) | (with_reducible refine Kd.C_drew ?_))); (case side6 => exact HC219_5.out); rintro e w19 ⟨rfl, hb⟩; refine ⟨_, rfl, ?_⟩; have n0_ := Aside0.mk (blk_below (g := gb217) (o := .cells #[.int .i64 a0_0, .string a0_1, .int .i64 a0_2, .slice A0_3 l0_3.length c0_3, .slice A0_4 l0_4.length c0_4, .slice (some ad219) l0_5.length c0_5] 26 (0, 0)) (by (with_reducible repeat (first | refine blk_drewN ?_ _ | refine blk_drew ?_ | refine blk_alloc ?_ _)); exact BK217.out) hb); have n1_ := Aside0.mk (below_step (by repeat (first | (with_reducible first | exact HB.out | apply below_alloc | apply pw_below_drewN | apply below_drew1 | refine below_set ?_ GE217.out) | exact HB.out)) hb); clear BK217; clear HB; have BK217 := n0_; have HB := n1_; clear n0_ n1_; (try clear hb); (try clear hb2); (try clear hk); (try clear hi)))
                  go_roundg k2
                  case measure => have := HJ1.out; have := HK2.out; omega
                  case rel => exact ⟨(wrap64 (x3_2 + 1)), (by first | rfl | (simp; done) | (simp [*]; done)), H', ⟨by have := HJ1.out; have := HK2.out; omega⟩, ⟨by (with_reducible repeat (first | refine blk_drewN ?_ _ | refine blk_drew ?_ | refine blk_alloc ?_ _)); exact BK217.out⟩, ⟨by repeat (first | (with_reducible first | exact HB.out | apply below_alloc | apply pw_below_drewN | apply below_drew1 | refine below_set ?_ GE217.out) | exact HB.out)⟩⟩
                · replace c17 := Bool.eq_false_iff.mpr c17
                  subst c17
                  have H1 : (some false) = some r := by rw [if_neg (show ¬ (false = true) by decide)] at H; exact H
                  clear H
                  have H := H1
                  clear H1
                  obtain rfl := Option.some.inj H
                  have hcz20_0 : wr.cell? ⟨gb217, 0, none⟩ = some (.int .i64 a0_0) := (blk_cell BK217.out 0).trans rfl
                  have hcz20_1 : wr.cell? ⟨gb217, 1, none⟩ = some (.string a0_1) := (blk_cell BK217.out 1).trans rfl
                  have hcz20_2 : wr.cell? ⟨gb217, 2, none⟩ = some (.int .i64 a0_2) := (blk_cell BK217.out 2).trans rfl
                  have hcz20_3 : wr.cell? ⟨gb217, 3, none⟩ = some (.slice A0_3 l0_3.length c0_3) := (blk_cell BK217.out 3).trans rfl
                  have hcz20_4 : wr.cell? ⟨gb217, 4, none⟩ = some (.slice A0_4 l0_4.length c0_4) := (blk_cell BK217.out 4).trans rfl
                  have hcz20_5 : wr.cell? ⟨gb217, 5, none⟩ = some (.slice A0_5 l0_5.length c0_5) := (blk_cell BK217.out 5).trans rfl
                  have hfz20_0 := blk_frozen BK217.out 0
                  have hfz20_1 := blk_frozen BK217.out 1
                  have hfz20_2 := blk_frozen BK217.out 2
                  have hfz20_3 := blk_frozen BK217.out 3
                  have hfz20_4 := blk_frozen BK217.out 4
                  have hfz20_5 := blk_frozen BK217.out 5
                  have p219 : 0 ≤ (x3_2 : Int) := of_decide_eq_true (by first | (with_reducible assumption) | assumption)
                  have q219 : x3_2 < (l0_5.length : Int) := of_decide_eq_true (by first | (with_reducible assumption) | assumption)
                  obtain ⟨ad219, A219_3, c219_3, A219_4, c219_4, A219_5, c219_5, e219, hx219_0, hx219_1, hx219_2, hx219_3, hx219_4, hx219_5, hl219_3, hi219_3, hl219_4, hi219_4, hl219_5, hi219_5⟩ := at_T26 HR0_5.out x3_2 p219 q219
                  cases e219
                  replace hx219_0 := (HB.out.cell (World.block_lt_of_cell? w _ hx219_0)).trans hx219_0
                  replace hx219_1 := (HB.out.cell (World.block_lt_of_cell? w _ hx219_1)).trans hx219_1
                  replace hx219_2 := (HB.out.cell (World.block_lt_of_cell? w _ hx219_2)).trans hx219_2
                  replace hx219_3 := (HB.out.cell (World.block_lt_of_cell? w _ hx219_3)).trans hx219_3
                  replace hx219_4 := (HB.out.cell (World.block_lt_of_cell? w _ hx219_4)).trans hx219_4
                  replace hx219_5 := (HB.out.cell (World.block_lt_of_cell? w _ hx219_5)).trans hx219_5
                  have HR219_3 := Aside0.mk hi219_3
                  have HC219_3 := Aside0.mk hl219_3
                  clear hi219_3 hl219_3
                  have HR219_4 := Aside0.mk hi219_4
                  have HC219_4 := Aside0.mk hl219_4
                  clear hi219_4 hl219_4
                  have HR219_5 := Aside0.mk hi219_5
                  have HC219_5 := Aside0.mk hl219_5
                  clear hi219_5 hl219_5
                  replace p219 := eq_true p219
                  replace q219 := eq_true q219
                  go_wp2_with (first | ((with_reducible refine gate_callee (f := 64) rfl ?_); refine goesL_ (some 37) rfl rfl Tryd.func64 (by kernel_rfl) rfl #[.agg #[.int .i64 ((rd_T26 l0_5 x3_2).f0), .string ((rd_T26 l0_5 x3_2).f1), .int .i64 ((rd_T26 l0_5 x3_2).f2), .slice A219_3 ((rd_T26 l0_5 x3_2).f3).length c219_3, .slice A219_4 ((rd_T26 l0_5 x3_2).f4).length c219_4, .slice A219_5 ((rd_T26 l0_5 x3_2).f5).length c219_5]] rfl (by (try simp only [List.map_toArray, List.map_cons, List.map_nil]); first | done | rfl | (simp only [List.length_drop, List.length_take]; rfl)) ?_; (with_reducible refine (ih k2 (by have := HJ1.out; have := HK2.out; omega) ((rd_T26 l0_5 x3_2).f0) ((rd_T26 l0_5 x3_2).f1) ((rd_T26 l0_5 x3_2).f2) _ _ ((rd_T26 l0_5 x3_2).f3) _ _ ((rd_T26 l0_5 x3_2).f4) _ _ ((rd_T26 l0_5 x3_2).f5) false _ ?side1 ?side2 ?side3 ?side4 ?side5 ?side6 A16.out).mono ?_); (case side1 => repeat (first | exact (Kd.C_below HR219_3.out HB.out) | (with_reducible refine Kd.C_alloc ?_ _) | (with_reducible refine Kd.C_drewN ?_ _) | (with_reducible refine Kd.C_drew ?_))); (case side2 => exact HC219_3.out); (case side3 => repeat (first | exact (Kd.C_below HR219_4.out HB.out) | (with_reducible refine Kd.C_alloc ?_ _) | (with_reducible refine Kd.C_drewN ?_ _) | (with_reducible refine Kd.C_drew ?_))); (case side4 => exact HC219_4.out); (case side5 => repeat (first | exact (Kd.C_below HR219_5.out HB.out) | (with_reducible refine Kd.C_alloc ?_ _) | (with_reducible refine Kd.C_drewN ?_ _) | (with_reducible refine Kd.C_drew ?_))); (case side6 => exact HC219_5.out); rintro e w21 ⟨rfl, hb⟩; refine ⟨_, rfl, ?_⟩; have n0_ := Aside0.mk (blk_below (g := gb217) (o := .cells #[.int .i64 a0_0, .string a0_1, .int .i64 a0_2, .slice A0_3 l0_3.length c0_3, .slice A0_4 l0_4.length c0_4, .slice (some ad219) l0_5.length c0_5] 26 (0, 0)) (by (with_reducible repeat (first | refine blk_drewN ?_ _ | refine blk_drew ?_ | refine blk_alloc ?_ _)); exact BK217.out) hb); have n1_ := Aside0.mk (below_step (by repeat (first | (with_reducible first | exact HB.out | apply below_alloc | apply pw_below_drewN | apply below_drew1 | refine below_set ?_ GE217.out) | exact HB.out)) hb); clear BK217; clear HB; have BK217 := n0_; have HB := n1_; clear n0_ n1_; (try clear hb); (try clear hb2); (try clear hk); (try clear hi)))
                  go_ret
                  exact ⟨by first | rfl | (simp [errW_none, errW_some] <;> rfl) | (simp [*, errW_none, errW_some] <;> rfl), by repeat (first | (with_reducible first | exact HB.out | apply below_alloc | apply pw_below_drewN | apply below_drew1 | refine below_set ?_ GE217.out) | exact HB.out)⟩
              · rw [if_neg c15] at H
                exact absurd H (by simp)
            · rw [if_neg c14] at H
              have c14b0 : decide (x3_2 < (l0_5.length : Int)) = false := decide_eq_false c14
              clear c14
              obtain rfl := Option.some.inj H
              have hcz22_0 : wr.cell? ⟨gb217, 0, none⟩ = some (.int .i64 a0_0) := (blk_cell BK217.out 0).trans rfl
              have hcz22_1 : wr.cell? ⟨gb217, 1, none⟩ = some (.string a0_1) := (blk_cell BK217.out 1).trans rfl
              have hcz22_2 : wr.cell? ⟨gb217, 2, none⟩ = some (.int .i64 a0_2) := (blk_cell BK217.out 2).trans rfl
              have hcz22_3 : wr.cell? ⟨gb217, 3, none⟩ = some (.slice A0_3 l0_3.length c0_3) := (blk_cell BK217.out 3).trans rfl
              have hcz22_4 : wr.cell? ⟨gb217, 4, none⟩ = some (.slice A0_4 l0_4.length c0_4) := (blk_cell BK217.out 4).trans rfl
              have hcz22_5 : wr.cell? ⟨gb217, 5, none⟩ = some (.slice A0_5 l0_5.length c0_5) := (blk_cell BK217.out 5).trans rfl
              have hfz22_0 := blk_frozen BK217.out 0
              have hfz22_1 := blk_frozen BK217.out 1
              have hfz22_2 := blk_frozen BK217.out 2
              have hfz22_3 := blk_frozen BK217.out 3
              have hfz22_4 := blk_frozen BK217.out 4
              have hfz22_5 := blk_frozen BK217.out 5
              go_wp2
              go_ret
              exact ⟨by first | rfl | (simp [errW_none, errW_some] <;> rfl) | (simp [*, errW_none, errW_some] <;> rfl), by repeat (first | (with_reducible first | exact HB.out | apply below_alloc | apply pw_below_drewN | apply below_drew1 | refine below_set ?_ GE217.out) | exact HB.out)⟩
end Go.Proofs.YtmlcaecknocpoaaDoor.Pr
namespace Go.Proofs.YtmlcaecknocpoaaDoor.Pr
open Go.RowKit Go.Proofs.YtmlcaecknocpoaaDoorW.PrintWords Go.Proofs.YtmlcaecknocpoaaDoorW.PrintLast Go.Proofs.YtmlcaecknocpoaaDoorW.PrintMore
attribute [local go_sem] max2_int min2_int max_two min_two max_three min_three max_four min_four   
set_option linter.unusedVariables false
set_option linter.unusedSimpArgs false
def chalklinelaw08_few.f (k : Nat) (l0 : List (S42)) (a1_0 : Int) (a1_1 : ByteArray) (a1_2 : Int) (l1_3 : List (S47)) (l1_4 : List (S42)) (l1_5 : List (S26)) : Option (Bool) := if (l0.length : Int) ≤ 30 then ((chalklineref08_Few.f k a1_0 a1_1 a1_2 l1_3 l1_4 l1_5).bind fun t222 => (some t222)) else (some false)
set_option maxHeartbeats 8000000 in
set_option maxRecDepth 100000 in
theorem chalklinelaw08_few.calls (k : Nat) (A0 : Option Addr) (c0 : Nat) (l0 : List (S42)) (a1_0 : Int) (a1_1 : ByteArray) (a1_2 : Int) (A1_3 : Option Addr) (c1_3 : Nat) (l1_3 : List (S47)) (A1_4 : Option Addr) (c1_4 : Nat) (l1_4 : List (S42)) (A1_5 : Option Addr) (c1_5 : Nat) (l1_5 : List (S26)) (r : Bool) (w : World) (hr0 : Kd.C k42 w A0 l0.length l0) (hc0 : l0.length ≤ c0) (hr1_3 : Kd.C k47 w A1_3 l1_3.length l1_3) (hc1_3 : l1_3.length ≤ c1_3) (hr1_4 : Kd.C k42 w A1_4 l1_4.length l1_4) (hc1_4 : l1_4.length ≤ c1_4) (hr1_5 : Kd.C k26 w A1_5 l1_5.length l1_5) (hc1_5 : l1_5.length ≤ c1_5) (h : chalklinelaw08_few.f k l0 a1_0 a1_1 a1_2 l1_3 l1_4 l1_5 = some r) :
    Calls Tryd.prog 37 #[.slice A0 l0.length c0, .agg #[.int .i64 a1_0, .string a1_1, .int .i64 a1_2, .slice A1_3 l1_3.length c1_3, .slice A1_4 l1_4.length c1_4, .slice A1_5 l1_5.length c1_5]] w fun e w' => e = .returned (.bool r) ∧ Below w.heap.size w w' := by
  have hu26 := Tryd.underlying26
  have HR0 := Aside0.mk hr0
  have HC0 := Aside0.mk hc0
  clear hr0 hc0
  have HR1_3 := Aside0.mk hr1_3
  have HC1_3 := Aside0.mk hc1_3
  clear hr1_3 hc1_3
  have HR1_4 := Aside0.mk hr1_4
  have HC1_4 := Aside0.mk hc1_4
  clear hr1_4 hc1_4
  have HR1_5 := Aside0.mk hr1_5
  have HC1_5 := Aside0.mk hc1_5
  clear hr1_5 hc1_5
  have HB := Aside0.mk (Below.refl w.heap.size w)
  have H : (if (l0.length : Int) ≤ 30 then ((chalklineref08_Few.f k a1_0 a1_1 a1_2 l1_3 l1_4 l1_5).bind fun t222 => (some t222)) else (some false)) = some r := h
  clear h
  by_cases c3 : (l0.length : Int) ≤ 30
  · rw [if_pos c3] at H
    have c3b0 : decide ((l0.length : Int) ≤ 30) = true := decide_eq_true c3
    have c3b1 : decide (l0.length ≤ 30) = true := decide_eq_true (by omega)
    clear c3
    replace H := Option.bind_eq_some_iff.mp H
    obtain ⟨t222, A40, H⟩ := H
    replace H : (some t222) = some r := H
    have A4 := Aside0.mk A40
    clear A40
    obtain rfl := Option.some.inj H
    go_enter Tryd.func37, Tryd.ntmps37
    go_wp2_with (first | ((with_reducible refine gate_dst (N := 3) rfl ?_); refine box_event ?hg (N := 3) ?hd (cs := #[.int .i64 a1_0, .string a1_1, .int .i64 a1_2, .slice A1_3 l1_3.length c1_3, .slice A1_4 l1_4.length c1_4, .slice A1_5 l1_5.length c1_5]) (t := 26) ?hr ?_; (case hd => rfl); (case hg => rfl); (case hr => first | (go_simp; done) | (go_simp; rfl)); intro gb221 hg w5 hbox hb; have n0_ := Aside0.mk (below_step (by repeat (first | (with_reducible first | exact HB.out | apply below_alloc | apply pw_below_drewN | apply below_drew1) | exact HB.out)) hb); have n1_ := Aside0.mk (hbox); have n2_ := Aside0.mk ((by rw [hg]; exact (below_size (by repeat (first | (with_reducible first | exact HB.out | apply below_alloc | apply pw_below_drewN | apply below_drew1) | exact HB.out))) : w.heap.size ≤ gb221)); have n3_ := Aside0.mk ((by rw [hg]; exact (below_size (by repeat (first | (with_reducible first | exact HB.out | apply below_alloc | apply pw_below_drewN | apply below_drew1) | exact HB.out))) : w.heap.size ≤ gb221)); clear HB; have HB := n0_; have BK221 := n1_; have GW221 := n2_; have GE221 := n3_; clear n0_ n1_ n2_ n3_; clear hb hbox hg; have hcz6_0 : w5.cell? ⟨gb221, 0, none⟩ = some (.int .i64 a1_0) := (blk_cell BK221.out 0).trans rfl; have hcz6_1 : w5.cell? ⟨gb221, 1, none⟩ = some (.string a1_1) := (blk_cell BK221.out 1).trans rfl; have hcz6_2 : w5.cell? ⟨gb221, 2, none⟩ = some (.int .i64 a1_2) := (blk_cell BK221.out 2).trans rfl; have hcz6_3 : w5.cell? ⟨gb221, 3, none⟩ = some (.slice A1_3 l1_3.length c1_3) := (blk_cell BK221.out 3).trans rfl; have hcz6_4 : w5.cell? ⟨gb221, 4, none⟩ = some (.slice A1_4 l1_4.length c1_4) := (blk_cell BK221.out 4).trans rfl; have hcz6_5 : w5.cell? ⟨gb221, 5, none⟩ = some (.slice A1_5 l1_5.length c1_5) := (blk_cell BK221.out 5).trans rfl; have hfz6_0 := blk_frozen BK221.out 0; have hfz6_1 := blk_frozen BK221.out 1; have hfz6_2 := blk_frozen BK221.out 2; have hfz6_3 := blk_frozen BK221.out 3; have hfz6_4 := blk_frozen BK221.out 4; have hfz6_5 := blk_frozen BK221.out 5) | (go_at_call 64; (with_reducible refine (chalklineref08_Few.calls k a1_0 a1_1 a1_2 _ _ l1_3 _ _ l1_4 _ _ l1_5 t222 _ ?side1 ?side2 ?side3 ?side4 ?side5 ?side6 A4.out).mono ?_); (case side1 => repeat (first | exact (Kd.C_below HR1_3.out HB.out) | (with_reducible refine Kd.C_alloc ?_ _) | (with_reducible refine Kd.C_drewN ?_ _) | (with_reducible refine Kd.C_drew ?_))); (case side2 => exact HC1_3.out); (case side3 => repeat (first | exact (Kd.C_below HR1_4.out HB.out) | (with_reducible refine Kd.C_alloc ?_ _) | (with_reducible refine Kd.C_drewN ?_ _) | (with_reducible refine Kd.C_drew ?_))); (case side4 => exact HC1_4.out); (case side5 => repeat (first | exact (Kd.C_below HR1_5.out HB.out) | (with_reducible refine Kd.C_alloc ?_ _) | (with_reducible refine Kd.C_drewN ?_ _) | (with_reducible refine Kd.C_drew ?_))); (case side6 => exact HC1_5.out); rintro e w7 ⟨rfl, hb⟩; have n0_ := Aside0.mk (blk_below (g := gb221) (o := .cells #[.int .i64 a1_0, .string a1_1, .int .i64 a1_2, .slice A1_3 l1_3.length c1_3, .slice A1_4 l1_4.length c1_4, .slice A1_5 l1_5.length c1_5] 26 (0, 0)) (by (with_reducible repeat (first | refine blk_drewN ?_ _ | refine blk_drew ?_ | refine blk_alloc ?_ _)); exact BK221.out) hb); have n1_ := Aside0.mk (below_step (by repeat (first | (with_reducible first | exact HB.out | apply below_alloc | apply pw_below_drewN | apply below_drew1 | refine below_set ?_ GE221.out) | exact HB.out)) hb); clear BK221; clear HB; have BK221 := n0_; have HB := n1_; clear n0_ n1_; (try clear hb); (try clear hb2); (try clear hk); (try clear hi)))
    go_ret
    exact ⟨by first | rfl | (simp [errW_none, errW_some] <;> rfl) | (simp [*, errW_none, errW_some] <;> rfl), by repeat (first | (with_reducible first | exact HB.out | apply below_alloc | apply pw_below_drewN | apply below_drew1 | refine below_set ?_ GE221.out) | exact HB.out)⟩
  · rw [if_neg c3] at H
    have c3b0 : decide ((l0.length : Int) ≤ 30) = false := decide_eq_false c3
    have c3b1 : decide (l0.length ≤ 30) = false := decide_eq_false (by omega)
    clear c3
    obtain rfl := Option.some.inj H
    go_enter Tryd.func37, Tryd.ntmps37
    go_wp2_with (first | ((with_reducible refine gate_dst (N := 3) rfl ?_); refine box_event ?hg (N := 3) ?hd (cs := #[.int .i64 a1_0, .string a1_1, .int .i64 a1_2, .slice A1_3 l1_3.length c1_3, .slice A1_4 l1_4.length c1_4, .slice A1_5 l1_5.length c1_5]) (t := 26) ?hr ?_; (case hd => rfl); (case hg => rfl); (case hr => first | (go_simp; done) | (go_simp; rfl)); intro gb221 hg w8 hbox hb; have n0_ := Aside0.mk (below_step (by repeat (first | (with_reducible first | exact HB.out | apply below_alloc | apply pw_below_drewN | apply below_drew1) | exact HB.out)) hb); have n1_ := Aside0.mk (hbox); have n2_ := Aside0.mk ((by rw [hg]; exact (below_size (by repeat (first | (with_reducible first | exact HB.out | apply below_alloc | apply pw_below_drewN | apply below_drew1) | exact HB.out))) : w.heap.size ≤ gb221)); have n3_ := Aside0.mk ((by rw [hg]; exact (below_size (by repeat (first | (with_reducible first | exact HB.out | apply below_alloc | apply pw_below_drewN | apply below_drew1) | exact HB.out))) : w.heap.size ≤ gb221)); clear HB; have HB := n0_; have BK221 := n1_; have GW221 := n2_; have GE221 := n3_; clear n0_ n1_ n2_ n3_; clear hb hbox hg))
    go_ret
    exact ⟨by first | rfl | (simp [errW_none, errW_some] <;> rfl) | (simp [*, errW_none, errW_some] <;> rfl), by repeat (first | (with_reducible first | exact HB.out | apply below_alloc | apply pw_below_drewN | apply below_drew1 | refine below_set ?_ GE221.out) | exact HB.out)⟩
end Go.Proofs.YtmlcaecknocpoaaDoor.Pr
namespace Go.Proofs.YtmlcaecknocpoaaDoor.Pr
open Go.RowKit Go.Proofs.YtmlcaecknocpoaaDoorW.PrintWords Go.Proofs.YtmlcaecknocpoaaDoorW.PrintLast Go.Proofs.YtmlcaecknocpoaaDoorW.PrintMore
attribute [local go_sem] max2_int min2_int max_two min_two max_three min_three max_four min_four   
set_option linter.unusedVariables false
set_option linter.unusedSimpArgs false
end Go.Proofs.YtmlcaecknocpoaaDoor.Pr
namespace Go.Proofs.YtmlcaecknocpoaaDoor.Pr
open Go.RowKit Go.Proofs.YtmlcaecknocpoaaDoorW.PrintWords Go.Proofs.YtmlcaecknocpoaaDoorW.PrintLast Go.Proofs.YtmlcaecknocpoaaDoorW.PrintMore
attribute [local go_sem] max2_int min2_int max_two min_two max_three min_three max_four min_four   
set_option linter.unusedVariables false
set_option linter.unusedSimpArgs false
end Go.Proofs.YtmlcaecknocpoaaDoor.Pr
namespace Go.Proofs.YtmlcaecknocpoaaDoor.Pr
open Go.RowKit Go.Proofs.YtmlcaecknocpoaaDoorW.PrintWords Go.Proofs.YtmlcaecknocpoaaDoorW.PrintLast Go.Proofs.YtmlcaecknocpoaaDoorW.PrintMore
attribute [local go_sem] max2_int min2_int max_two min_two max_three min_three max_four min_four   
set_option linter.unusedVariables false
set_option linter.unusedSimpArgs false
end Go.Proofs.YtmlcaecknocpoaaDoor.Pr
namespace Go.Proofs.YtmlcaecknocpoaaDoor.Pr
open Go.RowKit Go.Proofs.YtmlcaecknocpoaaDoorW.PrintWords Go.Proofs.YtmlcaecknocpoaaDoorW.PrintLast Go.Proofs.YtmlcaecknocpoaaDoorW.PrintMore
attribute [local go_sem] max2_int min2_int max_two min_two max_three min_three max_four min_four   
set_option linter.unusedVariables false
set_option linter.unusedSimpArgs false
end Go.Proofs.YtmlcaecknocpoaaDoor.Pr
namespace Go.Proofs.YtmlcaecknocpoaaDoor.Pr
open Go.RowKit Go.Proofs.YtmlcaecknocpoaaDoorW.PrintWords Go.Proofs.YtmlcaecknocpoaaDoorW.PrintLast Go.Proofs.YtmlcaecknocpoaaDoorW.PrintMore
attribute [local go_sem] max2_int min2_int max_two min_two max_three min_three max_four min_four   
set_option linter.unusedVariables false
set_option linter.unusedSimpArgs false
end Go.Proofs.YtmlcaecknocpoaaDoor.Pr
namespace Go.Proofs.YtmlcaecknocpoaaDoor.Pr
open Go.RowKit Go.Proofs.YtmlcaecknocpoaaDoorW.PrintWords Go.Proofs.YtmlcaecknocpoaaDoorW.PrintLast Go.Proofs.YtmlcaecknocpoaaDoorW.PrintMore
attribute [local go_sem] max2_int min2_int max_two min_two max_three min_three max_four min_four   
set_option linter.unusedVariables false
set_option linter.unusedSimpArgs false
end Go.Proofs.YtmlcaecknocpoaaDoor.Pr
namespace Go.Proofs.YtmlcaecknocpoaaDoor.Pr
open Go.RowKit Go.Proofs.YtmlcaecknocpoaaDoorW.PrintWords Go.Proofs.YtmlcaecknocpoaaDoorW.PrintLast Go.Proofs.YtmlcaecknocpoaaDoorW.PrintMore
attribute [local go_sem] max2_int min2_int max_two min_two max_three min_three max_four min_four   
set_option linter.unusedVariables false
set_option linter.unusedSimpArgs false
end Go.Proofs.YtmlcaecknocpoaaDoor.Pr
namespace Go.Proofs.YtmlcaecknocpoaaDoor.Pr
open Go.RowKit Go.Proofs.YtmlcaecknocpoaaDoorW.PrintWords Go.Proofs.YtmlcaecknocpoaaDoorW.PrintLast Go.Proofs.YtmlcaecknocpoaaDoorW.PrintMore
attribute [local go_sem] max2_int min2_int max_two min_two max_three min_three max_four min_four   
set_option linter.unusedVariables false
set_option linter.unusedSimpArgs false
end Go.Proofs.YtmlcaecknocpoaaDoor.Pr
namespace Go.Proofs.YtmlcaecknocpoaaDoor.Pr
open Go.RowKit Go.Proofs.YtmlcaecknocpoaaDoorW.PrintWords Go.Proofs.YtmlcaecknocpoaaDoorW.PrintLast Go.Proofs.YtmlcaecknocpoaaDoorW.PrintMore
attribute [local go_sem] max2_int min2_int max_two min_two max_three min_three max_four min_four   
set_option linter.unusedVariables false
set_option linter.unusedSimpArgs false
end Go.Proofs.YtmlcaecknocpoaaDoor.Pr
namespace Go.Proofs.YtmlcaecknocpoaaDoor.Pr
open Go.RowKit Go.Proofs.YtmlcaecknocpoaaDoorW.PrintWords Go.Proofs.YtmlcaecknocpoaaDoorW.PrintLast Go.Proofs.YtmlcaecknocpoaaDoorW.PrintMore
attribute [local go_sem] max2_int min2_int max_two min_two max_three min_three max_four min_four   
set_option linter.unusedVariables false
set_option linter.unusedSimpArgs false
end Go.Proofs.YtmlcaecknocpoaaDoor.Pr
namespace Go.Proofs.YtmlcaecknocpoaaDoor.Pr
open Go.RowKit Go.Proofs.YtmlcaecknocpoaaDoorW.PrintWords Go.Proofs.YtmlcaecknocpoaaDoorW.PrintLast Go.Proofs.YtmlcaecknocpoaaDoorW.PrintMore
attribute [local go_sem] max2_int min2_int max_two min_two max_three min_three max_four min_four   
set_option linter.unusedVariables false
set_option linter.unusedSimpArgs false
end Go.Proofs.YtmlcaecknocpoaaDoor.Pr
namespace Go.Proofs.YtmlcaecknocpoaaDoor.It
set_option linter.unusedVariables false
set_option linter.unusedSimpArgs false
open Go Go.RowKit Go.Shelf Go.Proofs.YtmlcaecknocpoaaDoorW.PrintWords Go.Proofs.YtmlcaecknocpoaaDoorW.PrintLast Go.Proofs.YtmlcaecknocpoaaDoor.Pr Go.Proofs.YtmlcaecknocpoaaDoor.Sp
theorem tl_iff (a b : ByteArray) : a.toList = b.toList ↔ a = b := by
  rw [ByteArray.toList_eq, ByteArray.toList_eq]
  constructor
  · intro h
    obtain ⟨⟨l⟩⟩ := a
    obtain ⟨⟨m⟩⟩ := b
    have : l = m := h
    rw [this]
  · rintro rfl; rfl
theorem has_cons (b : S42) (r : List S42) (nm : ByteArray) : has (b :: r) nm = if b.f0 = nm then true else has r nm := by
  unfold has
  rw [seek]
  by_cases h : b.f0 = nm
  · rw [if_pos h, if_pos h]; rfl
  · rw [if_neg h, if_neg h]
theorem bound_ev (l : List S42) (nm : ByteArray) (hl : l.length ≤ 4611686018427387904) : Ev (fun k => chalklinelaw08_bound.f k l nm) (has l nm) := by
  have loop : ∀ d j : Nat, j + d = l.length → Ev (fun k => chalklinelaw08_bound.l0 k l nm (j : Int)) (has (l.drop j) nm) := by
    intro d
    induction d with
    | zero =>
      intro j hj
      refine Ev.step (f := fun _ => some false) (fun K => ?_) (Ev.val (by rw [List.drop_of_length_le (by omega)]; rfl))
      simp only [chalklinelaw08_bound.l0]
      rw [if_neg (by omega)]
    | succ d ih =>
      intro j hj
      have hn := ih (j + 1) (by omega)
      rw [drop_rd42 l j (by omega), has_cons]
      by_cases h : (rd_T42 l (j : Int)).f0 = nm
      · rw [if_pos h]
        refine Ev.step (f := fun _ => some true) (fun K => ?_) (Ev.now _)
        simp only [chalklinelaw08_bound.l0]
        rw [if_pos (by omega), if_pos (by omega), if_pos ((tl_iff _ _).2 h)]
      · rw [if_neg h]
        refine Ev.step (f := fun k => chalklinelaw08_bound.l0 k l nm ((j + 1 : Nat) : Int)) (fun K => ?_) hn
        simp only [chalklinelaw08_bound.l0]
        rw [if_pos (by omega), if_pos (by omega), if_neg (fun e => h ((tl_iff _ _).1 e)), wrap_one j (by omega)]
  have := loop l.length 0 (by omega)
  rw [List.drop_zero] at this
  exact this
theorem few8_ev (s : Nat) : ∀ x : S26, size x ≤ s → size x ≤ 4611686018427387904 → NmOk x → ∃ r : Bool, Ev (fun k => chalklineref08_Few.f k x.f0 x.f1 x.f2 x.f3 x.f4 x.f5) r := by
  induction s with
  | zero => intro x h; rw [size_eq] at h; omega
  | succ s ih =>
    rintro ⟨k, nm, n, ts, bs, l⟩ hs hb hn
    have hsz := refSize_ev (size ⟨k, nm, n, ts, bs, l⟩) ⟨k, nm, n, ts, bs, l⟩ (Nat.le_refl _) hb
    simp only [size] at hs hb
    have hlen := len_sizes l
    have loop : ∀ d j : Nat, j + d = l.length → ∃ r, Ev (fun K => chalklineref08_Few.l0 K (j : Int) k nm n ts bs l) r := by
      intro d
      induction d with
      | zero =>
        intro j hj
        refine ⟨true, Ev.step (f := fun _ => some true) (fun K => ?_) (Ev.now _)⟩
        simp only [chalklineref08_Few.l0]
        rw [if_neg (by omega)]
      | succ d ihd =>
        intro j hj
        have hlt : j < l.length := by omega
        have hc := size_child l j hlt
        obtain ⟨r1, h1⟩ := ih (rd_T26 l j) (by omega) (by omega) (hn.child j hlt)
        obtain ⟨r2, h2⟩ := ihd (j + 1) (by omega)
        refine ⟨if r1 = true then r2 else false, Ev.step (f := fun K => (chalklineref08_Few.f K (rd_T26 l (j : Int)).f0 (rd_T26 l (j : Int)).f1 (rd_T26 l (j : Int)).f2 (rd_T26 l (j : Int)).f3 (rd_T26 l (j : Int)).f4 (rd_T26 l (j : Int)).f5).bind fun t220 => if t220 = true then chalklineref08_Few.l0 K ((j + 1 : Nat) : Int) k nm n ts bs l else some false) (fun K => ?_) (Ev.bind h1 (Ev.ite (fun h => ?_) (fun h => ?_)))⟩
        · simp only [chalklineref08_Few.l0]
          rw [if_pos (by omega), if_pos (by omega), wrap_one j (by omega)]
        · rw [if_pos h]; exact h2
        · rw [if_neg h]; exact Ev.now _
    have j0 : ∀ b : Bool, ∃ r, Ev (fun K => chalklineref08_Few.j0 K b k nm n ts bs l) r := fun b => by
      cases b
      · obtain ⟨r, h⟩ := loop l.length 0 (by omega)
        refine ⟨r, Ev.step (f := fun K => chalklineref08_Few.l0 K ((0 : Nat) : Int) k nm n ts bs l) (fun K => ?_) h⟩
        simp only [chalklineref08_Few.j0, Bool.false_eq_true, if_false]
        rfl
      · refine ⟨false, Ev.step (f := fun _ => some false) (fun K => ?_) (Ev.now _)⟩
        simp only [chalklineref08_Few.j0, if_true]
    obtain ⟨r1, h1⟩ := j0 true
    obtain ⟨r2, h2⟩ := j0 (decide ((((size ⟨k, nm, n, ts, bs, l⟩ : Nat) : Int)) > 300))
    by_cases c1 : (l.length : Int) > 4
    · refine ⟨r1, Ev.step (f := fun K => chalklineref08_Few.j0 K true k nm n ts bs l) (fun K => ?_) h1⟩
      simp only [chalklineref08_Few.f]; rw [if_pos c1]
    · by_cases c2 : (ts.length : Int) > 4
      · refine ⟨r1, Ev.step (f := fun K => chalklineref08_Few.j0 K true k nm n ts bs l) (fun K => ?_) h1⟩
        simp only [chalklineref08_Few.f]; rw [if_neg c1, if_pos c2]
      · by_cases c3 : (bs.length : Int) > 10
        · refine ⟨r1, Ev.step (f := fun K => chalklineref08_Few.j0 K true k nm n ts bs l) (fun K => ?_) h1⟩
          simp only [chalklineref08_Few.f]; rw [if_neg c1, if_neg c2, if_pos c3]
        · refine ⟨r2, Ev.step (f := fun K => (chalklineref06_Size.f K k nm n ts bs l).bind fun t218 => chalklineref08_Few.j0 K (decide (t218 > 300)) k nm n ts bs l) (fun K => ?_) (Ev.bind hsz h2)⟩
          simp only [chalklineref08_Few.f]; rw [if_neg c1, if_neg c2, if_neg c3]
theorem lawfew_ev (env : List S42) (x : S26) (hs : size x ≤ 4611686018427387904) (hn : NmOk x) : ∃ r : Bool, (r = true → env.length ≤ 30) ∧ Ev (fun k => chalklinelaw08_few.f k env x.f0 x.f1 x.f2 x.f3 x.f4 x.f5) r := by
  obtain ⟨r, h⟩ := few8_ev (size x) x (Nat.le_refl _) hs hn
  by_cases c : (env.length : Int) ≤ 30
  · exact ⟨r, fun _ => by omega, Ev.congr (fun K => if_pos c) (Ev.bind h (Ev.now _))⟩
  · exact ⟨false, (fun h => by cases h), Ev.congr (fun K => if_neg c) (Ev.now _)⟩
end Go.Proofs.YtmlcaecknocpoaaDoor.It
namespace Go.Proofs.YtmlcaecknocpoaaDoor.Pr
open Go.RowKit Go.Proofs.YtmlcaecknocpoaaDoorW.PrintWords Go.Proofs.YtmlcaecknocpoaaDoorW.PrintLast Go.Proofs.YtmlcaecknocpoaaDoorW.PrintMore
attribute [local go_sem] max2_int min2_int max_two min_two max_three min_three max_four min_four   
set_option linter.unusedVariables false
set_option linter.unusedSimpArgs false
end Go.Proofs.YtmlcaecknocpoaaDoor.Pr
namespace Go.Proofs.YtmlcaecknocpoaaDoor.Sp
open Go.Proofs.YtmlcaecknocpoaaDoor.Pr
def drop1 (env : List S42) (nm : ByteArray) : List S42 := env.filter fun b => decide (b.f0 ≠ nm)
theorem seek_drop1 (env : List S42) (nm s : ByteArray) : seek (drop1 env nm) s = if s = nm then none else seek env s := by
  induction env with
  | nil => simp [drop1, seek]
  | cons b env ih =>
    unfold drop1 at ih ⊢
    by_cases h : b.f0 = nm
    · rw [List.filter_cons_of_neg (by simp [h]), ih, seek]
      by_cases e : s = nm
      · rw [if_pos e, if_pos e]
      · rw [if_neg e, if_neg e, if_neg (fun e' => e (e'.symm.trans h))]
    · rw [List.filter_cons_of_pos (by simp [h]), seek, ih, seek]
      by_cases e : b.f0 = s
      · rw [if_pos e, if_pos e, if_neg (fun e' => h (e.trans e'))]
      · rw [if_neg e, if_neg e]
theorem envOk_drop1 {env : List S42} (nm : ByteArray) (h : envOk env = true) : envOk (drop1 env nm) = true := by
  unfold envOk at h ⊢
  rw [Bool.and_eq_true, fresh_nodup] at h ⊢
  refine ⟨List.all_eq_true.2 fun b hb => List.all_eq_true.1 h.1 b (List.mem_filter.1 hb).1, ?_⟩
  exact h.2.sublist (List.filter_sublist.map _)
theorem typ_free {env : List S42} {x : S26} (h : typ env x = 0) : (∀ s ∈ free x, has env s = true) ∧ (free x = [] → typ [] x = 0) ∧ (∀ nm ∈ free x, typ (drop1 env nm) x = 81) := by
  obtain ⟨h1, h2, h3⟩ := typ_zero.1 h
  have hf := fm_of (check_zero.1 h2).1
  refine ⟨?_, fun e => ?_, fun nm hm => ?_⟩
  · have := first_less hf env env (fun _ => .inl rfl) h3
    rw [h3] at this
    cases ha : (free x).all (has env)
    · rw [ha] at this; exact absurd this (by decide)
    · exact List.all_eq_true.1 ha
  · have := first_less hf env [] (fun _ => .inr rfl) h3
    rw [e] at this
    exact typ_zero.2 ⟨rfl, h2, this⟩
  · have := first_less hf env (drop1 env nm) (fun s => by rw [seek_drop1]; by_cases e : s = nm; exact .inr (if_pos e); exact .inl (if_neg e)) h3
    have hn : (free x).all (has (drop1 env nm)) = false := by
      rw [Bool.eq_false_iff]
      intro ha
      have := List.all_eq_true.1 ha nm hm
      unfold has at this
      rw [seek_drop1, if_pos rfl] at this
      cases this
    rw [hn] at this
    unfold typ
    rw [if_pos (envOk_drop1 nm h1), if_pos h2]
    exact this
end Go.Proofs.YtmlcaecknocpoaaDoor.Sp
namespace Go.Proofs.YtmlcaecknocpoaaDoor.It
set_option linter.unusedVariables false
set_option linter.unusedSimpArgs false
open Go Go.RowKit Go.Shelf Go.Proofs.YtmlcaecknocpoaaDoorW.PrintWords Go.Proofs.YtmlcaecknocpoaaDoorW.PrintLast Go.Proofs.YtmlcaecknocpoaaDoor.Pr Go.Proofs.YtmlcaecknocpoaaDoor.Sp
section
variable {w : World} {env : List S42} {A : Option Addr} {c : Nat} {x : S26} {A3 : Option Addr} {c3 : Nat} {A4 : Option Addr} {c4 : Nat} {A5 : Option Addr} {c5 : Nat}
theorem few8_calls (hE : EnvA w env A c) (ha : Arg w x A3 c3 A4 c4 A5 c5) : ∃ r : Bool, (r = true → env.length ≤ 30) ∧ ∀ W, Below w.heap.size w W → Calls Tryd.prog 37 #[.slice A env.length c, .agg #[.int .i64 x.f0, .string x.f1, .int .i64 x.f2, .slice A3 x.f3.length c3, .slice A4 x.f4.length c4, .slice A5 x.f5.length c5]] W
    fun e w' => e = .returned (.bool r) ∧ Below W.heap.size W w' := by
  obtain ⟨r, h30, hr⟩ := lawfew_ev env x ha.size ha.nm
  obtain ⟨k, hk⟩ := hr.rounds
  exact ⟨r, h30, fun W hW => chalklinelaw08_few.calls k _ _ _ _ _ _ _ _ _ _ _ _ _ _ _ _ W (Kd.C_below hE.row hW) hE.le (ha.at_.below hW).g3 ha.at_.l3 (ha.at_.below hW).g4 ha.at_.l4 (ha.at_.below hW).g5 ha.at_.l5 hk⟩
theorem typA (hE : EnvA w env A c) (ha : Arg w x A3 c3 A4 c4 A5 c5) (hlen : env.length ≤ 1000000) (ht : Tabs w) (hk : Kinds w) : Calls Tryd.prog 38 #[.slice A env.length c, .agg #[.int .i64 x.f0, .string x.f1, .int .i64 x.f2, .slice A3 x.f3.length c3, .slice A4 x.f4.length c4, .slice A5 x.f5.length c5]] w
    fun e w' => e = .returned (.int .i64 (typ env x)) ∧ Below w.heap.size w w' := typ_calls env A c x A3 c3 A4 c4 A5 c5 w hE ha.at_ ha.size ha.deep ht hk (by have := ha.nb; omega)
end
end Go.Proofs.YtmlcaecknocpoaaDoor.It
namespace Go.Proofs.YtmlcaecknocpoaaDoor.It
set_option linter.unusedVariables false
set_option linter.unusedSimpArgs false
open Go Go.RowKit Go.Shelf Go.Proofs.YtmlcaecknocpoaaDoorW.PrintWords Go.Proofs.YtmlcaecknocpoaaDoorW.PrintLast Go.Proofs.YtmlcaecknocpoaaDoor.Pr Go.Proofs.YtmlcaecknocpoaaDoor.Sp
def Strs (w : World) (A : Option Addr) (l : List ByteArray) : Prop := Kd.C Kd.string w A l.length l
theorem Strs.below {w w1 : World} {A : Option Addr} {l : List ByteArray} (h : Strs w A l) (hb : Below w.heap.size w w1) : Strs w1 A l := Kd.C_below h hb
section
variable {w : World} {x : S26} {A3 : Option Addr} {c3 : Nat} {A4 : Option Addr} {c4 : Nat} {A5 : Option Addr} {c5 : Nat}
theorem rowR {w w1 : World} {v : Value} {l : List ByteArray} (h : Kd.R Kd.string 9 w1 w.heap.size (fun _ => True) v l) : ∃ A c, v = .slice A l.length c ∧ l.length ≤ c ∧ Strs w1 A l := by
  obtain ⟨A, c, rfl⟩ := Kd.R_slice h
  exact ⟨A, c, rfl, (Kd.R_reads' h).2.1, (Kd.R_reads' h).2.2⟩
theorem free_at (x : S26) (A3 : Option Addr) (c3 : Nat) (A4 : Option Addr) (c4 : Nat) (A5 : Option Addr) (c5 : Nat) (w : World) (hat : At w x A3 c3 A4 c4 A5 c5) (hdp : Deep x) (hnb : nb x ≤ 400000) (hnt : nt x ≤ 1000000) :
    Calls Tryd.prog 28 #[.agg #[.int .i64 x.f0, .string x.f1, .int .i64 x.f2, .slice A3 x.f3.length c3, .slice A4 x.f4.length c4, .slice A5 x.f5.length c5]] w fun e w' =>
      ∃ A c, e = .returned (.slice A (free x).length c) ∧ Below w.heap.size w w' ∧ Strs w' A (free x) :=
  (free_calls x A3 c3 A4 c4 A5 c5 w hat hdp hnb hnt).mono fun e w' ⟨v, he, hb, hr⟩ => by
    obtain ⟨A, c, rfl, _, h⟩ := rowR hr
    exact ⟨A, c, he, hb, h⟩
theorem Arg.free (h : Arg w x A3 c3 A4 c4 A5 c5) : Calls Tryd.prog 28 #[.agg #[.int .i64 x.f0, .string x.f1, .int .i64 x.f2, .slice A3 x.f3.length c3, .slice A4 x.f4.length c4, .slice A5 x.f5.length c5]] w fun e w' =>
      ∃ A c, e = .returned (.slice A (Sp.free x).length c) ∧ Below w.heap.size w w' ∧ Strs w' A (Sp.free x) := free_at x A3 c3 A4 c4 A5 c5 w h.at_ h.deep h.nb h.nt
end
structure St2 (w0 w : World) (B : Nat) (x : S26) (A3 : Option Addr) (c3 : Nat) (A4 : Option Addr) (c4 : Nat) (A5 : Option Addr) (c5 : Nat) (C : Nat) (y : S26) (B3 : Option Addr) (d3 : Nat) (B4 : Option Addr) (d4 : Nat) (B5 : Option Addr) (d5 : Nat) : Prop where
  bx : BoxF w B x A3 c3 A4 c4 A5 c5
  byy : BoxF w C y B3 d3 B4 d4 B5 d5
  b : Below w0.heap.size w0 w
section
variable {w0 w : World} {B C : Nat} {x y : S26} {A3 : Option Addr} {c3 : Nat} {A4 : Option Addr} {c4 : Nat} {A5 : Option Addr} {c5 : Nat} {B3 : Option Addr} {d3 : Nat} {B4 : Option Addr} {d4 : Nat} {B5 : Option Addr} {d5 : Nat}
theorem St2.below (h : St2 w0 w B x A3 c3 A4 c4 A5 c5 C y B3 d3 B4 d4 B5 d5) {w1 : World} (g : Below w.heap.size w w1) : St2 w0 w1 B x A3 c3 A4 c4 A5 c5 C y B3 d3 B4 d4 B5 d5 := ⟨h.bx.below g, h.byy.below g, h.b.trans (g.mono h.b.size)⟩
theorem St2.drew (h : St2 w0 w B x A3 c3 A4 c4 A5 c5 C y B3 d3 B4 d4 B5 d5) : St2 w0 w.drew B x A3 c3 A4 c4 A5 c5 C y B3 d3 B4 d4 B5 d5 := h.below (below_drew (Below.refl _ _))
theorem St2.start (h : At w0 x A3 c3 A4 c4 A5 c5) (h' : At w0 y B3 d3 B4 d4 B5 d5) : St2 w0 ((w0.alloc (.cells #[.int .i64 x.f0, .string x.f1, .int .i64 x.f2, .slice A3 x.f3.length c3, .slice A4 x.f4.length c4, .slice A5 x.f5.length c5] 26)).alloc (.cells #[.int .i64 y.f0, .string y.f1, .int .i64 y.f2, .slice B3 y.f3.length d3, .slice B4 y.f4.length d4, .slice B5 y.f5.length d5] 26)) w0.heap.size x A3 c3 A4 c4 A5 c5 (w0.heap.size + 1) y B3 d3 B4 d4 B5 d5 :=
  ⟨⟨heap_new2a w0 _ _, h.below (up2 w0 _ _)⟩, ⟨heap_new2b w0 _ _, h'.below (up2 w0 _ _)⟩, up2 w0 _ _⟩
end
end Go.Proofs.YtmlcaecknocpoaaDoor.It
namespace Go.Proofs.YtmlcaecknocpoaaDoor.It
set_option linter.unusedVariables false
set_option linter.unusedSimpArgs false
open Go Go.RowKit Go.Shelf Go.Proofs.YtmlcaecknocpoaaDoorW.PrintWords Go.Proofs.YtmlcaecknocpoaaDoorW.PrintLast Go.Proofs.YtmlcaecknocpoaaDoor.Pr Go.Proofs.YtmlcaecknocpoaaDoor.Sp
attribute [local go_sem ↓] Go.wp_at_zero Go.wp_at_succ
section
variable {w : World} {x : S26} {A3 : Option Addr} {c3 : Nat} {A4 : Option Addr} {c4 : Nat} {A5 : Option Addr} {c5 : Nat} {bs : List S42} {B : Option Addr} {d : Nat}
end
theorem C_take {α : Type} {d : Kd α} {w : World} {A : Option Addr} {l : List α} (h : Kd.C d w A l.length l) (j : Nat) (hj : j ≤ l.length) : Kd.C d w A j (l.take j) := by
  refine ⟨by simp; omega, Nat.le_trans hj h.2.1, fun h0 => ?_⟩
  obtain ⟨ad, e, hh⟩ := h.2.2 (by omega)
  refine ⟨ad, e, fun i p hp => hh i p ?_⟩
  rw [List.getElem?_take] at hp
  split at hp
  · exact hp
  · cases hp
theorem bound_calls (l : List S42) (A : Option Addr) (c : Nat) (j : Nat) (nm : ByteArray) (W : World) (h : Kd.C k42 W A l.length l) (hc : l.length ≤ c) (hl : l.length ≤ 1000000) (hj : j ≤ l.length) :
    Calls Tryd.prog 39 #[.slice A j c, .string nm] W fun e w' => e = .returned (.bool (has (l.take j) nm)) ∧ Below W.heap.size W w' := by
  obtain ⟨k, hk⟩ := (bound_ev (l.take j) nm (by simp; omega)).rounds
  have h2 := C_take h j hj
  have e : (l.take j).length = j := by simp; omega
  have := chalklinelaw08_bound.calls k A c (l.take j) nm _ W (by rw [e]; exact h2) (by rw [e]; omega) hk
  rw [e] at this
  exact this.mono fun e w1 ⟨h1, h2⟩ => ⟨h1, h2.below⟩
end Go.Proofs.YtmlcaecknocpoaaDoor.It
namespace Go.Proofs.YtmlcaecknocpoaaDoor.It
set_option linter.unusedVariables false
set_option linter.unusedSimpArgs false
open Go Go.RowKit Go.Shelf Go.Proofs.YtmlcaecknocpoaaDoorW.PrintWords Go.Proofs.YtmlcaecknocpoaaDoorW.PrintLast Go.Proofs.YtmlcaecknocpoaaDoor.Pr Go.Proofs.YtmlcaecknocpoaaDoor.Sp
attribute [local go_sem ↓] Go.wp_at_zero Go.wp_at_succ
theorem drop1_snoc (env : List S42) (nm : ByteArray) (i : Nat) (hi : i < env.length) : drop1 (env.take (i + 1)) nm = drop1 (env.take i) nm ++ (if (rd_T42 env i).f0 = nm then [] else [rd_T42 env i]) := by
  have e : env.take (i + 1) = env.take i ++ [rd_T42 env i] := by
    rw [List.take_succ_eq_append_getElem hi]
    simp [rd_T42, List.getD, hi]
  unfold drop1
  rw [e, List.filter_append]
  congr 1
  by_cases h : (rd_T42 env i).f0 = nm
  · rw [if_pos h]; simp [h]
  · rw [if_neg h]; simp [h]
theorem drop1_len (env : List S42) (nm : ByteArray) (i : Nat) : (drop1 (env.take i) nm).length ≤ env.length := by
  unfold drop1
  have h1 := List.length_filter_le (fun b => decide (b.f0 ≠ nm)) (env.take i)
  rw [List.length_take] at h1
  omega
theorem drop1_mem {env : List S42} {nm : ByteArray} {b : S42} (h : b ∈ drop1 env nm) : b ∈ env := (List.mem_filter.1 h).1
theorem boundE (env : List S42) (A : Option Addr) (c : Nat) (nm : ByteArray) (W : World) (h : EnvA W env A c) (hl : env.length ≤ 1000000) :
    Calls Tryd.prog 39 #[.slice A env.length c, .string nm] W fun e w' => e = .returned (.bool (has env nm)) ∧ Below W.heap.size W w' := by
  have := bound_calls env A c env.length nm W h.row h.le hl (Nat.le_refl _)
  rwa [List.take_length] at this
section
variable {w : World} {x : S26} {A3 : Option Addr} {c3 : Nat} {A4 : Option Addr} {c4 : Nat} {A5 : Option Addr} {c5 : Nat}
theorem typNil (ha : Arg w x A3 c3 A4 c4 A5 c5) (ht : Tabs w) (hk : Kinds w) : Calls Tryd.prog 38 #[.slice none 0 0, .agg #[.int .i64 x.f0, .string x.f1, .int .i64 x.f2, .slice A3 x.f3.length c3, .slice A4 x.f4.length c4, .slice A5 x.f5.length c5]] w fun e w' => e = .returned (.int .i64 (typ [] x)) ∧ Below w.heap.size w w' :=
  typA (env := []) (A := none) (c := 0) ⟨Kd.C_nil _ _, Nat.le_refl _, by simp⟩ ha (by simp) ht hk
end
theorem pick_in (n : Int) (hn : (Lit.int .u8 n).wf = true) (m : Nat) (hm : 0 < m) : ∃ q : Nat, (wrap64 n).tmod (m : Int) = (q : Int) ∧ q < m := by
  have h1 : IntKind.u8.min = 0 := rfl
  have h2 : IntKind.u8.max = 255 := rfl
  unfold Lit.wf at hn
  simp [h1, h2] at hn
  rw [IntWalk.wrap64_in _ (by omega), Int.tmod_eq_emod_of_nonneg hn.1]
  have h3 := Int.emod_nonneg n (show (m : Int) ≠ 0 by omega)
  have h4 := Int.emod_lt_of_pos n (show (0 : Int) < (m : Int) by omega)
  exact ⟨(n % (m : Int)).toNat, by omega, by omega⟩
end Go.Proofs.YtmlcaecknocpoaaDoor.It
namespace Go.Proofs.YtmlcaecknocpoaaDoor.It
set_option linter.unusedVariables false
set_option linter.unusedSimpArgs false
open Go Go.RowKit Go.Shelf Go.Proofs.YtmlcaecknocpoaaDoorW.PrintWords Go.Proofs.YtmlcaecknocpoaaDoorW.PrintLast Go.Proofs.YtmlcaecknocpoaaDoor.Pr Go.Proofs.YtmlcaecknocpoaaDoor.Sp
attribute [local go_sem ↓] Go.wp_at_zero Go.wp_at_succ
theorem wp_at {P : Program} {code : Code} {a : Act} {W : World} {Q : Exit → Act → World → Prop} (S : World → Prop) (h : S W) (k : ∀ W', S W' → Code.wp P code Q a W') : Code.wp P code Q a W := k W h
theorem At.own {w : World} {x : S26} {A3 : Option Addr} {c3 : Nat} {A4 : Option Addr} {c4 : Nat} {A5 : Option Addr} {c5 : Nat} (h : At w x A3 c3 A4 c4 A5 c5) (k : Int) (nm : ByteArray) (n : Int) : At w ⟨k, nm, n, x.f3, x.f4, x.f5⟩ A3 c3 A4 c4 A5 c5 := ⟨h.l3, h.g3, h.l4, h.g4, h.l5, h.g5⟩
theorem At.forms {w : World} {x : S26} {A3 : Option Addr} {c3 : Nat} {A4 : Option Addr} {c4 : Nat} {A5 : Option Addr} {c5 : Nat} (h : At w x A3 c3 A4 c4 A5 c5) {l : List S26} {A : Option Addr} {c : Nat} (hl : l.length ≤ c) (hr : Kd.C k26 w A l.length l) : At w ⟨x.f0, x.f1, x.f2, x.f3, x.f4, l⟩ A3 c3 A4 c4 A c := ⟨h.l3, h.g3, h.l4, h.g4, hl, hr⟩
structure S12 (w W : World) (x : S26) (A3 : Option Addr) (c3 : Nat) (A4 : Option Addr) (c4 : Nat) (A5 : Option Addr) (c5 : Nat) (y : S26) (B3 : Option Addr) (d3 : Nat) (B4 : Option Addr) (d4 : Nat) (B5 : Option Addr) (d5 : Nat) (t : S47) : Prop where
  two : St2 w W w.heap.size x A3 c3 A4 c4 A5 c5 (w.heap.size + 1) y B3 d3 B4 d4 B5 d5
  tb : W.heap[w.heap.size + 1 + 1]? = some (.cells #[.int .i64 t.f0, .string t.f1, .int .i64 t.f2] 47 (0, 0))
section
variable {w W : World} {x : S26} {A3 : Option Addr} {c3 : Nat} {A4 : Option Addr} {c4 : Nat} {A5 : Option Addr} {c5 : Nat} {y : S26} {B3 : Option Addr} {d3 : Nat} {B4 : Option Addr} {d4 : Nat} {B5 : Option Addr} {d5 : Nat} {t : S47}
theorem S12.below (h : S12 w W x A3 c3 A4 c4 A5 c5 y B3 d3 B4 d4 B5 d5 t) {w1 : World} (g : Below W.heap.size W w1) : S12 w w1 x A3 c3 A4 c4 A5 c5 y B3 d3 B4 d4 B5 d5 t := ⟨h.two.below g, blk_below g h.tb⟩
theorem S12.drew (h : S12 w W x A3 c3 A4 c4 A5 c5 y B3 d3 B4 d4 B5 d5 t) : S12 w W.drew x A3 c3 A4 c4 A5 c5 y B3 d3 B4 d4 B5 d5 t := h.below (below_drew (Below.refl _ _))
theorem S12.start (h : At w x A3 c3 A4 c4 A5 c5) (h' : At w y B3 d3 B4 d4 B5 d5) : S12 w (((w.alloc (.cells #[.int .i64 x.f0, .string x.f1, .int .i64 x.f2, .slice A3 x.f3.length c3, .slice A4 x.f4.length c4, .slice A5 x.f5.length c5] 26)).alloc (.cells #[.int .i64 y.f0, .string y.f1, .int .i64 y.f2, .slice B3 y.f3.length d3, .slice B4 y.f4.length d4, .slice B5 y.f5.length d5] 26)).alloc (.cells #[.int .i64 t.f0, .string t.f1, .int .i64 t.f2] 47)) x A3 c3 A4 c4 A5 c5 y B3 d3 B4 d4 B5 d5 t :=
  ⟨(St2.start h h').below (up1 _ _), by have := heap_new ((w.alloc (.cells #[.int .i64 x.f0, .string x.f1, .int .i64 x.f2, .slice A3 x.f3.length c3, .slice A4 x.f4.length c4, .slice A5 x.f5.length c5] 26)).alloc (.cells #[.int .i64 y.f0, .string y.f1, .int .i64 y.f2, .slice B3 y.f3.length d3, .slice B4 y.f4.length d4, .slice B5 y.f5.length d5] 26)) (.cells #[.int .i64 t.f0, .string t.f1, .int .i64 t.f2] 47); simpa using this⟩
end
end Go.Proofs.YtmlcaecknocpoaaDoor.It
namespace Go.Proofs.YtmlcaecknocpoaaDoor.It
set_option linter.unusedVariables false
set_option linter.unusedSimpArgs false
open Go Go.RowKit Go.Shelf Go.Proofs.YtmlcaecknocpoaaDoorW.PrintWords Go.Proofs.YtmlcaecknocpoaaDoorW.PrintLast Go.Proofs.YtmlcaecknocpoaaDoor.Pr Go.Proofs.YtmlcaecknocpoaaDoor.Sp
attribute [local go_sem ↓] Go.wp_at_zero Go.wp_at_succ
set_option maxRecDepth 100000 in
set_option maxHeartbeats 8000000 in
theorem law7 (env : List S42) (x : S26) (n : Int) (A : Option Addr) (c : Nat) (A3 : Option Addr) (c3 : Nat) (A4 : Option Addr) (c4 : Nat) (A5 : Option Addr) (c5 : Nat) (w : World) (hE : EnvA w env A c) (ha : Arg w x A3 c3 A4 c4 A5 c5) (hn : (Lit.int .u8 n).wf = true) (ht : Tabs w) (hk : Kinds w) :
    Calls Tryd.prog 7 #[.slice A env.length c, .agg #[.int .i64 x.f0, .string x.f1, .int .i64 x.f2, .slice A3 x.f3.length c3, .slice A4 x.f4.length c4, .slice A5 x.f5.length c5], .int .u8 n] w fun e w' => e = .returned (.bool true) ∧ Below w.heap.size w w' := by
  have hu26 := Tryd.underlying26
  have hu42 := Tryd.underlying42
  obtain ⟨few, h30, hfew⟩ := few8_calls hE ha
  have C36 := Aside0.mk (fun W (h : St w W w.heap.size x A3 c3 A4 c4 A5 c5) => live8_calls W (ht.below h.b) (hk.below h.b))
  have C37 := Aside0.mk (fun W (h : St w W w.heap.size x A3 c3 A4 c4 A5 c5) => hfew W h.b)
  have T := Aside0.mk (St.start ha.at_)
  cases few
  · clear hE ha ht hk hfew h30
    go_enter Tryd.func7, Tryd.ntmps7
    go_wp2_with (first
      | (go_at_call 36; (with_reducible refine (C36.out _ T.out).mono ?_); rintro e wn ⟨rfl, g⟩; replace T := Aside0.mk (T.out.below g); clear g ; obtain ⟨p0, p1, p2, p3, p4, p5⟩ := T.out.box.six)
      | (go_at_call 37; (with_reducible refine (C37.out _ T.out).mono ?_); rintro e wn ⟨rfl, g⟩; replace T := Aside0.mk (T.out.below g); clear g p0 p1 p2 p3 p4 p5; skip))
    go_ret
    exact ⟨rfl, T.out.b⟩
  · have h30 := h30 rfl
    have C38 := Aside0.mk (fun W (h : St w W w.heap.size x A3 c3 A4 c4 A5 c5) => typA (hE.below h.b) (ha.below h.b) (by omega) (ht.below h.b) (hk.below h.b))
    by_cases h0 : typ env x = 0
    · obtain ⟨f1, f2, f3⟩ := typ_free h0
      have C28 := Aside0.mk (fun W (h : St w W w.heap.size x A3 c3 A4 c4 A5 c5) => free_at x A3 c3 A4 c4 A5 c5 W h.box.at_ ha.deep ha.nb ha.nt)
      have C39 := Aside0.mk (fun nm W (h : St w W w.heap.size x A3 c3 A4 c4 A5 c5) => boundE env A c nm W (hE.below h.b) (by omega))
      have N38 := Aside0.mk (fun W (h : St w W w.heap.size x A3 c3 A4 c4 A5 c5) => typNil (ha.below h.b) (ht.below h.b) (hk.below h.b))
      have D38 := Aside0.mk (fun W (h : St w W w.heap.size x A3 c3 A4 c4 A5 c5) env' A' c' (hE' : EnvA W env' A' c') (hl : env'.length ≤ env.length) => typA hE' (ha.below h.b) (by omega) (ht.below h.b) (hk.below h.b))
      have HR := Aside0.mk hE
      rw [h0] at C38
      obtain ⟨fx, hfx⟩ : ∃ fx, free x = fx := ⟨_, rfl⟩
      rw [hfx] at C28 f1 f2 f3
      have F1 := Aside0.mk (fun s hs => f1 s hs)
      have F2 := Aside0.mk f2
      have F3 := Aside0.mk (fun s hs => f3 s hs)
      clear hE ha ht hk hfew h0 hfx f1 f2 f3
      go_enter Tryd.func7, Tryd.ntmps7
      go_wp2_with (first
        | (go_at_call 36; (with_reducible refine (C36.out _ T.out).mono ?_); rintro e wn ⟨rfl, g⟩; replace T := Aside0.mk (T.out.below g); clear g ; obtain ⟨p0, p1, p2, p3, p4, p5⟩ := T.out.box.six)
        | (go_at_call 37; (with_reducible refine (C37.out _ T.out).mono ?_); rintro e wn ⟨rfl, g⟩; replace T := Aside0.mk (T.out.below g); clear g p0 p1 p2 p3 p4 p5; obtain ⟨p0, p1, p2, p3, p4, p5⟩ := T.out.box.six)
        | (go_at_call 38; (with_reducible refine (C38.out _ T.out).mono ?_); rintro e wn ⟨rfl, g⟩; replace T := Aside0.mk (T.out.below g); clear g p0 p1 p2 p3 p4 p5; obtain ⟨p0, p1, p2, p3, p4, p5⟩ := T.out.box.six)
        | (go_at_call 28; (with_reducible refine (C28.out _ T.out).mono ?_); rintro e wn ⟨FA, fc, rfl, g, hs⟩; replace T := Aside0.mk (T.out.below g); have HS := Aside0.mk hs; clear g hs p0 p1 p2 p3 p4 p5))
      clear C36 C37 C38 C28
      go_loopg [6, 8] fx.length (fun gg s6 s8 wr => ∃ j : Nat, j ≤ fx.length ∧ fx.length - j ≤ gg ∧ s8 = .int .i64 j ∧ Aside0 (St w wr w.heap.size x A3 c3 A4 c4 A5 c5 ∧ Strs wr FA fx))
      case atStart => exact ⟨0, Nat.zero_le _, by omega, rfl, ⟨T.out, HS.out⟩⟩
      case round =>
        obtain ⟨j, hj, hg, rfl, HJ⟩ := hrel
        clear T HS
        by_cases hlt : j < fx.length
        · have hltz : (j : Int) < (fx.length : Int) := by omega
          obtain ⟨ad, rfl, y0⟩ := strAt HJ.out.2 j hlt
          have hfl : fx.length ≤ 9223372036854775807 := HJ.out.2.2.1
          have hb := F1.out (fx.getD j ByteArray.empty) (by simp [List.getD, hlt])
          obtain ⟨nm, hnm⟩ : ∃ nm, fx.getD j ByteArray.empty = nm := ⟨_, rfl⟩
          rw [hnm] at y0 hb
          have D39 := Aside0.mk (C39.out nm _ HJ.out.1)
          rw [hb] at D39
          clear hb hnm
          go_wp2_with (go_at_call 39; (with_reducible refine D39.out.mono ?_); rintro e wn ⟨rfl, g⟩; have HJ2 := Aside0.mk (And.intro (HJ.out.1.below g) (HJ.out.2.below g)); clear g)
          go_roundg (fx.length - (j + 1))
          case measure => omega
          case rel => exact ⟨j + 1, by omega, by omega, by go_num, HJ2⟩
        · have hltz : ¬ (j : Int) < (fx.length : Int) := by omega
          obtain rfl : j = fx.length := by omega
          by_cases hnil : fx = []
          · have hz := F2.out hnil
            have T := Aside0.mk HJ.out.1
            rw [hz] at N38
            subst hnil
            obtain ⟨p0, p1, p2, p3, p4, p5⟩ := T.out.box.six
            clear hz
            go_wp2_with (go_at_call 38; (with_reducible refine (N38.out _ T.out).mono ?_); rintro e wn ⟨rfl, g⟩; replace T := Aside0.mk (T.out.below g); clear g)
            go_ret
            exact ⟨by first | rfl | (simp; rfl), T.out.b⟩
          · have hpos : 0 < fx.length := List.length_pos_iff.2 hnil
            obtain ⟨q, hq, hql⟩ := pick_in n hn fx.length hpos
            have hlz : ¬ ((fx.length : Int) = 0) := by omega
            have hlb : ((fx.length : Int) == 0) = false := by simpa using hlz
            have hqz : (q : Int) < (fx.length : Int) := by omega
            obtain ⟨ad, rfl, y0⟩ := strAt HJ.out.2 q hql
            have h81 := F3.out (fx.getD q ByteArray.empty) (by simp [List.getD, hql])
            obtain ⟨nm, hnm⟩ : ∃ nm, fx.getD q ByteArray.empty = nm := ⟨_, rfl⟩
            rw [hnm] at y0 h81
            have H81 := Aside0.mk h81
            have T := Aside0.mk HJ.out.1
            clear HJ h81 hnm F1 F2 F3 N38 C39
            refine wp_at (fun W => St w W w.heap.size x A3 c3 A4 c4 A5 c5 ∧ W.cell? (ad.add q) = some (.string nm)) ⟨T.out, y0⟩ fun w5 hS => ?_
            clear T y0
            obtain ⟨T, y0⟩ := hS
            replace T := Aside0.mk T
            go_wp2_with fail
            have hL0 : Aside0 (OwnRow (k42.K w) 42 2 (w5.alloc (.cells #[] 42)) w5.heap.size (.slice (some ⟨w5.heap.size, 0, none⟩) 0 0) ([] : List S42)) := ⟨OwnRow.lit w5 w5.heap.size (inner := []) (Reps.none _ _) (Nat.le_refl _) (by simp)⟩
            have hB0 := Aside0.mk (up1 w5 (.cells #[] 42))
            go_loopg [10, 11] env.length (fun gg s10 s11 wr => ∃ i : Nat, i ≤ env.length ∧ env.length - i ≤ gg ∧ s11 = .int .i64 i ∧ Aside0 (OwnRow (k42.K w) 42 2 wr w5.heap.size s10 (drop1 (env.take i) nm) ∧ Below w5.heap.size w5 wr))
            case atStart => exact ⟨0, Nat.zero_le _, by omega, rfl, ⟨hL0.out, hB0.out⟩⟩
            case round =>
              obtain ⟨i, hi, hgi, rfl, HI⟩ := hrel
              clear hL0 hB0 y0
              by_cases hlti : i < env.length
              · have hltiz : (i : Int) < (env.length : Int) := by omega
                obtain ⟨ad2, rfl, b0, b1⟩ := bindAt HR.out.row (T.out.b.trans (HI.out.2.mono T.out.b.size)) i hlti
                by_cases he : (rd_T42 env i).f0 = nm
                · have HD : Aside0 (drop1 (env.take (i + 1)) nm = drop1 (env.take i) nm) := ⟨by rw [drop1_snoc env nm i hlti, if_pos he, List.append_nil]⟩
                  rw [he] at b0
                  clear he
                  go_wp2_with fail
                  go_roundg (env.length - (i + 1))
                  case measure => omega
                  case rel => exact ⟨i + 1, by omega, by omega, by go_num, ⟨by rw [HD.out]; exact HI.out.1, HI.out.2⟩⟩
                · have HD : Aside0 (drop1 (env.take (i + 1)) nm = drop1 (env.take i) nm ++ [rd_T42 env i]) := ⟨by rw [drop1_snoc env nm i hlti, if_neg he]⟩
                  have n3 : ¬ ((rd_T42 env i).f0.toList = nm.toList) := fun e => he ((tl_iff _ _).1 e)
                  have n4 : ((rd_T42 env i).f0.toList == nm.toList) = false := by simpa using n3
                  go_wp2_with ((with_reducible refine gate_builtin (b := .append) (xs := #[.tmp 67, .tmp 72]) rfl ?_); at_builtin; refine OwnRow.append (R := k42.K w) (w0 := w5) w5.heap.size rfl (.tmp 67) (.tmp 72) 23 42 (.agg #[(.string ⟨#[]⟩), (.int .i64 0)]) 2 24 rfl Tryd.underlying23 info42 rfl (by decide) (by decide) _ (drop1 (env.take i) nm) (rd_T42 env i) [.string (rd_T42 env i).f0, .int .i64 (rd_T42 env i).f1] rfl rfl ?aP rfl ?a1 ?aO ?aB ?aS ?aL ?_; (case aP => exact k42_mk w _); (case a1 => simp [Value.oneCell']); (case aO => exact HI.out.1); (case aB => exact HI.out.2); (case aS => exact HI.out.2.size); (case aL => have := drop1_len env nm i; omega); intro v2 w9 ho2 hb2 hg2 hat2; replace ho2 := Aside0.mk ho2; replace hb2 := Aside0.mk hb2; clear hg2 hat2)
                  go_roundg (env.length - (i + 1))
                  case measure => omega
                  case rel => exact ⟨i + 1, by omega, by omega, by go_num, ⟨by rw [HD.out]; exact ho2.out, hb2.out⟩⟩
              · have hltiz : ¬ (i : Int) < (env.length : Int) := by omega
                obtain rfl : i = env.length := by omega
                have hlen := drop1_len env nm env.length
                have HX := HI.out.1
                rw [List.take_length] at HX hlen
                obtain ⟨A', c', rfl, hc', hC⟩ := own_C HX (T.out.b.trans (HI.out.2.mono T.out.b.size))
                have T2 := Aside0.mk (T.out.below HI.out.2)
                have E38 := Aside0.mk (D38.out _ T2.out _ A' c' ⟨hC, hc', fun b hb => HR.out.ok b (drop1_mem hb)⟩ hlen)
                rw [H81.out] at E38
                obtain ⟨p0, p1, p2, p3, p4, p5⟩ := T2.out.box.six
                clear HX hC hlen
                go_wp2_with (go_at_call 38; (with_reducible refine E38.out.mono ?_); rintro e wn ⟨rfl, g⟩; replace g := Aside0.mk g)
                go_ret
                exact ⟨by first | rfl | (simp; rfl), (T2.out.below g.out).b⟩
    · obtain ⟨v, hv⟩ : ∃ v, typ env x = v := ⟨_, rfl⟩
      rw [hv] at C38 h0
      have b1 : (v != 0) = true := by simpa using h0
      clear hE ha ht hk hfew h30 hv h0
      go_enter Tryd.func7, Tryd.ntmps7
      go_wp2_with (first
        | (go_at_call 36; (with_reducible refine (C36.out _ T.out).mono ?_); rintro e wn ⟨rfl, g⟩; replace T := Aside0.mk (T.out.below g); clear g ; obtain ⟨p0, p1, p2, p3, p4, p5⟩ := T.out.box.six)
        | (go_at_call 37; (with_reducible refine (C37.out _ T.out).mono ?_); rintro e wn ⟨rfl, g⟩; replace T := Aside0.mk (T.out.below g); clear g p0 p1 p2 p3 p4 p5; obtain ⟨p0, p1, p2, p3, p4, p5⟩ := T.out.box.six)
        | (go_at_call 38; (with_reducible refine (C38.out _ T.out).mono ?_); rintro e wn ⟨rfl, g⟩; replace T := Aside0.mk (T.out.below g); clear g p0 p1 p2 p3 p4 p5; skip))
      go_ret
      exact ⟨rfl, T.out.b⟩
end Go.Proofs.YtmlcaecknocpoaaDoor.It
namespace Go.Proofs.YtmlcaecknocpoaaDoor.Wt
set_option linter.unusedVariables false
set_option linter.unusedSimpArgs false
open Go Go.ChangeShapes Go.WideShapes Go.ChangeAt Go.RowKit
def firstCells : Array Value := match Go.Pinned.utf8First with
  | .agg l => (l.map fun d => match d with | .lit (.int k n) => Value.int k n | _ => undef).toArray
  | _ => #[]
noncomputable def world (os : Os) : World :=
  { World.doorLaid Tryd.prog 341 os with heap := (World.doorLaid Tryd.prog 341 os).heap.modify 6 fun
      | .cells _ t frozen => .cells firstCells t frozen
      | o => o }
def zero26 : Value := .agg #[.int .i64 0, .string ByteArray.empty, .int .i64 0, .slice none 0 0, .slice none 0 0, .slice none 0 0]
end Go.Proofs.YtmlcaecknocpoaaDoor.Wt
namespace Go.Proofs.YtmlcaecknocpoaaDoor.It
set_option linter.unusedVariables false
set_option linter.unusedSimpArgs false
open Go Go.ChangeShapes Go.WideShapes Go.ChangeAt Go.RowKit
theorem own : ownKnob Tryd.prog.godebug = none := by kernel_rfl
theorem laidOut : laidOutB Tryd.prog = true := by kernel_rfl
set_option maxRecDepth 100000 in
theorem trod_val {H : Type} {enc : TypeId × Value → H} {W : World} {base : Nat} {v : Value} {d : DataW H} {p : List MemPlace} (hv : Value.okWide Tryd.prog W .any base 26 v) (h : DataW.Trod enc Tryd.prog W 0 (fun _ => true) true 26 v d p) (hd : Rows.uptoBulk d ≤ 1048576) :
    ∃ (x : Pr.S26) (A3 : Option Addr) (c3 : Nat) (A4 : Option Addr) (c4 : Nat) (A5 : Option Addr) (c5 : Nat), v = .agg #[.int .i64 x.f0, .string x.f1, .int .i64 x.f2, .slice A3 x.f3.length c3, .slice A4 x.f4.length c4, .slice A5 x.f5.length c5] ∧ Arg W x A3 c3 A4 c4 A5 c5 := by
  obtain ⟨cs, rfl, hsz⟩ := okWide_struct Tryd.underlying26 hv
  obtain ⟨fuel, hf⟩ := h
  obtain ⟨x, A3, c3, A4, c4, A5, c5, he, hat, hdp, hw⟩ := read26 (Rows.uptoBulk d) fuel _ (d, p) (Nat.le_refl _) hf
  obtain ⟨l⟩ := cs
  have he' : l = [.int .i64 x.f0, .string x.f1, .int .i64 x.f2, .slice A3 x.f3.length c3, .slice A4 x.f4.length c4, .slice A5 x.f5.length c5] := by simpa [Value.cells] using he
  subst he'
  exact ⟨x, A3, c3, A4, c4, A5, c5, rfl, hat, hdp, Nat.le_trans hw hd⟩
structure ArgT (t : Pr.S47) : Prop where
  nm : t.f1.size ≤ 1048576
  k : I64 t.f0
  n : I64 t.f2
end Go.Proofs.YtmlcaecknocpoaaDoor.It
namespace Go.Proofs.YtmlcaecknocpoaaDoor.It
set_option linter.unusedVariables false
set_option linter.unusedSimpArgs false
open Go Go.ChangeShapes Go.WideShapes Go.ChangeAt Go.RowKit Go.Shelf Go.Deep Go.Proofs.YtmlcaecknocpoaaDoorW.PrintWords Go.Proofs.YtmlcaecknocpoaaDoorW.PrintLast Go.Proofs.YtmlcaecknocpoaaDoor.Pr
set_option maxRecDepth 100000 in
theorem trod_env {H : Type} {enc : TypeId × Value → H} {W : World} {base : Nat} {v : Value} {d : DataW H} {p : List MemPlace} (hv : Value.okWide Tryd.prog W .any base 23 v) (h : DataW.Trod enc Tryd.prog W 0 (fun _ => true) true 23 v d p) (hd : Rows.uptoBulk d ≤ 1048576) :
    ∃ (env : List Pr.S42) (A : Option Addr) (c : Nat), v = .slice A env.length c ∧ EnvA W env A c ∧ env.length ≤ 1000000 := by
  obtain ⟨fuel, hf⟩ := h
  obtain ⟨A, c, l, e, hl, hC, hS, hB⟩ := read_row (x := (d, p)) k42 rfl Tryd.underlying23 cells42 (fun t => t.f0.size ≤ 9223372036854775807 ∧ I64 t.f1) (fun _ => 3) z42 (fun n cs' y _ ht => by
          obtain ⟨t, rfl, hs, hb⟩ := read42 ht
          exact ⟨t, k42_mk W t, rfl, hs, by omega⟩) hf
  have e' : v = .slice A l.length c := by
    obtain ⟨a, n, c', e2⟩ := okWide_slice Tryd.underlying23 hv
    subst e2
    simpa [Value.cells] using e
  have hs3 := sum_const l 3
  rw [hs3] at hB
  have : Rows.uptoBulk (d, p).1 = Rows.uptoBulk d := rfl
  exact ⟨l, A, c, e', ⟨hC, hl, fun b hb => ⟨(hS b hb).1, (hS b hb).2⟩⟩, by omega⟩
theorem ArgT.ok {t : Pr.S47} (h : ArgT t) : TOk t := ⟨by have := h.nm; omega, h.k, h.n⟩
end Go.Proofs.YtmlcaecknocpoaaDoor.It
