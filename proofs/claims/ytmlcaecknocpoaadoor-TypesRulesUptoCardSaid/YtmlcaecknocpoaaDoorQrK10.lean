/- Lemmas and walks for the claim below. -/
import Derived.Test.YtmlcaecknocpoaaDoorQrK9
import Derived.ProofKit
import Derived.LaidMore
import Derived.Deep.DeepHandedRow
import Derived.Deep.DeepWitnessRowRef
import Derived.WalkKit
import Derived.OpenShut
import Derived.ChangeOld
import Derived.Below
import Derived.SizedLaws
import Derived.Lib.SmallJoins
import Derived.Test.YtmlcaecknocpoaaDoorCards
import Derived.Test.YtmlcaecknocpoaaDoorTie
namespace Go.Proofs.YtmlcaecknocpoaaDoor.Pr
open Go.RowKit Go.Proofs.YtmlcaecknocpoaaDoorW.PrintWords Go.Proofs.YtmlcaecknocpoaaDoorW.PrintLast Go.Proofs.YtmlcaecknocpoaaDoorW.PrintMore
attribute [local go_sem] max2_int min2_int max_two min_two max_three min_three max_four min_four   
set_option linter.unusedVariables false
set_option linter.unusedSimpArgs false
mutual
def rf8first.l0 : Nat → List (S42) → Int → Int → ByteArray → Int → List (S47) → List (S42) → List (S26) → Option (Int)
 | 0, _, _, _, _, _, _, _, _ => none
 | k + 1, x8, x9, x260000, x260001, x260002, x260003, x260004, x260005 => if x9 < (x260004.length : Int) then (if 0 ≤ x9 then ((rf8stands.f k x8 ((rd_T42 x260004 x9).f0)).bind fun t275 => (if t275 = true then (some 82) else (if x8.length < 5864062014805 then (rf8first.l0 k (x8 ++ [(⟨(rd_T42 x260004 x9).f0, (rd_T42 x260004 x9).f1⟩ : S42)]) (wrap64 (x9 + 1)) x260000 x260001 x260002 x260003 x260004 x260005) else (none)))) else (none)) else (rf8first.l1 k x8 0 x260000 x260001 x260002 x260003 x260004 x260005)
def rf8first.l1 : Nat → List (S42) → Int → Int → ByteArray → Int → List (S47) → List (S42) → List (S26) → Option (Int)
 | 0, _, _, _, _, _, _, _, _ => none
 | k + 1, x8, x10, x260000, x260001, x260002, x260003, x260004, x260005 => if x10 < (x260005.length : Int) then (if 0 ≤ x10 then ((rf8first.f k x8 ((rd_T26 x260005 x10).f0) ((rd_T26 x260005 x10).f1) ((rd_T26 x260005 x10).f2) ((rd_T26 x260005 x10).f3) ((rd_T26 x260005 x10).f4) ((rd_T26 x260005 x10).f5)).bind fun t281 => (if t281 = 0 then (rf8first.l1 k x8 (wrap64 (x10 + 1)) x260000 x260001 x260002 x260003 x260004 x260005) else (some t281))) else (none)) else (some 0)
def rf8first.f : Nat → List (S42) → Int → ByteArray → Int → List (S47) → List (S42) → List (S26) → Option (Int)
 | 0, _, _, _, _, _, _, _ => none
 | k + 1, l0, a1_0, a1_1, a1_2, l1_3, l1_4, l1_5 => if a1_0 = 9 then ((rf8compared.f k l0 a1_0 a1_1 a1_2 l1_3 l1_4 l1_5).bind fun t260 => (some t260)) else ((rf6Atom.f a1_0).bind fun t261 => (if t261 = true then ((rf8asked.f a1_0).bind fun bt262 => (if 0 < (l1_3.length : Int) then ((rf8of.f k l0 ((rd_T47 l1_3 0).f0) ((rd_T47 l1_3 0).f1) ((rd_T47 l1_3 0).f2) bt262.1).bind fun t265 => (if t265 = 0 then (if 1 < (l1_3.length : Int) then ((rf8of.f k l0 ((rd_T47 l1_3 1).f0) ((rd_T47 l1_3 1).f1) ((rd_T47 l1_3 1).f2) bt262.2).bind fun t267 => (some t267)) else (none)) else (some t265))) else (none))) else ((some (([] : List (S42)) : List (S42))).bind fun y268 => (if y268.length + l0.length < 5864062014805 then (rf8first.l0 k (y268 ++ l0) 0 a1_0 a1_1 a1_2 l1_3 l1_4 l1_5) else (none)))))
end
set_option maxHeartbeats 8000000 in
set_option maxRecDepth 100000 in
theorem rf8first.calls (k : Nat) : ∀ (A0 : Option Addr) (c0 : Nat) (l0 : List (S42)) (a1_0 : Int) (a1_1 : ByteArray) (a1_2 : Int) (A1_3 : Option Addr) (c1_3 : Nat) (l1_3 : List (S47)) (A1_4 : Option Addr) (c1_4 : Nat) (l1_4 : List (S42)) (A1_5 : Option Addr) (c1_5 : Nat) (l1_5 : List (S26)) (r : Int) (w : World) (hr0 : Kd.C k42 w A0 l0.length l0) (hc0 : l0.length ≤ c0) (hr1_3 : Kd.C k47 w A1_3 l1_3.length l1_3) (hc1_3 : l1_3.length ≤ c1_3) (hr1_4 : Kd.C k42 w A1_4 l1_4.length l1_4) (hc1_4 : l1_4.length ≤ c1_4) (hr1_5 : Kd.C k26 w A1_5 l1_5.length l1_5) (hc1_5 : l1_5.length ≤ c1_5) (h : rf8first.f k l0 a1_0 a1_1 a1_2 l1_3 l1_4 l1_5 = some r),
   Calls Tryd.prog 70 #[.slice A0 l0.length c0, .agg #[.int .i64 a1_0, .string a1_1, .int .i64 a1_2, .slice A1_3 l1_3.length c1_3, .slice A1_4 l1_4.length c1_4, .slice A1_5 l1_5.length c1_5]] w fun e w' => e = .returned (.int .i64 r) ∧ Below w.heap.size w w' := by
 induction k using Nat.strongRecOn with
 | _ k ih =>
 intro A0 c0 l0 a1_0 a1_1 a1_2 A1_3 c1_3 l1_3 A1_4 c1_4 l1_4 A1_5 c1_5 l1_5 r w hr0 hc0 hr1_3 hc1_3 hr1_4 hc1_4 hr1_5 hc1_5 h
 cases k with
 | zero => exact absurd h (by simp [rf8first.f])
 | succ k =>
 simp only [rf8first.f] at h
 have hu26 := Tryd.underlying26
 have hu47 := Tryd.underlying47
 have hu42 := Tryd.underlying42
 have HR0 := Aside0.mk hr0
 have HC0 := Aside0.mk hc0
 clear hr0 hc0
 have HR1_3 := Aside0.mk hr1_3
 have HC1_3 := Aside0.mk hc1_3
 clear hr1_3 hc1_3
 have HR1_4 := Aside0.mk hr1_4
 have HC1_4 := Aside0.mk hc1_4
 clear hr1_4 hc1_4
 have HR1_5 := Aside0.mk hr1_5
 have HC1_5 := Aside0.mk hc1_5
 clear hr1_5 hc1_5
 have HB := Aside0.mk (Below.refl w.heap.size w)
 have H : (if a1_0 = 9 then ((rf8compared.f k l0 a1_0 a1_1 a1_2 l1_3 l1_4 l1_5).bind fun t260 => (some t260)) else ((rf6Atom.f a1_0).bind fun t261 => (if t261 = true then ((rf8asked.f a1_0).bind fun bt262 => (if 0 < (l1_3.length : Int) then ((rf8of.f k l0 ((rd_T47 l1_3 0).f0) ((rd_T47 l1_3 0).f1) ((rd_T47 l1_3 0).f2) bt262.1).bind fun t265 => (if t265 = 0 then (if 1 < (l1_3.length : Int) then ((rf8of.f k l0 ((rd_T47 l1_3 1).f0) ((rd_T47 l1_3 1).f1) ((rd_T47 l1_3 1).f2) bt262.2).bind fun t267 => (some t267)) else (none)) else (some t265))) else (none))) else ((some (([] : List (S42)) : List (S42))).bind fun y268 => (if y268.length + l0.length < 5864062014805 then (rf8first.l0 k (y268 ++ l0) 0 a1_0 a1_1 a1_2 l1_3 l1_4 l1_5) else (none)))))) = some r := h
 clear h
 by_cases c3 : a1_0 = 9
 · rw [if_pos c3] at H
   have c3b0 : (a1_0 == 9) = true := beq_iff_eq.mpr c3
   have c3b1 : (a1_0 != 9) = false := bne_eq_false_iff_eq.mpr c3
   clear c3
   replace H := Option.bind_eq_some_iff.mp H
   obtain ⟨t260, A40, H⟩ := H
   replace H : (some t260) = some r := H
   have A4 := Aside0.mk A40
   clear A40
   obtain rfl := Option.some.inj H
   go_enter Tryd.func70, Tryd.ntmps70
   go_wp2_with (first | ((with_reducible refine gate_dst (N := 3) rfl ?_); refine box_event ?hg (N := 3) ?hd (cs := #[.int .i64 a1_0, .string a1_1, .int .i64 a1_2, .slice A1_3 l1_3.length c1_3, .slice A1_4 l1_4.length c1_4, .slice A1_5 l1_5.length c1_5]) (t := 26) ?hr ?_; (case hd => rfl); (case hg => rfl); (case hr => first | (go_simp; done) | (go_simp; rfl)); intro gb259 hg w5 hbox hb; have n0_ := Aside0.mk (below_step (by repeat (first | (with_reducible first | exact HB.out | apply bAl | apply pwDN | apply bD1) | exact HB.out)) hb); have n1_ := Aside0.mk (hbox); have n2_ := Aside0.mk ((by rw [hg]; exact (below_size (by repeat (first | (with_reducible first | exact HB.out | apply bAl | apply pwDN | apply bD1) | exact HB.out))) : w.heap.size ≤ gb259)); have n3_ := Aside0.mk ((by rw [hg]; exact (below_size (by repeat (first | (with_reducible first | exact HB.out | apply bAl | apply pwDN | apply bD1) | exact HB.out))) : w.heap.size ≤ gb259)); clear HB; have HB := n0_; have BK259 := n1_; have GW259 := n2_; have GE259 := n3_; clear n0_ n1_ n2_ n3_; clear hb hbox hg; have hcz6_0 : w5.cell? ⟨gb259, 0, none⟩ = some (.int .i64 a1_0) := (bCl BK259.out 0).trans rfl; have hcz6_1 : w5.cell? ⟨gb259, 1, none⟩ = some (.string a1_1) := (bCl BK259.out 1).trans rfl; have hcz6_2 : w5.cell? ⟨gb259, 2, none⟩ = some (.int .i64 a1_2) := (bCl BK259.out 2).trans rfl; have hcz6_3 : w5.cell? ⟨gb259, 3, none⟩ = some (.slice A1_3 l1_3.length c1_3) := (bCl BK259.out 3).trans rfl; have hcz6_4 : w5.cell? ⟨gb259, 4, none⟩ = some (.slice A1_4 l1_4.length c1_4) := (bCl BK259.out 4).trans rfl; have hcz6_5 : w5.cell? ⟨gb259, 5, none⟩ = some (.slice A1_5 l1_5.length c1_5) := (bCl BK259.out 5).trans rfl; have hfz6_0 := bFz BK259.out 0; have hfz6_1 := bFz BK259.out 1; have hfz6_2 := bFz BK259.out 2; have hfz6_3 := bFz BK259.out 3; have hfz6_4 := bFz BK259.out 4; have hfz6_5 := bFz BK259.out 5) | ((with_reducible refine gate_callee (f := 106) rfl ?_); refine goesL_ (some 17) rfl rfl Tryd.func106 (by kernel_rfl) rfl #[.slice A0 l0.length c0, .agg #[.int .i64 a1_0, .string a1_1, .int .i64 a1_2, .slice A1_3 l1_3.length c1_3, .slice A1_4 l1_4.length c1_4, .slice A1_5 l1_5.length c1_5]] rfl (by (try simp only [List.map_toArray, List.map_cons, List.map_nil]); first | done | rfl | (simp only [List.length_drop, List.length_take]; rfl)) ?_; (with_reducible refine (rf8compared.calls k _ _ l0 a1_0 a1_1 a1_2 _ _ l1_3 _ _ l1_4 _ _ l1_5 t260 _ ?side1 ?side2 ?side3 ?side4 ?side5 ?side6 ?side7 ?side8 A4.out).mono ?_); (case side1 => repeat (first | exact (Kd.C_below HR0.out HB.out) | (with_reducible refine Kd.C_alloc ?_ _) | (with_reducible refine Kd.C_drewN ?_ _) | (with_reducible refine Kd.C_drew ?_))); (case side2 => exact HC0.out); (case side3 => repeat (first | exact (Kd.C_below HR1_3.out HB.out) | (with_reducible refine Kd.C_alloc ?_ _) | (with_reducible refine Kd.C_drewN ?_ _) | (with_reducible refine Kd.C_drew ?_))); (case side4 => exact HC1_3.out); (case side5 => repeat (first | exact (Kd.C_below HR1_4.out HB.out) | (with_reducible refine Kd.C_alloc ?_ _) | (with_reducible refine Kd.C_drewN ?_ _) | (with_reducible refine Kd.C_drew ?_))); (case side6 => exact HC1_4.out); (case side7 => repeat (first | exact (Kd.C_below HR1_5.out HB.out) | (with_reducible refine Kd.C_alloc ?_ _) | (with_reducible refine Kd.C_drewN ?_ _) | (with_reducible refine Kd.C_drew ?_))); (case side8 => exact HC1_5.out); rintro e w7 ⟨rfl, hb⟩; refine ⟨_, rfl, ?_⟩; have n0_ := Aside0.mk (blk_below (g := gb259) (o := .cells #[.int .i64 a1_0, .string a1_1, .int .i64 a1_2, .slice A1_3 l1_3.length c1_3, .slice A1_4 l1_4.length c1_4, .slice A1_5 l1_5.length c1_5] 26 (0, 0)) (by (with_reducible repeat (first | refine blk_drewN ?_ _ | refine blk_drew ?_ | refine blk_alloc ?_ _)); exact BK259.out) hb); have n1_ := Aside0.mk (below_step (by repeat (first | (with_reducible first | exact HB.out | apply bAl | apply pwDN | apply bD1 | refine bSt ?_ GE259.out) | exact HB.out)) hb); clear BK259; clear HB; have BK259 := n0_; have HB := n1_; clear n0_ n1_; (try clear hb); (try clear hb2); (try clear hk); (try clear hi)))
   go_ret
   exact ⟨by first | rfl | (simp [errW_none, errW_some] <;> rfl) | (simp [*, errW_none, errW_some] <;> rfl), by repeat (first | (with_reducible first | exact HB.out | apply bAl | apply pwDN | apply bD1 | refine bSt ?_ GE259.out) | exact HB.out)⟩
 · rw [if_neg c3] at H
   have c3b0 : (a1_0 == 9) = false := beq_eq_false_iff_ne.mpr c3
   have c3b1 : (a1_0 != 9) = true := bne_iff_ne.mpr c3
   replace H := Option.bind_eq_some_iff.mp H
   obtain ⟨t261, A80, H⟩ := H
   replace H : (if t261 = true then ((rf8asked.f a1_0).bind fun bt262 => (if 0 < (l1_3.length : Int) then ((rf8of.f k l0 ((rd_T47 l1_3 0).f0) ((rd_T47 l1_3 0).f1) ((rd_T47 l1_3 0).f2) bt262.1).bind fun t265 => (if t265 = 0 then (if 1 < (l1_3.length : Int) then ((rf8of.f k l0 ((rd_T47 l1_3 1).f0) ((rd_T47 l1_3 1).f1) ((rd_T47 l1_3 1).f2) bt262.2).bind fun t267 => (some t267)) else (none)) else (some t265))) else (none))) else ((some (([] : List (S42)) : List (S42))).bind fun y268 => (if y268.length + l0.length < 5864062014805 then (rf8first.l0 k (y268 ++ l0) 0 a1_0 a1_1 a1_2 l1_3 l1_4 l1_5) else (none)))) = some r := H
   have A8 := Aside0.mk A80
   clear A80
   by_cases c9 : t261 = true
   · subst c9
     have H1 : ((rf8asked.f a1_0).bind fun bt262 => (if 0 < (l1_3.length : Int) then ((rf8of.f k l0 ((rd_T47 l1_3 0).f0) ((rd_T47 l1_3 0).f1) ((rd_T47 l1_3 0).f2) bt262.1).bind fun t265 => (if t265 = 0 then (if 1 < (l1_3.length : Int) then ((rf8of.f k l0 ((rd_T47 l1_3 1).f0) ((rd_T47 l1_3 1).f1) ((rd_T47 l1_3 1).f2) bt262.2).bind fun t267 => (some t267)) else (none)) else (some t265))) else (none))) = some r := by rw [if_pos rfl] at H; exact H
     clear H
     have H := H1
     clear H1
     replace H := Option.bind_eq_some_iff.mp H
     obtain ⟨⟨t262, t263⟩, A100, H⟩ := H
     replace H : (if 0 < (l1_3.length : Int) then ((rf8of.f k l0 ((rd_T47 l1_3 0).f0) ((rd_T47 l1_3 0).f1) ((rd_T47 l1_3 0).f2) t262).bind fun t265 => (if t265 = 0 then (if 1 < (l1_3.length : Int) then ((rf8of.f k l0 ((rd_T47 l1_3 1).f0) ((rd_T47 l1_3 1).f1) ((rd_T47 l1_3 1).f2) t263).bind fun t267 => (some t267)) else (none)) else (some t265))) else (none)) = some r := H
     have A10 := Aside0.mk A100
     clear A100
     by_cases c11 : 0 < (l1_3.length : Int)
     · rw [if_pos c11] at H
       have c11b0 : decide (0 < (l1_3.length : Int)) = true := decide_eq_true c11
       have c11b1 : decide (0 < l1_3.length) = true := decide_eq_true (by omega)
       clear c11
       replace H := Option.bind_eq_some_iff.mp H
       obtain ⟨t265, A120, H⟩ := H
       replace H : (if t265 = 0 then (if 1 < (l1_3.length : Int) then ((rf8of.f k l0 ((rd_T47 l1_3 1).f0) ((rd_T47 l1_3 1).f1) ((rd_T47 l1_3 1).f2) t263).bind fun t267 => (some t267)) else (none)) else (some t265)) = some r := H
       have A12 := Aside0.mk A120
       clear A120
       by_cases c13 : t265 = 0
       · rw [if_pos c13] at H
         have c13b0 : (t265 == 0) = true := beq_iff_eq.mpr c13
         have c13b1 : (t265 != 0) = false := bne_eq_false_iff_eq.mpr c13
         clear c13
         by_cases c14 : 1 < (l1_3.length : Int)
         · rw [if_pos c14] at H
           have c14b0 : decide (1 < (l1_3.length : Int)) = true := decide_eq_true c14
           have c14b1 : decide (1 < l1_3.length) = true := decide_eq_true (by omega)
           clear c14
           replace H := Option.bind_eq_some_iff.mp H
           obtain ⟨t267, A150, H⟩ := H
           replace H : (some t267) = some r := H
           have A15 := Aside0.mk A150
           clear A150
           obtain rfl := Option.some.inj H
           go_enter Tryd.func70, Tryd.ntmps70
           go_wp2_with (first | ((with_reducible refine gate_dst (N := 3) rfl ?_); refine box_event ?hg (N := 3) ?hd (cs := #[.int .i64 a1_0, .string a1_1, .int .i64 a1_2, .slice A1_3 l1_3.length c1_3, .slice A1_4 l1_4.length c1_4, .slice A1_5 l1_5.length c1_5]) (t := 26) ?hr ?_; (case hd => rfl); (case hg => rfl); (case hr => first | (go_simp; done) | (go_simp; rfl)); intro gb259 hg w16 hbox hb; have n0_ := Aside0.mk (below_step (by repeat (first | (with_reducible first | exact HB.out | apply bAl | apply pwDN | apply bD1) | exact HB.out)) hb); have n1_ := Aside0.mk (hbox); have n2_ := Aside0.mk ((by rw [hg]; exact (below_size (by repeat (first | (with_reducible first | exact HB.out | apply bAl | apply pwDN | apply bD1) | exact HB.out))) : w.heap.size ≤ gb259)); have n3_ := Aside0.mk ((by rw [hg]; exact (below_size (by repeat (first | (with_reducible first | exact HB.out | apply bAl | apply pwDN | apply bD1) | exact HB.out))) : w.heap.size ≤ gb259)); clear HB; have HB := n0_; have BK259 := n1_; have GW259 := n2_; have GE259 := n3_; clear n0_ n1_ n2_ n3_; clear hb hbox hg; have hcz17_0 : w16.cell? ⟨gb259, 0, none⟩ = some (.int .i64 a1_0) := (bCl BK259.out 0).trans rfl; have hcz17_1 : w16.cell? ⟨gb259, 1, none⟩ = some (.string a1_1) := (bCl BK259.out 1).trans rfl; have hcz17_2 : w16.cell? ⟨gb259, 2, none⟩ = some (.int .i64 a1_2) := (bCl BK259.out 2).trans rfl; have hcz17_3 : w16.cell? ⟨gb259, 3, none⟩ = some (.slice A1_3 l1_3.length c1_3) := (bCl BK259.out 3).trans rfl; have hcz17_4 : w16.cell? ⟨gb259, 4, none⟩ = some (.slice A1_4 l1_4.length c1_4) := (bCl BK259.out 4).trans rfl; have hcz17_5 : w16.cell? ⟨gb259, 5, none⟩ = some (.slice A1_5 l1_5.length c1_5) := (bCl BK259.out 5).trans rfl; have hfz17_0 := bFz BK259.out 0; have hfz17_1 := bFz BK259.out 1; have hfz17_2 := bFz BK259.out 2; have hfz17_3 := bFz BK259.out 3; have hfz17_4 := bFz BK259.out 4; have hfz17_5 := bFz BK259.out 5) | ((with_reducible refine gate_callee (f := 96) rfl ?_); refine goesL_ (some 20) rfl rfl Tryd.func96 (by kernel_rfl) rfl #[.int .i64 a1_0] rfl (by (try simp only [List.map_toArray, List.map_cons, List.map_nil]); first | done | rfl | (simp only [List.length_drop, List.length_take]; rfl)) ?_; (with_reducible refine (rf6Atom.calls a1_0 true _ A8.out).mono ?_); rintro e w' ⟨rfl, ⟨nd, rfl⟩⟩; refine ⟨_, rfl, ?_⟩) | ((with_reducible refine gate_callee (f := 107) rfl ?_); refine goesL_ (some 24) rfl rfl Tryd.func107 (by kernel_rfl) rfl #[.int .i64 a1_0] rfl (by (try simp only [List.map_toArray, List.map_cons, List.map_nil]); first | done | rfl | (simp only [List.length_drop, List.length_take]; rfl)) ?_; (with_reducible refine (rf8asked.calls a1_0 t262 t263 _ A10.out).mono ?_); rintro e w' ⟨rfl, ⟨nd, rfl⟩⟩; refine ⟨_, rfl, ?_⟩; have p264 : 0 ≤ (0 : Int) := (by omega); have q264 : 0 < (l1_3.length : Int) := of_decide_eq_true (by first | (with_reducible assumption) | assumption); obtain ⟨ad264, e264, hx264_0, hx264_1, hx264_2⟩ := at_T47 HR1_3.out 0 p264 q264; cases e264; have qi264 : (0 < l1_3.length) = True := eq_true (by omega); (try rw [show ((0 : Int)).toNat = 0 from rfl] at hx264_0); (try rw [show 0 * 3 = 0 from rfl] at hx264_0); (try rw [Addr.add_zero'] at hx264_0); (try rw [show ((0 : Int)).toNat = 0 from rfl] at hx264_1); (try rw [show 0 * 3 = 0 from rfl] at hx264_1); (try rw [Addr.add_zero'] at hx264_1); (try rw [show ((0 : Int)).toNat = 0 from rfl] at hx264_2); (try rw [show 0 * 3 = 0 from rfl] at hx264_2); (try rw [Addr.add_zero'] at hx264_2); replace hx264_0 := (HB.out.cell (World.block_lt_of_cell? w _ hx264_0)).trans hx264_0; replace hx264_1 := (HB.out.cell (World.block_lt_of_cell? w _ hx264_1)).trans hx264_1; replace hx264_2 := (HB.out.cell (World.block_lt_of_cell? w _ hx264_2)).trans hx264_2; replace p264 := eq_true p264; replace q264 := eq_true q264) | ((with_reducible refine gate_callee (f := 108) rfl ?_); refine goesL_ (some 33) rfl rfl Tryd.func108 (by kernel_rfl) rfl #[.slice A0 l0.length c0, .agg #[.int .i64 ((rd_T47 l1_3 0).f0), .string ((rd_T47 l1_3 0).f1), .int .i64 ((rd_T47 l1_3 0).f2)], .int .i64 t262] rfl (by (try simp only [List.map_toArray, List.map_cons, List.map_nil]); first | done | rfl | (simp only [List.length_drop, List.length_take]; rfl)) ?_; (with_reducible refine (rf8of.calls k _ _ l0 ((rd_T47 l1_3 0).f0) ((rd_T47 l1_3 0).f1) ((rd_T47 l1_3 0).f2) t262 t265 _ ?side1 ?side2 A12.out).mono ?_); (case side1 => repeat (first | exact (Kd.C_below HR0.out (by repeat (first | (with_reducible first | exact HB.out | apply bAl | apply pwDN | apply bD1 | refine bSt ?_ GE259.out) | exact HB.out))) | (with_reducible refine Kd.C_alloc ?_ _) | (with_reducible refine Kd.C_drewN ?_ _) | (with_reducible refine Kd.C_drew ?_))); (case side2 => exact HC0.out); rintro e w18 ⟨rfl, hb⟩; refine ⟨_, rfl, ?_⟩; have n0_ := Aside0.mk (blk_below (g := gb259) (o := .cells #[.int .i64 a1_0, .string a1_1, .int .i64 a1_2, .slice (some ad264) l1_3.length c1_3, .slice A1_4 l1_4.length c1_4, .slice A1_5 l1_5.length c1_5] 26 (0, 0)) (by (with_reducible repeat (first | refine blk_drewN ?_ _ | refine blk_drew ?_ | refine blk_alloc ?_ _)); exact BK259.out) hb); have n1_ := Aside0.mk (below_step (by repeat (first | (with_reducible first | exact HB.out | apply bAl | apply pwDN | apply bD1 | refine bSt ?_ GE259.out) | exact HB.out)) hb); clear BK259; clear HB; have BK259 := n0_; have HB := n1_; clear n0_ n1_; (try clear hb); (try clear hb2); (try clear hk); (try clear hi); have hcz19_0 : w18.cell? ⟨gb259, 0, none⟩ = some (.int .i64 a1_0) := (bCl BK259.out 0).trans rfl; have hcz19_1 : w18.cell? ⟨gb259, 1, none⟩ = some (.string a1_1) := (bCl BK259.out 1).trans rfl; have hcz19_2 : w18.cell? ⟨gb259, 2, none⟩ = some (.int .i64 a1_2) := (bCl BK259.out 2).trans rfl; have hcz19_3 : w18.cell? ⟨gb259, 3, none⟩ = some (.slice (some ad264) l1_3.length c1_3) := (bCl BK259.out 3).trans rfl; have hcz19_4 : w18.cell? ⟨gb259, 4, none⟩ = some (.slice A1_4 l1_4.length c1_4) := (bCl BK259.out 4).trans rfl; have hcz19_5 : w18.cell? ⟨gb259, 5, none⟩ = some (.slice A1_5 l1_5.length c1_5) := (bCl BK259.out 5).trans rfl; have hfz19_0 := bFz BK259.out 0; have hfz19_1 := bFz BK259.out 1; have hfz19_2 := bFz BK259.out 2; have hfz19_3 := bFz BK259.out 3; have hfz19_4 := bFz BK259.out 4; have hfz19_5 := bFz BK259.out 5; have p266 : 0 ≤ (1 : Int) := (by omega); have q266 : 1 < (l1_3.length : Int) := of_decide_eq_true (by first | (with_reducible assumption) | assumption); obtain ⟨ad266, e266, hx266_0, hx266_1, hx266_2⟩ := at_T47 HR1_3.out 1 p266 q266; obtain rfl : ad264 = ad266 := (by injection e266); (try simp only [show (1 : Int).toNat = 1 from rfl, Nat.reduceMul, Nat.reduceEqDiff, Go.Addr.add, ↓reduceIte] at hx266_0); (try simp only [show (1 : Int).toNat = 1 from rfl, Nat.reduceMul, Nat.reduceEqDiff, Go.Addr.add, ↓reduceIte] at hx266_1); (try simp only [show (1 : Int).toNat = 1 from rfl, Nat.reduceMul, Nat.reduceEqDiff, Go.Addr.add, ↓reduceIte] at hx266_2); have qi266 : (1 < l1_3.length) = True := eq_true (by omega); (try rw [show ((1 : Int)).toNat = 1 from rfl] at hx266_0); (try rw [show 1 * 3 = 3 from rfl] at hx266_0); (try rw [show ((1 : Int)).toNat = 1 from rfl] at hx266_1); (try rw [show 1 * 3 = 3 from rfl] at hx266_1); (try rw [show ((1 : Int)).toNat = 1 from rfl] at hx266_2); (try rw [show 1 * 3 = 3 from rfl] at hx266_2); replace hx266_0 := (HB.out.cell (World.block_lt_of_cell? w _ hx266_0)).trans hx266_0; replace hx266_1 := (HB.out.cell (World.block_lt_of_cell? w _ hx266_1)).trans hx266_1; replace hx266_2 := (HB.out.cell (World.block_lt_of_cell? w _ hx266_2)).trans hx266_2; replace p266 := eq_true p266; replace q266 := eq_true q266) | ((with_reducible refine gate_callee (f := 108) rfl ?_); refine goesL_ (some 43) rfl rfl Tryd.func108 (by kernel_rfl) rfl #[.slice A0 l0.length c0, .agg #[.int .i64 ((rd_T47 l1_3 1).f0), .string ((rd_T47 l1_3 1).f1), .int .i64 ((rd_T47 l1_3 1).f2)], .int .i64 t263] rfl (by (try simp only [List.map_toArray, List.map_cons, List.map_nil]); first | done | rfl | (simp only [List.length_drop, List.length_take]; rfl)) ?_; (with_reducible refine (rf8of.calls k _ _ l0 ((rd_T47 l1_3 1).f0) ((rd_T47 l1_3 1).f1) ((rd_T47 l1_3 1).f2) t263 t267 _ ?side1 ?side2 A15.out).mono ?_); (case side1 => repeat (first | exact (Kd.C_below HR0.out HB.out) | (with_reducible refine Kd.C_alloc ?_ _) | (with_reducible refine Kd.C_drewN ?_ _) | (with_reducible refine Kd.C_drew ?_))); (case side2 => exact HC0.out); rintro e w20 ⟨rfl, hb⟩; refine ⟨_, rfl, ?_⟩; have n0_ := Aside0.mk (blk_below (g := gb259) (o := .cells #[.int .i64 a1_0, .string a1_1, .int .i64 a1_2, .slice (some ad264) l1_3.length c1_3, .slice A1_4 l1_4.length c1_4, .slice A1_5 l1_5.length c1_5] 26 (0, 0)) (by (with_reducible repeat (first | refine blk_drewN ?_ _ | refine blk_drew ?_ | refine blk_alloc ?_ _)); exact BK259.out) hb); have n1_ := Aside0.mk (below_step (by repeat (first | (with_reducible first | exact HB.out | apply bAl | apply pwDN | apply bD1 | refine bSt ?_ GE259.out) | exact HB.out)) hb); clear BK259; clear HB; have BK259 := n0_; have HB := n1_; clear n0_ n1_; (try clear hb); (try clear hb2); (try clear hk); (try clear hi)))
           go_ret
           exact ⟨by first | rfl | (simp [errW_none, errW_some] <;> rfl) | (simp [*, errW_none, errW_some] <;> rfl), by repeat (first | (with_reducible first | exact HB.out | apply bAl | apply pwDN | apply bD1 | refine bSt ?_ GE259.out) | exact HB.out)⟩
         · rw [if_neg c14] at H
           exact absurd H (by simp)
       · rw [if_neg c13] at H
         have c13b0 : (t265 == 0) = false := beq_eq_false_iff_ne.mpr c13
         have c13b1 : (t265 != 0) = true := bne_iff_ne.mpr c13
         obtain rfl := Option.some.inj H
         go_enter Tryd.func70, Tryd.ntmps70
         go_wp2_with (first | ((with_reducible refine gate_dst (N := 3) rfl ?_); refine box_event ?hg (N := 3) ?hd (cs := #[.int .i64 a1_0, .string a1_1, .int .i64 a1_2, .slice A1_3 l1_3.length c1_3, .slice A1_4 l1_4.length c1_4, .slice A1_5 l1_5.length c1_5]) (t := 26) ?hr ?_; (case hd => rfl); (case hg => rfl); (case hr => first | (go_simp; done) | (go_simp; rfl)); intro gb259 hg w21 hbox hb; have n0_ := Aside0.mk (below_step (by repeat (first | (with_reducible first | exact HB.out | apply bAl | apply pwDN | apply bD1) | exact HB.out)) hb); have n1_ := Aside0.mk (hbox); have n2_ := Aside0.mk ((by rw [hg]; exact (below_size (by repeat (first | (with_reducible first | exact HB.out | apply bAl | apply pwDN | apply bD1) | exact HB.out))) : w.heap.size ≤ gb259)); have n3_ := Aside0.mk ((by rw [hg]; exact (below_size (by repeat (first | (with_reducible first | exact HB.out | apply bAl | apply pwDN | apply bD1) | exact HB.out))) : w.heap.size ≤ gb259)); clear HB; have HB := n0_; have BK259 := n1_; have GW259 := n2_; have GE259 := n3_; clear n0_ n1_ n2_ n3_; clear hb hbox hg; have hcz22_0 : w21.cell? ⟨gb259, 0, none⟩ = some (.int .i64 a1_0) := (bCl BK259.out 0).trans rfl; have hcz22_1 : w21.cell? ⟨gb259, 1, none⟩ = some (.string a1_1) := (bCl BK259.out 1).trans rfl; have hcz22_2 : w21.cell? ⟨gb259, 2, none⟩ = some (.int .i64 a1_2) := (bCl BK259.out 2).trans rfl; have hcz22_3 : w21.cell? ⟨gb259, 3, none⟩ = some (.slice A1_3 l1_3.length c1_3) := (bCl BK259.out 3).trans rfl; have hcz22_4 : w21.cell? ⟨gb259, 4, none⟩ = some (.slice A1_4 l1_4.length c1_4) := (bCl BK259.out 4).trans rfl; have hcz22_5 : w21.cell? ⟨gb259, 5, none⟩ = some (.slice A1_5 l1_5.length c1_5) := (bCl BK259.out 5).trans rfl; have hfz22_0 := bFz BK259.out 0; have hfz22_1 := bFz BK259.out 1; have hfz22_2 := bFz BK259.out 2; have hfz22_3 := bFz BK259.out 3; have hfz22_4 := bFz BK259.out 4; have hfz22_5 := bFz BK259.out 5) | ((with_reducible refine gate_callee (f := 96) rfl ?_); refine goesL_ (some 20) rfl rfl Tryd.func96 (by kernel_rfl) rfl #[.int .i64 a1_0] rfl (by (try simp only [List.map_toArray, List.map_cons, List.map_nil]); first | done | rfl | (simp only [List.length_drop, List.length_take]; rfl)) ?_; (with_reducible refine (rf6Atom.calls a1_0 true _ A8.out).mono ?_); rintro e w' ⟨rfl, ⟨nd, rfl⟩⟩; refine ⟨_, rfl, ?_⟩) | ((with_reducible refine gate_callee (f := 107) rfl ?_); refine goesL_ (some 24) rfl rfl Tryd.func107 (by kernel_rfl) rfl #[.int .i64 a1_0] rfl (by (try simp only [List.map_toArray, List.map_cons, List.map_nil]); first | done | rfl | (simp only [List.length_drop, List.length_take]; rfl)) ?_; (with_reducible refine (rf8asked.calls a1_0 t262 t263 _ A10.out).mono ?_); rintro e w' ⟨rfl, ⟨nd, rfl⟩⟩; refine ⟨_, rfl, ?_⟩; have p264 : 0 ≤ (0 : Int) := (by omega); have q264 : 0 < (l1_3.length : Int) := of_decide_eq_true (by first | (with_reducible assumption) | assumption); obtain ⟨ad264, e264, hx264_0, hx264_1, hx264_2⟩ := at_T47 HR1_3.out 0 p264 q264; cases e264; have qi264 : (0 < l1_3.length) = True := eq_true (by omega); (try rw [show ((0 : Int)).toNat = 0 from rfl] at hx264_0); (try rw [show 0 * 3 = 0 from rfl] at hx264_0); (try rw [Addr.add_zero'] at hx264_0); (try rw [show ((0 : Int)).toNat = 0 from rfl] at hx264_1); (try rw [show 0 * 3 = 0 from rfl] at hx264_1); (try rw [Addr.add_zero'] at hx264_1); (try rw [show ((0 : Int)).toNat = 0 from rfl] at hx264_2); (try rw [show 0 * 3 = 0 from rfl] at hx264_2); (try rw [Addr.add_zero'] at hx264_2); replace hx264_0 := (HB.out.cell (World.block_lt_of_cell? w _ hx264_0)).trans hx264_0; replace hx264_1 := (HB.out.cell (World.block_lt_of_cell? w _ hx264_1)).trans hx264_1; replace hx264_2 := (HB.out.cell (World.block_lt_of_cell? w _ hx264_2)).trans hx264_2; replace p264 := eq_true p264; replace q264 := eq_true q264) | ((with_reducible refine gate_callee (f := 108) rfl ?_); refine goesL_ (some 33) rfl rfl Tryd.func108 (by kernel_rfl) rfl #[.slice A0 l0.length c0, .agg #[.int .i64 ((rd_T47 l1_3 0).f0), .string ((rd_T47 l1_3 0).f1), .int .i64 ((rd_T47 l1_3 0).f2)], .int .i64 t262] rfl (by (try simp only [List.map_toArray, List.map_cons, List.map_nil]); first | done | rfl | (simp only [List.length_drop, List.length_take]; rfl)) ?_; (with_reducible refine (rf8of.calls k _ _ l0 ((rd_T47 l1_3 0).f0) ((rd_T47 l1_3 0).f1) ((rd_T47 l1_3 0).f2) t262 t265 _ ?side1 ?side2 A12.out).mono ?_); (case side1 => repeat (first | exact (Kd.C_below HR0.out (by repeat (first | (with_reducible first | exact HB.out | apply bAl | apply pwDN | apply bD1 | refine bSt ?_ GE259.out) | exact HB.out))) | (with_reducible refine Kd.C_alloc ?_ _) | (with_reducible refine Kd.C_drewN ?_ _) | (with_reducible refine Kd.C_drew ?_))); (case side2 => exact HC0.out); rintro e w23 ⟨rfl, hb⟩; refine ⟨_, rfl, ?_⟩; have n0_ := Aside0.mk (blk_below (g := gb259) (o := .cells #[.int .i64 a1_0, .string a1_1, .int .i64 a1_2, .slice (some ad264) l1_3.length c1_3, .slice A1_4 l1_4.length c1_4, .slice A1_5 l1_5.length c1_5] 26 (0, 0)) (by (with_reducible repeat (first | refine blk_drewN ?_ _ | refine blk_drew ?_ | refine blk_alloc ?_ _)); exact BK259.out) hb); have n1_ := Aside0.mk (below_step (by repeat (first | (with_reducible first | exact HB.out | apply bAl | apply pwDN | apply bD1 | refine bSt ?_ GE259.out) | exact HB.out)) hb); clear BK259; clear HB; have BK259 := n0_; have HB := n1_; clear n0_ n1_; (try clear hb); (try clear hb2); (try clear hk); (try clear hi)))
         go_ret
         exact ⟨by first | rfl | (simp [errW_none, errW_some] <;> rfl) | (simp [*, errW_none, errW_some] <;> rfl), by repeat (first | (with_reducible first | exact HB.out | apply bAl | apply pwDN | apply bD1 | refine bSt ?_ GE259.out) | exact HB.out)⟩
     · rw [if_neg c11] at H
       exact absurd H (by simp)
   · replace c9 := Bool.eq_false_iff.mpr c9
     subst c9
     have H1 : ((some (([] : List (S42)) : List (S42))).bind fun y268 => (if y268.length + l0.length < 5864062014805 then (rf8first.l0 k (y268 ++ l0) 0 a1_0 a1_1 a1_2 l1_3 l1_4 l1_5) else (none))) = some r := by rw [if_neg (show ¬ (false = true) by decide)] at H; exact H
     clear H
     have H := H1
     clear H1
     obtain ⟨y268, hy268⟩ : ∃ y_ : List (S42), y_ = (([] : List (S42))) := ⟨_, rfl⟩
     replace H : (if y268.length + l0.length < 5864062014805 then (rf8first.l0 k (y268 ++ l0) 0 a1_0 a1_1 a1_2 l1_3 l1_4 l1_5) else (none)) = some r := by first | (rw [hy268]; with_reducible exact H) | (have H2_ := (Option.bind_some _ _).symm.trans H; rw [hy268]; with_reducible exact H2_) | (have H2_ := (Option.bind_some _ _).symm.trans H; with_reducible exact H2_) | with_reducible exact H | (rw [hy268]; exact H) | exact H
     have Ny268 := Aside0.mk hy268
     clear hy268
     by_cases c24 : y268.length + l0.length < 5864062014805
     · rw [if_pos c24] at H
       have LMc24 := Aside0.mk c24
       clear c24
       obtain ⟨y271, hy271⟩ : ∃ y_ : List (S42), y_ = (y268 ++ l0) := ⟨_, rfl⟩
       replace H : (rf8first.l0 k y271 0 a1_0 a1_1 a1_2 l1_3 l1_4 l1_5) = some r := by first | (rw [hy271]; with_reducible exact H) | (have H2_ := (Option.bind_some _ _).symm.trans H; rw [hy271]; with_reducible exact H2_) | (have H2_ := (Option.bind_some _ _).symm.trans H; with_reducible exact H2_) | with_reducible exact H | (rw [hy271]; exact H) | exact H
       have Ny271 := Aside0.mk hy271
       clear hy271
       have H' := Aside0.mk H
       clear H
       go_enter Tryd.func70, Tryd.ntmps70
       go_wp2_with (first | ((with_reducible refine gate_dst (N := 3) rfl ?_); refine box_event ?hg (N := 3) ?hd (cs := #[.int .i64 a1_0, .string a1_1, .int .i64 a1_2, .slice A1_3 l1_3.length c1_3, .slice A1_4 l1_4.length c1_4, .slice A1_5 l1_5.length c1_5]) (t := 26) ?hr ?_; (case hd => rfl); (case hg => rfl); (case hr => first | (go_simp; done) | (go_simp; rfl)); intro gb259 hg w25 hbox hb; have n0_ := Aside0.mk (below_step (by repeat (first | (with_reducible first | exact HB.out | apply bAl | apply pwDN | apply bD1) | exact HB.out)) hb); have n1_ := Aside0.mk (hbox); have n2_ := Aside0.mk ((by rw [hg]; exact (below_size (by repeat (first | (with_reducible first | exact HB.out | apply bAl | apply pwDN | apply bD1) | exact HB.out))) : w.heap.size ≤ gb259)); have n3_ := Aside0.mk ((by rw [hg]; exact (below_size (by repeat (first | (with_reducible first | exact HB.out | apply bAl | apply pwDN | apply bD1) | exact HB.out))) : w.heap.size ≤ gb259)); clear HB; have HB := n0_; have BK259 := n1_; have GW259 := n2_; have GE259 := n3_; clear n0_ n1_ n2_ n3_; clear hb hbox hg; have hcz26_0 : w25.cell? ⟨gb259, 0, none⟩ = some (.int .i64 a1_0) := (bCl BK259.out 0).trans rfl; have hcz26_1 : w25.cell? ⟨gb259, 1, none⟩ = some (.string a1_1) := (bCl BK259.out 1).trans rfl; have hcz26_2 : w25.cell? ⟨gb259, 2, none⟩ = some (.int .i64 a1_2) := (bCl BK259.out 2).trans rfl; have hcz26_3 : w25.cell? ⟨gb259, 3, none⟩ = some (.slice A1_3 l1_3.length c1_3) := (bCl BK259.out 3).trans rfl; have hcz26_4 : w25.cell? ⟨gb259, 4, none⟩ = some (.slice A1_4 l1_4.length c1_4) := (bCl BK259.out 4).trans rfl; have hcz26_5 : w25.cell? ⟨gb259, 5, none⟩ = some (.slice A1_5 l1_5.length c1_5) := (bCl BK259.out 5).trans rfl; have hfz26_0 := bFz BK259.out 0; have hfz26_1 := bFz BK259.out 1; have hfz26_2 := bFz BK259.out 2; have hfz26_3 := bFz BK259.out 3; have hfz26_4 := bFz BK259.out 4; have hfz26_5 := bFz BK259.out 5) | ((with_reducible refine gate_callee (f := 96) rfl ?_); refine goesL_ (some 20) rfl rfl Tryd.func96 (by kernel_rfl) rfl #[.int .i64 a1_0] rfl (by (try simp only [List.map_toArray, List.map_cons, List.map_nil]); first | done | rfl | (simp only [List.length_drop, List.length_take]; rfl)) ?_; (with_reducible refine (rf6Atom.calls a1_0 false _ A8.out).mono ?_); rintro e w' ⟨rfl, ⟨nd, rfl⟩⟩; refine ⟨_, rfl, ?_⟩) | ((with_reducible refine gate_dst (N := 44) rfl ?_); refine Kd.R_lit k42 _ 42 ?hg (N := 44) ?hd (xs := ([] : List (S42))) (inner := []) (ok := fun _ => True) (okp := fun _ => True) ?hr ?hp (fun _ hk => hk) trivial (Below.refl _ _) (Nat.le_refl _) (by simp) ?_; (case hd => rfl); (case hg => rfl); (case hr => first | (go_simp; done) | (go_simp; rfl)); (case hp => exact (Reps.none _ _)); intro v269 w27 ho28 hb hg_ hnew_; clear hg_ hnew_; (first | rw [← Ny268.out] at ho28 | (simp only [Int.reduceToNat] at ho28; rw [← Ny268.out] at ho28)); have n0_ := Aside0.mk (Kd.R_lower ho28 (below_size (by repeat (first | (with_reducible first | exact HB.out | apply bAl | apply pwDN | apply bD1 | refine bSt ?_ GE259.out) | exact HB.out)))); have n1_ := Aside0.mk (blk_below (g := gb259) (o := .cells #[.int .i64 a1_0, .string a1_1, .int .i64 a1_2, .slice A1_3 l1_3.length c1_3, .slice A1_4 l1_4.length c1_4, .slice A1_5 l1_5.length c1_5] 26 (0, 0)) (by (with_reducible repeat (first | refine blk_drewN ?_ _ | refine blk_drew ?_ | refine blk_alloc ?_ _)); exact BK259.out) hb); have n2_ := Aside0.mk (below_step (by repeat (first | (with_reducible first | exact HB.out | apply bAl | apply pwDN | apply bD1 | refine bSt ?_ GE259.out) | exact HB.out)) hb); clear BK259; clear HB; have HO270 := n0_; have BK259 := n1_; have HB := n2_; clear n0_ n1_ n2_; clear hb ho28) | ((with_reducible refine gate_builtin (b := .append) (xs := #[.tmp 44, .tmp 45]) rfl ?_); at_builtin; refine Kd.R_append_rows k42 (w0 := w) w.heap.size rfl (.tmp 44) (.tmp 45) 23 42 (.agg #[(.string ⟨#[]⟩), (.int .i64 0)]) 24 rfl Tryd.underlying23 info42 rfl (by decide) (by omega) v269 y268 l0 _ _ _ (fun _ => True) (fun _ => False) rfl rfl ?aO ?aR (fun _ _ h => h) (fun _ h => h.elim) ?aF ?aB ?aS ?aL ?_; (case aR => repeat (first | exact (Kd.C_below HR0.out HB.out) | (with_reducible refine Kd.C_alloc ?_ _) | (with_reducible refine Kd.C_drewN ?_ _) | (with_reducible refine Kd.C_drew ?_))); (case aB => exact (by repeat (first | (with_reducible first | exact HB.out | apply bAl | apply pwDN | apply bD1 | refine bSt ?_ GE259.out) | exact HB.out))); (case aF => exact (fun _ _ => trivial)); (case aO => exact (by (with_reducible repeat (first | apply Kd.R_alloc | apply Kd.R_drewN | apply Kd.R_drew)); exact HO270.out)); (case aS => exact (below_size (by repeat (first | (with_reducible first | exact HB.out | apply bAl | apply pwDN | apply bD1 | refine bSt ?_ GE259.out) | exact HB.out)))); (case aL => have := LMc24.out; omega); intro v272 w29 ho hb hg hat; rw [← Ny271.out] at ho; have n0_ := Aside0.mk (blk_grown (g := gb259) (o := .cells #[.int .i64 a1_0, .string a1_1, .int .i64 a1_2, .slice A1_3 l1_3.length c1_3, .slice A1_4 l1_4.length c1_4, .slice A1_5 l1_5.length c1_5] 26 (0, 0)) (by (with_reducible repeat (first | refine blk_drewN ?_ _ | refine blk_drew ?_ | refine blk_alloc ?_ _)); exact BK259.out) hg (Kd.R_ne HO270.out BK259.out (by decide))); have n1_ := Aside0.mk (hb); have n2_ := Aside0.mk (ho); clear BK259; clear HB; clear HO270; have BK259 := n0_; have HB := n1_; have HO273 := n2_; clear n0_ n1_ n2_; clear ho hb hg hat))
       go_loopg [8, 9] k (fun kq v8 v9 w' => ∃ (x8_1 : List (S42)) (x9_1 : Int), v9 = .int .i64 x9_1 ∧ Aside0 (rf8first.l0 kq x8_1 x9_1 a1_0 a1_1 a1_2 l1_3 l1_4 l1_5 = some r) ∧ Aside0 (kq ≤ k) ∧ Aside0 (Kd.R k42 42 w' w.heap.size (fun _ => True) v8 x8_1) ∧ Aside0 (w'.heap[gb259]? = some (.cells #[.int .i64 a1_0, .string a1_1, .int .i64 a1_2, (.slice A1_3 l1_3.length c1_3), (.slice A1_4 l1_4.length c1_4), (.slice A1_5 l1_5.length c1_5)] 26 (0, 0))) ∧ Aside0 (Below w.heap.size w w'))
       case atStart => exact ⟨(y271), (0), (by first | rfl | (simp; done) | (simp [*]; done)), H', ⟨Nat.le_refl _⟩, ⟨by (with_reducible repeat (first | apply Kd.R_alloc | apply Kd.R_drewN | apply Kd.R_drew)); exact HO273.out⟩, ⟨by (with_reducible repeat (first | refine blk_drewN ?_ _ | refine blk_drew ?_ | refine blk_alloc ?_ _)); exact BK259.out⟩, ⟨by repeat (first | (with_reducible first | exact HB.out | apply bAl | apply pwDN | apply bD1 | refine bSt ?_ GE259.out) | exact HB.out)⟩⟩
       case round =>
         clear H'
         try clear c1
         try clear c2
         try clear p2
         try clear q2
         try clear hx2
         try clear qi2
         try clear c3
         try clear c3b0
         try clear c3b1
         try clear c7
         try clear c9
         try clear c10
         try clear c11
         try clear c11b0
         try clear c11b1
         try clear c13
         try clear c13b0
         try clear c13b1
         try clear c14
         try clear c14b0
         try clear c14b1
         try clear c24
         try clear p26
         try clear q26
         try clear hx26
         try clear qi26
         try clear hcz17_0
         try clear hcz17_1
         try clear hcz17_2
         try clear hcz17_3
         try clear hcz17_4
         try clear hcz17_5
         try clear hcz19_0
         try clear hcz19_1
         try clear hcz19_2
         try clear hcz19_3
         try clear hcz19_4
         try clear hcz19_5
         try clear hcz22_0
         try clear hcz22_1
         try clear hcz22_2
         try clear hcz22_3
         try clear hcz22_4
         try clear hcz22_5
         try clear hcz26_0
         try clear hcz26_1
         try clear hcz26_2
         try clear hcz26_3
         try clear hcz26_4
         try clear hcz26_5
         try clear hcz6_0
         try clear hcz6_1
         try clear hcz6_2
         try clear hcz6_3
         try clear hcz6_4
         try clear hcz6_5
         try clear hfz17_0
         try clear hfz17_1
         try clear hfz17_2
         try clear hfz17_3
         try clear hfz17_4
         try clear hfz17_5
         try clear hfz19_0
         try clear hfz19_1
         try clear hfz19_2
         try clear hfz19_3
         try clear hfz19_4
         try clear hfz19_5
         try clear hfz22_0
         try clear hfz22_1
         try clear hfz22_2
         try clear hfz22_3
         try clear hfz22_4
         try clear hfz22_5
         try clear hfz26_0
         try clear hfz26_1
         try clear hfz26_2
         try clear hfz26_3
         try clear hfz26_4
         try clear hfz26_5
         try clear hfz6_0
         try clear hfz6_1
         try clear hfz6_2
         try clear hfz6_3
         try clear hfz6_4
         try clear hfz6_5
         try clear hx264_0
         try clear hx264_1
         try clear hx264_2
         try clear hx266_0
         try clear hx266_1
         try clear hx266_2
         try clear p264
         try clear p266
         try clear q264
         try clear q266
         obtain ⟨x8_1, x9_1, rfl, HA, HK1, HO_8, BK259, HB⟩ := hrel
         cases gk with
         | zero => exact absurd HA.out (by simp [rf8first.l0])
         | succ k1 =>
           have H := HA.out
           clear HA
           simp only [rf8first.l0] at H
           by_cases c30 : x9_1 < (l1_4.length : Int)
           · rw [if_pos c30] at H
             have c30b0 : decide (x9_1 < (l1_4.length : Int)) = true := decide_eq_true c30
             clear c30
             by_cases c31 : 0 ≤ x9_1
             · rw [if_pos c31] at H
               have c31b0 : decide (0 ≤ x9_1) = true := decide_eq_true c31
               clear c31
               replace H := Option.bind_eq_some_iff.mp H
               obtain ⟨t275, A320, H⟩ := H
               replace H : (if t275 = true then (some 82) else (if x8_1.length < 5864062014805 then (rf8first.l0 k1 (x8_1 ++ [(⟨(rd_T42 l1_4 x9_1).f0, (rd_T42 l1_4 x9_1).f1⟩ : S42)]) (wrap64 (x9_1 + 1)) a1_0 a1_1 a1_2 l1_3 l1_4 l1_5) else (none))) = some r := H
               have A32 := Aside0.mk A320
               clear A320
               by_cases c33 : t275 = true
               · subst c33
                 have H1 : (some 82) = some r := by rw [if_pos rfl] at H; exact H
                 clear H
                 have H := H1
                 clear H1
                 obtain rfl := Option.some.inj H
                 have hcz34_0 : wr.cell? ⟨gb259, 0, none⟩ = some (.int .i64 a1_0) := (bCl BK259.out 0).trans rfl
                 have hcz34_1 : wr.cell? ⟨gb259, 1, none⟩ = some (.string a1_1) := (bCl BK259.out 1).trans rfl
                 have hcz34_2 : wr.cell? ⟨gb259, 2, none⟩ = some (.int .i64 a1_2) := (bCl BK259.out 2).trans rfl
                 have hcz34_3 : wr.cell? ⟨gb259, 3, none⟩ = some (.slice A1_3 l1_3.length c1_3) := (bCl BK259.out 3).trans rfl
                 have hcz34_4 : wr.cell? ⟨gb259, 4, none⟩ = some (.slice A1_4 l1_4.length c1_4) := (bCl BK259.out 4).trans rfl
                 have hcz34_5 : wr.cell? ⟨gb259, 5, none⟩ = some (.slice A1_5 l1_5.length c1_5) := (bCl BK259.out 5).trans rfl
                 have hfz34_0 := bFz BK259.out 0
                 have hfz34_1 := bFz BK259.out 1
                 have hfz34_2 := bFz BK259.out 2
                 have hfz34_3 := bFz BK259.out 3
                 have hfz34_4 := bFz BK259.out 4
                 have hfz34_5 := bFz BK259.out 5
                 have p274 : 0 ≤ (x9_1 : Int) := of_decide_eq_true (by first | (with_reducible assumption) | assumption)
                 have q274 : x9_1 < (l1_4.length : Int) := of_decide_eq_true (by first | (with_reducible assumption) | assumption)
                 obtain ⟨ad274, e274, hx274_0, hx274_1⟩ := at_T42 HR1_4.out x9_1 p274 q274
                 cases e274
                 replace hx274_0 := (HB.out.cell (World.block_lt_of_cell? w _ hx274_0)).trans hx274_0
                 replace hx274_1 := (HB.out.cell (World.block_lt_of_cell? w _ hx274_1)).trans hx274_1
                 replace p274 := eq_true p274
                 replace q274 := eq_true q274
                 obtain ⟨Ao35, co35, eo35⟩ := Kd.R_slice HO_8.out
                 subst eo35
                 go_wp2_with (first | ((with_reducible refine gate_callee (f := 75) rfl ?_); refine goesL_ (some 61) rfl rfl Tryd.func75 (by kernel_rfl) rfl #[.slice Ao35 x8_1.length co35, .string ((rd_T42 l1_4 x9_1).f0)] rfl (by (try simp only [List.map_toArray, List.map_cons, List.map_nil]); first | done | rfl | (simp only [List.length_drop, List.length_take]; rfl)) ?_; (with_reducible refine (rf8stands.calls k1 _ _ x8_1 ((rd_T42 l1_4 x9_1).f0) true _ ?side1 ?side2 A32.out).mono ?_); (case side1 => repeat (first | exact (Kd.R_reads' HO_8.out).2.2 | (with_reducible refine Kd.C_alloc ?_ _) | (with_reducible refine Kd.C_drewN ?_ _) | (with_reducible refine Kd.C_drew ?_))); (case side2 => exact (Kd.R_reads' HO_8.out).2.1); rintro e w' ⟨rfl, ⟨nd, rfl⟩⟩; refine ⟨_, rfl, ?_⟩))
                 go_ret
                 exact ⟨by first | rfl | (simp [errW_none, errW_some] <;> rfl) | (simp [*, errW_none, errW_some] <;> rfl), by repeat (first | (with_reducible first | exact HB.out | apply bAl | apply pwDN | apply bD1 | refine bSt ?_ GE259.out) | exact HB.out)⟩
               · replace c33 := Bool.eq_false_iff.mpr c33
                 subst c33
                 have H1 : (if x8_1.length < 5864062014805 then (rf8first.l0 k1 (x8_1 ++ [(⟨(rd_T42 l1_4 x9_1).f0, (rd_T42 l1_4 x9_1).f1⟩ : S42)]) (wrap64 (x9_1 + 1)) a1_0 a1_1 a1_2 l1_3 l1_4 l1_5) else (none)) = some r := by rw [if_neg (show ¬ (false = true) by decide)] at H; exact H
                 clear H
                 have H := H1
                 clear H1
                 by_cases c36 : x8_1.length < 5864062014805
                 · rw [if_pos c36] at H
                   have LMc36 := Aside0.mk c36
                   clear c36
                   obtain ⟨y277, hy277⟩ : ∃ y_ : List (S42), y_ = (x8_1 ++ [(⟨(rd_T42 l1_4 x9_1).f0, (rd_T42 l1_4 x9_1).f1⟩ : S42)]) := ⟨_, rfl⟩
                   replace H : (rf8first.l0 k1 y277 (wrap64 (x9_1 + 1)) a1_0 a1_1 a1_2 l1_3 l1_4 l1_5) = some r := by first | (rw [hy277]; with_reducible exact H) | (have H2_ := (Option.bind_some _ _).symm.trans H; rw [hy277]; with_reducible exact H2_) | (have H2_ := (Option.bind_some _ _).symm.trans H; with_reducible exact H2_) | with_reducible exact H | (rw [hy277]; exact H) | exact H
                   have Ny277 := Aside0.mk hy277
                   clear hy277
                   have H' := Aside0.mk H
                   clear H
                   have hcz37_0 : wr.cell? ⟨gb259, 0, none⟩ = some (.int .i64 a1_0) := (bCl BK259.out 0).trans rfl
                   have hcz37_1 : wr.cell? ⟨gb259, 1, none⟩ = some (.string a1_1) := (bCl BK259.out 1).trans rfl
                   have hcz37_2 : wr.cell? ⟨gb259, 2, none⟩ = some (.int .i64 a1_2) := (bCl BK259.out 2).trans rfl
                   have hcz37_3 : wr.cell? ⟨gb259, 3, none⟩ = some (.slice A1_3 l1_3.length c1_3) := (bCl BK259.out 3).trans rfl
                   have hcz37_4 : wr.cell? ⟨gb259, 4, none⟩ = some (.slice A1_4 l1_4.length c1_4) := (bCl BK259.out 4).trans rfl
                   have hcz37_5 : wr.cell? ⟨gb259, 5, none⟩ = some (.slice A1_5 l1_5.length c1_5) := (bCl BK259.out 5).trans rfl
                   have hfz37_0 := bFz BK259.out 0
                   have hfz37_1 := bFz BK259.out 1
                   have hfz37_2 := bFz BK259.out 2
                   have hfz37_3 := bFz BK259.out 3
                   have hfz37_4 := bFz BK259.out 4
                   have hfz37_5 := bFz BK259.out 5
                   have p274 : 0 ≤ (x9_1 : Int) := of_decide_eq_true (by first | (with_reducible assumption) | assumption)
                   have q274 : x9_1 < (l1_4.length : Int) := of_decide_eq_true (by first | (with_reducible assumption) | assumption)
                   obtain ⟨ad274, e274, hx274_0, hx274_1⟩ := at_T42 HR1_4.out x9_1 p274 q274
                   cases e274
                   replace hx274_0 := (HB.out.cell (World.block_lt_of_cell? w _ hx274_0)).trans hx274_0
                   replace hx274_1 := (HB.out.cell (World.block_lt_of_cell? w _ hx274_1)).trans hx274_1
                   replace p274 := eq_true p274
                   replace q274 := eq_true q274
                   obtain ⟨Ao38, co38, eo38⟩ := Kd.R_slice HO_8.out
                   subst eo38
                   go_wp2_with (first | ((with_reducible refine gate_callee (f := 75) rfl ?_); refine goesL_ (some 61) rfl rfl Tryd.func75 (by kernel_rfl) rfl #[.slice Ao38 x8_1.length co38, .string ((rd_T42 l1_4 x9_1).f0)] rfl (by (try simp only [List.map_toArray, List.map_cons, List.map_nil]); first | done | rfl | (simp only [List.length_drop, List.length_take]; rfl)) ?_; (with_reducible refine (rf8stands.calls k1 _ _ x8_1 ((rd_T42 l1_4 x9_1).f0) false _ ?side1 ?side2 A32.out).mono ?_); (case side1 => repeat (first | exact (Kd.R_reads' HO_8.out).2.2 | (with_reducible refine Kd.C_alloc ?_ _) | (with_reducible refine Kd.C_drewN ?_ _) | (with_reducible refine Kd.C_drew ?_))); (case side2 => exact (Kd.R_reads' HO_8.out).2.1); rintro e w' ⟨rfl, ⟨nd, rfl⟩⟩; refine ⟨_, rfl, ?_⟩; have p276 : 0 ≤ (x9_1 : Int) := of_decide_eq_true (by first | (with_reducible assumption) | assumption); have q276 : x9_1 < (l1_4.length : Int) := of_decide_eq_true (by first | (with_reducible assumption) | assumption); obtain ⟨ad276, e276, hx276_0, hx276_1⟩ := at_T42 HR1_4.out x9_1 p276 q276; obtain rfl : ad274 = ad276 := (by injection e276); replace hx276_0 := (HB.out.cell (World.block_lt_of_cell? w _ hx276_0)).trans hx276_0; replace hx276_1 := (HB.out.cell (World.block_lt_of_cell? w _ hx276_1)).trans hx276_1; replace p276 := eq_true p276; replace q276 := eq_true q276) | ((with_reducible refine gate_builtin (b := .append) (xs := #[.tmp 62, .tmp 68]) rfl ?_); at_builtin; refine Kd.R_append k42 (w0 := w) w.heap.size rfl (.tmp 62) (.tmp 68) 23 42 (.agg #[(.string ⟨#[]⟩), (.int .i64 0)]) 24 rfl Tryd.underlying23 info42 rfl (by decide) (by omega) (.slice Ao38 x8_1.length co38) x8_1 (⟨(rd_T42 l1_4 x9_1).f0, (rd_T42 l1_4 x9_1).f1⟩ : S42) [.string ((rd_T42 l1_4 x9_1).f0), .int .i64 ((rd_T42 l1_4 x9_1).f1)] (fun _ => True) (fun _ => False) rfl rfl ?aP (fun _ hk => hk.elim) ?aF ?aO ?aB ?aS ?aL ?_; (case aP => exact k42_mkM _ _ _ (⟨(rd_T42 l1_4 x9_1).f0, (rd_T42 l1_4 x9_1).f1⟩ : S42)); (case aB => exact (by repeat (first | (with_reducible first | exact HB.out | apply bAl | apply pwDN | apply bD1 | refine bSt ?_ GE259.out) | exact HB.out))); (case aF => exact (fun _ _ => trivial)); (case aO => exact (by (with_reducible repeat (first | apply Kd.R_alloc | apply Kd.R_drewN | apply Kd.R_drew)); exact HO_8.out)); (case aS => exact (below_size (by repeat (first | (with_reducible first | exact HB.out | apply bAl | apply pwDN | apply bD1 | refine bSt ?_ GE259.out) | exact HB.out)))); (case aL => have := LMc36.out; omega); intro v278 w39 ho hb hg hat; rw [← Ny277.out] at ho; have n0_ := Aside0.mk (blk_grown (g := gb259) (o := .cells #[.int .i64 a1_0, .string a1_1, .int .i64 a1_2, .slice A1_3 l1_3.length c1_3, .slice (some ad274) l1_4.length c1_4, .slice A1_5 l1_5.length c1_5] 26 (0, 0)) (by (with_reducible repeat (first | refine blk_drewN ?_ _ | refine blk_drew ?_ | refine blk_alloc ?_ _)); exact BK259.out) hg (Kd.R_ne HO_8.out BK259.out (by decide))); have n1_ := Aside0.mk (hb); have n2_ := Aside0.mk (ho); clear BK259; clear HB; clear HO_8; have BK259 := n0_; have HB := n1_; have HO279 := n2_; clear n0_ n1_ n2_; clear ho hb hg hat))
                   go_roundg k1
                   case measure => have := HK1.out; omega
                   case rel => exact ⟨(y277), (wrap64 (x9_1 + 1)), (by first | rfl | (simp; done) | (simp [*]; done)), H', ⟨by have := HK1.out; omega⟩, ⟨by (with_reducible repeat (first | apply Kd.R_alloc | apply Kd.R_drewN | apply Kd.R_drew)); exact HO279.out⟩, ⟨by (with_reducible repeat (first | refine blk_drewN ?_ _ | refine blk_drew ?_ | refine blk_alloc ?_ _)); exact BK259.out⟩, ⟨by repeat (first | (with_reducible first | exact HB.out | apply bAl | apply pwDN | apply bD1 | refine bSt ?_ GE259.out) | exact HB.out)⟩⟩
                 · rw [if_neg c36] at H
                   exact absurd H (by simp)
             · rw [if_neg c31] at H
               exact absurd H (by simp)
           · rw [if_neg c30] at H
             have c30b0 : decide (x9_1 < (l1_4.length : Int)) = false := decide_eq_false c30
             clear c30
             have H' := Aside0.mk H
             clear H
             have hcz40_0 : wr.cell? ⟨gb259, 0, none⟩ = some (.int .i64 a1_0) := (bCl BK259.out 0).trans rfl
             have hcz40_1 : wr.cell? ⟨gb259, 1, none⟩ = some (.string a1_1) := (bCl BK259.out 1).trans rfl
             have hcz40_2 : wr.cell? ⟨gb259, 2, none⟩ = some (.int .i64 a1_2) := (bCl BK259.out 2).trans rfl
             have hcz40_3 : wr.cell? ⟨gb259, 3, none⟩ = some (.slice A1_3 l1_3.length c1_3) := (bCl BK259.out 3).trans rfl
             have hcz40_4 : wr.cell? ⟨gb259, 4, none⟩ = some (.slice A1_4 l1_4.length c1_4) := (bCl BK259.out 4).trans rfl
             have hcz40_5 : wr.cell? ⟨gb259, 5, none⟩ = some (.slice A1_5 l1_5.length c1_5) := (bCl BK259.out 5).trans rfl
             have hfz40_0 := bFz BK259.out 0
             have hfz40_1 := bFz BK259.out 1
             have hfz40_2 := bFz BK259.out 2
             have hfz40_3 := bFz BK259.out 3
             have hfz40_4 := bFz BK259.out 4
             have hfz40_5 := bFz BK259.out 5
             go_wp2
             go_loopg [10] k1 (fun kq v10 w' => ∃ (x10_2 : Int), v10 = .int .i64 x10_2 ∧ Aside0 (rf8first.l1 kq x8_1 x10_2 a1_0 a1_1 a1_2 l1_3 l1_4 l1_5 = some r) ∧ Aside0 (kq ≤ k1) ∧ Aside0 (Kd.R k42 42 w' w.heap.size (fun _ => True) u8 x8_1) ∧ Aside0 (w'.heap[gb259]? = some (.cells #[.int .i64 a1_0, .string a1_1, .int .i64 a1_2, (.slice A1_3 l1_3.length c1_3), (.slice A1_4 l1_4.length c1_4), (.slice A1_5 l1_5.length c1_5)] 26 (0, 0))) ∧ Aside0 (Below w.heap.size w w'))
             case atStart => exact ⟨(0), (by first | rfl | (simp; done) | (simp [*]; done)), H', ⟨Nat.le_refl _⟩, ⟨by (with_reducible repeat (first | apply Kd.R_alloc | apply Kd.R_drewN | apply Kd.R_drew)); exact HO_8.out⟩, ⟨by (with_reducible repeat (first | refine blk_drewN ?_ _ | refine blk_drew ?_ | refine blk_alloc ?_ _)); exact BK259.out⟩, ⟨by repeat (first | (with_reducible first | exact HB.out | apply bAl | apply pwDN | apply bD1 | refine bSt ?_ GE259.out) | exact HB.out)⟩⟩
             case round =>
               clear H'
               try clear c1
               try clear c2
               try clear p2
               try clear q2
               try clear hx2
               try clear qi2
               try clear c3
               try clear c3b0
               try clear c3b1
               try clear p6
               try clear c7
               try clear c9
               try clear c10
               try clear c11
               try clear c11b0
               try clear c11b1
               try clear c13
               try clear c13b0
               try clear c13b1
               try clear c14
               try clear c14b0
               try clear c14b1
               try clear c24
               try clear p26
               try clear q26
               try clear hx26
               try clear qi26
               try clear p27
               try clear q27
               try clear hx27
               try clear c30
               try clear c30b0
               try clear c31
               try clear c31b0
               try clear c33
               try clear c36
               try clear hcz17_0
               try clear hcz17_1
               try clear hcz17_2
               try clear hcz17_3
               try clear hcz17_4
               try clear hcz17_5
               try clear hcz19_0
               try clear hcz19_1
               try clear hcz19_2
               try clear hcz19_3
               try clear hcz19_4
               try clear hcz19_5
               try clear hcz22_0
               try clear hcz22_1
               try clear hcz22_2
               try clear hcz22_3
               try clear hcz22_4
               try clear hcz22_5
               try clear hcz26_0
               try clear hcz26_1
               try clear hcz26_2
               try clear hcz26_3
               try clear hcz26_4
               try clear hcz26_5
               try clear hcz34_0
               try clear hcz34_1
               try clear hcz34_2
               try clear hcz34_3
               try clear hcz34_4
               try clear hcz34_5
               try clear hcz37_0
               try clear hcz37_1
               try clear hcz37_2
               try clear hcz37_3
               try clear hcz37_4
               try clear hcz37_5
               try clear hcz40_0
               try clear hcz40_1
               try clear hcz40_2
               try clear hcz40_3
               try clear hcz40_4
               try clear hcz40_5
               try clear hcz6_0
               try clear hcz6_1
               try clear hcz6_2
               try clear hcz6_3
               try clear hcz6_4
               try clear hcz6_5
               try clear hfz17_0
               try clear hfz17_1
               try clear hfz17_2
               try clear hfz17_3
               try clear hfz17_4
               try clear hfz17_5
               try clear hfz19_0
               try clear hfz19_1
               try clear hfz19_2
               try clear hfz19_3
               try clear hfz19_4
               try clear hfz19_5
               try clear hfz22_0
               try clear hfz22_1
               try clear hfz22_2
               try clear hfz22_3
               try clear hfz22_4
               try clear hfz22_5
               try clear hfz26_0
               try clear hfz26_1
               try clear hfz26_2
               try clear hfz26_3
               try clear hfz26_4
               try clear hfz26_5
               try clear hfz34_0
               try clear hfz34_1
               try clear hfz34_2
               try clear hfz34_3
               try clear hfz34_4
               try clear hfz34_5
               try clear hfz37_0
               try clear hfz37_1
               try clear hfz37_2
               try clear hfz37_3
               try clear hfz37_4
               try clear hfz37_5
               try clear hfz40_0
               try clear hfz40_1
               try clear hfz40_2
               try clear hfz40_3
               try clear hfz40_4
               try clear hfz40_5
               try clear hfz6_0
               try clear hfz6_1
               try clear hfz6_2
               try clear hfz6_3
               try clear hfz6_4
               try clear hfz6_5
               try clear hx264_0
               try clear hx264_1
               try clear hx264_2
               try clear hx266_0
               try clear hx266_1
               try clear hx266_2
               try clear hx274_0
               try clear hx274_1
               try clear hx276_0
               try clear hx276_1
               try clear p2
               try clear p26
               try clear p264
               try clear p266
               try clear p274
               try clear p276
               try clear q2
               try clear q26
               try clear q264
               try clear q266
               try clear q274
               try clear q276
               obtain ⟨x10_2, rfl, HA, HK2, HO_8, BK259, HB⟩ := hrel
               cases gk with
               | zero => exact absurd HA.out (by simp [rf8first.l1])
               | succ k2 =>
                 have H := HA.out
                 clear HA
                 simp only [rf8first.l1] at H
                 by_cases c41 : x10_2 < (l1_5.length : Int)
                 · rw [if_pos c41] at H
                   have c41b0 : decide (x10_2 < (l1_5.length : Int)) = true := decide_eq_true c41
                   clear c41
                   by_cases c42 : 0 ≤ x10_2
                   · rw [if_pos c42] at H
                     have c42b0 : decide (0 ≤ x10_2) = true := decide_eq_true c42
                     clear c42
                     replace H := Option.bind_eq_some_iff.mp H
                     obtain ⟨t281, A430, H⟩ := H
                     replace H : (if t281 = 0 then (rf8first.l1 k2 x8_1 (wrap64 (x10_2 + 1)) a1_0 a1_1 a1_2 l1_3 l1_4 l1_5) else (some t281)) = some r := H
                     have A43 := Aside0.mk A430
                     clear A430
                     by_cases c44 : t281 = 0
                     · rw [if_pos c44] at H
                       have c44b0 : (t281 == 0) = true := beq_iff_eq.mpr c44
                       have c44b1 : (t281 != 0) = false := bne_eq_false_iff_eq.mpr c44
                       clear c44
                       have H' := Aside0.mk H
                       clear H
                       have hcz45_0 : wr.cell? ⟨gb259, 0, none⟩ = some (.int .i64 a1_0) := (bCl BK259.out 0).trans rfl
                       have hcz45_1 : wr.cell? ⟨gb259, 1, none⟩ = some (.string a1_1) := (bCl BK259.out 1).trans rfl
                       have hcz45_2 : wr.cell? ⟨gb259, 2, none⟩ = some (.int .i64 a1_2) := (bCl BK259.out 2).trans rfl
                       have hcz45_3 : wr.cell? ⟨gb259, 3, none⟩ = some (.slice A1_3 l1_3.length c1_3) := (bCl BK259.out 3).trans rfl
                       have hcz45_4 : wr.cell? ⟨gb259, 4, none⟩ = some (.slice A1_4 l1_4.length c1_4) := (bCl BK259.out 4).trans rfl
                       have hcz45_5 : wr.cell? ⟨gb259, 5, none⟩ = some (.slice A1_5 l1_5.length c1_5) := (bCl BK259.out 5).trans rfl
                       have hfz45_0 := bFz BK259.out 0
                       have hfz45_1 := bFz BK259.out 1
                       have hfz45_2 := bFz BK259.out 2
                       have hfz45_3 := bFz BK259.out 3
                       have hfz45_4 := bFz BK259.out 4
                       have hfz45_5 := bFz BK259.out 5
                       have p280 : 0 ≤ (x10_2 : Int) := of_decide_eq_true (by first | (with_reducible assumption) | assumption)
                       have q280 : x10_2 < (l1_5.length : Int) := of_decide_eq_true (by first | (with_reducible assumption) | assumption)
                       obtain ⟨ad280, A280_3, c280_3, A280_4, c280_4, A280_5, c280_5, e280, hx280_0, hx280_1, hx280_2, hx280_3, hx280_4, hx280_5, hl280_3, hi280_3, hl280_4, hi280_4, hl280_5, hi280_5⟩ := at_T26 HR1_5.out x10_2 p280 q280
                       cases e280
                       replace hx280_0 := (HB.out.cell (World.block_lt_of_cell? w _ hx280_0)).trans hx280_0
                       replace hx280_1 := (HB.out.cell (World.block_lt_of_cell? w _ hx280_1)).trans hx280_1
                       replace hx280_2 := (HB.out.cell (World.block_lt_of_cell? w _ hx280_2)).trans hx280_2
                       replace hx280_3 := (HB.out.cell (World.block_lt_of_cell? w _ hx280_3)).trans hx280_3
                       replace hx280_4 := (HB.out.cell (World.block_lt_of_cell? w _ hx280_4)).trans hx280_4
                       replace hx280_5 := (HB.out.cell (World.block_lt_of_cell? w _ hx280_5)).trans hx280_5
                       have HR280_3 := Aside0.mk hi280_3
                       have HC280_3 := Aside0.mk hl280_3
                       clear hi280_3 hl280_3
                       have HR280_4 := Aside0.mk hi280_4
                       have HC280_4 := Aside0.mk hl280_4
                       clear hi280_4 hl280_4
                       have HR280_5 := Aside0.mk hi280_5
                       have HC280_5 := Aside0.mk hl280_5
                       clear hi280_5 hl280_5
                       replace p280 := eq_true p280
                       replace q280 := eq_true q280
                       obtain ⟨Ao46, co46, eo46⟩ := Kd.R_slice HO_8.out
                       subst eo46
                       go_wp2_with (first | ((with_reducible refine gate_callee (f := 70) rfl ?_); refine goesL_ (some 83) rfl rfl Tryd.func70 (by kernel_rfl) rfl #[.slice Ao46 x8_1.length co46, .agg #[.int .i64 ((rd_T26 l1_5 x10_2).f0), .string ((rd_T26 l1_5 x10_2).f1), .int .i64 ((rd_T26 l1_5 x10_2).f2), .slice A280_3 ((rd_T26 l1_5 x10_2).f3).length c280_3, .slice A280_4 ((rd_T26 l1_5 x10_2).f4).length c280_4, .slice A280_5 ((rd_T26 l1_5 x10_2).f5).length c280_5]] rfl (by (try simp only [List.map_toArray, List.map_cons, List.map_nil]); first | done | rfl | (simp only [List.length_drop, List.length_take]; rfl)) ?_; (with_reducible refine (ih k2 (by have := HK1.out; have := HK2.out; omega) _ _ x8_1 ((rd_T26 l1_5 x10_2).f0) ((rd_T26 l1_5 x10_2).f1) ((rd_T26 l1_5 x10_2).f2) _ _ ((rd_T26 l1_5 x10_2).f3) _ _ ((rd_T26 l1_5 x10_2).f4) _ _ ((rd_T26 l1_5 x10_2).f5) t281 _ ?side1 ?side2 ?side3 ?side4 ?side5 ?side6 ?side7 ?side8 A43.out).mono ?_); (case side1 => repeat (first | exact (Kd.R_reads' HO_8.out).2.2 | (with_reducible refine Kd.C_alloc ?_ _) | (with_reducible refine Kd.C_drewN ?_ _) | (with_reducible refine Kd.C_drew ?_))); (case side2 => exact (Kd.R_reads' HO_8.out).2.1); (case side3 => repeat (first | exact (Kd.C_below HR280_3.out HB.out) | (with_reducible refine Kd.C_alloc ?_ _) | (with_reducible refine Kd.C_drewN ?_ _) | (with_reducible refine Kd.C_drew ?_))); (case side4 => exact HC280_3.out); (case side5 => repeat (first | exact (Kd.C_below HR280_4.out HB.out) | (with_reducible refine Kd.C_alloc ?_ _) | (with_reducible refine Kd.C_drewN ?_ _) | (with_reducible refine Kd.C_drew ?_))); (case side6 => exact HC280_4.out); (case side7 => repeat (first | exact (Kd.C_below HR280_5.out HB.out) | (with_reducible refine Kd.C_alloc ?_ _) | (with_reducible refine Kd.C_drewN ?_ _) | (with_reducible refine Kd.C_drew ?_))); (case side8 => exact HC280_5.out); rintro e w47 ⟨rfl, hb⟩; refine ⟨_, rfl, ?_⟩; have n0_ := Aside0.mk (Kd.R_below (by (with_reducible repeat (first | apply Kd.R_alloc | apply Kd.R_drewN | apply Kd.R_drew)); exact HO_8.out) hb); have n1_ := Aside0.mk (blk_below (g := gb259) (o := .cells #[.int .i64 a1_0, .string a1_1, .int .i64 a1_2, .slice A1_3 l1_3.length c1_3, .slice A1_4 l1_4.length c1_4, .slice (some ad280) l1_5.length c1_5] 26 (0, 0)) (by (with_reducible repeat (first | refine blk_drewN ?_ _ | refine blk_drew ?_ | refine blk_alloc ?_ _)); exact BK259.out) hb); have n2_ := Aside0.mk (below_step (by repeat (first | (with_reducible first | exact HB.out | apply bAl | apply pwDN | apply bD1 | refine bSt ?_ GE259.out) | exact HB.out)) hb); clear HO_8; clear BK259; clear HB; have HO_8 := n0_; have BK259 := n1_; have HB := n2_; clear n0_ n1_ n2_; (try clear hb); (try clear hb2); (try clear hk); (try clear hi)))
                       go_roundg k2
                       case measure => have := HK1.out; have := HK2.out; omega
                       case rel => exact ⟨(wrap64 (x10_2 + 1)), (by first | rfl | (simp; done) | (simp [*]; done)), H', ⟨by have := HK1.out; have := HK2.out; omega⟩, ⟨by (with_reducible repeat (first | apply Kd.R_alloc | apply Kd.R_drewN | apply Kd.R_drew)); exact HO_8.out⟩, ⟨by (with_reducible repeat (first | refine blk_drewN ?_ _ | refine blk_drew ?_ | refine blk_alloc ?_ _)); exact BK259.out⟩, ⟨by repeat (first | (with_reducible first | exact HB.out | apply bAl | apply pwDN | apply bD1 | refine bSt ?_ GE259.out) | exact HB.out)⟩⟩
                     · rw [if_neg c44] at H
                       have c44b0 : (t281 == 0) = false := beq_eq_false_iff_ne.mpr c44
                       have c44b1 : (t281 != 0) = true := bne_iff_ne.mpr c44
                       obtain rfl := Option.some.inj H
                       have hcz48_0 : wr.cell? ⟨gb259, 0, none⟩ = some (.int .i64 a1_0) := (bCl BK259.out 0).trans rfl
                       have hcz48_1 : wr.cell? ⟨gb259, 1, none⟩ = some (.string a1_1) := (bCl BK259.out 1).trans rfl
                       have hcz48_2 : wr.cell? ⟨gb259, 2, none⟩ = some (.int .i64 a1_2) := (bCl BK259.out 2).trans rfl
                       have hcz48_3 : wr.cell? ⟨gb259, 3, none⟩ = some (.slice A1_3 l1_3.length c1_3) := (bCl BK259.out 3).trans rfl
                       have hcz48_4 : wr.cell? ⟨gb259, 4, none⟩ = some (.slice A1_4 l1_4.length c1_4) := (bCl BK259.out 4).trans rfl
                       have hcz48_5 : wr.cell? ⟨gb259, 5, none⟩ = some (.slice A1_5 l1_5.length c1_5) := (bCl BK259.out 5).trans rfl
                       have hfz48_0 := bFz BK259.out 0
                       have hfz48_1 := bFz BK259.out 1
                       have hfz48_2 := bFz BK259.out 2
                       have hfz48_3 := bFz BK259.out 3
                       have hfz48_4 := bFz BK259.out 4
                       have hfz48_5 := bFz BK259.out 5
                       have p280 : 0 ≤ (x10_2 : Int) := of_decide_eq_true (by first | (with_reducible assumption) | assumption)
                       have q280 : x10_2 < (l1_5.length : Int) := of_decide_eq_true (by first | (with_reducible assumption) | assumption)
                       obtain ⟨ad280, A280_3, c280_3, A280_4, c280_4, A280_5, c280_5, e280, hx280_0, hx280_1, hx280_2, hx280_3, hx280_4, hx280_5, hl280_3, hi280_3, hl280_4, hi280_4, hl280_5, hi280_5⟩ := at_T26 HR1_5.out x10_2 p280 q280
                       cases e280
                       replace hx280_0 := (HB.out.cell (World.block_lt_of_cell? w _ hx280_0)).trans hx280_0
                       replace hx280_1 := (HB.out.cell (World.block_lt_of_cell? w _ hx280_1)).trans hx280_1
                       replace hx280_2 := (HB.out.cell (World.block_lt_of_cell? w _ hx280_2)).trans hx280_2
                       replace hx280_3 := (HB.out.cell (World.block_lt_of_cell? w _ hx280_3)).trans hx280_3
                       replace hx280_4 := (HB.out.cell (World.block_lt_of_cell? w _ hx280_4)).trans hx280_4
                       replace hx280_5 := (HB.out.cell (World.block_lt_of_cell? w _ hx280_5)).trans hx280_5
                       have HR280_3 := Aside0.mk hi280_3
                       have HC280_3 := Aside0.mk hl280_3
                       clear hi280_3 hl280_3
                       have HR280_4 := Aside0.mk hi280_4
                       have HC280_4 := Aside0.mk hl280_4
                       clear hi280_4 hl280_4
                       have HR280_5 := Aside0.mk hi280_5
                       have HC280_5 := Aside0.mk hl280_5
                       clear hi280_5 hl280_5
                       replace p280 := eq_true p280
                       replace q280 := eq_true q280
                       obtain ⟨Ao49, co49, eo49⟩ := Kd.R_slice HO_8.out
                       subst eo49
                       go_wp2_with (first | ((with_reducible refine gate_callee (f := 70) rfl ?_); refine goesL_ (some 83) rfl rfl Tryd.func70 (by kernel_rfl) rfl #[.slice Ao49 x8_1.length co49, .agg #[.int .i64 ((rd_T26 l1_5 x10_2).f0), .string ((rd_T26 l1_5 x10_2).f1), .int .i64 ((rd_T26 l1_5 x10_2).f2), .slice A280_3 ((rd_T26 l1_5 x10_2).f3).length c280_3, .slice A280_4 ((rd_T26 l1_5 x10_2).f4).length c280_4, .slice A280_5 ((rd_T26 l1_5 x10_2).f5).length c280_5]] rfl (by (try simp only [List.map_toArray, List.map_cons, List.map_nil]); first | done | rfl | (simp only [List.length_drop, List.length_take]; rfl)) ?_; (with_reducible refine (ih k2 (by have := HK1.out; have := HK2.out; omega) _ _ x8_1 ((rd_T26 l1_5 x10_2).f0) ((rd_T26 l1_5 x10_2).f1) ((rd_T26 l1_5 x10_2).f2) _ _ ((rd_T26 l1_5 x10_2).f3) _ _ ((rd_T26 l1_5 x10_2).f4) _ _ ((rd_T26 l1_5 x10_2).f5) t281 _ ?side1 ?side2 ?side3 ?side4 ?side5 ?side6 ?side7 ?side8 A43.out).mono ?_); (case side1 => repeat (first | exact (Kd.R_reads' HO_8.out).2.2 | (with_reducible refine Kd.C_alloc ?_ _) | (with_reducible refine Kd.C_drewN ?_ _) | (with_reducible refine Kd.C_drew ?_))); (case side2 => exact (Kd.R_reads' HO_8.out).2.1); (case side3 => repeat (first | exact (Kd.C_below HR280_3.out HB.out) | (with_reducible refine Kd.C_alloc ?_ _) | (with_reducible refine Kd.C_drewN ?_ _) | (with_reducible refine Kd.C_drew ?_))); (case side4 => exact HC280_3.out); (case side5 => repeat (first | exact (Kd.C_below HR280_4.out HB.out) | (with_reducible refine Kd.C_alloc ?_ _) | (with_reducible refine Kd.C_drewN ?_ _) | (with_reducible refine Kd.C_drew ?_))); (case side6 => exact HC280_4.out); (case side7 => repeat (first | exact (Kd.C_below HR280_5.out HB.out) | (with_reducible refine Kd.C_alloc ?_ _) | (with_reducible refine Kd.C_drewN ?_ _) | (with_reducible refine Kd.C_drew ?_))); (case side8 => exact HC280_5.out); rintro e w50 ⟨rfl, hb⟩; refine ⟨_, rfl, ?_⟩; have n0_ := Aside0.mk (Kd.R_below (by (with_reducible repeat (first | apply Kd.R_alloc | apply Kd.R_drewN | apply Kd.R_drew)); exact HO_8.out) hb); have n1_ := Aside0.mk (blk_below (g := gb259) (o := .cells #[.int .i64 a1_0, .string a1_1, .int .i64 a1_2, .slice A1_3 l1_3.length c1_3, .slice A1_4 l1_4.length c1_4, .slice (some ad280) l1_5.length c1_5] 26 (0, 0)) (by (with_reducible repeat (first | refine blk_drewN ?_ _ | refine blk_drew ?_ | refine blk_alloc ?_ _)); exact BK259.out) hb); have n2_ := Aside0.mk (below_step (by repeat (first | (with_reducible first | exact HB.out | apply bAl | apply pwDN | apply bD1 | refine bSt ?_ GE259.out) | exact HB.out)) hb); clear HO_8; clear BK259; clear HB; have HO_8 := n0_; have BK259 := n1_; have HB := n2_; clear n0_ n1_ n2_; (try clear hb); (try clear hb2); (try clear hk); (try clear hi)))
                       go_ret
                       exact ⟨by first | rfl | (simp [errW_none, errW_some] <;> rfl) | (simp [*, errW_none, errW_some] <;> rfl), by repeat (first | (with_reducible first | exact HB.out | apply bAl | apply pwDN | apply bD1 | refine bSt ?_ GE259.out) | exact HB.out)⟩
                   · rw [if_neg c42] at H
                     exact absurd H (by simp)
                 · rw [if_neg c41] at H
                   have c41b0 : decide (x10_2 < (l1_5.length : Int)) = false := decide_eq_false c41
                   clear c41
                   obtain rfl := Option.some.inj H
                   have hcz51_0 : wr.cell? ⟨gb259, 0, none⟩ = some (.int .i64 a1_0) := (bCl BK259.out 0).trans rfl
                   have hcz51_1 : wr.cell? ⟨gb259, 1, none⟩ = some (.string a1_1) := (bCl BK259.out 1).trans rfl
                   have hcz51_2 : wr.cell? ⟨gb259, 2, none⟩ = some (.int .i64 a1_2) := (bCl BK259.out 2).trans rfl
                   have hcz51_3 : wr.cell? ⟨gb259, 3, none⟩ = some (.slice A1_3 l1_3.length c1_3) := (bCl BK259.out 3).trans rfl
                   have hcz51_4 : wr.cell? ⟨gb259, 4, none⟩ = some (.slice A1_4 l1_4.length c1_4) := (bCl BK259.out 4).trans rfl
                   have hcz51_5 : wr.cell? ⟨gb259, 5, none⟩ = some (.slice A1_5 l1_5.length c1_5) := (bCl BK259.out 5).trans rfl
                   have hfz51_0 := bFz BK259.out 0
                   have hfz51_1 := bFz BK259.out 1
                   have hfz51_2 := bFz BK259.out 2
                   have hfz51_3 := bFz BK259.out 3
                   have hfz51_4 := bFz BK259.out 4
                   have hfz51_5 := bFz BK259.out 5
                   go_wp2
                   go_ret
                   exact ⟨by first | rfl | (simp [errW_none, errW_some] <;> rfl) | (simp [*, errW_none, errW_some] <;> rfl), by repeat (first | (with_reducible first | exact HB.out | apply bAl | apply pwDN | apply bD1 | refine bSt ?_ GE259.out) | exact HB.out)⟩
     · rw [if_neg c24] at H
       exact absurd H (by simp)
end Go.Proofs.YtmlcaecknocpoaaDoor.Pr
namespace Go.Proofs.YtmlcaecknocpoaaDoor.It
set_option linter.unusedVariables false
set_option linter.unusedSimpArgs false
open Go Go.RowKit Go.Shelf Go.Proofs.YtmlcaecknocpoaaDoorW.PrintWords Go.Proofs.YtmlcaecknocpoaaDoorW.PrintLast Go.Proofs.YtmlcaecknocpoaaDoor.Pr Go.Proofs.YtmlcaecknocpoaaDoor.Sp
theorem tl_iff (a b : ByteArray) : a.toList = b.toList ↔ a = b := by
 rw [ByteArray.toList_eq, ByteArray.toList_eq]
 constructor
 · intro h
   obtain ⟨⟨l⟩⟩ := a
   obtain ⟨⟨m⟩⟩ := b
   have : l = m := h
   rw [this]
 · rintro rfl; rfl
theorem has_cons (b : S42) (r : List S42) (nm : ByteArray) : has (b :: r) nm = if b.f0 = nm then true else has r nm := by
 unfold has
 rw [seek]
 by_cases h : b.f0 = nm
 · rw [if_pos h, if_pos h]; rfl
 · rw [if_neg h, if_neg h]
theorem stands8_ev (l : List S42) (nm : ByteArray) (hl : l.length ≤ 4611686018427387904) : Ev (fun k => rf8stands.f k l nm) (has l nm) := by
 have loop : ∀ d j : Nat, j + d = l.length → Ev (fun k => rf8stands.l0 k l nm (j : Int)) (has (l.drop j) nm) := by
   intro d
   induction d with
   | zero =>
     intro j hj
     refine Ev.step (f := fun _ => some false) (fun K => ?_) (Ev.val (by rw [List.drop_of_length_le (by omega)]; rfl))
     simp only [rf8stands.l0]
     rw [if_neg (by omega)]
   | succ d ih =>
     intro j hj
     have hn := ih (j + 1) (by omega)
     rw [drop_rd42 l j (by omega), has_cons]
     by_cases h : (rd_T42 l (j : Int)).f0 = nm
     · rw [if_pos h]
       refine Ev.step (f := fun _ => some true) (fun K => ?_) (Ev.now _)
       simp only [rf8stands.l0]
       rw [if_pos (by omega), if_pos (by omega), if_pos ((tl_iff _ _).2 h)]
     · rw [if_neg h]
       refine Ev.step (f := fun k => rf8stands.l0 k l nm ((j + 1 : Nat) : Int)) (fun K => ?_) hn
       simp only [rf8stands.l0]
       rw [if_pos (by omega), if_pos (by omega), if_neg (fun e => h ((tl_iff _ _).1 e)), wrap_one j (by omega)]
 have := loop l.length 0 (by omega)
 rw [List.drop_zero] at this
 exact this
theorem seek_ev (l : List S42) (nm : ByteArray) (hl : l.length ≤ 4611686018427387904) : Ev (fun k => rf8sort.f k l nm) ((seek l nm).getD 0) := by
 have loop : ∀ d j : Nat, j + d = l.length → Ev (fun k => rf8sort.l0 k l nm (j : Int)) ((seek (l.drop j) nm).getD 0) := by
   intro d
   induction d with
   | zero =>
     intro j hj
     refine Ev.step (f := fun _ => some 0) (fun K => ?_) (Ev.val (by rw [List.drop_of_length_le (by omega)]; rfl))
     simp only [rf8sort.l0]
     rw [if_neg (by omega)]
   | succ d ih =>
     intro j hj
     have hn := ih (j + 1) (by omega)
     rw [drop_rd42 l j (by omega), seek]
     by_cases h : (rd_T42 l (j : Int)).f0 = nm
     · rw [if_pos h]
       refine Ev.step (f := fun _ => some (rd_T42 l (j : Int)).f1) (fun K => ?_) (Ev.now _)
       simp only [rf8sort.l0]
       rw [if_pos (by omega), if_pos (by omega), if_pos ((tl_iff _ _).2 h)]
     · rw [if_neg h]
       refine Ev.step (f := fun k => rf8sort.l0 k l nm ((j + 1 : Nat) : Int)) (fun K => ?_) hn
       simp only [rf8sort.l0]
       rw [if_pos (by omega), if_pos (by omega), if_neg (fun e => h ((tl_iff _ _).1 e)), wrap_one j (by omega)]
 have := loop l.length 0 (by omega)
 rw [List.drop_zero] at this
 exact this
theorem bind8_ev (b : S42) (h : b.f0.size ≤ 9223372036854775807) : Ev (fun k => rf8bind.f k b.f0 b.f1) (Sp.bind b) := by
 refine Ev.bind (name_ev _ h) ?_
 unfold Sp.bind
 cases name b.f0 with
 | false => exact Ev.val (by simp)
 | true =>
   refine Ev.congr (fun K => if_pos rfl) (Ev.ite (fun h1 => Ev.val ?_) (fun h1 => Ev.val ?_))
   · rw [decide_eq_true (show 1 ≤ b.f1 from h1)]; simp
   · rw [decide_eq_false (show ¬ 1 ≤ b.f1 from h1)]; simp
theorem term8_ev (l : List S42) (t : S47) (hl : l.length ≤ 4611686018427387904) : Ev (fun k => rf8term.f k l t.f0 t.f1 t.f2) (sortT l t) := by
 unfold sortT
 by_cases h1 : t.f0 = 1
 · rw [if_pos h1]
   exact Ev.congr (fun K => if_pos h1) (Ev.now _)
 · rw [if_neg h1]
   refine Ev.congr (fun K => if_neg h1) (Ev.bind (stands8_ev l t.f1 hl) ?_)
   unfold has
   cases hs : seek l t.f1 with
   | none => exact Ev.congr (fun K => if_neg (by simp)) (Ev.now _)
   | some s =>
     refine Ev.congr (fun K => if_pos rfl) (Ev.bind (seek_ev l t.f1 hl) ?_)
     rw [hs]
     exact Ev.now _
theorem few8_ev (s : Nat) : ∀ x : S26, size x ≤ s → size x ≤ 4611686018427387904 → NmOk x → ∃ r : Bool, Ev (fun k => rf8Few.f k x.f0 x.f1 x.f2 x.f3 x.f4 x.f5) r := by
 induction s with
 | zero => intro x h; rw [size_eq] at h; omega
 | succ s ih =>
   rintro ⟨k, nm, n, ts, bs, l⟩ hs hb hn
   have hsz := refSize_ev (size ⟨k, nm, n, ts, bs, l⟩) ⟨k, nm, n, ts, bs, l⟩ (Nat.le_refl _) hb
   simp only [size] at hs hb
   have hlen := len_sizes l
   have loop : ∀ d j : Nat, j + d = l.length → ∃ r, Ev (fun K => rf8Few.l0 K (j : Int) k nm n ts bs l) r := by
     intro d
     induction d with
     | zero =>
       intro j hj
       refine ⟨true, Ev.step (f := fun _ => some true) (fun K => ?_) (Ev.now _)⟩
       simp only [rf8Few.l0]
       rw [if_neg (by omega)]
     | succ d ihd =>
       intro j hj
       have hlt : j < l.length := by omega
       have hc := size_child l j hlt
       obtain ⟨r1, h1⟩ := ih (rd_T26 l j) (by omega) (by omega) (hn.child j hlt)
       obtain ⟨r2, h2⟩ := ihd (j + 1) (by omega)
       refine ⟨if r1 = true then r2 else false, Ev.step (f := fun K => (rf8Few.f K (rd_T26 l (j : Int)).f0 (rd_T26 l (j : Int)).f1 (rd_T26 l (j : Int)).f2 (rd_T26 l (j : Int)).f3 (rd_T26 l (j : Int)).f4 (rd_T26 l (j : Int)).f5).bind fun t220 => if t220 = true then rf8Few.l0 K ((j + 1 : Nat) : Int) k nm n ts bs l else some false) (fun K => ?_) (Ev.bind h1 (Ev.ite (fun h => ?_) (fun h => ?_)))⟩
       · simp only [rf8Few.l0]
         rw [if_pos (by omega), if_pos (by omega), wrap_one j (by omega)]
       · rw [if_pos h]; exact h2
       · rw [if_neg h]; exact Ev.now _
   have j0 : ∀ b : Bool, ∃ r, Ev (fun K => rf8Few.j0 K b k nm n ts bs l) r := fun b => by
     cases b
     · obtain ⟨r, h⟩ := loop l.length 0 (by omega)
       refine ⟨r, Ev.step (f := fun K => rf8Few.l0 K ((0 : Nat) : Int) k nm n ts bs l) (fun K => ?_) h⟩
       simp only [rf8Few.j0, Bool.false_eq_true, if_false]
       rfl
     · refine ⟨false, Ev.step (f := fun _ => some false) (fun K => ?_) (Ev.now _)⟩
       simp only [rf8Few.j0, if_true]
   obtain ⟨r1, h1⟩ := j0 true
   obtain ⟨r2, h2⟩ := j0 (decide ((((size ⟨k, nm, n, ts, bs, l⟩ : Nat) : Int)) > 300))
   by_cases c1 : (l.length : Int) > 4
   · refine ⟨r1, Ev.step (f := fun K => rf8Few.j0 K true k nm n ts bs l) (fun K => ?_) h1⟩
     simp only [rf8Few.f]; rw [if_pos c1]
   · by_cases c2 : (ts.length : Int) > 4
     · refine ⟨r1, Ev.step (f := fun K => rf8Few.j0 K true k nm n ts bs l) (fun K => ?_) h1⟩
       simp only [rf8Few.f]; rw [if_neg c1, if_pos c2]
     · by_cases c3 : (bs.length : Int) > 10
       · refine ⟨r1, Ev.step (f := fun K => rf8Few.j0 K true k nm n ts bs l) (fun K => ?_) h1⟩
         simp only [rf8Few.f]; rw [if_neg c1, if_neg c2, if_pos c3]
       · refine ⟨r2, Ev.step (f := fun K => (rf6Size.f K k nm n ts bs l).bind fun t218 => rf8Few.j0 K (decide (t218 > 300)) k nm n ts bs l) (fun K => ?_) (Ev.bind hsz h2)⟩
         simp only [rf8Few.f]; rw [if_neg c1, if_neg c2, if_neg c3]
theorem lawfew_ev (env : List S42) (x : S26) (hs : size x ≤ 4611686018427387904) (hn : NmOk x) : ∃ r : Bool, (r = true → env.length ≤ 30) ∧ Ev (fun k => lw8few.f k env x.f0 x.f1 x.f2 x.f3 x.f4 x.f5) r := by
 obtain ⟨r, h⟩ := few8_ev (size x) x (Nat.le_refl _) hs hn
 by_cases c : (env.length : Int) ≤ 30
 · exact ⟨r, fun _ => by omega, Ev.congr (fun K => if_pos c) (Ev.bind h (Ev.now _))⟩
 · exact ⟨false, (fun h => by cases h), Ev.congr (fun K => if_neg c) (Ev.now _)⟩
end Go.Proofs.YtmlcaecknocpoaaDoor.It
namespace Go.Proofs.YtmlcaecknocpoaaDoor.Pr
open Go.RowKit Go.Proofs.YtmlcaecknocpoaaDoorW.PrintWords Go.Proofs.YtmlcaecknocpoaaDoorW.PrintLast Go.Proofs.YtmlcaecknocpoaaDoorW.PrintMore
attribute [local go_sem] max2_int min2_int max_two min_two max_three min_three max_four min_four   
set_option linter.unusedVariables false
set_option linter.unusedSimpArgs false
end Go.Proofs.YtmlcaecknocpoaaDoor.Pr
namespace Go.Proofs.YtmlcaecknocpoaaDoor.It
set_option linter.unusedVariables false
set_option linter.unusedSimpArgs false
open Go Go.RowKit Go.Shelf Go.Proofs.YtmlcaecknocpoaaDoorW.PrintWords Go.Proofs.YtmlcaecknocpoaaDoorW.PrintLast Go.Proofs.YtmlcaecknocpoaaDoor.Pr Go.Proofs.YtmlcaecknocpoaaDoor.Sp
theorem asked_f (k : Int) : rf8asked.f k = some (asked k) := by
 unfold rf8asked.f asked
 split
 · rfl
 · split
   · rfl
   · split
     · rfl
     · split
       · rfl
       · split <;> rfl
theorem of_ev (l : List S42) (t : S47) (s : Int) (hl : l.length ≤ 4611686018427387904) : Ev (fun k => rf8of.f k l t.f0 t.f1 t.f2 s) (ofT l t s) := by
 refine Ev.bind (term8_ev l t hl) ?_
 unfold ofT
 refine Ev.ite (fun h => ?_) (fun h => ?_)
 · rw [if_pos h]
   refine Ev.ite (fun h' => ?_) (fun h' => ?_)
   · rw [if_pos h', h]; exact Ev.now _
   · rw [if_neg h']; exact Ev.now _
 · rw [if_neg h]; exact Ev.now _
theorem eqs_tl (nm : ByteArray) : eqs nm = (decide (nm.toList = [61]) || decide (nm.toList = [33, 61])) := by
 unfold eqs
 congr 1
 · rw [decide_eq_decide, ← tl_iff, show (⟨#[61]⟩ : ByteArray).toList = [61] by rw [ByteArray.toList_eq]]
 · rw [decide_eq_decide, ← tl_iff, show (⟨#[33, 61]⟩ : ByteArray).toList = [33, 61] by rw [ByteArray.toList_eq]]
theorem compared_ev (l : List S42) (k : Int) (nm : ByteArray) (n : Int) (t u : S47) (bs : List S42) (cs : List S26) (hl : l.length ≤ 4611686018427387904) : Ev (fun K => rf8compared.f K l k nm n [t, u] bs cs) (cmpT l nm t u) := by
 refine Ev.congr (f := fun K => (rf8term.f K l t.f0 t.f1 t.f2).bind fun bt251 => (if bt251.2 = 0 then ((rf8term.f K l u.f0 u.f1 u.f2).bind fun bt254 => (if bt254.2 = 0 then (if nm.toList = ([61] : List UInt8) then (if bt251.1 = bt254.1 then (some 0) else (some 80)) else (if bt251.1 = bt254.1 then (if (nm.toList = ([33, 61] : List UInt8)) then (some 0) else (if bt251.1 = 8 then (some 0) else (if bt251.1 = 2 then (some 0) else (if bt251.1 = 6 then (some 0) else (some 80))))) else (some 80))) else (some bt254.2))) else (some bt251.2))) (fun K => rfl) ?_
 refine Ev.bind (term8_ev l t hl) ?_
 unfold cmpT
 refine Ev.ite (fun h1 => ?_) (fun h1 => ?_)
 · rw [if_pos h1]
   refine Ev.bind (term8_ev l u hl) (Ev.ite (fun h2 => ?_) (fun h2 => ?_))
   · rw [if_pos h2, eqs_tl]
     generalize (sortT l t).1 = a
     generalize (sortT l u).1 = b
     refine Ev.ite (fun h3 => Ev.ite (fun h4 => Ev.val ?_) (fun h4 => Ev.val ?_)) (fun h3 => Ev.ite (fun h4 => Ev.ite (fun h5 => Ev.val ?_) (fun h5 => Ev.ite (fun h6 => Ev.val ?_) (fun h6 => Ev.ite (fun h7 => Ev.val ?_) (fun h7 => Ev.ite (fun h8 => Ev.val ?_) (fun h8 => Ev.val ?_))))) (fun h4 => Ev.val ?_))
     · simp [h3, h4]
     · simp [h4]
     · simp [h4, h5]
     · subst h6; simp [h4.symm, ordered]
     · subst h7; simp [h4.symm, ordered]
     · subst h8; simp [h4.symm, ordered]
     · simp [h3, h5, ordered, h6, h7, h8]
     · simp [h4]
   · rw [if_neg h2]; exact Ev.now _
 · rw [if_neg h1]; exact Ev.now _
theorem first_ev (s : Nat) : ∀ (x : S26) (env : List S42), size x ≤ s → size x ≤ 4611686018427387904 → Fm x → env.length + nb x ≤ 1000000000 → Ev (fun k => rf8first.f k env x.f0 x.f1 x.f2 x.f3 x.f4 x.f5) (first x env) := by
 induction s with
 | zero => intro x _ h; rw [size_eq] at h; omega
 | succ s ih =>
   rintro ⟨k, nm, n, ts, bs, l⟩ env hs hb hf hlen
   have hfo := form_of hf
   simp only [form, Bool.and_eq_true] at hfo
   simp only [size] at hs hb
   simp only [nb] at hlen
   have hll := len_sizes l
   have node : k ≠ 9 → Sp.atom k = false → Ev (fun K => rf8first.f K env k nm n ts bs l) (first ⟨k, nm, n, ts, bs, l⟩ env) := fun h9 ha => by
     have l1 : ∀ (E : List S42), E.length + nbs l ≤ 1000000000 → ∀ d j : Nat, j + d = l.length → Ev (fun K => rf8first.l1 K E (j : Int) k nm n ts bs l) (firsts (l.drop j) E) := by
       intro E hE d
       induction d with
       | zero =>
         intro j hj
         refine Ev.step (f := fun _ => some 0) (fun K => ?_) (Ev.val (by rw [List.drop_of_length_le (by omega)]; rfl))
         simp only [rf8first.l1]
         rw [if_neg (by omega)]
       | succ d ihd =>
         intro j hj
         have hlt : j < l.length := by omega
         have hc := size_child l j hlt
         have hn := nbs_rd l j hlt
         rw [drop_rd l j hlt, firsts]
         refine Ev.step (f := fun K => (rf8first.f K E (rd_T26 l (j : Int)).f0 (rd_T26 l (j : Int)).f1 (rd_T26 l (j : Int)).f2 (rd_T26 l (j : Int)).f3 (rd_T26 l (j : Int)).f4 (rd_T26 l (j : Int)).f5).bind fun t281 => if t281 = 0 then rf8first.l1 K E ((j + 1 : Nat) : Int) k nm n ts bs l else some t281) (fun K => ?_) (Ev.bind (ih _ E (by omega) (by omega) (fm_of (forms_rd l hfo.2 j hlt)) (by omega)) (Ev.ite (fun h => ?_) (fun h => ?_)))
         · simp only [rf8first.l1]
           rw [if_pos (by omega), if_pos (by omega), wrap_one j (by omega)]
         · rw [if_pos h]; exact ihd (j + 1) (by omega)
         · rw [if_neg h]; exact Ev.now _
     have l0 : ∀ d j : Nat, j + d = bs.length → Ev (fun K => rf8first.l0 K (env ++ bs.take j) (j : Int) k nm n ts bs l) (if fresh (env ++ bs.take j) (bs.drop j) then firsts l (env ++ bs) else 82) := by
       intro d
       induction d with
       | zero =>
         intro j hj
         obtain rfl : j = bs.length := by omega
         rw [List.take_length, List.drop_length, fresh, if_pos rfl]
         have := l1 (env ++ bs) (by rw [List.length_append]; omega) l.length 0 (by omega)
         rw [List.drop_zero] at this
         refine Ev.step (f := fun K => rf8first.l1 K (env ++ bs) ((0 : Nat) : Int) k nm n ts bs l) (fun K => ?_) this
         simp only [rf8first.l0]
         rw [if_neg (by omega)]
         rfl
       | succ d ihd =>
         intro j hj
         have hlt : j < bs.length := by omega
         have ht : bs.take (j + 1) = bs.take j ++ [rd_T42 bs j] := by
           rw [List.take_succ_eq_append_getElem hlt]
           simp [rd_T42, List.getD, hlt]
         have hn := ihd (j + 1) (by omega)
         rw [ht, ← List.append_assoc] at hn
         rw [drop_rd42 bs j hlt, fresh]
         have hlen2 : (env ++ bs.take j).length ≤ 1000000000 := by rw [List.length_append, List.length_take]; omega
         refine Ev.step (f := fun K => (rf8stands.f K (env ++ bs.take j) ((rd_T42 bs (j : Int)).f0)).bind fun t275 => (if t275 = true then (some 82) else (rf8first.l0 K (env ++ bs.take j ++ [rd_T42 bs j]) ((j + 1 : Nat) : Int) k nm n ts bs l))) (fun K => ?_) (Ev.bind (stands8_ev _ _ (by omega)) ?_)
         · simp only [rf8first.l0]
           rw [if_pos (by omega), if_pos (by omega), wrap_one j (by omega), if_pos (by omega)]
         · cases has (env ++ bs.take j) (rd_T42 bs j).f0 with
           | true => exact Ev.congr (fun K => if_pos rfl) (Ev.val (by simp))
           | false => exact Ev.congr (fun K => if_neg (by decide)) (by simpa using hn)
     rw [first, if_neg h9, if_neg (by rw [ha]; decide)]
     have h0 := l0 bs.length 0 (by omega)
     rw [List.take_zero, List.append_nil, List.drop_zero] at h0
     refine Ev.step (f := fun K => rf8first.l0 K env ((0 : Nat) : Int) k nm n ts bs l) (fun K => ?_) h0
     simp only [rf8first.f, atom_f, Option.bind_some]
     rw [if_neg h9, if_neg (by rw [ha]; decide), if_pos (by simp; omega), List.nil_append]
     rfl
   cases hf with
   | const hk' => exact node (by omega) (by simp [Sp.atom]; omega)
   | atom h1 h2 h3 =>
     have ha : Sp.atom k = true := by simp [Sp.atom]; omega
     obtain ⟨t, u, rfl, ht, hu⟩ := two_of ha h3
     rw [first_atom h1 h2]
     show Ev _ (atomT env k t u)
     unfold atomT
     refine Ev.step (f := fun K => (rf8of.f K env t.f0 t.f1 t.f2 (asked k).1).bind fun t265 => (if t265 = 0 then ((rf8of.f K env u.f0 u.f1 u.f2 (asked k).2).bind fun t267 => some t267) else some t265)) (fun K => ?_) (Ev.bind (of_ev env t _ (by omega)) (Ev.ite (fun h => ?_) (fun h => ?_)))
     · simp only [rf8first.f, atom_f, asked_f, Option.bind_some]
       rw [if_neg (by omega), if_pos ha]
       rfl
     · exact Ev.bind (of_ev env u _ (by omega)) (Ev.val (by rw [if_pos h]))
     · exact Ev.val (by rw [if_neg h])
   | cmp h1 h2 =>
     obtain ⟨t, u, rfl, ht, hu⟩ := two_of (by rfl) h2
     rw [first_cmp]
     show Ev _ (cmpT env nm t u)
     refine Ev.step (f := fun K => (rf8compared.f K env 9 nm 0 [t, u] [] []).bind fun t260 => some t260) (fun K => ?_) (Ev.bind (compared_ev env 9 nm 0 t u [] [] (by omega)) (Ev.now _))
     simp only [rf8first.f, if_true]
   | not h => exact node (by omega) rfl
   | two hk' _ _ => exact node (by omega) (by simp [Sp.atom]; omega)
   | imp _ _ => exact node (by omega) rfl
   | quant hk' _ _ => exact node (by omega) (by simp [Sp.atom]; omega)
   | count hk' _ _ _ _ => exact node (by omega) (by simp [Sp.atom]; omega)
section
variable {w : World} {env : List S42} {A : Option Addr} {c : Nat} {x : S26} {A3 : Option Addr} {c3 : Nat} {A4 : Option Addr} {c4 : Nat} {A5 : Option Addr} {c5 : Nat}
theorem few8_calls (hE : EnvA w env A c) (ha : Arg w x A3 c3 A4 c4 A5 c5) : ∃ r : Bool, (r = true → env.length ≤ 30) ∧ ∀ W, Below w.heap.size w W → Calls Tryd.prog 37 #[.slice A env.length c, .agg #[.int .i64 x.f0, .string x.f1, .int .i64 x.f2, .slice A3 x.f3.length c3, .slice A4 x.f4.length c4, .slice A5 x.f5.length c5]] W
   fun e w' => e = .returned (.bool r) ∧ Below W.heap.size W w' := by
 obtain ⟨r, h30, hr⟩ := lawfew_ev env x ha.size ha.nm
 obtain ⟨k, hk⟩ := hr.rounds
 exact ⟨r, h30, fun W hW => lw8few.calls k _ _ _ _ _ _ _ _ _ _ _ _ _ _ _ _ W (Kd.C_below hE.row hW) hE.le (ha.at_.below hW).g3 ha.at_.l3 (ha.at_.below hW).g4 ha.at_.l4 (ha.at_.below hW).g5 ha.at_.l5 hk⟩
end
end Go.Proofs.YtmlcaecknocpoaaDoor.It
namespace Go.Proofs.YtmlcaecknocpoaaDoor.Wt
set_option linter.unusedVariables false
set_option linter.unusedSimpArgs false
open Go Go.ChangeShapes Go.WideShapes Go.ChangeAt Go.RowKit
def firstCells : Array Value := match Go.Pinned.utf8First with
 | .agg l => (l.map fun d => match d with | .lit (.int k n) => Value.int k n | _ => undef).toArray
 | _ => #[]
noncomputable def world (os : Os) : World :=
 { World.doorLaid Tryd.prog 341 os with heap := (World.doorLaid Tryd.prog 341 os).heap.modify 6 fun
     | .cells _ t frozen => .cells firstCells t frozen
     | o => o }
end Go.Proofs.YtmlcaecknocpoaaDoor.Wt
namespace Go.Proofs.YtmlcaecknocpoaaDoor.It
set_option linter.unusedVariables false
set_option linter.unusedSimpArgs false
open Go Go.ChangeShapes Go.WideShapes Go.ChangeAt Go.RowKit
theorem own : ownKnob Tryd.prog.godebug = none := by kernel_rfl
theorem laidOut : laidOutB Tryd.prog = true := by kernel_rfl
structure ArgT (t : Pr.S47) : Prop where
 nm : t.f1.size ≤ 1048576
 k : I64 t.f0
 n : I64 t.f2
end Go.Proofs.YtmlcaecknocpoaaDoor.It
namespace Go.Proofs.YtmlcaecknocpoaaDoor.It
set_option linter.unusedVariables false
set_option linter.unusedSimpArgs false
open Go Go.ChangeShapes Go.WideShapes Go.ChangeAt Go.RowKit Go.Shelf Go.Deep Go.Proofs.YtmlcaecknocpoaaDoorW.PrintWords Go.Proofs.YtmlcaecknocpoaaDoorW.PrintLast Go.Proofs.YtmlcaecknocpoaaDoor.Pr
theorem ArgT.ok {t : Pr.S47} (h : ArgT t) : TOk t := ⟨by have := h.nm; omega, h.k, h.n⟩
end Go.Proofs.YtmlcaecknocpoaaDoor.It
