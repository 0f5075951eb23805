/- Lemmas and walks for the claim below. -/
import Derived.Test.YtmlcaecknocpoaaDoorQrK4
namespace Go.Proofs.YtmlcaecknocpoaaDoor.Pr
open Go.RowKit Go.Proofs.YtmlcaecknocpoaaDoorW.PrintWords Go.Proofs.YtmlcaecknocpoaaDoorW.PrintLast Go.Proofs.YtmlcaecknocpoaaDoorW.PrintMore
attribute [local go_sem] max2_int min2_int max_two min_two max_three min_three max_four min_four   
set_option linter.unusedVariables false
set_option linter.unusedSimpArgs false
mutual
def rf6form.j0 : Nat → Bool → Int → ByteArray → Int → List (S47) → List (S42) → List (S26) → Option (Bool)
 | 0, _, _, _, _, _, _, _ => none
 | k + 1, x20, x135000, x135001, x135002, x135003, x135004, x135005 => if x20 = true then (some false) else (rf6form.l0 k 0 x135000 x135001 x135002 x135003 x135004 x135005)
def rf6form.l0 : Nat → Int → Int → ByteArray → Int → List (S47) → List (S42) → List (S26) → Option (Bool)
 | 0, _, _, _, _, _, _, _ => none
 | k + 1, x3, x135000, x135001, x135002, x135003, x135004, x135005 => if x3 < (x135005.length : Int) then (if 0 ≤ x3 then ((rf6form.f k ((rd_T26 x135005 x3).f0) ((rd_T26 x135005 x3).f1) ((rd_T26 x135005 x3).f2) ((rd_T26 x135005 x3).f3) ((rd_T26 x135005 x3).f4) ((rd_T26 x135005 x3).f5)).bind fun t139 => (if t139 = true then (rf6form.l0 k (wrap64 (x3 + 1)) x135000 x135001 x135002 x135003 x135004 x135005) else (some false))) else (none)) else (some true)
def rf6form.f : Nat → Int → ByteArray → Int → List (S47) → List (S42) → List (S26) → Option (Bool)
 | 0, _, _, _, _, _, _ => none
 | k + 1, a0_0, a0_1, a0_2, l0_3, l0_4, l0_5 => (rf6parts.f k a0_0).bind fun t135 => (if (l0_5.length : Int) = t135 then ((rf6terms.f k a0_0 a0_1 a0_2 l0_3 l0_4 l0_5).bind fun t136 => (if t136 = true then ((rf6binds.f k a0_0 a0_1 a0_2 l0_3 l0_4 l0_5).bind fun t137 => (rf6form.j0 k (!t137) a0_0 a0_1 a0_2 l0_3 l0_4 l0_5)) else (rf6form.j0 k true a0_0 a0_1 a0_2 l0_3 l0_4 l0_5))) else (rf6form.j0 k true a0_0 a0_1 a0_2 l0_3 l0_4 l0_5))
end
def rf6form.T1 : Bool × List (List Nat × List Nat) := (true, [([], []), ([0], [0]), ([1], [1]), ([], []), ([3], [3]), ([4], [4]), ([2, 5], [2, 5]), ([6, 5], [6]), ([7], [7]), ([8, 7, 7], [7, 8]), ([9, 7], [7, 9]), ([7, 10], [7, 10]), ([11, 9], [11]), ([12], [12]), ([13, 12, 12], [12, 13]), ([14, 12], [12, 14]), ([12, 15], [12, 15])])
def rf6form.B1 : List Nat := [0, 1, 3, 0, 8, 24, 63, 127, 255, 511, 1023, 2047, 4095, 8191, 16383, 32767, 65535]
theorem rf6form.tab1 : rtab .any (opsOf Tryd.f54 1) = rf6form.T1 := by kernel_rfl
theorem rf6form.bits1 : waitsOk rf6form.T1.2 rf6form.B1 = true := by kernel_rfl
set_option maxHeartbeats 8000000 in
set_option maxRecDepth 100000 in
theorem rf6form.calls (k : Nat) : ∀ (a0_0 : Int) (a0_1 : ByteArray) (a0_2 : Int) (A0_3 : Option Addr) (c0_3 : Nat) (l0_3 : List (S47)) (A0_4 : Option Addr) (c0_4 : Nat) (l0_4 : List (S42)) (A0_5 : Option Addr) (c0_5 : Nat) (l0_5 : List (S26)) (r : Bool) (w : World) (hr0_3 : Kd.C k47 w A0_3 l0_3.length l0_3) (hc0_3 : l0_3.length ≤ c0_3) (hr0_4 : Kd.C k42 w A0_4 l0_4.length l0_4) (hc0_4 : l0_4.length ≤ c0_4) (hr0_5 : Kd.C k26 w A0_5 l0_5.length l0_5) (hc0_5 : l0_5.length ≤ c0_5) (h : rf6form.f k a0_0 a0_1 a0_2 l0_3 l0_4 l0_5 = some r),
   Calls Tryd.prog 54 #[.agg #[.int .i64 a0_0, .string a0_1, .int .i64 a0_2, .slice A0_3 l0_3.length c0_3, .slice A0_4 l0_4.length c0_4, .slice A0_5 l0_5.length c0_5]] w fun e w' => e = .returned (.bool r) ∧ Below w.heap.size w w' := by
 induction k using Nat.strongRecOn with
 | _ k ih =>
 intro a0_0 a0_1 a0_2 A0_3 c0_3 l0_3 A0_4 c0_4 l0_4 A0_5 c0_5 l0_5 r w hr0_3 hc0_3 hr0_4 hc0_4 hr0_5 hc0_5 h
 cases k with
 | zero => exact absurd h (by simp [rf6form.f])
 | succ k =>
 simp only [rf6form.f] at h
 have hu26 := Tryd.underlying26
 have HR0_3 := Aside0.mk hr0_3
 have HC0_3 := Aside0.mk hc0_3
 clear hr0_3 hc0_3
 have HR0_4 := Aside0.mk hr0_4
 have HC0_4 := Aside0.mk hc0_4
 clear hr0_4 hc0_4
 have HR0_5 := Aside0.mk hr0_5
 have HC0_5 := Aside0.mk hc0_5
 clear hr0_5 hc0_5
 have HB := Aside0.mk (Below.refl w.heap.size w)
 have H : ((rf6parts.f k a0_0).bind fun t135 => (if (l0_5.length : Int) = t135 then ((rf6terms.f k a0_0 a0_1 a0_2 l0_3 l0_4 l0_5).bind fun t136 => (if t136 = true then ((rf6binds.f k a0_0 a0_1 a0_2 l0_3 l0_4 l0_5).bind fun t137 => (rf6form.j0 k (!t137) a0_0 a0_1 a0_2 l0_3 l0_4 l0_5)) else (rf6form.j0 k true a0_0 a0_1 a0_2 l0_3 l0_4 l0_5))) else (rf6form.j0 k true a0_0 a0_1 a0_2 l0_3 l0_4 l0_5))) = some r := h
 clear h
 have HC2 := Aside0.mk H
 clear H
 go_enter Tryd.func54, Tryd.ntmps54
 go_upto_region 1 with (first | ((with_reducible refine gate_dst (N := 1) rfl ?_); refine box_event ?hg (N := 1) ?hd (cs := #[.int .i64 a0_0, .string a0_1, .int .i64 a0_2, .slice A0_3 l0_3.length c0_3, .slice A0_4 l0_4.length c0_4, .slice A0_5 l0_5.length c0_5]) (t := 26) ?hr ?_; (case hd => rfl); (case hg => rfl); (case hr => first | (go_simp; done) | (go_simp; rfl)); intro gb134 hg w3 hbox hb; have n0_ := Aside0.mk (below_step (by repeat (first | (with_reducible first | exact HB.out | apply bAl | apply pwDN | apply bD1) | exact HB.out)) hb); have n1_ := Aside0.mk (hbox); have n2_ := Aside0.mk ((by rw [hg]; exact (below_size (by repeat (first | (with_reducible first | exact HB.out | apply bAl | apply pwDN | apply bD1) | exact HB.out))) : w.heap.size ≤ gb134)); have n3_ := Aside0.mk ((by rw [hg]; exact (below_size (by repeat (first | (with_reducible first | exact HB.out | apply bAl | apply pwDN | apply bD1) | exact HB.out))) : w.heap.size ≤ gb134)); clear HB; have HB := n0_; have BK134 := n1_; have GW134 := n2_; have GE134 := n3_; clear n0_ n1_ n2_ n3_; clear hb hbox hg))
 (try simp only [Act.put, List.setIfInBounds_toArray, List.set_cons_zero, List.set_cons_succ])
 go_cut [20] (fun v20 wc => ∃ (kq : Nat) (x20_1 : Bool), v20 = .bool x20_1 ∧ Aside0 (rf6form.j0 kq x20_1 a0_0 a0_1 a0_2 l0_3 l0_4 l0_5 = some r) ∧ Aside0 (kq ≤ k) ∧ Aside0 (wc.heap[gb134]? = some (.cells #[.int .i64 a0_0, .string a0_1, .int .i64 a0_2, (.slice A0_3 l0_3.length c0_3), (.slice A0_4 l0_4.length c0_4), (.slice A0_5 l0_5.length c0_5)] 26 (0, 0))) ∧ Aside0 (Below w.heap.size w wc))
 case first =>
   have H := HC2.out
   clear HC2
   replace H := Option.bind_eq_some_iff.mp H
   obtain ⟨t135, A40, H⟩ := H
   replace H : (if (l0_5.length : Int) = t135 then ((rf6terms.f k a0_0 a0_1 a0_2 l0_3 l0_4 l0_5).bind fun t136 => (if t136 = true then ((rf6binds.f k a0_0 a0_1 a0_2 l0_3 l0_4 l0_5).bind fun t137 => (rf6form.j0 k (!t137) a0_0 a0_1 a0_2 l0_3 l0_4 l0_5)) else (rf6form.j0 k true a0_0 a0_1 a0_2 l0_3 l0_4 l0_5))) else (rf6form.j0 k true a0_0 a0_1 a0_2 l0_3 l0_4 l0_5)) = some r := H
   have A4 := Aside0.mk A40
   clear A40
   by_cases c5 : (l0_5.length : Int) = t135
   · rw [if_pos c5] at H
     have c5b0 : ((l0_5.length : Int) == t135) = true := beq_iff_eq.mpr c5
     have c5b1 : ((l0_5.length : Int) != t135) = false := bne_eq_false_iff_eq.mpr c5
     clear c5
     (first | rw [c5b0] | (simp only [i64_w, i32_w]; rw [c5b0]) | skip)
     replace H := Option.bind_eq_some_iff.mp H
     obtain ⟨t136, A60, H⟩ := H
     replace H : (if t136 = true then ((rf6binds.f k a0_0 a0_1 a0_2 l0_3 l0_4 l0_5).bind fun t137 => (rf6form.j0 k (!t137) a0_0 a0_1 a0_2 l0_3 l0_4 l0_5)) else (rf6form.j0 k true a0_0 a0_1 a0_2 l0_3 l0_4 l0_5)) = some r := H
     have A6 := Aside0.mk A60
     clear A60
     by_cases c7 : t136 = true
     · subst c7
       have H1 : ((rf6binds.f k a0_0 a0_1 a0_2 l0_3 l0_4 l0_5).bind fun t137 => (rf6form.j0 k (!t137) a0_0 a0_1 a0_2 l0_3 l0_4 l0_5)) = some r := by rw [if_pos rfl] at H; exact H
       clear H
       have H := H1
       clear H1
       replace H := Option.bind_eq_some_iff.mp H
       obtain ⟨t137, A80, H⟩ := H
       replace H : (rf6form.j0 k (!t137) a0_0 a0_1 a0_2 l0_3 l0_4 l0_5) = some r := H
       have A8 := Aside0.mk A80
       clear A80
       have H' := Aside0.mk H
       clear H
       try go_wp2
       have n0_ := Aside0.mk (blk_drew BK134.out)
       have n1_ := Aside0.mk (bD1 HB.out)
       clear BK134
       clear HB
       have BK134 := n0_
       have HB := n1_
       clear n0_ n1_
       refine start_ (n := 17) (S := fun w' => w'.cell? ⟨gb134, 0, none⟩ = some (.int .i64 a0_0) ∧ w'.cell? ⟨gb134, 1, none⟩ = some (.string a0_1) ∧ w'.cell? ⟨gb134, 2, none⟩ = some (.int .i64 a0_2) ∧ w'.cell? ⟨gb134, 3, none⟩ = some (.slice A0_3 l0_3.length c0_3) ∧ w'.cell? ⟨gb134, 4, none⟩ = some (.slice A0_4 l0_4.length c0_4) ∧ w'.cell? ⟨gb134, 5, none⟩ = some (.slice A0_5 l0_5.length c0_5)) (ds := []) #[false, false, false, false, false, false, false, false, false, false, false, false, false, false, false, false, false] (by kernel_rfl) rfl rfl ⟨(bCl BK134.out 0).trans rfl, (bCl BK134.out 1).trans rfl, (bCl BK134.out 2).trans rfl, (bCl BK134.out 3).trans rfl, (bCl BK134.out 4).trans rfl, (bCl BK134.out 5).trans rfl⟩ (fun hHeld => ?_); refine with_tabW rf6form.tab1 rf6form.bits1 (fun HT_ HW_ => ?_)
       generalize w3.drew = w9 at BK134 HB hHeld ⊢
       refine pure_ (i := 0) (N := some 4) (v := ?_) (a' := ?_) #[true, false, false, false, false, false, false, false, false, false, false, false, false, false, false, false, false] rfl rfl (any_of HT_.out (by kernel_rfl)) (fun _ _ _ h => h) (Or.inl ⟨by rfl, ?_⟩) ?_ ?_
       rotate_left
       · intro w'
         go_simp
         with_reducible rfl
       rotate_left
       · simp only [Act.put, List.setIfInBounds_toArray, List.set_cons_zero, List.set_cons_succ, i64_w, i32_w]
         rfl
       refine pure_ (i := 3) (N := some 7) (v := ?_) (a' := ?_) #[true, false, false, true, false, false, false, false, false, false, false, false, false, false, false, false, false] rfl rfl (any_of HT_.out (by kernel_rfl)) (fun _ _ _ h => h) (Or.inl ⟨by rfl, ?_⟩) ?_ ?_
       rotate_left
       · intro w'
         go_simp
         with_reducible rfl
       rotate_left
       · simp only [Act.put, List.setIfInBounds_toArray, List.set_cons_zero, List.set_cons_succ, i64_w, i32_w]
         rfl
       refine take_ (i := 1) (N := some 5) (v := ?_) (a' := ?_) #[true, true, false, true, false, false, false, false, false, false, false, false, false, false, false, false, false] rfl rfl (take_ofW HT_.out HW_.out (by kernel_rfl)) (fun _ _ _ h => h) (Or.inl ⟨by rfl, ?_⟩) hHeld ?_ ?_
       rotate_left
       · rintro w' ⟨s0, s1, s2, s3, s4, s5⟩
         go_simp
         with_reducible rfl
       rotate_left
       · simp only [Act.put, List.setIfInBounds_toArray, List.set_cons_zero, List.set_cons_succ, i64_w, i32_w]
         rfl
       refine pure_ (i := 2) (N := some 6) (v := ?_) (a' := ?_) #[true, true, true, true, false, false, false, false, false, false, false, false, false, false, false, false, false] rfl rfl (any_of HT_.out (by kernel_rfl)) (fun _ _ _ h => h) (Or.inl ⟨by rfl, ?_⟩) ?_ ?_
       rotate_left
       · intro w'
         go_simp
         with_reducible rfl
       rotate_left
       · simp only [Act.put, List.setIfInBounds_toArray, List.set_cons_zero, List.set_cons_succ, i64_w, i32_w]
         rfl
       refine take_ (i := 4) (N := some 8) (v := ?_) (a' := ?_) #[true, true, true, true, true, false, false, false, false, false, false, false, false, false, false, false, false] rfl rfl (take_ofW HT_.out HW_.out (by kernel_rfl)) (fun _ _ _ h => h) (Or.inl ⟨by rfl, ?_⟩) hHeld ?_ ?_
       rotate_left
       · rintro w' ⟨s0, s1, s2, s3, s4, s5⟩
         go_simp
         with_reducible rfl
       rotate_left
       · simp only [Act.put, List.setIfInBounds_toArray, List.set_cons_zero, List.set_cons_succ, i64_w, i32_w]
         rfl
       refine one_ (i := 5) (N := some 9) #[true, true, true, true, true, true, false, false, false, false, false, false, false, false, false, false, false] rfl rfl (one_of HT_.out (by kernel_rfl)) (by decide) (fun K hK => ?_)
       refine goes_ Tryd.func89 (by kernel_rfl) rfl #[.int .i64 a0_0] (by rfl) rfl rfl (by (try simp only [List.map_toArray, List.map_cons, List.map_nil]); first | done | rfl | (simp only [List.length_drop, List.length_take]; rfl)) ?_
       with_reducible refine (rf6parts.calls k a0_0 t135 _ A4.out).mono ?_
       rintro e w' ⟨rfl, ⟨nd, rfl⟩⟩
       refine ⟨_, rfl, ?_⟩
       refine hK.out _ _ ⟨(bCl BK134.out 0).trans rfl, (bCl BK134.out 1).trans rfl, (bCl BK134.out 2).trans rfl, (bCl BK134.out 3).trans rfl, (bCl BK134.out 4).trans rfl, (bCl BK134.out 5).trans rfl⟩ (fun hHeld => ?_)
       clear hK K
       refine norm_ (a' := ?_) ?_ ?_
       rotate_left
       · show Act.put _ (some 9) _ = _
         simp only [Act.put, List.setIfInBounds_toArray, List.set_cons_zero, List.set_cons_succ, i64_w, i32_w]
         rfl
       refine pure_ (i := 6) (N := some 10) (v := ?_) (a' := ?_) #[true, true, true, true, true, true, true, false, false, false, false, false, false, false, false, false, false] rfl rfl (any_of HT_.out (by kernel_rfl)) (fun _ _ _ h => h) (Or.inl ⟨by rfl, ?_⟩) ?_ ?_
       rotate_left
       · intro w'
         go_simp
         with_reducible rfl
       rotate_left
       · simp only [Act.put, List.setIfInBounds_toArray, List.set_cons_zero, List.set_cons_succ, i64_w, i32_w]
         rfl
       refine pure_ (i := 7) (N := some 11) (v := ?_) (a' := ?_) #[true, true, true, true, true, true, true, true, false, false, false, false, false, false, false, false, false] rfl rfl (any_of HT_.out (by kernel_rfl)) (fun _ _ _ h => h) (Or.inl ⟨by rfl, ?_⟩) ?_ ?_
       rotate_left
       · intro w'
         go_simp
         with_reducible rfl
       rotate_left
       · simp only [Act.put, List.setIfInBounds_toArray, List.set_cons_zero, List.set_cons_succ, i64_w, i32_w]
         rfl
       refine take_ (i := 8) (N := some 12) (v := ?_) (a' := ?_) #[true, true, true, true, true, true, true, true, true, false, false, false, false, false, false, false, false] rfl rfl (take_ofW HT_.out HW_.out (by kernel_rfl)) (fun _ _ _ h => h) (Or.inl ⟨by rfl, ?_⟩) hHeld ?_ ?_
       rotate_left
       · rintro w' ⟨s0, s1, s2, s3, s4, s5⟩
         go_simp
         with_reducible rfl
       rotate_left
       · simp only [Act.put, List.setIfInBounds_toArray, List.set_cons_zero, List.set_cons_succ, i64_w, i32_w]
         rfl
       refine one_ (i := 9) (N := some 13) #[true, true, true, true, true, true, true, true, true, true, false, false, false, false, false, false, false] rfl rfl (one_of HT_.out (by kernel_rfl)) (by decide) (fun K hK => ?_)
       refine goes_ Tryd.func90 (by kernel_rfl) rfl #[.agg #[.int .i64 a0_0, .string a0_1, .int .i64 a0_2, .slice A0_3 l0_3.length c0_3, .slice A0_4 l0_4.length c0_4, .slice A0_5 l0_5.length c0_5]] (by rfl) rfl rfl (by (try simp only [List.map_toArray, List.map_cons, List.map_nil]); first | done | rfl | (simp only [List.length_drop, List.length_take]; rfl)) ?_
       with_reducible refine (rf6terms.calls k a0_0 a0_1 a0_2 _ _ l0_3 _ _ l0_4 _ _ l0_5 true _ ?side1 ?side2 ?side3 ?side4 ?side5 ?side6 A6.out).mono ?_
       (case side1 => repeat (first | exact (Kd.C_below HR0_3.out (by repeat (first | (with_reducible first | exact HB.out | apply bAl | apply pwDN | apply bD1 | refine bSt ?_ GE134.out) | exact HB.out))) | (with_reducible refine Kd.C_alloc ?_ _) | (with_reducible refine Kd.C_drewN ?_ _) | (with_reducible refine Kd.C_drew ?_)))
       (case side2 => exact HC0_3.out)
       (case side3 => repeat (first | exact (Kd.C_below HR0_4.out (by repeat (first | (with_reducible first | exact HB.out | apply bAl | apply pwDN | apply bD1 | refine bSt ?_ GE134.out) | exact HB.out))) | (with_reducible refine Kd.C_alloc ?_ _) | (with_reducible refine Kd.C_drewN ?_ _) | (with_reducible refine Kd.C_drew ?_)))
       (case side4 => exact HC0_4.out)
       (case side5 => repeat (first | exact (Kd.C_below HR0_5.out (by repeat (first | (with_reducible first | exact HB.out | apply bAl | apply pwDN | apply bD1 | refine bSt ?_ GE134.out) | exact HB.out))) | (with_reducible refine Kd.C_alloc ?_ _) | (with_reducible refine Kd.C_drewN ?_ _) | (with_reducible refine Kd.C_drew ?_)))
       (case side6 => exact HC0_5.out)
       rintro e w10 ⟨rfl, hb⟩
       refine ⟨_, rfl, ?_⟩
       have n0_ := Aside0.mk (blk_below (g := gb134) (o := .cells #[.int .i64 a0_0, .string a0_1, .int .i64 a0_2, .slice A0_3 l0_3.length c0_3, .slice A0_4 l0_4.length c0_4, .slice A0_5 l0_5.length c0_5] 26 (0, 0)) (by (with_reducible repeat (first | refine blk_drewN ?_ _ | refine blk_drew ?_ | refine blk_alloc ?_ _)); exact BK134.out) hb)
       have n1_ := Aside0.mk (below_step (by repeat (first | (with_reducible first | exact HB.out | apply bAl | apply pwDN | apply bD1 | refine bSt ?_ GE134.out) | exact HB.out)) hb)
       clear BK134
       clear HB
       have BK134 := n0_
       have HB := n1_
       clear n0_ n1_
       (try clear hb)
       (try clear hb2)
       (try clear hk)
       (try clear hi)
       refine hK.out _ _ ⟨(bCl BK134.out 0).trans rfl, (bCl BK134.out 1).trans rfl, (bCl BK134.out 2).trans rfl, (bCl BK134.out 3).trans rfl, (bCl BK134.out 4).trans rfl, (bCl BK134.out 5).trans rfl⟩ (fun hHeld => ?_)
       clear hK K
       refine norm_ (a' := ?_) ?_ ?_
       rotate_left
       · show Act.put _ (some 13) _ = _
         simp only [Act.put, List.setIfInBounds_toArray, List.set_cons_zero, List.set_cons_succ, i64_w, i32_w]
         rfl
       refine pure_ (i := 10) (N := some 14) (v := ?_) (a' := ?_) #[true, true, true, true, true, true, true, true, true, true, true, false, false, false, false, false, false] rfl rfl (any_of HT_.out (by kernel_rfl)) (fun _ _ _ h => h) (Or.inl ⟨by rfl, ?_⟩) ?_ ?_
       rotate_left
       · intro w'
         go_simp
         with_reducible rfl
       rotate_left
       · simp only [Act.put, List.setIfInBounds_toArray, List.set_cons_zero, List.set_cons_succ, i64_w, i32_w]
         rfl
       refine pure_ (i := 11) (N := some 15) (v := ?_) (a' := ?_) #[true, true, true, true, true, true, true, true, true, true, true, true, false, false, false, false, false] rfl rfl (any_of HT_.out (by kernel_rfl)) (fun _ _ _ h => h) (Or.inl ⟨by rfl, ?_⟩) ?_ ?_
       rotate_left
       · intro w'
         go_simp
         with_reducible rfl
       rotate_left
       · simp only [Act.put, List.setIfInBounds_toArray, List.set_cons_zero, List.set_cons_succ, i64_w, i32_w]
         rfl
       refine pure_ (i := 12) (N := some 16) (v := ?_) (a' := ?_) #[true, true, true, true, true, true, true, true, true, true, true, true, true, false, false, false, false] rfl rfl (any_of HT_.out (by kernel_rfl)) (fun _ _ _ h => h) (Or.inl ⟨by rfl, ?_⟩) ?_ ?_
       rotate_left
       · intro w'
         go_simp
         with_reducible rfl
       rotate_left
       · simp only [Act.put, List.setIfInBounds_toArray, List.set_cons_zero, List.set_cons_succ, i64_w, i32_w]
         rfl
       refine take_ (i := 13) (N := some 17) (v := ?_) (a' := ?_) #[true, true, true, true, true, true, true, true, true, true, true, true, true, true, false, false, false] rfl rfl (take_ofW HT_.out HW_.out (by kernel_rfl)) (fun _ _ _ h => h) (Or.inl ⟨by rfl, ?_⟩) hHeld ?_ ?_
       rotate_left
       · rintro w' ⟨s0, s1, s2, s3, s4, s5⟩
         go_simp
         with_reducible rfl
       rotate_left
       · simp only [Act.put, List.setIfInBounds_toArray, List.set_cons_zero, List.set_cons_succ, i64_w, i32_w]
         rfl
       refine one_ (i := 14) (N := some 18) #[true, true, true, true, true, true, true, true, true, true, true, true, true, true, true, false, false] rfl rfl (one_of HT_.out (by kernel_rfl)) (by decide) (fun K hK => ?_)
       refine goes_ Tryd.func91 (by kernel_rfl) rfl #[.agg #[.int .i64 a0_0, .string a0_1, .int .i64 a0_2, .slice A0_3 l0_3.length c0_3, .slice A0_4 l0_4.length c0_4, .slice A0_5 l0_5.length c0_5]] (by rfl) rfl rfl (by (try simp only [List.map_toArray, List.map_cons, List.map_nil]); first | done | rfl | (simp only [List.length_drop, List.length_take]; rfl)) ?_
       with_reducible refine (rf6binds.calls k a0_0 a0_1 a0_2 _ _ l0_3 _ _ l0_4 _ _ l0_5 t137 _ ?side1 ?side2 ?side3 ?side4 ?side5 ?side6 A8.out).mono ?_
       (case side1 => repeat (first | exact (Kd.C_below HR0_3.out HB.out) | (with_reducible refine Kd.C_alloc ?_ _) | (with_reducible refine Kd.C_drewN ?_ _) | (with_reducible refine Kd.C_drew ?_)))
       (case side2 => exact HC0_3.out)
       (case side3 => repeat (first | exact (Kd.C_below HR0_4.out HB.out) | (with_reducible refine Kd.C_alloc ?_ _) | (with_reducible refine Kd.C_drewN ?_ _) | (with_reducible refine Kd.C_drew ?_)))
       (case side4 => exact HC0_4.out)
       (case side5 => repeat (first | exact (Kd.C_below HR0_5.out HB.out) | (with_reducible refine Kd.C_alloc ?_ _) | (with_reducible refine Kd.C_drewN ?_ _) | (with_reducible refine Kd.C_drew ?_)))
       (case side6 => exact HC0_5.out)
       rintro e w11 ⟨rfl, hb⟩
       refine ⟨_, rfl, ?_⟩
       have n0_ := Aside0.mk (blk_below (g := gb134) (o := .cells #[.int .i64 a0_0, .string a0_1, .int .i64 a0_2, .slice A0_3 l0_3.length c0_3, .slice A0_4 l0_4.length c0_4, .slice A0_5 l0_5.length c0_5] 26 (0, 0)) (by (with_reducible repeat (first | refine blk_drewN ?_ _ | refine blk_drew ?_ | refine blk_alloc ?_ _)); exact BK134.out) hb)
       have n1_ := Aside0.mk (below_step (by repeat (first | (with_reducible first | exact HB.out | apply bAl | apply pwDN | apply bD1 | refine bSt ?_ GE134.out) | exact HB.out)) hb)
       clear BK134
       clear HB
       have BK134 := n0_
       have HB := n1_
       clear n0_ n1_
       (try clear hb)
       (try clear hb2)
       (try clear hk)
       (try clear hi)
       refine hK.out _ _ ⟨(bCl BK134.out 0).trans rfl, (bCl BK134.out 1).trans rfl, (bCl BK134.out 2).trans rfl, (bCl BK134.out 3).trans rfl, (bCl BK134.out 4).trans rfl, (bCl BK134.out 5).trans rfl⟩ (fun hHeld => ?_)
       clear hK K
       refine norm_ (a' := ?_) ?_ ?_
       rotate_left
       · show Act.put _ (some 18) _ = _
         simp only [Act.put, List.setIfInBounds_toArray, List.set_cons_zero, List.set_cons_succ, i64_w, i32_w]
         rfl
       refine pure_ (i := 15) (N := some 19) (v := ?_) (a' := ?_) #[true, true, true, true, true, true, true, true, true, true, true, true, true, true, true, true, false] rfl rfl (any_of HT_.out (by kernel_rfl)) (fun _ _ _ h => h) (Or.inl ⟨by rfl, ?_⟩) ?_ ?_
       rotate_left
       · intro w'
         go_simp
         with_reducible rfl
       rotate_left
       · simp only [Act.put, List.setIfInBounds_toArray, List.set_cons_zero, List.set_cons_succ, i64_w, i32_w]
         rfl
       refine pure_ (i := 16) (N := some 20) (v := ?_) (a' := ?_) #[true, true, true, true, true, true, true, true, true, true, true, true, true, true, true, true, true] rfl rfl (any_of HT_.out (by kernel_rfl)) (fun _ _ _ h => h) (Or.inl ⟨by rfl, ?_⟩) ?_ ?_
       rotate_left
       · intro w'
         go_simp
         with_reducible rfl
       rotate_left
       · simp only [Act.put, List.setIfInBounds_toArray, List.set_cons_zero, List.set_cons_succ, i64_w, i32_w]
         rfl
       refine done_ (done_of HT_.out (by kernel_rfl)) ?_
       try go_wp2
       go_meet
       case rel => exact ⟨_, (!t137), (by first | rfl | (simp; done) | (simp [*]; done)), H', ⟨by first | omega | exact Nat.le_refl _⟩, ⟨by (with_reducible repeat (first | refine blk_drewN ?_ _ | refine blk_drew ?_ | refine blk_alloc ?_ _)); exact BK134.out⟩, ⟨by repeat (first | (with_reducible first | exact HB.out | apply bAl | apply pwDN | apply bD1 | refine bSt ?_ GE134.out) | exact HB.out)⟩⟩
     · replace c7 := Bool.eq_false_iff.mpr c7
       subst c7
       have H1 : (rf6form.j0 k true a0_0 a0_1 a0_2 l0_3 l0_4 l0_5) = some r := by rw [if_neg (show ¬ (false = true) by decide)] at H; exact H
       clear H
       have H := H1
       clear H1
       have H' := Aside0.mk H
       clear H
       try go_wp2
       have n0_ := Aside0.mk (blk_drew BK134.out)
       have n1_ := Aside0.mk (bD1 HB.out)
       clear BK134
       clear HB
       have BK134 := n0_
       have HB := n1_
       clear n0_ n1_
       refine start_ (n := 17) (S := fun w' => w'.cell? ⟨gb134, 0, none⟩ = some (.int .i64 a0_0) ∧ w'.cell? ⟨gb134, 1, none⟩ = some (.string a0_1) ∧ w'.cell? ⟨gb134, 2, none⟩ = some (.int .i64 a0_2) ∧ w'.cell? ⟨gb134, 3, none⟩ = some (.slice A0_3 l0_3.length c0_3) ∧ w'.cell? ⟨gb134, 4, none⟩ = some (.slice A0_4 l0_4.length c0_4) ∧ w'.cell? ⟨gb134, 5, none⟩ = some (.slice A0_5 l0_5.length c0_5)) (ds := []) #[false, false, false, false, false, false, false, false, false, false, false, false, false, false, false, false, false] (by kernel_rfl) rfl rfl ⟨(bCl BK134.out 0).trans rfl, (bCl BK134.out 1).trans rfl, (bCl BK134.out 2).trans rfl, (bCl BK134.out 3).trans rfl, (bCl BK134.out 4).trans rfl, (bCl BK134.out 5).trans rfl⟩ (fun hHeld => ?_); refine with_tabW rf6form.tab1 rf6form.bits1 (fun HT_ HW_ => ?_)
       generalize w3.drew = w12 at BK134 HB hHeld ⊢
       refine pure_ (i := 0) (N := some 4) (v := ?_) (a' := ?_) #[true, false, false, false, false, false, false, false, false, false, false, false, false, false, false, false, false] rfl rfl (any_of HT_.out (by kernel_rfl)) (fun _ _ _ h => h) (Or.inl ⟨by rfl, ?_⟩) ?_ ?_
       rotate_left
       · intro w'
         go_simp
         with_reducible rfl
       rotate_left
       · simp only [Act.put, List.setIfInBounds_toArray, List.set_cons_zero, List.set_cons_succ, i64_w, i32_w]
         rfl
       refine pure_ (i := 3) (N := some 7) (v := ?_) (a' := ?_) #[true, false, false, true, false, false, false, false, false, false, false, false, false, false, false, false, false] rfl rfl (any_of HT_.out (by kernel_rfl)) (fun _ _ _ h => h) (Or.inl ⟨by rfl, ?_⟩) ?_ ?_
       rotate_left
       · intro w'
         go_simp
         with_reducible rfl
       rotate_left
       · simp only [Act.put, List.setIfInBounds_toArray, List.set_cons_zero, List.set_cons_succ, i64_w, i32_w]
         rfl
       refine take_ (i := 1) (N := some 5) (v := ?_) (a' := ?_) #[true, true, false, true, false, false, false, false, false, false, false, false, false, false, false, false, false] rfl rfl (take_ofW HT_.out HW_.out (by kernel_rfl)) (fun _ _ _ h => h) (Or.inl ⟨by rfl, ?_⟩) hHeld ?_ ?_
       rotate_left
       · rintro w' ⟨s0, s1, s2, s3, s4, s5⟩
         go_simp
         with_reducible rfl
       rotate_left
       · simp only [Act.put, List.setIfInBounds_toArray, List.set_cons_zero, List.set_cons_succ, i64_w, i32_w]
         rfl
       refine pure_ (i := 2) (N := some 6) (v := ?_) (a' := ?_) #[true, true, true, true, false, false, false, false, false, false, false, false, false, false, false, false, false] rfl rfl (any_of HT_.out (by kernel_rfl)) (fun _ _ _ h => h) (Or.inl ⟨by rfl, ?_⟩) ?_ ?_
       rotate_left
       · intro w'
         go_simp
         with_reducible rfl
       rotate_left
       · simp only [Act.put, List.setIfInBounds_toArray, List.set_cons_zero, List.set_cons_succ, i64_w, i32_w]
         rfl
       refine take_ (i := 4) (N := some 8) (v := ?_) (a' := ?_) #[true, true, true, true, true, false, false, false, false, false, false, false, false, false, false, false, false] rfl rfl (take_ofW HT_.out HW_.out (by kernel_rfl)) (fun _ _ _ h => h) (Or.inl ⟨by rfl, ?_⟩) hHeld ?_ ?_
       rotate_left
       · rintro w' ⟨s0, s1, s2, s3, s4, s5⟩
         go_simp
         with_reducible rfl
       rotate_left
       · simp only [Act.put, List.setIfInBounds_toArray, List.set_cons_zero, List.set_cons_succ, i64_w, i32_w]
         rfl
       refine one_ (i := 5) (N := some 9) #[true, true, true, true, true, true, false, false, false, false, false, false, false, false, false, false, false] rfl rfl (one_of HT_.out (by kernel_rfl)) (by decide) (fun K hK => ?_)
       refine goes_ Tryd.func89 (by kernel_rfl) rfl #[.int .i64 a0_0] (by rfl) rfl rfl (by (try simp only [List.map_toArray, List.map_cons, List.map_nil]); first | done | rfl | (simp only [List.length_drop, List.length_take]; rfl)) ?_
       with_reducible refine (rf6parts.calls k a0_0 t135 _ A4.out).mono ?_
       rintro e w' ⟨rfl, ⟨nd, rfl⟩⟩
       refine ⟨_, rfl, ?_⟩
       refine hK.out _ _ ⟨(bCl BK134.out 0).trans rfl, (bCl BK134.out 1).trans rfl, (bCl BK134.out 2).trans rfl, (bCl BK134.out 3).trans rfl, (bCl BK134.out 4).trans rfl, (bCl BK134.out 5).trans rfl⟩ (fun hHeld => ?_)
       clear hK K
       refine norm_ (a' := ?_) ?_ ?_
       rotate_left
       · show Act.put _ (some 9) _ = _
         simp only [Act.put, List.setIfInBounds_toArray, List.set_cons_zero, List.set_cons_succ, i64_w, i32_w]
         rfl
       refine pure_ (i := 6) (N := some 10) (v := ?_) (a' := ?_) #[true, true, true, true, true, true, true, false, false, false, false, false, false, false, false, false, false] rfl rfl (any_of HT_.out (by kernel_rfl)) (fun _ _ _ h => h) (Or.inl ⟨by rfl, ?_⟩) ?_ ?_
       rotate_left
       · intro w'
         go_simp
         with_reducible rfl
       rotate_left
       · simp only [Act.put, List.setIfInBounds_toArray, List.set_cons_zero, List.set_cons_succ, i64_w, i32_w]
         rfl
       refine pure_ (i := 7) (N := some 11) (v := ?_) (a' := ?_) #[true, true, true, true, true, true, true, true, false, false, false, false, false, false, false, false, false] rfl rfl (any_of HT_.out (by kernel_rfl)) (fun _ _ _ h => h) (Or.inl ⟨by rfl, ?_⟩) ?_ ?_
       rotate_left
       · intro w'
         go_simp
         with_reducible rfl
       rotate_left
       · simp only [Act.put, List.setIfInBounds_toArray, List.set_cons_zero, List.set_cons_succ, i64_w, i32_w]
         rfl
       refine take_ (i := 8) (N := some 12) (v := ?_) (a' := ?_) #[true, true, true, true, true, true, true, true, true, false, false, false, false, false, false, false, false] rfl rfl (take_ofW HT_.out HW_.out (by kernel_rfl)) (fun _ _ _ h => h) (Or.inl ⟨by rfl, ?_⟩) hHeld ?_ ?_
       rotate_left
       · rintro w' ⟨s0, s1, s2, s3, s4, s5⟩
         go_simp
         with_reducible rfl
       rotate_left
       · simp only [Act.put, List.setIfInBounds_toArray, List.set_cons_zero, List.set_cons_succ, i64_w, i32_w]
         rfl
       refine one_ (i := 9) (N := some 13) #[true, true, true, true, true, true, true, true, true, true, false, false, false, false, false, false, false] rfl rfl (one_of HT_.out (by kernel_rfl)) (by decide) (fun K hK => ?_)
       refine goes_ Tryd.func90 (by kernel_rfl) rfl #[.agg #[.int .i64 a0_0, .string a0_1, .int .i64 a0_2, .slice A0_3 l0_3.length c0_3, .slice A0_4 l0_4.length c0_4, .slice A0_5 l0_5.length c0_5]] (by rfl) rfl rfl (by (try simp only [List.map_toArray, List.map_cons, List.map_nil]); first | done | rfl | (simp only [List.length_drop, List.length_take]; rfl)) ?_
       with_reducible refine (rf6terms.calls k a0_0 a0_1 a0_2 _ _ l0_3 _ _ l0_4 _ _ l0_5 false _ ?side1 ?side2 ?side3 ?side4 ?side5 ?side6 A6.out).mono ?_
       (case side1 => repeat (first | exact (Kd.C_below HR0_3.out (by repeat (first | (with_reducible first | exact HB.out | apply bAl | apply pwDN | apply bD1 | refine bSt ?_ GE134.out) | exact HB.out))) | (with_reducible refine Kd.C_alloc ?_ _) | (with_reducible refine Kd.C_drewN ?_ _) | (with_reducible refine Kd.C_drew ?_)))
       (case side2 => exact HC0_3.out)
       (case side3 => repeat (first | exact (Kd.C_below HR0_4.out (by repeat (first | (with_reducible first | exact HB.out | apply bAl | apply pwDN | apply bD1 | refine bSt ?_ GE134.out) | exact HB.out))) | (with_reducible refine Kd.C_alloc ?_ _) | (with_reducible refine Kd.C_drewN ?_ _) | (with_reducible refine Kd.C_drew ?_)))
       (case side4 => exact HC0_4.out)
       (case side5 => repeat (first | exact (Kd.C_below HR0_5.out (by repeat (first | (with_reducible first | exact HB.out | apply bAl | apply pwDN | apply bD1 | refine bSt ?_ GE134.out) | exact HB.out))) | (with_reducible refine Kd.C_alloc ?_ _) | (with_reducible refine Kd.C_drewN ?_ _) | (with_reducible refine Kd.C_drew ?_)))
       (case side6 => exact HC0_5.out)
       rintro e w13 ⟨rfl, hb⟩
       refine ⟨_, rfl, ?_⟩
       have n0_ := Aside0.mk (blk_below (g := gb134) (o := .cells #[.int .i64 a0_0, .string a0_1, .int .i64 a0_2, .slice A0_3 l0_3.length c0_3, .slice A0_4 l0_4.length c0_4, .slice A0_5 l0_5.length c0_5] 26 (0, 0)) (by (with_reducible repeat (first | refine blk_drewN ?_ _ | refine blk_drew ?_ | refine blk_alloc ?_ _)); exact BK134.out) hb)
       have n1_ := Aside0.mk (below_step (by repeat (first | (with_reducible first | exact HB.out | apply bAl | apply pwDN | apply bD1 | refine bSt ?_ GE134.out) | exact HB.out)) hb)
       clear BK134
       clear HB
       have BK134 := n0_
       have HB := n1_
       clear n0_ n1_
       (try clear hb)
       (try clear hb2)
       (try clear hk)
       (try clear hi)
       refine hK.out _ _ ⟨(bCl BK134.out 0).trans rfl, (bCl BK134.out 1).trans rfl, (bCl BK134.out 2).trans rfl, (bCl BK134.out 3).trans rfl, (bCl BK134.out 4).trans rfl, (bCl BK134.out 5).trans rfl⟩ (fun hHeld => ?_)
       clear hK K
       refine norm_ (a' := ?_) ?_ ?_
       rotate_left
       · show Act.put _ (some 13) _ = _
         simp only [Act.put, List.setIfInBounds_toArray, List.set_cons_zero, List.set_cons_succ, i64_w, i32_w]
         rfl
       refine pure_ (i := 10) (N := some 14) (v := ?_) (a' := ?_) #[true, true, true, true, true, true, true, true, true, true, true, false, false, false, false, false, false] rfl rfl (any_of HT_.out (by kernel_rfl)) (fun _ _ _ h => h) (Or.inl ⟨by rfl, ?_⟩) ?_ ?_
       rotate_left
       · intro w'
         go_simp
         with_reducible rfl
       rotate_left
       · simp only [Act.put, List.setIfInBounds_toArray, List.set_cons_zero, List.set_cons_succ, i64_w, i32_w]
         rfl
       refine pure_ (i := 11) (N := some 15) (v := ?_) (a' := ?_) #[true, true, true, true, true, true, true, true, true, true, true, true, false, false, false, false, false] rfl rfl (any_of HT_.out (by kernel_rfl)) (fun _ _ _ h => h) (Or.inl ⟨by rfl, ?_⟩) ?_ ?_
       rotate_left
       · intro w'
         go_simp
         with_reducible rfl
       rotate_left
       · simp only [Act.put, List.setIfInBounds_toArray, List.set_cons_zero, List.set_cons_succ, i64_w, i32_w]
         rfl
       refine pure_ (i := 12) (N := some 16) (v := ?_) (a' := ?_) #[true, true, true, true, true, true, true, true, true, true, true, true, true, false, false, false, false] rfl rfl (any_of HT_.out (by kernel_rfl)) (fun _ _ _ h => h) (Or.inl ⟨by rfl, ?_⟩) ?_ ?_
       rotate_left
       · intro w'
         go_simp
         with_reducible rfl
       rotate_left
       · simp only [Act.put, List.setIfInBounds_toArray, List.set_cons_zero, List.set_cons_succ, i64_w, i32_w]
         rfl
       refine pure_ (i := 13) (N := some 17) (v := undef) (a' := ?_) #[true, true, true, true, true, true, true, true, true, true, true, true, true, true, false, false, false] rfl rfl (any_of HT_.out (by kernel_rfl)) (fun _ _ _ h => h) (Or.inr ⟨by rfl, rfl⟩) ?_ ?_
       rotate_left
       · simp only [Act.put, List.setIfInBounds_toArray, List.set_cons_zero, List.set_cons_succ, i64_w, i32_w]
         rfl
       refine pure_ (i := 14) (N := some 18) (v := undef) (a' := ?_) #[true, true, true, true, true, true, true, true, true, true, true, true, true, true, true, false, false] rfl rfl (any_of HT_.out (by kernel_rfl)) (fun _ _ _ h => h) (Or.inr ⟨by rfl, rfl⟩) ?_ ?_
       rotate_left
       · simp only [Act.put, List.setIfInBounds_toArray, List.set_cons_zero, List.set_cons_succ, i64_w, i32_w]
         rfl
       refine pure_ (i := 15) (N := some 19) (v := undef) (a' := ?_) #[true, true, true, true, true, true, true, true, true, true, true, true, true, true, true, true, false] rfl rfl (any_of HT_.out (by kernel_rfl)) (fun _ _ _ h => h) (Or.inr ⟨by rfl, rfl⟩) ?_ ?_
       rotate_left
       · simp only [Act.put, List.setIfInBounds_toArray, List.set_cons_zero, List.set_cons_succ, i64_w, i32_w]
         rfl
       refine pure_ (i := 16) (N := some 20) (v := ?_) (a' := ?_) #[true, true, true, true, true, true, true, true, true, true, true, true, true, true, true, true, true] rfl rfl (any_of HT_.out (by kernel_rfl)) (fun _ _ _ h => h) (Or.inl ⟨by rfl, ?_⟩) ?_ ?_
       rotate_left
       · intro w'
         go_simp
         with_reducible rfl
       rotate_left
       · simp only [Act.put, List.setIfInBounds_toArray, List.set_cons_zero, List.set_cons_succ, i64_w, i32_w]
         rfl
       refine done_ (done_of HT_.out (by kernel_rfl)) ?_
       try go_wp2
       go_meet
       case rel => exact ⟨_, (true), (by first | rfl | (simp; done) | (simp [*]; done)), H', ⟨by first | omega | exact Nat.le_refl _⟩, ⟨by (with_reducible repeat (first | refine blk_drewN ?_ _ | refine blk_drew ?_ | refine blk_alloc ?_ _)); exact BK134.out⟩, ⟨by repeat (first | (with_reducible first | exact HB.out | apply bAl | apply pwDN | apply bD1 | refine bSt ?_ GE134.out) | exact HB.out)⟩⟩
   · rw [if_neg c5] at H
     have c5b0 : ((l0_5.length : Int) == t135) = false := beq_eq_false_iff_ne.mpr c5
     have c5b1 : ((l0_5.length : Int) != t135) = true := bne_iff_ne.mpr c5
     (first | rw [c5b0] | (simp only [i64_w, i32_w]; rw [c5b0]) | skip)
     have H' := Aside0.mk H
     clear H
     try go_wp2
     have n0_ := Aside0.mk (blk_drew BK134.out)
     have n1_ := Aside0.mk (bD1 HB.out)
     clear BK134
     clear HB
     have BK134 := n0_
     have HB := n1_
     clear n0_ n1_
     refine start_ (n := 17) (S := fun w' => w'.cell? ⟨gb134, 0, none⟩ = some (.int .i64 a0_0) ∧ w'.cell? ⟨gb134, 1, none⟩ = some (.string a0_1) ∧ w'.cell? ⟨gb134, 2, none⟩ = some (.int .i64 a0_2) ∧ w'.cell? ⟨gb134, 3, none⟩ = some (.slice A0_3 l0_3.length c0_3) ∧ w'.cell? ⟨gb134, 4, none⟩ = some (.slice A0_4 l0_4.length c0_4) ∧ w'.cell? ⟨gb134, 5, none⟩ = some (.slice A0_5 l0_5.length c0_5)) (ds := []) #[false, false, false, false, false, false, false, false, false, false, false, false, false, false, false, false, false] (by kernel_rfl) rfl rfl ⟨(bCl BK134.out 0).trans rfl, (bCl BK134.out 1).trans rfl, (bCl BK134.out 2).trans rfl, (bCl BK134.out 3).trans rfl, (bCl BK134.out 4).trans rfl, (bCl BK134.out 5).trans rfl⟩ (fun hHeld => ?_); refine with_tabW rf6form.tab1 rf6form.bits1 (fun HT_ HW_ => ?_)
     generalize w3.drew = w14 at BK134 HB hHeld ⊢
     refine pure_ (i := 0) (N := some 4) (v := ?_) (a' := ?_) #[true, false, false, false, false, false, false, false, false, false, false, false, false, false, false, false, false] rfl rfl (any_of HT_.out (by kernel_rfl)) (fun _ _ _ h => h) (Or.inl ⟨by rfl, ?_⟩) ?_ ?_
     rotate_left
     · intro w'
       go_simp
       with_reducible rfl
     rotate_left
     · simp only [Act.put, List.setIfInBounds_toArray, List.set_cons_zero, List.set_cons_succ, i64_w, i32_w]
       rfl
     refine pure_ (i := 3) (N := some 7) (v := ?_) (a' := ?_) #[true, false, false, true, false, false, false, false, false, false, false, false, false, false, false, false, false] rfl rfl (any_of HT_.out (by kernel_rfl)) (fun _ _ _ h => h) (Or.inl ⟨by rfl, ?_⟩) ?_ ?_
     rotate_left
     · intro w'
       go_simp
       with_reducible rfl
     rotate_left
     · simp only [Act.put, List.setIfInBounds_toArray, List.set_cons_zero, List.set_cons_succ, i64_w, i32_w]
       rfl
     refine take_ (i := 1) (N := some 5) (v := ?_) (a' := ?_) #[true, true, false, true, false, false, false, false, false, false, false, false, false, false, false, false, false] rfl rfl (take_ofW HT_.out HW_.out (by kernel_rfl)) (fun _ _ _ h => h) (Or.inl ⟨by rfl, ?_⟩) hHeld ?_ ?_
     rotate_left
     · rintro w' ⟨s0, s1, s2, s3, s4, s5⟩
       go_simp
       with_reducible rfl
     rotate_left
     · simp only [Act.put, List.setIfInBounds_toArray, List.set_cons_zero, List.set_cons_succ, i64_w, i32_w]
       rfl
     refine pure_ (i := 2) (N := some 6) (v := ?_) (a' := ?_) #[true, true, true, true, false, false, false, false, false, false, false, false, false, false, false, false, false] rfl rfl (any_of HT_.out (by kernel_rfl)) (fun _ _ _ h => h) (Or.inl ⟨by rfl, ?_⟩) ?_ ?_
     rotate_left
     · intro w'
       go_simp
       with_reducible rfl
     rotate_left
     · simp only [Act.put, List.setIfInBounds_toArray, List.set_cons_zero, List.set_cons_succ, i64_w, i32_w]
       rfl
     refine take_ (i := 4) (N := some 8) (v := ?_) (a' := ?_) #[true, true, true, true, true, false, false, false, false, false, false, false, false, false, false, false, false] rfl rfl (take_ofW HT_.out HW_.out (by kernel_rfl)) (fun _ _ _ h => h) (Or.inl ⟨by rfl, ?_⟩) hHeld ?_ ?_
     rotate_left
     · rintro w' ⟨s0, s1, s2, s3, s4, s5⟩
       go_simp
       with_reducible rfl
     rotate_left
     · simp only [Act.put, List.setIfInBounds_toArray, List.set_cons_zero, List.set_cons_succ, i64_w, i32_w]
       rfl
     refine one_ (i := 5) (N := some 9) #[true, true, true, true, true, true, false, false, false, false, false, false, false, false, false, false, false] rfl rfl (one_of HT_.out (by kernel_rfl)) (by decide) (fun K hK => ?_)
     refine goes_ Tryd.func89 (by kernel_rfl) rfl #[.int .i64 a0_0] (by rfl) rfl rfl (by (try simp only [List.map_toArray, List.map_cons, List.map_nil]); first | done | rfl | (simp only [List.length_drop, List.length_take]; rfl)) ?_
     with_reducible refine (rf6parts.calls k a0_0 t135 _ A4.out).mono ?_
     rintro e w' ⟨rfl, ⟨nd, rfl⟩⟩
     refine ⟨_, rfl, ?_⟩
     refine hK.out _ _ ⟨(bCl BK134.out 0).trans rfl, (bCl BK134.out 1).trans rfl, (bCl BK134.out 2).trans rfl, (bCl BK134.out 3).trans rfl, (bCl BK134.out 4).trans rfl, (bCl BK134.out 5).trans rfl⟩ (fun hHeld => ?_)
     clear hK K
     refine norm_ (a' := ?_) ?_ ?_
     rotate_left
     · show Act.put _ (some 9) _ = _
       simp only [Act.put, List.setIfInBounds_toArray, List.set_cons_zero, List.set_cons_succ, i64_w, i32_w]
       rfl
     refine pure_ (i := 6) (N := some 10) (v := ?_) (a' := ?_) #[true, true, true, true, true, true, true, false, false, false, false, false, false, false, false, false, false] rfl rfl (any_of HT_.out (by kernel_rfl)) (fun _ _ _ h => h) (Or.inl ⟨by rfl, ?_⟩) ?_ ?_
     rotate_left
     · intro w'
       go_simp
       with_reducible rfl
     rotate_left
     · simp only [Act.put, List.setIfInBounds_toArray, List.set_cons_zero, List.set_cons_succ, i64_w, i32_w]
       rfl
     refine pure_ (i := 7) (N := some 11) (v := ?_) (a' := ?_) #[true, true, true, true, true, true, true, true, false, false, false, false, false, false, false, false, false] rfl rfl (any_of HT_.out (by kernel_rfl)) (fun _ _ _ h => h) (Or.inl ⟨by rfl, ?_⟩) ?_ ?_
     rotate_left
     · intro w'
       go_simp
       with_reducible rfl
     rotate_left
     · simp only [Act.put, List.setIfInBounds_toArray, List.set_cons_zero, List.set_cons_succ, i64_w, i32_w]
       rfl
     refine pure_ (i := 8) (N := some 12) (v := undef) (a' := ?_) #[true, true, true, true, true, true, true, true, true, false, false, false, false, false, false, false, false] rfl rfl (any_of HT_.out (by kernel_rfl)) (fun _ _ _ h => h) (Or.inr ⟨by rfl, rfl⟩) ?_ ?_
     rotate_left
     · simp only [Act.put, List.setIfInBounds_toArray, List.set_cons_zero, List.set_cons_succ, i64_w, i32_w]
       rfl
     refine pure_ (i := 9) (N := some 13) (v := undef) (a' := ?_) #[true, true, true, true, true, true, true, true, true, true, false, false, false, false, false, false, false] rfl rfl (any_of HT_.out (by kernel_rfl)) (fun _ _ _ h => h) (Or.inr ⟨by rfl, rfl⟩) ?_ ?_
     rotate_left
     · simp only [Act.put, List.setIfInBounds_toArray, List.set_cons_zero, List.set_cons_succ, i64_w, i32_w]
       rfl
     refine pure_ (i := 10) (N := some 14) (v := undef) (a' := ?_) #[true, true, true, true, true, true, true, true, true, true, true, false, false, false, false, false, false] rfl rfl (any_of HT_.out (by kernel_rfl)) (fun _ _ _ h => h) (Or.inr ⟨by rfl, rfl⟩) ?_ ?_
     rotate_left
     · simp only [Act.put, List.setIfInBounds_toArray, List.set_cons_zero, List.set_cons_succ, i64_w, i32_w]
       rfl
     refine pure_ (i := 11) (N := some 15) (v := ?_) (a' := ?_) #[true, true, true, true, true, true, true, true, true, true, true, true, false, false, false, false, false] rfl rfl (any_of HT_.out (by kernel_rfl)) (fun _ _ _ h => h) (Or.inl ⟨by rfl, ?_⟩) ?_ ?_
     rotate_left
     · intro w'
       go_simp
       with_reducible rfl
     rotate_left
     · simp only [Act.put, List.setIfInBounds_toArray, List.set_cons_zero, List.set_cons_succ, i64_w, i32_w]
       rfl
     refine pure_ (i := 12) (N := some 16) (v := ?_) (a' := ?_) #[true, true, true, true, true, true, true, true, true, true, true, true, true, false, false, false, false] rfl rfl (any_of HT_.out (by kernel_rfl)) (fun _ _ _ h => h) (Or.inl ⟨by rfl, ?_⟩) ?_ ?_
     rotate_left
     · intro w'
       go_simp
       with_reducible rfl
     rotate_left
     · simp only [Act.put, List.setIfInBounds_toArray, List.set_cons_zero, List.set_cons_succ, i64_w, i32_w]
       rfl
     refine pure_ (i := 13) (N := some 17) (v := undef) (a' := ?_) #[true, true, true, true, true, true, true, true, true, true, true, true, true, true, false, false, false] rfl rfl (any_of HT_.out (by kernel_rfl)) (fun _ _ _ h => h) (Or.inr ⟨by rfl, rfl⟩) ?_ ?_
     rotate_left
     · simp only [Act.put, List.setIfInBounds_toArray, List.set_cons_zero, List.set_cons_succ, i64_w, i32_w]
       rfl
     refine pure_ (i := 14) (N := some 18) (v := undef) (a' := ?_) #[true, true, true, true, true, true, true, true, true, true, true, true, true, true, true, false, false] rfl rfl (any_of HT_.out (by kernel_rfl)) (fun _ _ _ h => h) (Or.inr ⟨by rfl, rfl⟩) ?_ ?_
     rotate_left
     · simp only [Act.put, List.setIfInBounds_toArray, List.set_cons_zero, List.set_cons_succ, i64_w, i32_w]
       rfl
     refine pure_ (i := 15) (N := some 19) (v := undef) (a' := ?_) #[true, true, true, true, true, true, true, true, true, true, true, true, true, true, true, true, false] rfl rfl (any_of HT_.out (by kernel_rfl)) (fun _ _ _ h => h) (Or.inr ⟨by rfl, rfl⟩) ?_ ?_
     rotate_left
     · simp only [Act.put, List.setIfInBounds_toArray, List.set_cons_zero, List.set_cons_succ, i64_w, i32_w]
       rfl
     refine pure_ (i := 16) (N := some 20) (v := ?_) (a' := ?_) #[true, true, true, true, true, true, true, true, true, true, true, true, true, true, true, true, true] rfl rfl (any_of HT_.out (by kernel_rfl)) (fun _ _ _ h => h) (Or.inl ⟨by rfl, ?_⟩) ?_ ?_
     rotate_left
     · intro w'
       go_simp
       with_reducible rfl
     rotate_left
     · simp only [Act.put, List.setIfInBounds_toArray, List.set_cons_zero, List.set_cons_succ, i64_w, i32_w]
       rfl
     refine done_ (done_of HT_.out (by kernel_rfl)) ?_
     try go_wp2
     go_meet
     case rel => exact ⟨_, (true), (by first | rfl | (simp; done) | (simp [*]; done)), H', ⟨by first | omega | exact Nat.le_refl _⟩, ⟨by (with_reducible repeat (first | refine blk_drewN ?_ _ | refine blk_drew ?_ | refine blk_alloc ?_ _)); exact BK134.out⟩, ⟨by repeat (first | (with_reducible first | exact HB.out | apply bAl | apply pwDN | apply bD1 | refine bSt ?_ GE134.out) | exact HB.out)⟩⟩
 case rest =>
   clear HC2
   try clear p2
   try clear c5
   try clear c5b0
   try clear c5b1
   try clear c7
   try clear c8
   try clear c9
   obtain ⟨kq, x20_1, rfl, HA, HJ1, BK134, HB⟩ := hcut
   cases kq with
   | zero => exact absurd HA.out (by simp [rf6form.j0])
   | succ kj1 =>
     have H := HA.out
     clear HA
     simp only [rf6form.j0] at H
     by_cases c15 : x20_1 = true
     · subst c15
       have H1 : (some false) = some r := by rw [if_pos rfl] at H; exact H
       clear H
       have H := H1
       clear H1
       obtain rfl := Option.some.inj H
       go_wp2
       go_ret
       exact ⟨by first | rfl | (simp [errW_none, errW_some] <;> rfl) | (simp [*, errW_none, errW_some] <;> rfl), by repeat (first | (with_reducible first | exact HB.out | apply bAl | apply pwDN | apply bD1 | refine bSt ?_ GE134.out) | exact HB.out)⟩
     · replace c15 := Bool.eq_false_iff.mpr c15
       subst c15
       have H1 : (rf6form.l0 kj1 0 a0_0 a0_1 a0_2 l0_3 l0_4 l0_5) = some r := by rw [if_neg (show ¬ (false = true) by decide)] at H; exact H
       clear H
       have H := H1
       clear H1
       have H' := Aside0.mk H
       clear H
       go_wp2
       go_loopg [3] kj1 (fun kq v3 w' => ∃ (x3_2 : Int), v3 = .int .i64 x3_2 ∧ Aside0 (rf6form.l0 kq x3_2 a0_0 a0_1 a0_2 l0_3 l0_4 l0_5 = some r) ∧ Aside0 (kq ≤ kj1) ∧ Aside0 (w'.heap[gb134]? = some (.cells #[.int .i64 a0_0, .string a0_1, .int .i64 a0_2, (.slice A0_3 l0_3.length c0_3), (.slice A0_4 l0_4.length c0_4), (.slice A0_5 l0_5.length c0_5)] 26 (0, 0))) ∧ Aside0 (Below w.heap.size w w'))
       case atStart => exact ⟨(0), (by first | rfl | (simp; done) | (simp [*]; done)), H', ⟨Nat.le_refl _⟩, ⟨by (with_reducible repeat (first | refine blk_drewN ?_ _ | refine blk_drew ?_ | refine blk_alloc ?_ _)); exact BK134.out⟩, ⟨by repeat (first | (with_reducible first | exact HB.out | apply bAl | apply pwDN | apply bD1 | refine bSt ?_ GE134.out) | exact HB.out)⟩⟩
       case round =>
         clear H'
         try clear c1
         try clear p2
         try clear c5
         try clear c5b0
         try clear c5b1
         try clear c7
         try clear c8
         try clear c9
         try clear c15
         try clear p2
         obtain ⟨x3_2, rfl, HA, HK2, BK134, HB⟩ := hrel
         cases gk with
         | zero => exact absurd HA.out (by simp [rf6form.l0])
         | succ k2 =>
           have H := HA.out
           clear HA
           simp only [rf6form.l0] at H
           by_cases c16 : x3_2 < (l0_5.length : Int)
           · rw [if_pos c16] at H
             have c16b0 : decide (x3_2 < (l0_5.length : Int)) = true := decide_eq_true c16
             clear c16
             by_cases c17 : 0 ≤ x3_2
             · rw [if_pos c17] at H
               have c17b0 : decide (0 ≤ x3_2) = true := decide_eq_true c17
               clear c17
               replace H := Option.bind_eq_some_iff.mp H
               obtain ⟨t139, A180, H⟩ := H
               replace H : (if t139 = true then (rf6form.l0 k2 (wrap64 (x3_2 + 1)) a0_0 a0_1 a0_2 l0_3 l0_4 l0_5) else (some false)) = some r := H
               have A18 := Aside0.mk A180
               clear A180
               by_cases c19 : t139 = true
               · subst c19
                 have H1 : (rf6form.l0 k2 (wrap64 (x3_2 + 1)) a0_0 a0_1 a0_2 l0_3 l0_4 l0_5) = some r := by rw [if_pos rfl] at H; exact H
                 clear H
                 have H := H1
                 clear H1
                 have H' := Aside0.mk H
                 clear H
                 have hcz20_0 : wr.cell? ⟨gb134, 0, none⟩ = some (.int .i64 a0_0) := (bCl BK134.out 0).trans rfl
                 have hcz20_1 : wr.cell? ⟨gb134, 1, none⟩ = some (.string a0_1) := (bCl BK134.out 1).trans rfl
                 have hcz20_2 : wr.cell? ⟨gb134, 2, none⟩ = some (.int .i64 a0_2) := (bCl BK134.out 2).trans rfl
                 have hcz20_3 : wr.cell? ⟨gb134, 3, none⟩ = some (.slice A0_3 l0_3.length c0_3) := (bCl BK134.out 3).trans rfl
                 have hcz20_4 : wr.cell? ⟨gb134, 4, none⟩ = some (.slice A0_4 l0_4.length c0_4) := (bCl BK134.out 4).trans rfl
                 have hcz20_5 : wr.cell? ⟨gb134, 5, none⟩ = some (.slice A0_5 l0_5.length c0_5) := (bCl BK134.out 5).trans rfl
                 have hfz20_0 := bFz BK134.out 0
                 have hfz20_1 := bFz BK134.out 1
                 have hfz20_2 := bFz BK134.out 2
                 have hfz20_3 := bFz BK134.out 3
                 have hfz20_4 := bFz BK134.out 4
                 have hfz20_5 := bFz BK134.out 5
                 have p138 : 0 ≤ (x3_2 : Int) := of_decide_eq_true (by first | (with_reducible assumption) | assumption)
                 have q138 : x3_2 < (l0_5.length : Int) := of_decide_eq_true (by first | (with_reducible assumption) | assumption)
                 obtain ⟨ad138, A138_3, c138_3, A138_4, c138_4, A138_5, c138_5, e138, hx138_0, hx138_1, hx138_2, hx138_3, hx138_4, hx138_5, hl138_3, hi138_3, hl138_4, hi138_4, hl138_5, hi138_5⟩ := at_T26 HR0_5.out x3_2 p138 q138
                 cases e138
                 replace hx138_0 := (HB.out.cell (World.block_lt_of_cell? w _ hx138_0)).trans hx138_0
                 replace hx138_1 := (HB.out.cell (World.block_lt_of_cell? w _ hx138_1)).trans hx138_1
                 replace hx138_2 := (HB.out.cell (World.block_lt_of_cell? w _ hx138_2)).trans hx138_2
                 replace hx138_3 := (HB.out.cell (World.block_lt_of_cell? w _ hx138_3)).trans hx138_3
                 replace hx138_4 := (HB.out.cell (World.block_lt_of_cell? w _ hx138_4)).trans hx138_4
                 replace hx138_5 := (HB.out.cell (World.block_lt_of_cell? w _ hx138_5)).trans hx138_5
                 have HR138_3 := Aside0.mk hi138_3
                 have HC138_3 := Aside0.mk hl138_3
                 clear hi138_3 hl138_3
                 have HR138_4 := Aside0.mk hi138_4
                 have HC138_4 := Aside0.mk hl138_4
                 clear hi138_4 hl138_4
                 have HR138_5 := Aside0.mk hi138_5
                 have HC138_5 := Aside0.mk hl138_5
                 clear hi138_5 hl138_5
                 replace p138 := eq_true p138
                 replace q138 := eq_true q138
                 go_wp2_with (first | ((with_reducible refine gate_callee (f := 54) rfl ?_); refine goesL_ (some 33) rfl rfl Tryd.func54 (by kernel_rfl) rfl #[.agg #[.int .i64 ((rd_T26 l0_5 x3_2).f0), .string ((rd_T26 l0_5 x3_2).f1), .int .i64 ((rd_T26 l0_5 x3_2).f2), .slice A138_3 ((rd_T26 l0_5 x3_2).f3).length c138_3, .slice A138_4 ((rd_T26 l0_5 x3_2).f4).length c138_4, .slice A138_5 ((rd_T26 l0_5 x3_2).f5).length c138_5]] rfl (by (try simp only [List.map_toArray, List.map_cons, List.map_nil]); first | done | rfl | (simp only [List.length_drop, List.length_take]; rfl)) ?_; (with_reducible refine (ih k2 (by have := HJ1.out; have := HK2.out; omega) ((rd_T26 l0_5 x3_2).f0) ((rd_T26 l0_5 x3_2).f1) ((rd_T26 l0_5 x3_2).f2) _ _ ((rd_T26 l0_5 x3_2).f3) _ _ ((rd_T26 l0_5 x3_2).f4) _ _ ((rd_T26 l0_5 x3_2).f5) true _ ?side1 ?side2 ?side3 ?side4 ?side5 ?side6 A18.out).mono ?_); (case side1 => repeat (first | exact (Kd.C_below HR138_3.out HB.out) | (with_reducible refine Kd.C_alloc ?_ _) | (with_reducible refine Kd.C_drewN ?_ _) | (with_reducible refine Kd.C_drew ?_))); (case side2 => exact HC138_3.out); (case side3 => repeat (first | exact (Kd.C_below HR138_4.out HB.out) | (with_reducible refine Kd.C_alloc ?_ _) | (with_reducible refine Kd.C_drewN ?_ _) | (with_reducible refine Kd.C_drew ?_))); (case side4 => exact HC138_4.out); (case side5 => repeat (first | exact (Kd.C_below HR138_5.out HB.out) | (with_reducible refine Kd.C_alloc ?_ _) | (with_reducible refine Kd.C_drewN ?_ _) | (with_reducible refine Kd.C_drew ?_))); (case side6 => exact HC138_5.out); rintro e w21 ⟨rfl, hb⟩; refine ⟨_, rfl, ?_⟩; have n0_ := Aside0.mk (blk_below (g := gb134) (o := .cells #[.int .i64 a0_0, .string a0_1, .int .i64 a0_2, .slice A0_3 l0_3.length c0_3, .slice A0_4 l0_4.length c0_4, .slice (some ad138) l0_5.length c0_5] 26 (0, 0)) (by (with_reducible repeat (first | refine blk_drewN ?_ _ | refine blk_drew ?_ | refine blk_alloc ?_ _)); exact BK134.out) hb); have n1_ := Aside0.mk (below_step (by repeat (first | (with_reducible first | exact HB.out | apply bAl | apply pwDN | apply bD1 | refine bSt ?_ GE134.out) | exact HB.out)) hb); clear BK134; clear HB; have BK134 := n0_; have HB := n1_; clear n0_ n1_; (try clear hb); (try clear hb2); (try clear hk); (try clear hi)))
                 go_roundg k2
                 case measure => have := HJ1.out; have := HK2.out; omega
                 case rel => exact ⟨(wrap64 (x3_2 + 1)), (by first | rfl | (simp; done) | (simp [*]; done)), H', ⟨by have := HJ1.out; have := HK2.out; omega⟩, ⟨by (with_reducible repeat (first | refine blk_drewN ?_ _ | refine blk_drew ?_ | refine blk_alloc ?_ _)); exact BK134.out⟩, ⟨by repeat (first | (with_reducible first | exact HB.out | apply bAl | apply pwDN | apply bD1 | refine bSt ?_ GE134.out) | exact HB.out)⟩⟩
               · replace c19 := Bool.eq_false_iff.mpr c19
                 subst c19
                 have H1 : (some false) = some r := by rw [if_neg (show ¬ (false = true) by decide)] at H; exact H
                 clear H
                 have H := H1
                 clear H1
                 obtain rfl := Option.some.inj H
                 have hcz22_0 : wr.cell? ⟨gb134, 0, none⟩ = some (.int .i64 a0_0) := (bCl BK134.out 0).trans rfl
                 have hcz22_1 : wr.cell? ⟨gb134, 1, none⟩ = some (.string a0_1) := (bCl BK134.out 1).trans rfl
                 have hcz22_2 : wr.cell? ⟨gb134, 2, none⟩ = some (.int .i64 a0_2) := (bCl BK134.out 2).trans rfl
                 have hcz22_3 : wr.cell? ⟨gb134, 3, none⟩ = some (.slice A0_3 l0_3.length c0_3) := (bCl BK134.out 3).trans rfl
                 have hcz22_4 : wr.cell? ⟨gb134, 4, none⟩ = some (.slice A0_4 l0_4.length c0_4) := (bCl BK134.out 4).trans rfl
                 have hcz22_5 : wr.cell? ⟨gb134, 5, none⟩ = some (.slice A0_5 l0_5.length c0_5) := (bCl BK134.out 5).trans rfl
                 have hfz22_0 := bFz BK134.out 0
                 have hfz22_1 := bFz BK134.out 1
                 have hfz22_2 := bFz BK134.out 2
                 have hfz22_3 := bFz BK134.out 3
                 have hfz22_4 := bFz BK134.out 4
                 have hfz22_5 := bFz BK134.out 5
                 have p138 : 0 ≤ (x3_2 : Int) := of_decide_eq_true (by first | (with_reducible assumption) | assumption)
                 have q138 : x3_2 < (l0_5.length : Int) := of_decide_eq_true (by first | (with_reducible assumption) | assumption)
                 obtain ⟨ad138, A138_3, c138_3, A138_4, c138_4, A138_5, c138_5, e138, hx138_0, hx138_1, hx138_2, hx138_3, hx138_4, hx138_5, hl138_3, hi138_3, hl138_4, hi138_4, hl138_5, hi138_5⟩ := at_T26 HR0_5.out x3_2 p138 q138
                 cases e138
                 replace hx138_0 := (HB.out.cell (World.block_lt_of_cell? w _ hx138_0)).trans hx138_0
                 replace hx138_1 := (HB.out.cell (World.block_lt_of_cell? w _ hx138_1)).trans hx138_1
                 replace hx138_2 := (HB.out.cell (World.block_lt_of_cell? w _ hx138_2)).trans hx138_2
                 replace hx138_3 := (HB.out.cell (World.block_lt_of_cell? w _ hx138_3)).trans hx138_3
                 replace hx138_4 := (HB.out.cell (World.block_lt_of_cell? w _ hx138_4)).trans hx138_4
                 replace hx138_5 := (HB.out.cell (World.block_lt_of_cell? w _ hx138_5)).trans hx138_5
                 have HR138_3 := Aside0.mk hi138_3
                 have HC138_3 := Aside0.mk hl138_3
                 clear hi138_3 hl138_3
                 have HR138_4 := Aside0.mk hi138_4
                 have HC138_4 := Aside0.mk hl138_4
                 clear hi138_4 hl138_4
                 have HR138_5 := Aside0.mk hi138_5
                 have HC138_5 := Aside0.mk hl138_5
                 clear hi138_5 hl138_5
                 replace p138 := eq_true p138
                 replace q138 := eq_true q138
                 go_wp2_with (first | ((with_reducible refine gate_callee (f := 54) rfl ?_); refine goesL_ (some 33) rfl rfl Tryd.func54 (by kernel_rfl) rfl #[.agg #[.int .i64 ((rd_T26 l0_5 x3_2).f0), .string ((rd_T26 l0_5 x3_2).f1), .int .i64 ((rd_T26 l0_5 x3_2).f2), .slice A138_3 ((rd_T26 l0_5 x3_2).f3).length c138_3, .slice A138_4 ((rd_T26 l0_5 x3_2).f4).length c138_4, .slice A138_5 ((rd_T26 l0_5 x3_2).f5).length c138_5]] rfl (by (try simp only [List.map_toArray, List.map_cons, List.map_nil]); first | done | rfl | (simp only [List.length_drop, List.length_take]; rfl)) ?_; (with_reducible refine (ih k2 (by have := HJ1.out; have := HK2.out; omega) ((rd_T26 l0_5 x3_2).f0) ((rd_T26 l0_5 x3_2).f1) ((rd_T26 l0_5 x3_2).f2) _ _ ((rd_T26 l0_5 x3_2).f3) _ _ ((rd_T26 l0_5 x3_2).f4) _ _ ((rd_T26 l0_5 x3_2).f5) false _ ?side1 ?side2 ?side3 ?side4 ?side5 ?side6 A18.out).mono ?_); (case side1 => repeat (first | exact (Kd.C_below HR138_3.out HB.out) | (with_reducible refine Kd.C_alloc ?_ _) | (with_reducible refine Kd.C_drewN ?_ _) | (with_reducible refine Kd.C_drew ?_))); (case side2 => exact HC138_3.out); (case side3 => repeat (first | exact (Kd.C_below HR138_4.out HB.out) | (with_reducible refine Kd.C_alloc ?_ _) | (with_reducible refine Kd.C_drewN ?_ _) | (with_reducible refine Kd.C_drew ?_))); (case side4 => exact HC138_4.out); (case side5 => repeat (first | exact (Kd.C_below HR138_5.out HB.out) | (with_reducible refine Kd.C_alloc ?_ _) | (with_reducible refine Kd.C_drewN ?_ _) | (with_reducible refine Kd.C_drew ?_))); (case side6 => exact HC138_5.out); rintro e w23 ⟨rfl, hb⟩; refine ⟨_, rfl, ?_⟩; have n0_ := Aside0.mk (blk_below (g := gb134) (o := .cells #[.int .i64 a0_0, .string a0_1, .int .i64 a0_2, .slice A0_3 l0_3.length c0_3, .slice A0_4 l0_4.length c0_4, .slice (some ad138) l0_5.length c0_5] 26 (0, 0)) (by (with_reducible repeat (first | refine blk_drewN ?_ _ | refine blk_drew ?_ | refine blk_alloc ?_ _)); exact BK134.out) hb); have n1_ := Aside0.mk (below_step (by repeat (first | (with_reducible first | exact HB.out | apply bAl | apply pwDN | apply bD1 | refine bSt ?_ GE134.out) | exact HB.out)) hb); clear BK134; clear HB; have BK134 := n0_; have HB := n1_; clear n0_ n1_; (try clear hb); (try clear hb2); (try clear hk); (try clear hi)))
                 go_ret
                 exact ⟨by first | rfl | (simp [errW_none, errW_some] <;> rfl) | (simp [*, errW_none, errW_some] <;> rfl), by repeat (first | (with_reducible first | exact HB.out | apply bAl | apply pwDN | apply bD1 | refine bSt ?_ GE134.out) | exact HB.out)⟩
             · rw [if_neg c17] at H
               exact absurd H (by simp)
           · rw [if_neg c16] at H
             have c16b0 : decide (x3_2 < (l0_5.length : Int)) = false := decide_eq_false c16
             clear c16
             obtain rfl := Option.some.inj H
             have hcz24_0 : wr.cell? ⟨gb134, 0, none⟩ = some (.int .i64 a0_0) := (bCl BK134.out 0).trans rfl
             have hcz24_1 : wr.cell? ⟨gb134, 1, none⟩ = some (.string a0_1) := (bCl BK134.out 1).trans rfl
             have hcz24_2 : wr.cell? ⟨gb134, 2, none⟩ = some (.int .i64 a0_2) := (bCl BK134.out 2).trans rfl
             have hcz24_3 : wr.cell? ⟨gb134, 3, none⟩ = some (.slice A0_3 l0_3.length c0_3) := (bCl BK134.out 3).trans rfl
             have hcz24_4 : wr.cell? ⟨gb134, 4, none⟩ = some (.slice A0_4 l0_4.length c0_4) := (bCl BK134.out 4).trans rfl
             have hcz24_5 : wr.cell? ⟨gb134, 5, none⟩ = some (.slice A0_5 l0_5.length c0_5) := (bCl BK134.out 5).trans rfl
             have hfz24_0 := bFz BK134.out 0
             have hfz24_1 := bFz BK134.out 1
             have hfz24_2 := bFz BK134.out 2
             have hfz24_3 := bFz BK134.out 3
             have hfz24_4 := bFz BK134.out 4
             have hfz24_5 := bFz BK134.out 5
             go_wp2
             go_ret
             exact ⟨by first | rfl | (simp [errW_none, errW_some] <;> rfl) | (simp [*, errW_none, errW_some] <;> rfl), by repeat (first | (with_reducible first | exact HB.out | apply bAl | apply pwDN | apply bD1 | refine bSt ?_ GE134.out) | exact HB.out)⟩
def rf6Check.f (k : Nat) (a0_0 : Int) (a0_1 : ByteArray) (a0_2 : Int) (l0_3 : List (S47)) (l0_4 : List (S42)) (l0_5 : List (S26)) : Option (Int) := (rf6form.f k a0_0 a0_1 a0_2 l0_3 l0_4 l0_5).bind fun t141 => (if t141 = true then ((rf6Size.f k a0_0 a0_1 a0_2 l0_3 l0_4 l0_5).bind fun t142 => (if t142 > 256 then (some 2) else ((rf6Depth.f k a0_0 a0_1 a0_2 l0_3 l0_4 l0_5).bind fun t143 => (if t143 > 24 then (some 2) else (some 0))))) else (some 1))
set_option maxHeartbeats 8000000 in
set_option maxRecDepth 100000 in
theorem rf6Check.calls (k : Nat) (a0_0 : Int) (a0_1 : ByteArray) (a0_2 : Int) (A0_3 : Option Addr) (c0_3 : Nat) (l0_3 : List (S47)) (A0_4 : Option Addr) (c0_4 : Nat) (l0_4 : List (S42)) (A0_5 : Option Addr) (c0_5 : Nat) (l0_5 : List (S26)) (r : Int) (w : World) (hr0_3 : Kd.C k47 w A0_3 l0_3.length l0_3) (hc0_3 : l0_3.length ≤ c0_3) (hr0_4 : Kd.C k42 w A0_4 l0_4.length l0_4) (hc0_4 : l0_4.length ≤ c0_4) (hr0_5 : Kd.C k26 w A0_5 l0_5.length l0_5) (hc0_5 : l0_5.length ≤ c0_5) (h : rf6Check.f k a0_0 a0_1 a0_2 l0_3 l0_4 l0_5 = some r) :
   Calls Tryd.prog 23 #[.agg #[.int .i64 a0_0, .string a0_1, .int .i64 a0_2, .slice A0_3 l0_3.length c0_3, .slice A0_4 l0_4.length c0_4, .slice A0_5 l0_5.length c0_5]] w fun e w' => e = .returned (.int .i64 r) ∧ Below w.heap.size w w' := by
 have hu26 := Tryd.underlying26
 have HR0_3 := Aside0.mk hr0_3
 have HC0_3 := Aside0.mk hc0_3
 clear hr0_3 hc0_3
 have HR0_4 := Aside0.mk hr0_4
 have HC0_4 := Aside0.mk hc0_4
 clear hr0_4 hc0_4
 have HR0_5 := Aside0.mk hr0_5
 have HC0_5 := Aside0.mk hc0_5
 clear hr0_5 hc0_5
 have HB := Aside0.mk (Below.refl w.heap.size w)
 have H : ((rf6form.f k a0_0 a0_1 a0_2 l0_3 l0_4 l0_5).bind fun t141 => (if t141 = true then ((rf6Size.f k a0_0 a0_1 a0_2 l0_3 l0_4 l0_5).bind fun t142 => (if t142 > 256 then (some 2) else ((rf6Depth.f k a0_0 a0_1 a0_2 l0_3 l0_4 l0_5).bind fun t143 => (if t143 > 24 then (some 2) else (some 0))))) else (some 1))) = some r := h
 clear h
 replace H := Option.bind_eq_some_iff.mp H
 obtain ⟨t141, A20, H⟩ := H
 replace H : (if t141 = true then ((rf6Size.f k a0_0 a0_1 a0_2 l0_3 l0_4 l0_5).bind fun t142 => (if t142 > 256 then (some 2) else ((rf6Depth.f k a0_0 a0_1 a0_2 l0_3 l0_4 l0_5).bind fun t143 => (if t143 > 24 then (some 2) else (some 0))))) else (some 1)) = some r := H
 have A2 := Aside0.mk A20
 clear A20
 by_cases c3 : t141 = true
 · subst c3
   have H1 : ((rf6Size.f k a0_0 a0_1 a0_2 l0_3 l0_4 l0_5).bind fun t142 => (if t142 > 256 then (some 2) else ((rf6Depth.f k a0_0 a0_1 a0_2 l0_3 l0_4 l0_5).bind fun t143 => (if t143 > 24 then (some 2) else (some 0))))) = some r := by rw [if_pos rfl] at H; exact H
   clear H
   have H := H1
   clear H1
   replace H := Option.bind_eq_some_iff.mp H
   obtain ⟨t142, A40, H⟩ := H
   replace H : (if t142 > 256 then (some 2) else ((rf6Depth.f k a0_0 a0_1 a0_2 l0_3 l0_4 l0_5).bind fun t143 => (if t143 > 24 then (some 2) else (some 0)))) = some r := H
   have A4 := Aside0.mk A40
   clear A40
   by_cases c5 : t142 > 256
   · rw [if_pos c5] at H
     have c5b0 : decide (256 < t142) = true := decide_eq_true c5
     clear c5
     obtain rfl := Option.some.inj H
     go_enter Tryd.func23, Tryd.ntmps23
     go_wp2_with (first | ((with_reducible refine gate_dst (N := 1) rfl ?_); refine box_event ?hg (N := 1) ?hd (cs := #[.int .i64 a0_0, .string a0_1, .int .i64 a0_2, .slice A0_3 l0_3.length c0_3, .slice A0_4 l0_4.length c0_4, .slice A0_5 l0_5.length c0_5]) (t := 26) ?hr ?_; (case hd => rfl); (case hg => rfl); (case hr => first | (go_simp; done) | (go_simp; rfl)); intro gb140 hg w6 hbox hb; have n0_ := Aside0.mk (below_step (by repeat (first | (with_reducible first | exact HB.out | apply bAl | apply pwDN | apply bD1) | exact HB.out)) hb); have n1_ := Aside0.mk (hbox); have n2_ := Aside0.mk ((by rw [hg]; exact (below_size (by repeat (first | (with_reducible first | exact HB.out | apply bAl | apply pwDN | apply bD1) | exact HB.out))) : w.heap.size ≤ gb140)); have n3_ := Aside0.mk ((by rw [hg]; exact (below_size (by repeat (first | (with_reducible first | exact HB.out | apply bAl | apply pwDN | apply bD1) | exact HB.out))) : w.heap.size ≤ gb140)); clear HB; have HB := n0_; have BK140 := n1_; have GW140 := n2_; have GE140 := n3_; clear n0_ n1_ n2_ n3_; clear hb hbox hg; have hcz7_0 : w6.cell? ⟨gb140, 0, none⟩ = some (.int .i64 a0_0) := (bCl BK140.out 0).trans rfl; have hcz7_1 : w6.cell? ⟨gb140, 1, none⟩ = some (.string a0_1) := (bCl BK140.out 1).trans rfl; have hcz7_2 : w6.cell? ⟨gb140, 2, none⟩ = some (.int .i64 a0_2) := (bCl BK140.out 2).trans rfl; have hcz7_3 : w6.cell? ⟨gb140, 3, none⟩ = some (.slice A0_3 l0_3.length c0_3) := (bCl BK140.out 3).trans rfl; have hcz7_4 : w6.cell? ⟨gb140, 4, none⟩ = some (.slice A0_4 l0_4.length c0_4) := (bCl BK140.out 4).trans rfl; have hcz7_5 : w6.cell? ⟨gb140, 5, none⟩ = some (.slice A0_5 l0_5.length c0_5) := (bCl BK140.out 5).trans rfl; have hfz7_0 := bFz BK140.out 0; have hfz7_1 := bFz BK140.out 1; have hfz7_2 := bFz BK140.out 2; have hfz7_3 := bFz BK140.out 3; have hfz7_4 := bFz BK140.out 4; have hfz7_5 := bFz BK140.out 5) | ((with_reducible refine gate_callee (f := 54) rfl ?_); refine goesL_ (some 4) rfl rfl Tryd.func54 (by kernel_rfl) rfl #[.agg #[.int .i64 a0_0, .string a0_1, .int .i64 a0_2, .slice A0_3 l0_3.length c0_3, .slice A0_4 l0_4.length c0_4, .slice A0_5 l0_5.length c0_5]] rfl (by (try simp only [List.map_toArray, List.map_cons, List.map_nil]); first | done | rfl | (simp only [List.length_drop, List.length_take]; rfl)) ?_; (with_reducible refine (rf6form.calls k a0_0 a0_1 a0_2 _ _ l0_3 _ _ l0_4 _ _ l0_5 true _ ?side1 ?side2 ?side3 ?side4 ?side5 ?side6 A2.out).mono ?_); (case side1 => repeat (first | exact (Kd.C_below HR0_3.out HB.out) | (with_reducible refine Kd.C_alloc ?_ _) | (with_reducible refine Kd.C_drewN ?_ _) | (with_reducible refine Kd.C_drew ?_))); (case side2 => exact HC0_3.out); (case side3 => repeat (first | exact (Kd.C_below HR0_4.out HB.out) | (with_reducible refine Kd.C_alloc ?_ _) | (with_reducible refine Kd.C_drewN ?_ _) | (with_reducible refine Kd.C_drew ?_))); (case side4 => exact HC0_4.out); (case side5 => repeat (first | exact (Kd.C_below HR0_5.out HB.out) | (with_reducible refine Kd.C_alloc ?_ _) | (with_reducible refine Kd.C_drewN ?_ _) | (with_reducible refine Kd.C_drew ?_))); (case side6 => exact HC0_5.out); rintro e w8 ⟨rfl, hb⟩; refine ⟨_, rfl, ?_⟩; have n0_ := Aside0.mk (blk_below (g := gb140) (o := .cells #[.int .i64 a0_0, .string a0_1, .int .i64 a0_2, .slice A0_3 l0_3.length c0_3, .slice A0_4 l0_4.length c0_4, .slice A0_5 l0_5.length c0_5] 26 (0, 0)) (by (with_reducible repeat (first | refine blk_drewN ?_ _ | refine blk_drew ?_ | refine blk_alloc ?_ _)); exact BK140.out) hb); have n1_ := Aside0.mk (below_step (by repeat (first | (with_reducible first | exact HB.out | apply bAl | apply pwDN | apply bD1 | refine bSt ?_ GE140.out) | exact HB.out)) hb); clear BK140; clear HB; have BK140 := n0_; have HB := n1_; clear n0_ n1_; (try clear hb); (try clear hb2); (try clear hk); (try clear hi); have hcz9_0 : w8.cell? ⟨gb140, 0, none⟩ = some (.int .i64 a0_0) := (bCl BK140.out 0).trans rfl; have hcz9_1 : w8.cell? ⟨gb140, 1, none⟩ = some (.string a0_1) := (bCl BK140.out 1).trans rfl; have hcz9_2 : w8.cell? ⟨gb140, 2, none⟩ = some (.int .i64 a0_2) := (bCl BK140.out 2).trans rfl; have hcz9_3 : w8.cell? ⟨gb140, 3, none⟩ = some (.slice A0_3 l0_3.length c0_3) := (bCl BK140.out 3).trans rfl; have hcz9_4 : w8.cell? ⟨gb140, 4, none⟩ = some (.slice A0_4 l0_4.length c0_4) := (bCl BK140.out 4).trans rfl; have hcz9_5 : w8.cell? ⟨gb140, 5, none⟩ = some (.slice A0_5 l0_5.length c0_5) := (bCl BK140.out 5).trans rfl; have hfz9_0 := bFz BK140.out 0; have hfz9_1 := bFz BK140.out 1; have hfz9_2 := bFz BK140.out 2; have hfz9_3 := bFz BK140.out 3; have hfz9_4 := bFz BK140.out 4; have hfz9_5 := bFz BK140.out 5) | ((with_reducible refine gate_callee (f := 25) rfl ?_); refine goesL_ (some 7) rfl rfl Tryd.func25 (by kernel_rfl) rfl #[.agg #[.int .i64 a0_0, .string a0_1, .int .i64 a0_2, .slice A0_3 l0_3.length c0_3, .slice A0_4 l0_4.length c0_4, .slice A0_5 l0_5.length c0_5]] rfl (by (try simp only [List.map_toArray, List.map_cons, List.map_nil]); first | done | rfl | (simp only [List.length_drop, List.length_take]; rfl)) ?_; (with_reducible refine (rf6Size.calls k a0_0 a0_1 a0_2 _ _ l0_3 _ _ l0_4 _ _ l0_5 t142 _ ?side1 ?side2 ?side3 ?side4 ?side5 ?side6 A4.out).mono ?_); (case side1 => repeat (first | exact (Kd.C_below HR0_3.out HB.out) | (with_reducible refine Kd.C_alloc ?_ _) | (with_reducible refine Kd.C_drewN ?_ _) | (with_reducible refine Kd.C_drew ?_))); (case side2 => exact HC0_3.out); (case side3 => repeat (first | exact (Kd.C_below HR0_4.out HB.out) | (with_reducible refine Kd.C_alloc ?_ _) | (with_reducible refine Kd.C_drewN ?_ _) | (with_reducible refine Kd.C_drew ?_))); (case side4 => exact HC0_4.out); (case side5 => repeat (first | exact (Kd.C_below HR0_5.out HB.out) | (with_reducible refine Kd.C_alloc ?_ _) | (with_reducible refine Kd.C_drewN ?_ _) | (with_reducible refine Kd.C_drew ?_))); (case side6 => exact HC0_5.out); rintro e w10 ⟨rfl, hb⟩; refine ⟨_, rfl, ?_⟩; have n0_ := Aside0.mk (blk_below (g := gb140) (o := .cells #[.int .i64 a0_0, .string a0_1, .int .i64 a0_2, .slice A0_3 l0_3.length c0_3, .slice A0_4 l0_4.length c0_4, .slice A0_5 l0_5.length c0_5] 26 (0, 0)) (by (with_reducible repeat (first | refine blk_drewN ?_ _ | refine blk_drew ?_ | refine blk_alloc ?_ _)); exact BK140.out) hb); have n1_ := Aside0.mk (below_step (by repeat (first | (with_reducible first | exact HB.out | apply bAl | apply pwDN | apply bD1 | refine bSt ?_ GE140.out) | exact HB.out)) hb); clear BK140; clear HB; have BK140 := n0_; have HB := n1_; clear n0_ n1_; (try clear hb); (try clear hb2); (try clear hk); (try clear hi)))
     go_ret
     exact ⟨by first | rfl | (simp [errW_none, errW_some] <;> rfl) | (simp [*, errW_none, errW_some] <;> rfl), by repeat (first | (with_reducible first | exact HB.out | apply bAl | apply pwDN | apply bD1 | refine bSt ?_ GE140.out) | exact HB.out)⟩
   · rw [if_neg c5] at H
     have c5b0 : decide (256 < t142) = false := decide_eq_false c5
     clear c5
     replace H := Option.bind_eq_some_iff.mp H
     obtain ⟨t143, A110, H⟩ := H
     replace H : (if t143 > 24 then (some 2) else (some 0)) = some r := H
     have A11 := Aside0.mk A110
     clear A110
     by_cases c12 : t143 > 24
     · rw [if_pos c12] at H
       have c12b0 : decide (24 < t143) = true := decide_eq_true c12
       clear c12
       obtain rfl := Option.some.inj H
       go_enter Tryd.func23, Tryd.ntmps23
       go_wp2_with (first | ((with_reducible refine gate_dst (N := 1) rfl ?_); refine box_event ?hg (N := 1) ?hd (cs := #[.int .i64 a0_0, .string a0_1, .int .i64 a0_2, .slice A0_3 l0_3.length c0_3, .slice A0_4 l0_4.length c0_4, .slice A0_5 l0_5.length c0_5]) (t := 26) ?hr ?_; (case hd => rfl); (case hg => rfl); (case hr => first | (go_simp; done) | (go_simp; rfl)); intro gb140 hg w13 hbox hb; have n0_ := Aside0.mk (below_step (by repeat (first | (with_reducible first | exact HB.out | apply bAl | apply pwDN | apply bD1) | exact HB.out)) hb); have n1_ := Aside0.mk (hbox); have n2_ := Aside0.mk ((by rw [hg]; exact (below_size (by repeat (first | (with_reducible first | exact HB.out | apply bAl | apply pwDN | apply bD1) | exact HB.out))) : w.heap.size ≤ gb140)); have n3_ := Aside0.mk ((by rw [hg]; exact (below_size (by repeat (first | (with_reducible first | exact HB.out | apply bAl | apply pwDN | apply bD1) | exact HB.out))) : w.heap.size ≤ gb140)); clear HB; have HB := n0_; have BK140 := n1_; have GW140 := n2_; have GE140 := n3_; clear n0_ n1_ n2_ n3_; clear hb hbox hg; have hcz14_0 : w13.cell? ⟨gb140, 0, none⟩ = some (.int .i64 a0_0) := (bCl BK140.out 0).trans rfl; have hcz14_1 : w13.cell? ⟨gb140, 1, none⟩ = some (.string a0_1) := (bCl BK140.out 1).trans rfl; have hcz14_2 : w13.cell? ⟨gb140, 2, none⟩ = some (.int .i64 a0_2) := (bCl BK140.out 2).trans rfl; have hcz14_3 : w13.cell? ⟨gb140, 3, none⟩ = some (.slice A0_3 l0_3.length c0_3) := (bCl BK140.out 3).trans rfl; have hcz14_4 : w13.cell? ⟨gb140, 4, none⟩ = some (.slice A0_4 l0_4.length c0_4) := (bCl BK140.out 4).trans rfl; have hcz14_5 : w13.cell? ⟨gb140, 5, none⟩ = some (.slice A0_5 l0_5.length c0_5) := (bCl BK140.out 5).trans rfl; have hfz14_0 := bFz BK140.out 0; have hfz14_1 := bFz BK140.out 1; have hfz14_2 := bFz BK140.out 2; have hfz14_3 := bFz BK140.out 3; have hfz14_4 := bFz BK140.out 4; have hfz14_5 := bFz BK140.out 5) | ((with_reducible refine gate_callee (f := 54) rfl ?_); refine goesL_ (some 4) rfl rfl Tryd.func54 (by kernel_rfl) rfl #[.agg #[.int .i64 a0_0, .string a0_1, .int .i64 a0_2, .slice A0_3 l0_3.length c0_3, .slice A0_4 l0_4.length c0_4, .slice A0_5 l0_5.length c0_5]] rfl (by (try simp only [List.map_toArray, List.map_cons, List.map_nil]); first | done | rfl | (simp only [List.length_drop, List.length_take]; rfl)) ?_; (with_reducible refine (rf6form.calls k a0_0 a0_1 a0_2 _ _ l0_3 _ _ l0_4 _ _ l0_5 true _ ?side1 ?side2 ?side3 ?side4 ?side5 ?side6 A2.out).mono ?_); (case side1 => repeat (first | exact (Kd.C_below HR0_3.out HB.out) | (with_reducible refine Kd.C_alloc ?_ _) | (with_reducible refine Kd.C_drewN ?_ _) | (with_reducible refine Kd.C_drew ?_))); (case side2 => exact HC0_3.out); (case side3 => repeat (first | exact (Kd.C_below HR0_4.out HB.out) | (with_reducible refine Kd.C_alloc ?_ _) | (with_reducible refine Kd.C_drewN ?_ _) | (with_reducible refine Kd.C_drew ?_))); (case side4 => exact HC0_4.out); (case side5 => repeat (first | exact (Kd.C_below HR0_5.out HB.out) | (with_reducible refine Kd.C_alloc ?_ _) | (with_reducible refine Kd.C_drewN ?_ _) | (with_reducible refine Kd.C_drew ?_))); (case side6 => exact HC0_5.out); rintro e w15 ⟨rfl, hb⟩; refine ⟨_, rfl, ?_⟩; have n0_ := Aside0.mk (blk_below (g := gb140) (o := .cells #[.int .i64 a0_0, .string a0_1, .int .i64 a0_2, .slice A0_3 l0_3.length c0_3, .slice A0_4 l0_4.length c0_4, .slice A0_5 l0_5.length c0_5] 26 (0, 0)) (by (with_reducible repeat (first | refine blk_drewN ?_ _ | refine blk_drew ?_ | refine blk_alloc ?_ _)); exact BK140.out) hb); have n1_ := Aside0.mk (below_step (by repeat (first | (with_reducible first | exact HB.out | apply bAl | apply pwDN | apply bD1 | refine bSt ?_ GE140.out) | exact HB.out)) hb); clear BK140; clear HB; have BK140 := n0_; have HB := n1_; clear n0_ n1_; (try clear hb); (try clear hb2); (try clear hk); (try clear hi); have hcz16_0 : w15.cell? ⟨gb140, 0, none⟩ = some (.int .i64 a0_0) := (bCl BK140.out 0).trans rfl; have hcz16_1 : w15.cell? ⟨gb140, 1, none⟩ = some (.string a0_1) := (bCl BK140.out 1).trans rfl; have hcz16_2 : w15.cell? ⟨gb140, 2, none⟩ = some (.int .i64 a0_2) := (bCl BK140.out 2).trans rfl; have hcz16_3 : w15.cell? ⟨gb140, 3, none⟩ = some (.slice A0_3 l0_3.length c0_3) := (bCl BK140.out 3).trans rfl; have hcz16_4 : w15.cell? ⟨gb140, 4, none⟩ = some (.slice A0_4 l0_4.length c0_4) := (bCl BK140.out 4).trans rfl; have hcz16_5 : w15.cell? ⟨gb140, 5, none⟩ = some (.slice A0_5 l0_5.length c0_5) := (bCl BK140.out 5).trans rfl; have hfz16_0 := bFz BK140.out 0; have hfz16_1 := bFz BK140.out 1; have hfz16_2 := bFz BK140.out 2; have hfz16_3 := bFz BK140.out 3; have hfz16_4 := bFz BK140.out 4; have hfz16_5 := bFz BK140.out 5) | ((with_reducible refine gate_callee (f := 25) rfl ?_); refine goesL_ (some 7) rfl rfl Tryd.func25 (by kernel_rfl) rfl #[.agg #[.int .i64 a0_0, .string a0_1, .int .i64 a0_2, .slice A0_3 l0_3.length c0_3, .slice A0_4 l0_4.length c0_4, .slice A0_5 l0_5.length c0_5]] rfl (by (try simp only [List.map_toArray, List.map_cons, List.map_nil]); first | done | rfl | (simp only [List.length_drop, List.length_take]; rfl)) ?_; (with_reducible refine (rf6Size.calls k a0_0 a0_1 a0_2 _ _ l0_3 _ _ l0_4 _ _ l0_5 t142 _ ?side1 ?side2 ?side3 ?side4 ?side5 ?side6 A4.out).mono ?_); (case side1 => repeat (first | exact (Kd.C_below HR0_3.out HB.out) | (with_reducible refine Kd.C_alloc ?_ _) | (with_reducible refine Kd.C_drewN ?_ _) | (with_reducible refine Kd.C_drew ?_))); (case side2 => exact HC0_3.out); (case side3 => repeat (first | exact (Kd.C_below HR0_4.out HB.out) | (with_reducible refine Kd.C_alloc ?_ _) | (with_reducible refine Kd.C_drewN ?_ _) | (with_reducible refine Kd.C_drew ?_))); (case side4 => exact HC0_4.out); (case side5 => repeat (first | exact (Kd.C_below HR0_5.out HB.out) | (with_reducible refine Kd.C_alloc ?_ _) | (with_reducible refine Kd.C_drewN ?_ _) | (with_reducible refine Kd.C_drew ?_))); (case side6 => exact HC0_5.out); rintro e w17 ⟨rfl, hb⟩; refine ⟨_, rfl, ?_⟩; have n0_ := Aside0.mk (blk_below (g := gb140) (o := .cells #[.int .i64 a0_0, .string a0_1, .int .i64 a0_2, .slice A0_3 l0_3.length c0_3, .slice A0_4 l0_4.length c0_4, .slice A0_5 l0_5.length c0_5] 26 (0, 0)) (by (with_reducible repeat (first | refine blk_drewN ?_ _ | refine blk_drew ?_ | refine blk_alloc ?_ _)); exact BK140.out) hb); have n1_ := Aside0.mk (below_step (by repeat (first | (with_reducible first | exact HB.out | apply bAl | apply pwDN | apply bD1 | refine bSt ?_ GE140.out) | exact HB.out)) hb); clear BK140; clear HB; have BK140 := n0_; have HB := n1_; clear n0_ n1_; (try clear hb); (try clear hb2); (try clear hk); (try clear hi); have hcz18_0 : w17.cell? ⟨gb140, 0, none⟩ = some (.int .i64 a0_0) := (bCl BK140.out 0).trans rfl; have hcz18_1 : w17.cell? ⟨gb140, 1, none⟩ = some (.string a0_1) := (bCl BK140.out 1).trans rfl; have hcz18_2 : w17.cell? ⟨gb140, 2, none⟩ = some (.int .i64 a0_2) := (bCl BK140.out 2).trans rfl; have hcz18_3 : w17.cell? ⟨gb140, 3, none⟩ = some (.slice A0_3 l0_3.length c0_3) := (bCl BK140.out 3).trans rfl; have hcz18_4 : w17.cell? ⟨gb140, 4, none⟩ = some (.slice A0_4 l0_4.length c0_4) := (bCl BK140.out 4).trans rfl; have hcz18_5 : w17.cell? ⟨gb140, 5, none⟩ = some (.slice A0_5 l0_5.length c0_5) := (bCl BK140.out 5).trans rfl; have hfz18_0 := bFz BK140.out 0; have hfz18_1 := bFz BK140.out 1; have hfz18_2 := bFz BK140.out 2; have hfz18_3 := bFz BK140.out 3; have hfz18_4 := bFz BK140.out 4; have hfz18_5 := bFz BK140.out 5) | (go_at_call 27; (with_reducible refine (rf6Depth.calls k a0_0 a0_1 a0_2 _ _ l0_3 _ _ l0_4 _ _ l0_5 t143 _ ?side1 ?side2 ?side3 ?side4 ?side5 ?side6 A11.out).mono ?_); (case side1 => repeat (first | exact (Kd.C_below HR0_3.out HB.out) | (with_reducible refine Kd.C_alloc ?_ _) | (with_reducible refine Kd.C_drewN ?_ _) | (with_reducible refine Kd.C_drew ?_))); (case side2 => exact HC0_3.out); (case side3 => repeat (first | exact (Kd.C_below HR0_4.out HB.out) | (with_reducible refine Kd.C_alloc ?_ _) | (with_reducible refine Kd.C_drewN ?_ _) | (with_reducible refine Kd.C_drew ?_))); (case side4 => exact HC0_4.out); (case side5 => repeat (first | exact (Kd.C_below HR0_5.out HB.out) | (with_reducible refine Kd.C_alloc ?_ _) | (with_reducible refine Kd.C_drewN ?_ _) | (with_reducible refine Kd.C_drew ?_))); (case side6 => exact HC0_5.out); rintro e w19 ⟨rfl, hb⟩; have n0_ := Aside0.mk (blk_below (g := gb140) (o := .cells #[.int .i64 a0_0, .string a0_1, .int .i64 a0_2, .slice A0_3 l0_3.length c0_3, .slice A0_4 l0_4.length c0_4, .slice A0_5 l0_5.length c0_5] 26 (0, 0)) (by (with_reducible repeat (first | refine blk_drewN ?_ _ | refine blk_drew ?_ | refine blk_alloc ?_ _)); exact BK140.out) hb); have n1_ := Aside0.mk (below_step (by repeat (first | (with_reducible first | exact HB.out | apply bAl | apply pwDN | apply bD1 | refine bSt ?_ GE140.out) | exact HB.out)) hb); clear BK140; clear HB; have BK140 := n0_; have HB := n1_; clear n0_ n1_; (try clear hb); (try clear hb2); (try clear hk); (try clear hi)))
       go_ret
       exact ⟨by first | rfl | (simp [errW_none, errW_some] <;> rfl) | (simp [*, errW_none, errW_some] <;> rfl), by repeat (first | (with_reducible first | exact HB.out | apply bAl | apply pwDN | apply bD1 | refine bSt ?_ GE140.out) | exact HB.out)⟩
     · rw [if_neg c12] at H
       have c12b0 : decide (24 < t143) = false := decide_eq_false c12
       clear c12
       obtain rfl := Option.some.inj H
       go_enter Tryd.func23, Tryd.ntmps23
       go_wp2_with (first | ((with_reducible refine gate_dst (N := 1) rfl ?_); refine box_event ?hg (N := 1) ?hd (cs := #[.int .i64 a0_0, .string a0_1, .int .i64 a0_2, .slice A0_3 l0_3.length c0_3, .slice A0_4 l0_4.length c0_4, .slice A0_5 l0_5.length c0_5]) (t := 26) ?hr ?_; (case hd => rfl); (case hg => rfl); (case hr => first | (go_simp; done) | (go_simp; rfl)); intro gb140 hg w20 hbox hb; have n0_ := Aside0.mk (below_step (by repeat (first | (with_reducible first | exact HB.out | apply bAl | apply pwDN | apply bD1) | exact HB.out)) hb); have n1_ := Aside0.mk (hbox); have n2_ := Aside0.mk ((by rw [hg]; exact (below_size (by repeat (first | (with_reducible first | exact HB.out | apply bAl | apply pwDN | apply bD1) | exact HB.out))) : w.heap.size ≤ gb140)); have n3_ := Aside0.mk ((by rw [hg]; exact (below_size (by repeat (first | (with_reducible first | exact HB.out | apply bAl | apply pwDN | apply bD1) | exact HB.out))) : w.heap.size ≤ gb140)); clear HB; have HB := n0_; have BK140 := n1_; have GW140 := n2_; have GE140 := n3_; clear n0_ n1_ n2_ n3_; clear hb hbox hg; have hcz21_0 : w20.cell? ⟨gb140, 0, none⟩ = some (.int .i64 a0_0) := (bCl BK140.out 0).trans rfl; have hcz21_1 : w20.cell? ⟨gb140, 1, none⟩ = some (.string a0_1) := (bCl BK140.out 1).trans rfl; have hcz21_2 : w20.cell? ⟨gb140, 2, none⟩ = some (.int .i64 a0_2) := (bCl BK140.out 2).trans rfl; have hcz21_3 : w20.cell? ⟨gb140, 3, none⟩ = some (.slice A0_3 l0_3.length c0_3) := (bCl BK140.out 3).trans rfl; have hcz21_4 : w20.cell? ⟨gb140, 4, none⟩ = some (.slice A0_4 l0_4.length c0_4) := (bCl BK140.out 4).trans rfl; have hcz21_5 : w20.cell? ⟨gb140, 5, none⟩ = some (.slice A0_5 l0_5.length c0_5) := (bCl BK140.out 5).trans rfl; have hfz21_0 := bFz BK140.out 0; have hfz21_1 := bFz BK140.out 1; have hfz21_2 := bFz BK140.out 2; have hfz21_3 := bFz BK140.out 3; have hfz21_4 := bFz BK140.out 4; have hfz21_5 := bFz BK140.out 5) | ((with_reducible refine gate_callee (f := 54) rfl ?_); refine goesL_ (some 4) rfl rfl Tryd.func54 (by kernel_rfl) rfl #[.agg #[.int .i64 a0_0, .string a0_1, .int .i64 a0_2, .slice A0_3 l0_3.length c0_3, .slice A0_4 l0_4.length c0_4, .slice A0_5 l0_5.length c0_5]] rfl (by (try simp only [List.map_toArray, List.map_cons, List.map_nil]); first | done | rfl | (simp only [List.length_drop, List.length_take]; rfl)) ?_; (with_reducible refine (rf6form.calls k a0_0 a0_1 a0_2 _ _ l0_3 _ _ l0_4 _ _ l0_5 true _ ?side1 ?side2 ?side3 ?side4 ?side5 ?side6 A2.out).mono ?_); (case side1 => repeat (first | exact (Kd.C_below HR0_3.out HB.out) | (with_reducible refine Kd.C_alloc ?_ _) | (with_reducible refine Kd.C_drewN ?_ _) | (with_reducible refine Kd.C_drew ?_))); (case side2 => exact HC0_3.out); (case side3 => repeat (first | exact (Kd.C_below HR0_4.out HB.out) | (with_reducible refine Kd.C_alloc ?_ _) | (with_reducible refine Kd.C_drewN ?_ _) | (with_reducible refine Kd.C_drew ?_))); (case side4 => exact HC0_4.out); (case side5 => repeat (first | exact (Kd.C_below HR0_5.out HB.out) | (with_reducible refine Kd.C_alloc ?_ _) | (with_reducible refine Kd.C_drewN ?_ _) | (with_reducible refine Kd.C_drew ?_))); (case side6 => exact HC0_5.out); rintro e w22 ⟨rfl, hb⟩; refine ⟨_, rfl, ?_⟩; have n0_ := Aside0.mk (blk_below (g := gb140) (o := .cells #[.int .i64 a0_0, .string a0_1, .int .i64 a0_2, .slice A0_3 l0_3.length c0_3, .slice A0_4 l0_4.length c0_4, .slice A0_5 l0_5.length c0_5] 26 (0, 0)) (by (with_reducible repeat (first | refine blk_drewN ?_ _ | refine blk_drew ?_ | refine blk_alloc ?_ _)); exact BK140.out) hb); have n1_ := Aside0.mk (below_step (by repeat (first | (with_reducible first | exact HB.out | apply bAl | apply pwDN | apply bD1 | refine bSt ?_ GE140.out) | exact HB.out)) hb); clear BK140; clear HB; have BK140 := n0_; have HB := n1_; clear n0_ n1_; (try clear hb); (try clear hb2); (try clear hk); (try clear hi); have hcz23_0 : w22.cell? ⟨gb140, 0, none⟩ = some (.int .i64 a0_0) := (bCl BK140.out 0).trans rfl; have hcz23_1 : w22.cell? ⟨gb140, 1, none⟩ = some (.string a0_1) := (bCl BK140.out 1).trans rfl; have hcz23_2 : w22.cell? ⟨gb140, 2, none⟩ = some (.int .i64 a0_2) := (bCl BK140.out 2).trans rfl; have hcz23_3 : w22.cell? ⟨gb140, 3, none⟩ = some (.slice A0_3 l0_3.length c0_3) := (bCl BK140.out 3).trans rfl; have hcz23_4 : w22.cell? ⟨gb140, 4, none⟩ = some (.slice A0_4 l0_4.length c0_4) := (bCl BK140.out 4).trans rfl; have hcz23_5 : w22.cell? ⟨gb140, 5, none⟩ = some (.slice A0_5 l0_5.length c0_5) := (bCl BK140.out 5).trans rfl; have hfz23_0 := bFz BK140.out 0; have hfz23_1 := bFz BK140.out 1; have hfz23_2 := bFz BK140.out 2; have hfz23_3 := bFz BK140.out 3; have hfz23_4 := bFz BK140.out 4; have hfz23_5 := bFz BK140.out 5) | ((with_reducible refine gate_callee (f := 25) rfl ?_); refine goesL_ (some 7) rfl rfl Tryd.func25 (by kernel_rfl) rfl #[.agg #[.int .i64 a0_0, .string a0_1, .int .i64 a0_2, .slice A0_3 l0_3.length c0_3, .slice A0_4 l0_4.length c0_4, .slice A0_5 l0_5.length c0_5]] rfl (by (try simp only [List.map_toArray, List.map_cons, List.map_nil]); first | done | rfl | (simp only [List.length_drop, List.length_take]; rfl)) ?_; (with_reducible refine (rf6Size.calls k a0_0 a0_1 a0_2 _ _ l0_3 _ _ l0_4 _ _ l0_5 t142 _ ?side1 ?side2 ?side3 ?side4 ?side5 ?side6 A4.out).mono ?_); (case side1 => repeat (first | exact (Kd.C_below HR0_3.out HB.out) | (with_reducible refine Kd.C_alloc ?_ _) | (with_reducible refine Kd.C_drewN ?_ _) | (with_reducible refine Kd.C_drew ?_))); (case side2 => exact HC0_3.out); (case side3 => repeat (first | exact (Kd.C_below HR0_4.out HB.out) | (with_reducible refine Kd.C_alloc ?_ _) | (with_reducible refine Kd.C_drewN ?_ _) | (with_reducible refine Kd.C_drew ?_))); (case side4 => exact HC0_4.out); (case side5 => repeat (first | exact (Kd.C_below HR0_5.out HB.out) | (with_reducible refine Kd.C_alloc ?_ _) | (with_reducible refine Kd.C_drewN ?_ _) | (with_reducible refine Kd.C_drew ?_))); (case side6 => exact HC0_5.out); rintro e w24 ⟨rfl, hb⟩; refine ⟨_, rfl, ?_⟩; have n0_ := Aside0.mk (blk_below (g := gb140) (o := .cells #[.int .i64 a0_0, .string a0_1, .int .i64 a0_2, .slice A0_3 l0_3.length c0_3, .slice A0_4 l0_4.length c0_4, .slice A0_5 l0_5.length c0_5] 26 (0, 0)) (by (with_reducible repeat (first | refine blk_drewN ?_ _ | refine blk_drew ?_ | refine blk_alloc ?_ _)); exact BK140.out) hb); have n1_ := Aside0.mk (below_step (by repeat (first | (with_reducible first | exact HB.out | apply bAl | apply pwDN | apply bD1 | refine bSt ?_ GE140.out) | exact HB.out)) hb); clear BK140; clear HB; have BK140 := n0_; have HB := n1_; clear n0_ n1_; (try clear hb); (try clear hb2); (try clear hk); (try clear hi); have hcz25_0 : w24.cell? ⟨gb140, 0, none⟩ = some (.int .i64 a0_0) := (bCl BK140.out 0).trans rfl; have hcz25_1 : w24.cell? ⟨gb140, 1, none⟩ = some (.string a0_1) := (bCl BK140.out 1).trans rfl; have hcz25_2 : w24.cell? ⟨gb140, 2, none⟩ = some (.int .i64 a0_2) := (bCl BK140.out 2).trans rfl; have hcz25_3 : w24.cell? ⟨gb140, 3, none⟩ = some (.slice A0_3 l0_3.length c0_3) := (bCl BK140.out 3).trans rfl; have hcz25_4 : w24.cell? ⟨gb140, 4, none⟩ = some (.slice A0_4 l0_4.length c0_4) := (bCl BK140.out 4).trans rfl; have hcz25_5 : w24.cell? ⟨gb140, 5, none⟩ = some (.slice A0_5 l0_5.length c0_5) := (bCl BK140.out 5).trans rfl; have hfz25_0 := bFz BK140.out 0; have hfz25_1 := bFz BK140.out 1; have hfz25_2 := bFz BK140.out 2; have hfz25_3 := bFz BK140.out 3; have hfz25_4 := bFz BK140.out 4; have hfz25_5 := bFz BK140.out 5) | (go_at_call 27; (with_reducible refine (rf6Depth.calls k a0_0 a0_1 a0_2 _ _ l0_3 _ _ l0_4 _ _ l0_5 t143 _ ?side1 ?side2 ?side3 ?side4 ?side5 ?side6 A11.out).mono ?_); (case side1 => repeat (first | exact (Kd.C_below HR0_3.out HB.out) | (with_reducible refine Kd.C_alloc ?_ _) | (with_reducible refine Kd.C_drewN ?_ _) | (with_reducible refine Kd.C_drew ?_))); (case side2 => exact HC0_3.out); (case side3 => repeat (first | exact (Kd.C_below HR0_4.out HB.out) | (with_reducible refine Kd.C_alloc ?_ _) | (with_reducible refine Kd.C_drewN ?_ _) | (with_reducible refine Kd.C_drew ?_))); (case side4 => exact HC0_4.out); (case side5 => repeat (first | exact (Kd.C_below HR0_5.out HB.out) | (with_reducible refine Kd.C_alloc ?_ _) | (with_reducible refine Kd.C_drewN ?_ _) | (with_reducible refine Kd.C_drew ?_))); (case side6 => exact HC0_5.out); rintro e w26 ⟨rfl, hb⟩; have n0_ := Aside0.mk (blk_below (g := gb140) (o := .cells #[.int .i64 a0_0, .string a0_1, .int .i64 a0_2, .slice A0_3 l0_3.length c0_3, .slice A0_4 l0_4.length c0_4, .slice A0_5 l0_5.length c0_5] 26 (0, 0)) (by (with_reducible repeat (first | refine blk_drewN ?_ _ | refine blk_drew ?_ | refine blk_alloc ?_ _)); exact BK140.out) hb); have n1_ := Aside0.mk (below_step (by repeat (first | (with_reducible first | exact HB.out | apply bAl | apply pwDN | apply bD1 | refine bSt ?_ GE140.out) | exact HB.out)) hb); clear BK140; clear HB; have BK140 := n0_; have HB := n1_; clear n0_ n1_; (try clear hb); (try clear hb2); (try clear hk); (try clear hi)))
       go_ret
       exact ⟨by first | rfl | (simp [errW_none, errW_some] <;> rfl) | (simp [*, errW_none, errW_some] <;> rfl), by repeat (first | (with_reducible first | exact HB.out | apply bAl | apply pwDN | apply bD1 | refine bSt ?_ GE140.out) | exact HB.out)⟩
 · replace c3 := Bool.eq_false_iff.mpr c3
   subst c3
   have H1 : (some 1) = some r := by rw [if_neg (show ¬ (false = true) by decide)] at H; exact H
   clear H
   have H := H1
   clear H1
   obtain rfl := Option.some.inj H
   go_enter Tryd.func23, Tryd.ntmps23
   go_wp2_with (first | ((with_reducible refine gate_dst (N := 1) rfl ?_); refine box_event ?hg (N := 1) ?hd (cs := #[.int .i64 a0_0, .string a0_1, .int .i64 a0_2, .slice A0_3 l0_3.length c0_3, .slice A0_4 l0_4.length c0_4, .slice A0_5 l0_5.length c0_5]) (t := 26) ?hr ?_; (case hd => rfl); (case hg => rfl); (case hr => first | (go_simp; done) | (go_simp; rfl)); intro gb140 hg w27 hbox hb; have n0_ := Aside0.mk (below_step (by repeat (first | (with_reducible first | exact HB.out | apply bAl | apply pwDN | apply bD1) | exact HB.out)) hb); have n1_ := Aside0.mk (hbox); have n2_ := Aside0.mk ((by rw [hg]; exact (below_size (by repeat (first | (with_reducible first | exact HB.out | apply bAl | apply pwDN | apply bD1) | exact HB.out))) : w.heap.size ≤ gb140)); have n3_ := Aside0.mk ((by rw [hg]; exact (below_size (by repeat (first | (with_reducible first | exact HB.out | apply bAl | apply pwDN | apply bD1) | exact HB.out))) : w.heap.size ≤ gb140)); clear HB; have HB := n0_; have BK140 := n1_; have GW140 := n2_; have GE140 := n3_; clear n0_ n1_ n2_ n3_; clear hb hbox hg; have hcz28_0 : w27.cell? ⟨gb140, 0, none⟩ = some (.int .i64 a0_0) := (bCl BK140.out 0).trans rfl; have hcz28_1 : w27.cell? ⟨gb140, 1, none⟩ = some (.string a0_1) := (bCl BK140.out 1).trans rfl; have hcz28_2 : w27.cell? ⟨gb140, 2, none⟩ = some (.int .i64 a0_2) := (bCl BK140.out 2).trans rfl; have hcz28_3 : w27.cell? ⟨gb140, 3, none⟩ = some (.slice A0_3 l0_3.length c0_3) := (bCl BK140.out 3).trans rfl; have hcz28_4 : w27.cell? ⟨gb140, 4, none⟩ = some (.slice A0_4 l0_4.length c0_4) := (bCl BK140.out 4).trans rfl; have hcz28_5 : w27.cell? ⟨gb140, 5, none⟩ = some (.slice A0_5 l0_5.length c0_5) := (bCl BK140.out 5).trans rfl; have hfz28_0 := bFz BK140.out 0; have hfz28_1 := bFz BK140.out 1; have hfz28_2 := bFz BK140.out 2; have hfz28_3 := bFz BK140.out 3; have hfz28_4 := bFz BK140.out 4; have hfz28_5 := bFz BK140.out 5) | ((with_reducible refine gate_callee (f := 54) rfl ?_); refine goesL_ (some 4) rfl rfl Tryd.func54 (by kernel_rfl) rfl #[.agg #[.int .i64 a0_0, .string a0_1, .int .i64 a0_2, .slice A0_3 l0_3.length c0_3, .slice A0_4 l0_4.length c0_4, .slice A0_5 l0_5.length c0_5]] rfl (by (try simp only [List.map_toArray, List.map_cons, List.map_nil]); first | done | rfl | (simp only [List.length_drop, List.length_take]; rfl)) ?_; (with_reducible refine (rf6form.calls k a0_0 a0_1 a0_2 _ _ l0_3 _ _ l0_4 _ _ l0_5 false _ ?side1 ?side2 ?side3 ?side4 ?side5 ?side6 A2.out).mono ?_); (case side1 => repeat (first | exact (Kd.C_below HR0_3.out HB.out) | (with_reducible refine Kd.C_alloc ?_ _) | (with_reducible refine Kd.C_drewN ?_ _) | (with_reducible refine Kd.C_drew ?_))); (case side2 => exact HC0_3.out); (case side3 => repeat (first | exact (Kd.C_below HR0_4.out HB.out) | (with_reducible refine Kd.C_alloc ?_ _) | (with_reducible refine Kd.C_drewN ?_ _) | (with_reducible refine Kd.C_drew ?_))); (case side4 => exact HC0_4.out); (case side5 => repeat (first | exact (Kd.C_below HR0_5.out HB.out) | (with_reducible refine Kd.C_alloc ?_ _) | (with_reducible refine Kd.C_drewN ?_ _) | (with_reducible refine Kd.C_drew ?_))); (case side6 => exact HC0_5.out); rintro e w29 ⟨rfl, hb⟩; refine ⟨_, rfl, ?_⟩; have n0_ := Aside0.mk (blk_below (g := gb140) (o := .cells #[.int .i64 a0_0, .string a0_1, .int .i64 a0_2, .slice A0_3 l0_3.length c0_3, .slice A0_4 l0_4.length c0_4, .slice A0_5 l0_5.length c0_5] 26 (0, 0)) (by (with_reducible repeat (first | refine blk_drewN ?_ _ | refine blk_drew ?_ | refine blk_alloc ?_ _)); exact BK140.out) hb); have n1_ := Aside0.mk (below_step (by repeat (first | (with_reducible first | exact HB.out | apply bAl | apply pwDN | apply bD1 | refine bSt ?_ GE140.out) | exact HB.out)) hb); clear BK140; clear HB; have BK140 := n0_; have HB := n1_; clear n0_ n1_; (try clear hb); (try clear hb2); (try clear hk); (try clear hi)))
   go_ret
   exact ⟨by first | rfl | (simp [errW_none, errW_some] <;> rfl) | (simp [*, errW_none, errW_some] <;> rfl), by repeat (first | (with_reducible first | exact HB.out | apply bAl | apply pwDN | apply bD1 | refine bSt ?_ GE140.out) | exact HB.out)⟩
end Go.Proofs.YtmlcaecknocpoaaDoor.Pr
namespace Go.Proofs.YtmlcaecknocpoaaDoor.It
set_option linter.unusedVariables false
set_option linter.unusedSimpArgs false
open Go Go.RowKit Go.Shelf Go.Proofs.YtmlcaecknocpoaaDoorW.PrintWords Go.Proofs.YtmlcaecknocpoaaDoorW.PrintLast Go.Proofs.YtmlcaecknocpoaaDoor.Pr Go.Proofs.YtmlcaecknocpoaaDoor.Sp
theorem empty_tl (s : ByteArray) : s.toList = [] ↔ s = ByteArray.empty := by
 rw [ByteArray.toList_eq]
 constructor
 · intro h
   obtain ⟨⟨l⟩⟩ := s
   have : l = [] := h
   subst this
   rfl
 · rintro rfl; rfl
theorem empty_beq (s : ByteArray) : (s.toList == ([] : List UInt8)) = decide (s = ByteArray.empty) := by
 rw [Bool.eq_iff_iff, beq_iff_eq, decide_eq_true_iff, empty_tl]
theorem number_pos {n : Int} (h : 0 ≤ n) : number n = decide (n ≤ 1099511627776) := by
 unfold number
 rw [decide_eq_true h]; rfl
theorem number_neg {n : Int} (h : ¬ 0 ≤ n) : number n = false := by
 unfold number
 rw [decide_eq_false h]; rfl
theorem number_ev (n : Int) : Ev (fun _ => if n ≥ 0 then some (decide (n ≤ 1099511627776)) else some false) (number n) := by
 refine Ev.ite (fun h => Ev.val ?_) (fun h => Ev.val ?_)
 · rw [number_pos h]
 · rw [number_neg h]
theorem term_ev (t : S47) (h : t.f1.size ≤ 9223372036854775807) : Ev (fun k => rf6term.f k t.f0 t.f1 t.f2) (term t) := by
 refine Ev.ite (fun h1 => ?_) (fun h1 => ?_)
 · unfold Sp.term
   rw [if_pos h1]
   refine Ev.ite (fun h2 => ?_) (fun h2 => ?_)
   · rw [decide_eq_true ((empty_tl _).1 h2), Bool.true_and]; exact number_ev _
   · rw [decide_eq_false (fun e => h2 ((empty_tl _).2 e))]; exact Ev.val rfl
 · unfold Sp.term
   rw [if_neg h1]
   refine Ev.ite (fun h2 => ?_) (fun h2 => ?_)
   · refine Ev.ite (fun h3 => ?_) (fun h3 => ?_)
     · refine Ev.bind (name_ev _ h) ?_
       rw [decide_eq_true (show 2 ≤ t.f0 from h2), decide_eq_true h3]
       cases name t.f1
       · exact Ev.val rfl
       · refine Ev.val ?_
         simp only [Bool.true_and]
         rw [Bool.eq_iff_iff, beq_iff_eq, decide_eq_true_iff]
     · rw [decide_eq_false h3, Bool.and_false]; exact Ev.val (by simp)
   · rw [decide_eq_false (show ¬ 2 ≤ t.f0 from h2)]; exact Ev.val (by simp)
theorem sign_f (s : ByteArray) : rf6sign.f s = some (isSign s) := by
 unfold rf6sign.f isSign
 rw [ByteArray.toList_eq]
 generalize s.data.toList = l
 by_cases h1 : l = [61]
 · subst h1; rfl
 · by_cases h2 : l = [33, 61]
   · subst h2; rfl
   · by_cases h3 : l = [60]
     · subst h3; rfl
     · by_cases h4 : l = [60, 61]
       · subst h4; rfl
       · by_cases h5 : l = [62]
         · subst h5; rfl
         · by_cases h6 : l = [62, 61]
           · subst h6; rfl
           · simp only [h1, h2, h3, h4, h5, if_false, signs, List.lookup_cons, beq_iff_eq, List.lookup_nil]
             have hb : ∀ m : List UInt8, ¬ l = m → (l == m) = false := fun m h => by simpa using h
             simp [hb _ h1, hb _ h2, hb _ h3, hb _ h4, hb _ h5, hb _ h6]
theorem atom_f (k : Int) : rf6Atom.f k = some (atom k) := by
 unfold rf6Atom.f atom
 by_cases h : k ≥ 3
 · rw [if_pos h, decide_eq_true (show 3 ≤ k from h), Bool.true_and]
 · rw [if_neg h, decide_eq_false (show ¬ 3 ≤ k from h), Bool.false_and]
theorem quant_f (k : Int) : rf6Quantifies.f k = some (quant k) := by
 unfold rf6Quantifies.f quant
 by_cases h : k ≥ 14
 · rw [if_pos h, decide_eq_true (show 14 ≤ k from h), Bool.true_and]
 · rw [if_neg h, decide_eq_false (show ¬ 14 ≤ k from h), Bool.false_and]
theorem parts_ev (k : Int) : Ev (fun n => rf6parts.f n k) ((arity k).getD (-1)) := by
 have j1 : ∀ b : Bool, Ev (fun n => rf6parts.j1 n k b) (if b = true then 2 else if k = 1 then 0 else if k = 2 then 0 else if atom k = true then 0 else -1) := by
   intro b
   refine Ev.step (f := fun _ => some (if b = true then 2 else if k = 1 then 0 else if k = 2 then 0 else if atom k = true then 0 else -1)) (fun n => ?_) (Ev.now _)
   simp only [rf6parts.j1, atom_f, Option.bind_some]
   split
   · rfl
   · split
     · rfl
     · split
       · rfl
       · split <;> rfl
 have j0 : ∀ b : Bool, Ev (fun n => rf6parts.j0 n k k b) (if b = true then 1 else if k = 11 ∨ k = 12 ∨ k = 13 then 2 else if k = 1 then 0 else if k = 2 then 0 else if atom k = true then 0 else -1) := by
   intro b
   by_cases hb : b = true
   · refine Ev.step (f := fun _ => some 1) (fun n => ?_) (Ev.val (by rw [if_pos hb]))
     simp only [rf6parts.j0]
     rw [if_pos hb]
   · rw [if_neg hb]
     by_cases h1 : k = 11 ∨ k = 12 ∨ k = 13
     · rw [if_pos h1]
       refine Ev.step (f := fun n => rf6parts.j1 n k true) (fun n => ?_) (j1 true)
       simp only [rf6parts.j0]
       rw [if_neg hb]
       rcases h1 with rfl | rfl | rfl <;> rfl
     · rw [if_neg h1]
       refine Ev.step (f := fun n => rf6parts.j1 n k false) (fun n => ?_) (by simpa using j1 false)
       simp only [rf6parts.j0]
       rw [if_neg hb, if_neg (by omega), if_neg (by omega)]
       congr 1
       simp; omega
 have hr : ∀ b : Bool, (b = true ↔ k = 10 ∨ (14 ≤ k ∧ k ≤ 17)) → (if b = true then 1 else if k = 11 ∨ k = 12 ∨ k = 13 then 2 else if k = 1 then 0 else if k = 2 then 0 else if atom k = true then 0 else (-1 : Int)) = (arity k).getD (-1) := by
   intro b hb
   have ha : atom k = true ↔ 3 ≤ k ∧ k ≤ 9 := by simp [atom]
   simp only [hb, ha]
   unfold arity
   by_cases c1 : k = 10 ∨ (14 ≤ k ∧ k ≤ 17)
   · rw [if_pos c1, if_neg (by omega), if_pos c1]; rfl
   · rw [if_neg c1]
     by_cases c2 : k = 11 ∨ k = 12 ∨ k = 13
     · rw [if_pos c2, if_neg (by omega), if_neg c1, if_pos (by omega)]; rfl
     · rw [if_neg c2]
       by_cases c3 : k = 1
       · rw [if_pos c3, if_pos (by omega)]; rfl
       · rw [if_neg c3]
         by_cases c4 : k = 2
         · rw [if_pos c4, if_pos (by omega)]; rfl
         · rw [if_neg c4]
           by_cases c5 : 3 ≤ k ∧ k ≤ 9
           · rw [if_pos c5, if_pos (by omega)]; rfl
           · rw [if_neg c5, if_neg (by omega), if_neg c1, if_neg (by omega)]; rfl
 refine Ev.ite (fun h => ?_) (fun h => ?_)
 · rw [← hr (k == 10) (by simp; omega)]; exact j0 _
 · refine Ev.ite (fun h => ?_) (fun h => ?_)
   · rw [← hr (k == 14) (by simp; omega)]; exact j0 _
   · refine Ev.ite (fun h => ?_) (fun h => ?_)
     · rw [← hr (k == 15) (by simp; omega)]; exact j0 _
     · refine Ev.ite (fun h => ?_) (fun h => ?_)
       · rw [← hr (k == 16) (by simp; omega)]; exact j0 _
       · rw [← hr (k == 17) (by simp; omega)]; exact j0 _
theorem two_terms {ts : List S47} (h : ts.length = 2) : ts = [rd_T47 ts 0, rd_T47 ts 1] := by
 match ts, h with
 | [a, b], _ => rfl
theorem refTerms_ev (k : Int) (nm : ByteArray) (n : Int) (ts : List S47) (bs : List S42) (l : List S26) (h : ∀ t ∈ ts, t.f1.size ≤ 9223372036854775807) :
   Ev (fun K => rf6terms.f K k nm n ts bs l) (termsOk k nm ts) := by
 refine Ev.congr (f := fun K => if atom k = true then _ else _) (fun K => by simp only [rf6terms.f, atom_f, Option.bind_some]; rfl) (Ev.ite (fun ha => ?_) (fun ha => ?_))
 · unfold termsOk
   rw [if_pos ha]
   refine Ev.ite (fun h2 => ?_) (fun h2 => ?_)
   · have h2' : ts.length = 2 := by omega
     rw [decide_eq_true h2', Bool.true_and]
     refine Ev.ite (fun _ => ?_) (fun h => absurd (show (0 : Int) < (ts.length : Int) by omega) h)
     have hts := two_terms h2'
     have hall : ts.all term = (term (rd_T47 ts 0) && term (rd_T47 ts 1)) := by
       conv => lhs; rw [hts]
       simp
     have hall2 : (ts.all fun t => decide (t.f0 = 2)) = (decide ((rd_T47 ts 0).f0 = 2) && decide ((rd_T47 ts 1).f0 = 2)) := by
       conv => lhs; rw [hts]
       simp
     rw [hall, hall2]
     have j0 : ∀ b : Bool, Ev (fun K => rf6terms.j0 K b k nm n ts bs l) (!b && (if k = 9 then isSign nm else decide (nm = ByteArray.empty) && (decide ((rd_T47 ts 0).f0 = 2) && decide ((rd_T47 ts 1).f0 = 2)))) := by
       intro b
       cases b
       · refine Ev.step (f := fun _ => some (if k = 9 then isSign nm else decide (nm = ByteArray.empty) && (decide ((rd_T47 ts 0).f0 = 2) && decide ((rd_T47 ts 1).f0 = 2)))) (fun K => ?_) (Ev.val (by simp))
         simp only [rf6terms.j0, sign_f, Option.bind_some, Bool.false_eq_true, if_false]
         by_cases k9 : k = 9
         · rw [if_pos k9, if_pos k9]
         · rw [if_neg k9, if_neg k9]
           by_cases he : nm.toList = []
           · rw [if_pos he, decide_eq_true ((empty_tl _).1 he), if_pos (by omega), Bool.true_and]
             by_cases h3 : (rd_T47 ts 0).f0 = 2
             · rw [if_pos h3, if_pos (by omega), decide_eq_true h3, Bool.true_and]
               congr 1
             · rw [if_neg h3, decide_eq_false h3]; rfl
           · rw [if_neg he, decide_eq_false (fun e => he ((empty_tl _).2 e))]; rfl
       · refine Ev.step (f := fun _ => some false) (fun K => ?_) (Ev.val (by simp))
         simp only [rf6terms.j0, if_true]
     refine Ev.bind (term_ev _ (h _ (rd47_mem ts 0 (by omega)))) ?_
     cases h0 : term (rd_T47 ts 0) with
     | false => exact Ev.congr (fun K => if_neg (by simp)) (by simpa using j0 true)
     | true =>
       refine Ev.congr (fun K => if_pos rfl) (Ev.congr (fun K => if_pos (by omega)) ?_)
       refine Ev.bind (term_ev _ (h _ (rd47_mem ts 1 (by omega)))) ?_
       simpa using j0 (!term (rd_T47 ts 1))
   · rw [decide_eq_false (fun e => h2 (by omega))]
     simp only [Bool.false_and]
     refine Ev.step (f := fun _ => some false) (fun K => ?_) (Ev.now _)
     simp only [rf6terms.j0, if_true]
 · unfold termsOk
   rw [if_neg ha]
   refine Ev.ite (fun h2 => Ev.val ?_) (fun h2 => Ev.val ?_)
   · rw [decide_eq_true (List.eq_nil_of_length_eq_zero (by omega)), empty_beq]; rfl
   · rw [decide_eq_false (fun e => h2 (by rw [e]; rfl))]; rfl
theorem binds_ref_ev (k : Int) (nm : ByteArray) (n : Int) (ts : List S47) (bs : List S42) (l : List S26) (h : ∀ b ∈ bs, b.f0.size ≤ 9223372036854775807) (hlen : bs.length ≤ 9223372036854775807) :
   Ev (fun K => rf6binds.f K k nm n ts bs l) (bindsOk k n bs) := by
 refine Ev.congr (f := fun K => if quant k = true then _ else _) (fun K => by simp only [rf6binds.f, quant_f, Option.bind_some]; rfl) (Ev.ite (fun ha => ?_) (fun ha => ?_))
 · unfold bindsOk
   rw [if_pos ha]
   have hq : 14 ≤ k ∧ k ≤ 17 := by simpa [quant] using ha
   have loop : ∀ d j : Nat, j + d = bs.length → Ev (fun K => rf6binds.l0 K (j : Int) k nm n ts bs l) ((bs.drop j).all bind && (decide (1 ≤ bs.length) && decide (bs.length ≤ 6) && (if counts k = true then number n else decide (n = 0)))) := by
     intro d
     induction d with
     | zero =>
       intro j hj
       refine Ev.step (f := fun _ => some (decide (1 ≤ bs.length) && decide (bs.length ≤ 6) && (if counts k = true then number n else decide (n = 0)))) (fun K => ?_) (Ev.val (by rw [List.drop_of_length_le (by omega)]; simp))
       simp only [rf6binds.l0]
       rw [if_neg (by omega)]
       by_cases c1 : 1 ≤ bs.length
       · have c1' : (bs.length : Int) ≥ 1 := by omega
         by_cases c2 : bs.length ≤ 6
         · have c2' : (bs.length : Int) ≤ 6 := by omega
           simp only [c1', c2', if_true, decide_eq_true c1, decide_eq_true c2, Bool.true_and]
           by_cases k16 : k = 16
           · have hc : counts k = true := by simp [counts, k16]
             simp only [k16, if_true]
             rw [k16] at hc
             simp only [hc, if_true]
             by_cases c3 : n = 0
             · rw [if_pos c3, c3]; rfl
             · rw [if_neg c3]
               by_cases c4 : n > 0
               · rw [if_pos c4, number_pos (by omega)]
               · rw [if_neg c4, number_neg (by omega)]
           · by_cases k17 : k = 17
             · have hc : counts k = true := by simp [counts, k17]
               simp only [k17, if_true]
               rw [k17] at hc
               simp only [hc, if_true]
               rw [if_neg (by decide)]
               by_cases c3 : n = 0
               · rw [if_pos c3, c3]; rfl
               · rw [if_neg c3]
                 by_cases c4 : n > 0
                 · rw [if_pos c4, number_pos (by omega)]
                 · rw [if_neg c4, number_neg (by omega)]
             · have hc : counts k = false := by simp [counts, k16, k17]
               simp only [k16, k17, if_false, hc, Bool.false_eq_true]
               by_cases c3 : n = 0
               · rw [if_pos c3, decide_eq_true c3]
               · rw [if_neg c3, decide_eq_false c3]
         · have c2' : ¬ (bs.length : Int) ≤ 6 := by omega
           simp only [c1', c2', if_false, decide_eq_false c2, Bool.and_false, Bool.false_and, ite_self]
       · have c1' : ¬ (bs.length : Int) ≥ 1 := by omega
         simp only [c1', if_false, decide_eq_false c1, Bool.false_and, ite_self]
     | succ d ih =>
       intro j hj
       have hlt : j < bs.length := by omega
       have hd : bs.drop j = rd_T42 bs j :: bs.drop (j + 1) := by
         rw [List.drop_eq_getElem_cons hlt]
         simp [rd_T42, List.getD, hlt]
       have hn := ih (j + 1) (by omega)
       rw [hd, List.all_cons]
       have hnm := name_ev _ (h _ (rd42_mem bs j hlt))
       refine Ev.step (f := fun K => (rf6Name.f K ((rd_T42 bs (j : Int)).f0)).bind fun t131 => if t131 = true then (if ((rd_T42 bs (j : Int)).f1) < 1 then some false else if ((rd_T42 bs (j : Int)).f1) > 7 then some false else rf6binds.l0 K ((j + 1 : Nat) : Int) k nm n ts bs l) else some false) (fun K => ?_) (Ev.bind hnm ?_)
       · simp only [rf6binds.l0]
         rw [if_pos (by omega), if_pos (by omega), wrap_one j (by omega)]
       · rw [show Sp.bind (rd_T42 bs j) = (name (rd_T42 bs j).f0 && decide (1 ≤ (rd_T42 bs j).f1) && decide ((rd_T42 bs j).f1 ≤ 7)) from rfl]
         cases name (rd_T42 bs j).f0 with
         | false => exact Ev.val (by simp)
         | true =>
           refine Ev.congr (fun K => if_pos rfl) (Ev.ite (fun c => Ev.val ?_) (fun c => Ev.ite (fun c' => Ev.val ?_) (fun c' => ?_)))
           · rw [decide_eq_false (show ¬ 1 ≤ (rd_T42 bs j).f1 by omega)]; simp
           · rw [decide_eq_false (show ¬ (rd_T42 bs j).f1 ≤ 7 by omega)]; simp
           · rw [decide_eq_true (show 1 ≤ (rd_T42 bs j).f1 by omega), decide_eq_true (show (rd_T42 bs j).f1 ≤ 7 by omega)]
             simpa using hn
   have h0 := loop bs.length 0 (by omega)
   rw [List.drop_zero] at h0
   have e : (decide (1 ≤ bs.length) && decide (bs.length ≤ 6) && bs.all bind && (if counts k = true then number n else decide (n = 0))) = (bs.all bind && (decide (1 ≤ bs.length) && decide (bs.length ≤ 6) && (if counts k = true then number n else decide (n = 0)))) := by
     cases decide (1 ≤ bs.length) <;> cases decide (bs.length ≤ 6) <;> cases bs.all bind <;> simp
   rw [e]
   exact h0
 · unfold bindsOk
   rw [if_neg ha]
   refine Ev.ite (fun h2 => Ev.val ?_) (fun h2 => Ev.val ?_)
   · rw [decide_eq_true (List.eq_nil_of_length_eq_zero (by omega))]
     rw [Bool.true_and, Bool.eq_iff_iff, beq_iff_eq, decide_eq_true_iff]
   · rw [decide_eq_false (fun e => h2 (by rw [e]; rfl))]; rfl
theorem len_sizes (l : List S26) : l.length ≤ sizes l := by
 induction l with
 | nil => simp
 | cons x l ih => simp only [List.length_cons, sizes]; rw [size_eq]; omega
theorem drop_rd (l : List S26) (j : Nat) (h : j < l.length) : l.drop j = rd_T26 l j :: l.drop (j + 1) := by
 rw [List.drop_eq_getElem_cons h]
 simp [rd_T26, List.getD, h]
def NmOk (x : S26) : Prop := ∀ y ∈ nodes x, (∀ t ∈ y.f3, t.f1.size ≤ 9223372036854775807) ∧ (∀ b ∈ y.f4, b.f0.size ≤ 9223372036854775807) ∧ y.f4.length ≤ 9223372036854775807 ∧ y.f3.length ≤ 9223372036854775807
theorem NmOk.child {x : S26} (h : NmOk x) (j : Nat) (hj : j < x.f5.length) : NmOk (rd_T26 x.f5 j) := fun y hy => h y (by
 rw [nodes_eq]
 refine .tail _ (nodes_mem (x := rd_T26 x.f5 j) ?_ hy)
 simp [rd_T26, List.getD, hj])
theorem NmOk.self {x : S26} (h : NmOk x) : (∀ t ∈ x.f3, t.f1.size ≤ 9223372036854775807) ∧ (∀ b ∈ x.f4, b.f0.size ≤ 9223372036854775807) ∧ x.f4.length ≤ 9223372036854775807 ∧ x.f3.length ≤ 9223372036854775807 := h x (by rw [nodes_eq]; exact .head _)
theorem form_ev (s : Nat) : ∀ x : S26, size x ≤ s → size x ≤ 4611686018427387904 → NmOk x → Ev (fun k => rf6form.f k x.f0 x.f1 x.f2 x.f3 x.f4 x.f5) (form x) := by
 induction s with
 | zero => intro x h; rw [size_eq] at h; omega
 | succ s ih =>
   rintro ⟨k, nm, n, ts, bs, l⟩ hs hb hn
   simp only [size] at hs hb
   have hlen := len_sizes l
   have loop : ∀ d j : Nat, j + d = l.length → Ev (fun K => rf6form.l0 K (j : Int) k nm n ts bs l) (forms (l.drop j)) := by
     intro d
     induction d with
     | zero =>
       intro j hj
       refine Ev.step (f := fun _ => some true) (fun K => ?_) (Ev.val (by rw [List.drop_of_length_le (by omega)]; rfl))
       simp only [rf6form.l0]
       rw [if_neg (by omega)]
     | succ d ihd =>
       intro j hj
       have hlt : j < l.length := by omega
       have hc := size_child l j hlt
       rw [drop_rd l j hlt, forms]
       refine Ev.step (f := fun K => (rf6form.f K (rd_T26 l (j : Int)).f0 (rd_T26 l (j : Int)).f1 (rd_T26 l (j : Int)).f2 (rd_T26 l (j : Int)).f3 (rd_T26 l (j : Int)).f4 (rd_T26 l (j : Int)).f5).bind fun t139 => if t139 = true then rf6form.l0 K ((j + 1 : Nat) : Int) k nm n ts bs l else some false) (fun K => ?_) (Ev.bind (ih _ (by omega) (by omega) (hn.child j hlt)) ?_)
       · simp only [rf6form.l0]
         rw [if_pos (by omega), if_pos (by omega), wrap_one j (by omega)]
       · cases form (rd_T26 l j) with
         | false => exact Ev.val rfl
         | true => exact Ev.congr (fun K => if_pos rfl) (by simpa using ihd (j + 1) (by omega))
   have j0 : ∀ b : Bool, Ev (fun K => rf6form.j0 K b k nm n ts bs l) (!b && forms l) := by
     intro b
     cases b
     · refine Ev.step (f := fun K => rf6form.l0 K 0 k nm n ts bs l) (fun K => ?_) (by simpa using loop l.length 0 (by omega))
       simp only [rf6form.j0, Bool.false_eq_true, if_false]
     · refine Ev.step (f := fun _ => some false) (fun K => ?_) (Ev.val (by simp))
       simp only [rf6form.j0, if_true]
   have hpa : decide (arity k = some (l.length : Int)) = decide ((l.length : Int) = (arity k).getD (-1)) := by
     rw [decide_eq_decide]
     cases harity : arity k with
     | none => simp
     | some m => simp [eq_comm]
   refine Ev.step (f := fun K => (rf6parts.f K k).bind fun t135 => if (l.length : Int) = t135 then ((rf6terms.f K k nm n ts bs l).bind fun t136 => if t136 = true then ((rf6binds.f K k nm n ts bs l).bind fun t137 => rf6form.j0 K (!t137) k nm n ts bs l) else rf6form.j0 K true k nm n ts bs l) else rf6form.j0 K true k nm n ts bs l) (fun K => rfl) ?_
   refine Ev.bind (parts_ev k) ?_
   rw [form, here, hpa]
   refine Ev.ite (fun hp => ?_) (fun hp => ?_)
   · rw [decide_eq_true hp, Bool.true_and]
     refine Ev.bind (refTerms_ev k nm n ts bs l hn.self.1) ?_
     cases termsOk k nm ts with
     | false => exact Ev.congr (fun K => if_neg (by simp)) (by simpa using j0 true)
     | true =>
       refine Ev.congr (fun K => if_pos rfl) (Ev.bind (binds_ref_ev k nm n ts bs l hn.self.2.1 hn.self.2.2.1) ?_)
       simpa using j0 (!bindsOk k n bs)
   · rw [decide_eq_false hp]
     simpa using j0 true
theorem refSize_ev (s : Nat) : ∀ x : S26, size x ≤ s → size x ≤ 4611686018427387904 → Ev (fun k => rf6Size.f k x.f0 x.f1 x.f2 x.f3 x.f4 x.f5) (size x : Int) := by
 induction s with
 | zero => intro x h; rw [size_eq] at h; omega
 | succ s ih =>
   rintro ⟨k, nm, n, ts, bs, l⟩ hs hb
   simp only [size] at hs hb
   have hlen := len_sizes l
   have loop : ∀ d j : Nat, j + d = l.length → Ev (fun K => rf6Size.l0 K ((1 + sizes (l.take j) : Nat) : Int) (j : Int) k nm n ts bs l) ((1 + sizes l : Nat) : Int) := by
     intro d
     induction d with
     | zero =>
       intro j hj
       have e : j = l.length := by omega
       subst e
       refine Ev.step (f := fun _ => some ((1 + sizes l : Nat) : Int)) (fun K => ?_) (Ev.now _)
       simp only [rf6Size.l0]
       rw [if_neg (by omega), List.take_length]
     | succ d ihd =>
       intro j hj
       have hlt : j < l.length := by omega
       have hc := sizes_take l j hlt
       refine Ev.step (f := fun K => (rf6Size.f K (rd_T26 l (j : Int)).f0 (rd_T26 l (j : Int)).f1 (rd_T26 l (j : Int)).f2 (rd_T26 l (j : Int)).f3 (rd_T26 l (j : Int)).f4 (rd_T26 l (j : Int)).f5).bind fun t110 => rf6Size.l0 K (wrap64 (((1 + sizes (l.take j) : Nat) : Int) + t110)) ((j + 1 : Nat) : Int) k nm n ts bs l) (fun K => ?_) (Ev.bind (ih _ (by omega) (by omega)) ?_)
       · simp only [rf6Size.l0]
         rw [if_pos (by omega), if_pos (by omega), wrap_one j (by omega)]
       · have h := ihd (j + 1) (by omega)
         rw [show wrap64 (((1 + sizes (l.take j) : Nat) : Int) + (size (rd_T26 l j) : Int)) = ((1 + sizes (l.take (j + 1)) : Nat) : Int) by rw [wrap_in (by omega)]; omega]
         exact h
   refine Ev.step (f := fun K => rf6Size.l0 K 1 0 k nm n ts bs l) (fun K => rfl) ?_
   simpa [size, sizes] using loop l.length 0 (by omega)
theorem refDepth_ev (s : Nat) : ∀ x : S26, size x ≤ s → size x ≤ 4611686018427387904 → Ev (fun k => rf6Depth.f k x.f0 x.f1 x.f2 x.f3 x.f4 x.f5) (depth x : Int) := by
 induction s with
 | zero => intro x h; rw [size_eq] at h; omega
 | succ s ih =>
   rintro ⟨k, nm, n, ts, bs, l⟩ hs hb
   simp only [size] at hs hb
   have hlen := len_sizes l
   have hd := depths_le l
   have loop : ∀ d j : Nat, j + d = l.length → Ev (fun K => rf6Depth.l0 K (depths (l.take j) : Int) (j : Int) k nm n ts bs l) ((depths l + 1 : Nat) : Int) := by
     intro d
     induction d with
     | zero =>
       intro j hj
       have e : j = l.length := by omega
       subst e
       refine Ev.step (f := fun _ => some ((depths l + 1 : Nat) : Int)) (fun K => ?_) (Ev.now _)
       simp only [rf6Depth.l0]
       rw [if_neg (by omega), List.take_length, wrap_in (by omega)]
       simp
     | succ d ihd =>
       intro j hj
       have hlt : j < l.length := by omega
       have hc := size_child l j hlt
       refine Ev.step (f := fun K => (rf6Depth.f K (rd_T26 l (j : Int)).f0 (rd_T26 l (j : Int)).f1 (rd_T26 l (j : Int)).f2 (rd_T26 l (j : Int)).f3 (rd_T26 l (j : Int)).f4 (rd_T26 l (j : Int)).f5).bind fun t113 => rf6Depth.l0 K (mx (depths (l.take j) : Int) t113) ((j + 1 : Nat) : Int) k nm n ts bs l) (fun K => ?_) (Ev.bind (ih _ (by omega) (by omega)) ?_)
       · simp only [rf6Depth.l0]
         rw [if_pos (by omega), if_pos (by omega), wrap_one j (by omega)]
       · have h := ihd (j + 1) (by omega)
         rw [show mx (depths (l.take j) : Int) (depth (rd_T26 l j) : Int) = (depths (l.take (j + 1)) : Int) by
           rw [depths_take l j hlt]
           unfold mx
           split <;> omega]
         exact h
   refine Ev.step (f := fun K => rf6Depth.l0 K 0 0 k nm n ts bs l) (fun K => rfl) ?_
   simpa [depth, depths] using loop l.length 0 (by omega)
theorem refCheck_ev (x : S26) (hs : size x ≤ 4611686018427387904) (hn : NmOk x) : Ev (fun k => rf6Check.f k x.f0 x.f1 x.f2 x.f3 x.f4 x.f5) (check x) := by
 refine Ev.bind (form_ev (size x) x (Nat.le_refl _) hs hn) ?_
 unfold check
 cases form x with
 | false => exact Ev.val rfl
 | true =>
   refine Ev.congr (fun K => if_pos rfl) (Ev.bind (refSize_ev (size x) x (Nat.le_refl _) hs) (Ev.ite (fun h => Ev.val ?_) (fun h => ?_)))
   · rw [if_pos rfl, if_pos (by omega)]
   · refine Ev.bind (refDepth_ev (size x) x (Nat.le_refl _) hs) (Ev.ite (fun h' => Ev.val ?_) (fun h' => Ev.val ?_))
     · rw [if_pos rfl, if_pos (by omega)]
     · rw [if_pos rfl, if_neg (by omega)]
end Go.Proofs.YtmlcaecknocpoaaDoor.It
namespace Go.Proofs.YtmlcaecknocpoaaDoor.It
open Go Go.RowKit Go.Shelf Go.Proofs.YtmlcaecknocpoaaDoorW.PrintWords Go.Proofs.YtmlcaecknocpoaaDoorW.PrintLast Go.Proofs.YtmlcaecknocpoaaDoor.Pr Go.Proofs.YtmlcaecknocpoaaDoor.Sp
theorem nil22 (w : World) (n c : Nat) (ad : Addr) : (binOp BinOp.eql 22 (.slice (some ad) n c) (.slice none 0 0)).run Tryd.prog w = .ok (.bool false) w := by kernel_rfl
theorem nil22' (w : World) (n c : Nat) : (binOp BinOp.eql 22 (.slice none n c) (.slice none 0 0)).run Tryd.prog w = .ok (.bool true) w := by kernel_rfl
theorem nil23 (w : World) (n c : Nat) (ad : Addr) : (binOp BinOp.eql 23 (.slice (some ad) n c) (.slice none 0 0)).run Tryd.prog w = .ok (.bool false) w := by kernel_rfl
theorem nil23' (w : World) (n c : Nat) : (binOp BinOp.eql 23 (.slice none n c) (.slice none 0 0)).run Tryd.prog w = .ok (.bool true) w := by kernel_rfl
attribute [local go_sem] nil22 nil22' nil23 nil23'
end Go.Proofs.YtmlcaecknocpoaaDoor.It
namespace Go.Proofs.YtmlcaecknocpoaaDoor.Pr
open Go.RowKit Go.Proofs.YtmlcaecknocpoaaDoorW.PrintWords Go.Proofs.YtmlcaecknocpoaaDoorW.PrintLast Go.Proofs.YtmlcaecknocpoaaDoorW.PrintMore
attribute [local go_sem] max2_int min2_int max_two min_two max_three min_three max_four min_four   
set_option linter.unusedVariables false
set_option linter.unusedSimpArgs false
end Go.Proofs.YtmlcaecknocpoaaDoor.Pr
namespace Go.Proofs.YtmlcaecknocpoaaDoor.It
open Go Go.RowKit Go.Shelf Go.Proofs.YtmlcaecknocpoaaDoorW.PrintWords Go.Proofs.YtmlcaecknocpoaaDoorW.PrintLast Go.Proofs.YtmlcaecknocpoaaDoor.Pr Go.Proofs.YtmlcaecknocpoaaDoor.Sp
def Agree (ok : Nat → Prop) (w w1 : World) : Prop := Below 0 w w1 ∧ ∀ k, ok k → k < w.heap.size → w1.heap[k]? = w.heap[k]?
theorem Agree.of_below {ok : Nat → Prop} {w w1 : World} {n : Nat} (h : Below n w w1) (hok : ∀ k, ok k → k < w.heap.size → k < n) : Agree ok w w1 := ⟨h.mono (Nat.zero_le _), fun k hk hl => h.block k (hok k hk hl)⟩
theorem Agree.trans {ok ok' : Nat → Prop} {w w1 w2 : World} (h : Agree ok w w1) (k : Agree ok' w1 w2) (hok : ∀ i, ok i → i < w.heap.size → ok' i) : Agree ok w w2 :=
 ⟨h.1.trans k.1, fun i hi hl => (k.2 i (hok i hi hl) (Nat.lt_of_lt_of_le hl h.1.size)).trans (h.2 i hi hl)⟩
theorem Agree.refl (ok : Nat → Prop) (w : World) : Agree ok w w := ⟨Below.refl _ _, fun _ _ _ => rfl⟩
theorem Agree.mono {ok ok' : Nat → Prop} {w w1 : World} (h : Agree ok w w1) (hok : ∀ i, ok' i → i < w.heap.size → ok i) : Agree ok' w w1 := ⟨h.1, fun i hi hl => h.2 i (hok i hi hl) hl⟩
theorem Agree.below {w w1 : World} (h : Agree (fun _ => True) w w1) : Below w.heap.size w w1 := ⟨h.1.os, h.1.tape, h.1.output, h.1.size, fun k hk => h.2 k trivial hk⟩
def Lies (ok : Nat → Prop) (w : World) (y : S26) (B3 : Option Addr) (d3 : Nat) (B4 : Option Addr) (d4 : Nat) (B5 : Option Addr) (d5 : Nat) : Prop := ∀ w1, Agree ok w w1 → At w1 y B3 d3 B4 d4 B5 d5
theorem Lies.at_ {ok : Nat → Prop} {w : World} {y : S26} {B3 : Option Addr} {d3 : Nat} {B4 : Option Addr} {d4 : Nat} {B5 : Option Addr} {d5 : Nat} (h : Lies ok w y B3 d3 B4 d4 B5 d5) : At w y B3 d3 B4 d4 B5 d5 := h w (Agree.refl _ _)
theorem Lies.move {ok ok' : Nat → Prop} {w w1 : World} {y : S26} {B3 : Option Addr} {d3 : Nat} {B4 : Option Addr} {d4 : Nat} {B5 : Option Addr} {d5 : Nat} (h : Lies ok w y B3 d3 B4 d4 B5 d5) (ha : Agree ok w w1) (hok : ∀ i, ok i → i < w.heap.size → ok' i) : Lies ok' w1 y B3 d3 B4 d4 B5 d5 :=
 fun w2 h2 => h w2 (ha.trans h2 hok)
theorem Lies.mono {ok ok' : Nat → Prop} {w : World} {y : S26} {B3 : Option Addr} {d3 : Nat} {B4 : Option Addr} {d4 : Nat} {B5 : Option Addr} {d5 : Nat} (h : Lies ok w y B3 d3 B4 d4 B5 d5) (hok : ∀ i, ok i → i < w.heap.size → ok' i) : Lies ok' w y B3 d3 B4 d4 B5 d5 := h.move (Agree.refl _ _) hok
def cl (y : S26) (B3 : Option Addr) (d3 : Nat) (B4 : Option Addr) (d4 : Nat) (B5 : Option Addr) (d5 : Nat) : List Value :=
 [.int .i64 y.f0, .string y.f1, .int .i64 y.f2, .slice B3 y.f3.length d3, .slice B4 y.f4.length d4, .slice B5 y.f5.length d5]
theorem At.K {w : World} {y : S26} {B3 : Option Addr} {d3 : Nat} {B4 : Option Addr} {d4 : Nat} {B5 : Option Addr} {d5 : Nat} (h : At w y B3 d3 B4 d4 B5 d5) : k26.K w y (cl y B3 d3 B4 d4 B5 d5) := k26_mk w y h.l3 h.g3 h.l4 h.g4 h.l5 h.g5
def Row (ok : Nat → Prop) (w : World) (base : Nat) (v : Value) (l : List S26) : Prop :=
 OwnRow (fun y cs => ∀ w1, Agree (fun k => ok k ∧ some k ≠ v.ownBlock) w w1 → k26.K w1 y cs) 26 6 w base v l
theorem Row.nil (ok : Nat → Prop) (w : World) (base : Nat) : Row ok w base (.slice none 0 0) [] := OwnRow.none_ _ _ _ _ _
theorem own_lt {w : World} {base : Nat} {e : TypeId} {size n : Nat} {v : Value} {xs : List Value} (h : w.ownsRow base e size v n xs) (k : Nat) (hk : v.ownBlock = some k) : k < w.heap.size ∧ base ≤ k := by
 rcases h.2 with ⟨rfl, _⟩ | ⟨g, cap, cur, rfl, hg, hh, r⟩
 · simp [Value.ownBlock] at hk
 · have : g = k := by simpa [Value.ownBlock] using hk
   subst this
   exact ⟨(Array.getElem?_eq_some_iff.1 hh).1, hg⟩
theorem Row.lt {ok : Nat → Prop} {w : World} {base : Nat} {v : Value} {l : List S26} (h : Row ok w base v l) (k : Nat) (hk : v.ownBlock = some k) : k < w.heap.size ∧ base ≤ k := by
 obtain ⟨inner, ho, _⟩ := h
 exact own_lt ho k hk
theorem Row.move {ok ok' : Nat → Prop} {w w1 : World} {base : Nat} {v : Value} {l : List S26} (h : Row ok w base v l) (ha : Agree ok w w1) (hv : ∀ k, v.ownBlock = some k → ok k) (hok : ∀ i, ok i → i < w.heap.size → ok' i) : Row ok' w1 base v l := by
 obtain ⟨inner, ho, hr⟩ := h
 refine ⟨inner, own_move ho (fun k hk => ha.2 k (hv k hk) (own_lt ho k hk).1), hr.imp_ (fun y cs hy w2 h2 => hy w2 ?_)⟩
 exact (ha.mono (fun i hi _ => hi.1)).trans h2 (fun i hi hl => ⟨hok i hi.1 hl, hi.2⟩)
theorem Row.slice {ok : Nat → Prop} {w : World} {base : Nat} {v : Value} {l : List S26} (h : Row ok w base v l) : ∃ A c, v = .slice A l.length c := by
 obtain ⟨A, c, e, _⟩ := OwnRow.slice_ h
 exact ⟨A, c, e⟩
theorem Row.reads {ok : Nat → Prop} {w w1 : World} {base : Nat} {A : Option Addr} {c : Nat} {l : List S26} (h : Row ok w base (.slice A l.length c) l) (ha : Agree ok w w1) (hv : ∀ k, (Value.slice A l.length c).ownBlock = some k → ok k) : l.length ≤ c ∧ Kd.C k26 w1 A l.length l := by
 have h1 := h.move (ok' := ok) ha hv (fun _ hi _ => hi)
 obtain ⟨A', c', e, hl, hr⟩ := OwnRow.reads h1
 injection e with e1 e2 e3
 subst e1
 refine ⟨by omega, hr.1, hr.2.1, fun hp => ?_⟩
 obtain ⟨ad, ea, hc⟩ := hr.2.2 hp
 refine ⟨ad, ea, fun j p hj => ?_⟩
 obtain ⟨cs, hcs, hR, hcell⟩ := hc j p hj
 exact ⟨cs, hcs, hR w1 (Agree.refl _ _), hcell⟩
theorem Row.snoc {ok : Nat → Prop} {W w1 : World} {base : Nat} {v v1 : Value} {l : List S26} {R : S26 → List Value → Prop}
   (hR : ∀ y cs, R y cs → ∀ w2, Agree (fun k => ok k ∧ some k ≠ v.ownBlock) W w2 → k26.K w2 y cs)
   (ho : OwnRow R 26 6 w1 base v1 l) (hb : Below 0 W w1) (hg : W.grownBy w1 v.ownBlock) (hat : v1.ownBlock = v.ownBlock ∨ ∃ b, v1.ownBlock = some b ∧ W.heap.size ≤ b) : Row ok w1 base v1 l := by
 obtain ⟨inner, ho, hr⟩ := ho
 refine ⟨inner, ho, hr.imp_ (fun y cs hy w2 h2 => hR y cs hy w2 ?_)⟩
 refine ⟨hb.trans h2.1, fun k hk hl => ?_⟩
 have h3 : some k ≠ v1.ownBlock := by
   rcases hat with e | ⟨b, e, hle⟩
   · rw [e]; exact hk.2
   · rw [e]; intro h; injection h with h; omega
 exact (h2.2 k ⟨hk.1, h3⟩ (Nat.lt_of_lt_of_le hl hb.size)).trans (hg.block k hl hk.2)
end Go.Proofs.YtmlcaecknocpoaaDoor.It
