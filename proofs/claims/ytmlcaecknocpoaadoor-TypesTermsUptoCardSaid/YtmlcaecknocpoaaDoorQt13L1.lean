/-
  chalklinelaw08.TypesTerms answers true, for every input that reads as data and is of bulk at most 1048576; what it reads stands as it stood.
  Conditions: the listed package-level variables hold what the program's text lays (tied by the card); the arguments' bulk is at most 1048576.
-/
import Derived.Test.YtmlcaecknocpoaaDoorQtK11
import Derived.SevenTiedAt
import Derived.Test.YtmlcaecknocpoaaDoorH25
import Derived.Test.YtmlcaecknocpoaaDoorH26
import Derived.Test.YtmlcaecknocpoaaDoorH27
import Derived.Test.YtmlcaecknocpoaaDoorF13
import Derived.Test.YtmlcaecknocpoaaDoorH28
namespace Go.Proofs.YtmlcaecknocpoaaDoor.It
set_option linter.unusedVariables false
set_option linter.unusedSimpArgs false
open Go Go.RowKit Go.Shelf Go.Proofs.YtmlcaecknocpoaaDoorW.PrintWords Go.Proofs.YtmlcaecknocpoaaDoorW.PrintLast Go.Proofs.YtmlcaecknocpoaaDoor.Pr Go.Proofs.YtmlcaecknocpoaaDoor.Sp
attribute [local go_sem ↓] Go.wp_at_zero Go.wp_at_succ
theorem fT_nm (t : S47) (h : TOk t) : NmOk ⟨9, ⟨#[61]⟩, 0, [t, t], [], []⟩ := fun y hy => by
  simp only [nodes, nodesL, List.mem_cons, List.not_mem_nil, or_false] at hy
  subst hy
  exact ⟨by simp; exact h.nm, by simp, by simp, by simp⟩
theorem refTypT_calls (env : List S42) (A : Option Addr) (c : Nat) (t : S47) (w : World) (hE : EnvA w env A c) (hT : TOk t) (hlen : env.length ≤ 4611686018427387904) :
    Calls Tryd.prog 42 #[.slice A env.length c, .agg #[.int .i64 t.f0, .string t.f1, .int .i64 t.f2]] w
      fun e w' => e = .returned (.tuple #[.int .i64 (typT env t).1, .int .i64 (typT env t).2]) ∧ Below w.heap.size w w' := by
  obtain ⟨k, hk⟩ := (refTerm_ev env t (fun b hb => (hE.ok b hb).nm) hlen (fT_nm t hT) (fT_check t)).rounds
  exact chalklineref08_Term.calls k A c env t.f0 t.f1 t.f2 _ _ w hE.row hE.le hk
set_option maxRecDepth 100000 in
set_option maxHeartbeats 8000000 in
theorem law13 (env : List S42) (t : S47) (A : Option Addr) (c : Nat) (w : World) (hE : EnvA w env A c) (hT : TOk t) (ht : Tabs w) (hk : Kinds w) :
    Calls Tryd.prog 13 #[.slice A env.length c, .agg #[.int .i64 t.f0, .string t.f1, .int .i64 t.f2]] w fun e w' => e = .returned (.bool true) ∧ Below w.heap.size w w' := by
  have hu47 := Tryd.underlying47
  have T := Aside0.mk (up1 w (.cells #[.int .i64 t.f0, .string t.f1, .int .i64 t.f2] 47))
  have HB := Aside0.mk (heap_new w (.cells #[.int .i64 t.f0, .string t.f1, .int .i64 t.f2] 47))
  have C36 := Aside0.mk (fun (W : World) (hW : Below w.heap.size w W) => live8_calls W (ht.below hW) (hk.below hW))
  by_cases h30 : env.length ≤ 30
  · have hz : ¬ (env.length : Int) > 30 := by omega
    have C41 := Aside0.mk (fun (W : World) (hW : Below w.heap.size w W) => typT_calls env A c t W (hE.below hW) hT (ht.below hW) (hk.below hW))
    have C42 := Aside0.mk (fun (W : World) (hW : Below w.heap.size w W) => refTypT_calls env A c t W (hE.below hW) hT (by omega))
    obtain ⟨⟨r1, r2⟩, hr⟩ : ∃ v, typT env t = v := ⟨_, rfl⟩
    rw [hr] at C41 C42
    dsimp only at C41 C42
    clear hE hT ht hk hr h30
    go_enter Tryd.func13, Tryd.ntmps13
    go_wp2_with (first
      | (go_at_call 36; (with_reducible refine (C36.out _ T.out).mono ?_); rintro e w1 ⟨rfl, g⟩; replace T := Aside0.mk (T.out.trans (g.mono T.out.size)); replace HB := Aside0.mk (blk_below g HB.out); clear g C36; have p0 := (blk_cell HB.out 0).trans rfl; have p1 := (blk_cell HB.out 1).trans rfl; have p2 := (blk_cell HB.out 2).trans rfl)
      | (go_at_call 41; (with_reducible refine (C41.out _ T.out).mono ?_); rintro e w2 ⟨rfl, g⟩; replace T := Aside0.mk (T.out.trans (g.mono T.out.size)); replace HB := Aside0.mk (blk_below g HB.out); clear g C41 p0 p1 p2; have p0 := (blk_cell HB.out 0).trans rfl; have p1 := (blk_cell HB.out 1).trans rfl; have p2 := (blk_cell HB.out 2).trans rfl)
      | (go_at_call 42; (with_reducible refine (C42.out _ T.out).mono ?_); rintro e w3 ⟨rfl, g⟩; replace T := Aside0.mk (T.out.trans (g.mono T.out.size)); clear g C42 p0 p1 p2))
    go_ret
    exact ⟨by first | rfl | (simp; rfl), T.out⟩
  · have hz : (env.length : Int) > 30 := by omega
    clear hE hT ht hk h30
    go_enter Tryd.func13, Tryd.ntmps13
    go_wp2_with (first
      | (go_at_call 36; (with_reducible refine (C36.out _ T.out).mono ?_); rintro e w1 ⟨rfl, g⟩; replace T := Aside0.mk (T.out.trans (g.mono T.out.size)); clear g C36 HB))
    go_ret
    exact ⟨rfl, T.out⟩
end Go.Proofs.YtmlcaecknocpoaaDoor.It
namespace Go.Proofs.YtmlcaecknocpoaaDoor.C13
set_option linter.unusedVariables false
set_option linter.unusedSimpArgs false
open Go Go.ChangeShapes Go.WideShapes Go.ChangeAt Go.RowKit Go.Proofs.YtmlcaecknocpoaaDoor.It
open Go.ChangeMaps (open_string shut_string)
set_option maxRecDepth 100000 in
theorem contract (H : Type) (enc : TypeId × Value → H) (W : World) (base : Nat) (args : Array Value) (ds gs : List (DataW H)) (before : List MemPlace)
    (hval0 : ∀ (j : Nat) t v, Tryd.f13.params[j]? = some t → args[j]? = some v → Value.okWide Tryd.prog W .any base t v)
    (hW : DataW.Whole enc Tryd.prog Tryd.f13.params.toList Rows.typesTermsSpec.vars false W args.toList ds gs before) (hk : Rows.uptoSmall H (ds ++ gs) = true) (hL : laidMetH Tryd.prog Rows.typesTermsUptoRow.laid W) :
    Calls Tryd.prog 13 args W fun e W' => ∃ v, e = .returned v ∧ Rows.typesTermsSpec.post enc Tryd.prog Tryd.f13 false true false false W args v W' := by
  have hval : ∀ (j : Nat) t v, Tryd.f13.params[j]? = some t → args[j]? = some v → Value.okWide Tryd.prog W .any base t v := hval0
  have hW' := hW
  obtain ⟨p, q, hA0, hV, rfl, hfz, hnd⟩ := hW
  have hA : DataW.TrodAll enc Tryd.prog W 0 (fun _ => true) true Tryd.f13.params.toList args.toList ds p := hA0
  rw [Tryd.params13] at hA hval
  obtain ⟨v0, vs0, d0, ds0, p0, q0, hargs, rfl, rfl, h0, r0⟩ := trodAll_cons hA
  obtain ⟨v1, vs1, d1, ds1, p1, q1, rfl, rfl, rfl, h1, r1⟩ := trodAll_cons r0
  obtain ⟨rfl, rfl, rfl⟩ := trodAll_nil r1
  obtain rfl : args = #[v0, v1] := by cases args; simp_all
  obtain ⟨rfl, rfl⟩ := trodVars_none hV
  have hk2 := of_decide_eq_true hk
  clear hk
  simp only [List.append_nil, Rows.uptoBulkAll] at hk2
  obtain ⟨x0, A30, c30, rfl, ha0, hn0⟩ := trod_env (hval 0 23 v0 rfl rfl) h0 (by omega)
  have lt0 : ∀ y ∈ p0, y.block < W.heap.size := by
    obtain ⟨m, hm⟩ := h0
    exact DataW.trod_lt m _ _ _ hm
  obtain ⟨x1, rfl, ha1⟩ := trod_val47 (hval 1 47 v1 rfl rfl) h1 (by omega)
  have lt1 : ∀ y ∈ p1, y.block < W.heap.size := by
    obtain ⟨m, hm⟩ := h1
    exact DataW.trod_lt m _ _ _ hm
  have hl := hL
  rw [MakeChecks.laidMetH_plain _ _ _ (by kernel_rfl)] at hl
  have ht : Tabs W := tabs_laid hl (by simp [Rows.typesTermsUptoRow]) (by simp [Rows.typesTermsUptoRow]) (by simp [Rows.typesTermsUptoRow])
  have hk : Kinds W := kinds_laid hl (by simp [Rows.typesTermsUptoRow]) (by simp [Rows.typesTermsUptoRow])
  refine (law13 x0 x1 A30 c30 W ha0 ha1.ok ht hk).mono fun e W' ⟨he, bel⟩ => ?_
  subst he
  exact ⟨_, rfl, _, _, _, [], _, [], hW', trodAll_mk1 (shut_bool Tryd.underlying4 _), (trodAll_cons_mk (Below.trod laidOut (by kernel_rfl) (of_decide_eq_true (by kernel_rfl)) h0 bel lt0) (trodAll_cons_mk (Below.trod laidOut (by kernel_rfl) (of_decide_eq_true (by kernel_rfl)) h1 bel lt1) trodAll_mk0)), rfl, bel.frame _, fun h => by cases h⟩
theorem met (os : Os) : laidMetH Tryd.prog Rows.typesTermsUptoRow.laid ((Wt.world os).forCall (fun _ _ => 0) ⟨#[], #[.slice none 0 0, Wt.zero47], []⟩).memory :=
  laidMetH_of_parts3 (fuel := 8) (laidMet_of_run' 8 (by kernel_rfl) (by kernel_rfl)) (by kernel_rfl) (by kernel_rfl)
set_option maxRecDepth 100000 in
theorem lifted (os : Os) (started : os.Started) (H : Type) (enc : TypeId × Value → H) (F : Stop.Interp) :
    ReturnsInHanded {} Tryd.checked os 13 .any ((Rows.OpenSpec.upto Rows.typesTermsSpec).preRow enc Tryd.prog Tryd.f13 Rows.typesTermsUptoRow.domain false Rows.typesTermsUptoRow.laid) (((Rows.OpenSpec.upto Rows.typesTermsSpec).at F).post enc Tryd.prog Tryd.f13 false true false false) := by
  have hx : DataW.whole enc Tryd.prog ((Wt.world os).forCall (fun _ _ => 0) ⟨#[], #[.slice none 0 0, Wt.zero47], []⟩).memory Tryd.f13.params.toList Rows.typesTermsSpec.vars false (#[.slice none 0 0, Wt.zero47] : Array Value).toList 8 = some ([.nil, .agg [.lit (.int .i64 0), .lit (.string []), .lit (.int .i64 0)]], [], []) := by kernel_rfl
  refine returnsInHanded_of_row (C := Tryd.checked) (s := Rows.OpenSpec.upto Rows.typesTermsSpec) own started (by kernel_rfl) Tryd.func13
    (witness_row_atRef (enc := enc) (C := Tryd.checked) false (Wt.world os) #[.slice none 0 0, Wt.zero47] rfl (by kernel_rfl) (by kernel_rfl) (by kernel_rfl)
      (OpenSpec.preRow_of_cond 8 hx (by kernel_rfl) (fun k hk => by cases hk; kernel_rfl) (by kernel_rfl) (met os))) ?_
  intro W base args ds gs before hval hW _ hcond _ hL _ _
  exact contract H enc W base args ds gs before hval hW (hcond _ rfl) hL
end Go.Proofs.YtmlcaecknocpoaaDoor.C13
namespace Go.Proofs.YtmlcaecknocpoaaDoor.C13
set_option linter.unusedVariables false
open Go Go.ChangeShapes Go.WideShapes Go.ChangeAt Go.RowKit
theorem isInst : Func.isInstance Tryd.pinned.checked.prog Tryd.f13 Rows.typesTermsUptoRow.origin Rows.typesTermsUptoRow.targs := of_decide_eq_true (by kernel_rfl)
theorem isWrap : Func.isWrapper Tryd.pinned.checked.prog Tryd.f13 Rows.typesTermsUptoRow.wrapper Rows.typesTermsUptoRow.mainSum := by
  unfold Func.isWrapper; first | (rw [if_pos (by decide +kernel)]; kernel_rfl) | (rw [if_neg (by decide +kernel)]; exact ⟨rfl, rfl⟩)
theorem isName : Tryd.pinned.checked.prog.funcNamed Rows.typesTermsUptoRow.func = some 13 := by kernel_rfl
theorem saidUpto : Rows.TypesTermsUptoSaid :=
  OpenClaim.holds_of_cond 13 Tryd.f13 rfl rfl rfl rfl rfl rfl rfl ⟨rfl, rfl, rfl, rfl, rfl⟩ rfl rfl rfl rfl rfl isName Tryd.func13 F13.closed isInst isWrap
    (fun os started H enc _ F => by rw [OpenClaim.pre_eq_preRow]; exact lifted os started H enc F)
theorem plain (f : FuncId) (fn : Func) (hf : Tryd.pinned.checked.prog.funcNamed "chalkline/chalklinelaw08.TypesTerms" = some f) (hfn : Tryd.pinned.checked.prog.funcs[f]? = some fn) :
    false = Tryd.pinned.checked.prog.looks [] ∧ ∀ (j : Nat) t, fn.params[j]? = some t → Tryd.pinned.checked.prog.wantsStandIn t = false := by
  obtain rfl : f = 13 := Option.some.inj ((show Tryd.prog.funcNamed "chalkline/chalklinelaw08.TypesTerms" = some 13 by kernel_rfl).symm.trans hf) |>.symm
  obtain rfl : fn = Tryd.f13 := (Option.some.inj (Tryd.func13.symm.trans hfn)).symm
  refine ⟨by kernel_rfl, fun j t ht => ?_⟩
  rw [Tryd.params13] at ht
  have hm := Array.mem_of_getElem? ht
  simp only [List.mem_toArray, List.mem_cons, List.not_mem_nil, or_false] at hm
  rcases hm with rfl | rfl
  · exact (show Tryd.prog.wantsStandIn 23 = false by kernel_rfl)
  · exact (show Tryd.prog.wantsStandIn 47 = false by kernel_rfl)
theorem wfText : Rows.typesTermsUptoRow.wfByText (Rows.OpenSpec.upto Rows.typesTermsSpec) = true := by kernel_rfl
theorem goes : false = Rows.typesTermsUptoRow.goesBy Tryd.pinned.checked.prog := by kernel_rfl
theorem cardUpto : Rows.TypesTermsUptoCardSaid :=
  Claim7.holds_tied_plain_at .later [] _ _ _ _ saidUpto (fun _ h => by cases h) wfText (fun _ h => by cases h) typesTermsUpto_row_tie rfl ⟨rfl, rfl⟩ HH.mainIs rfl plain goes
end Go.Proofs.YtmlcaecknocpoaaDoor.C13
namespace Go.Proofs.YtmlcaecknocpoaaDoor
theorem typesTermsUpto_holds : Rows.TypesTermsUptoCardSaid := C13.cardUpto
#print axioms typesTermsUpto_holds
end Go.Proofs.YtmlcaecknocpoaaDoor
