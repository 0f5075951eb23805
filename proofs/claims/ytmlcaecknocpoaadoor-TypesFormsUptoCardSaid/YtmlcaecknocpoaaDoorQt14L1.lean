/-
  chalklinelaw08.TypesForms answers true, for every input that reads as data and is of bulk at most 1048576; what it reads stands as it stood.
  Conditions: the listed package-level variables hold what the program's text lays (tied by the card); the arguments' bulk is at most 1048576.
-/
import Derived.Test.YtmlcaecknocpoaaDoorQtK11
import Derived.BigQuiet
import Derived.Deep.RegionHeld3
import Derived.SevenTiedAt
import Derived.Test.YtmlcaecknocpoaaDoorH25
import Derived.Test.YtmlcaecknocpoaaDoorH26
import Derived.Test.YtmlcaecknocpoaaDoorH27
import Derived.Test.YtmlcaecknocpoaaDoorF14
import Derived.Test.YtmlcaecknocpoaaDoorH28
namespace Go.Proofs.YtmlcaecknocpoaaDoor.It
set_option linter.unusedVariables false
set_option linter.unusedSimpArgs false
open Go Go.RowKit Go.Shelf Go.Proofs.YtmlcaecknocpoaaDoorW.PrintWords Go.Proofs.YtmlcaecknocpoaaDoorW.PrintLast Go.Proofs.YtmlcaecknocpoaaDoor.Pr Go.Proofs.YtmlcaecknocpoaaDoor.Sp
section
variable {w : World} {env : List S42} {A : Option Addr} {c : Nat} {x : S26} {A3 : Option Addr} {c3 : Nat} {A4 : Option Addr} {c4 : Nat} {A5 : Option Addr} {c5 : Nat}
theorem few8_calls (hE : EnvA w env A c) (ha : Arg w x A3 c3 A4 c4 A5 c5) : ∃ r : Bool, (r = true → env.length ≤ 30) ∧ ∀ W, Below w.heap.size w W → Calls Tryd.prog 37 #[.slice A env.length c, .agg #[.int .i64 x.f0, .string x.f1, .int .i64 x.f2, .slice A3 x.f3.length c3, .slice A4 x.f4.length c4, .slice A5 x.f5.length c5]] W
    fun e w' => e = .returned (.bool r) ∧ Below W.heap.size W w' := by
  obtain ⟨r, h30, hr⟩ := lawfew_ev env x ha.size ha.nm
  obtain ⟨k, hk⟩ := hr.rounds
  exact ⟨r, h30, fun W hW => chalklinelaw08_few.calls k _ _ _ _ _ _ _ _ _ _ _ _ _ _ _ _ W (Kd.C_below hE.row hW) hE.le (ha.at_.below hW).g3 ha.at_.l3 (ha.at_.below hW).g4 ha.at_.l4 (ha.at_.below hW).g5 ha.at_.l5 hk⟩
theorem typA (hE : EnvA w env A c) (ha : Arg w x A3 c3 A4 c4 A5 c5) (hlen : env.length ≤ 1000000) (ht : Tabs w) (hk : Kinds w) : Calls Tryd.prog 38 #[.slice A env.length c, .agg #[.int .i64 x.f0, .string x.f1, .int .i64 x.f2, .slice A3 x.f3.length c3, .slice A4 x.f4.length c4, .slice A5 x.f5.length c5]] w
    fun e w' => e = .returned (.int .i64 (typ env x)) ∧ Below w.heap.size w w' := typ_calls env A c x A3 c3 A4 c4 A5 c5 w hE ha.at_ ha.size ha.deep ht hk (by have := ha.nb; omega)
theorem refTypA (hE : EnvA w env A c) (ha : Arg w x A3 c3 A4 c4 A5 c5) (hlen : env.length ≤ 1000000) : Calls Tryd.prog 43 #[.slice A env.length c, .agg #[.int .i64 x.f0, .string x.f1, .int .i64 x.f2, .slice A3 x.f3.length c3, .slice A4 x.f4.length c4, .slice A5 x.f5.length c5]] w
    fun e w' => e = .returned (.int .i64 (typ env x)) ∧ Below w.heap.size w w' := by
  obtain ⟨k, hk⟩ := (refForm_ev env x (fun b hb => (hE.ok b hb).nm) ha.size ha.nm (by have := ha.nb; omega)).rounds
  exact chalklineref08_Form.calls k _ _ _ _ _ _ _ _ _ _ _ _ _ _ _ _ w hE.row hE.le ha.at_.g3 ha.at_.l3 ha.at_.g4 ha.at_.l4 ha.at_.g5 ha.at_.l5 hk
end
end Go.Proofs.YtmlcaecknocpoaaDoor.It
namespace Go.Proofs.YtmlcaecknocpoaaDoor.It
set_option linter.unusedVariables false
set_option linter.unusedSimpArgs false
open Go Go.RowKit Go.Shelf Go.Proofs.YtmlcaecknocpoaaDoorW.PrintWords Go.Proofs.YtmlcaecknocpoaaDoorW.PrintLast Go.Proofs.YtmlcaecknocpoaaDoor.Pr Go.Proofs.YtmlcaecknocpoaaDoor.Sp
attribute [local go_sem ↓] Go.wp_at_zero Go.wp_at_succ
set_option maxRecDepth 100000 in
set_option maxHeartbeats 8000000 in
theorem law14 (env : List S42) (x : S26) (A : Option Addr) (c : Nat) (A3 : Option Addr) (c3 : Nat) (A4 : Option Addr) (c4 : Nat) (A5 : Option Addr) (c5 : Nat) (w : World) (hE : EnvA w env A c) (ha : Arg w x A3 c3 A4 c4 A5 c5) (ht : Tabs w) (hk : Kinds w) :
    Calls Tryd.prog 14 #[.slice A env.length c, .agg #[.int .i64 x.f0, .string x.f1, .int .i64 x.f2, .slice A3 x.f3.length c3, .slice A4 x.f4.length c4, .slice A5 x.f5.length c5]] w fun e w' => e = .returned (.bool true) ∧ Below w.heap.size w w' := by
  have hu26 := Tryd.underlying26
  obtain ⟨few, h30, hfew⟩ := few8_calls hE ha
  have C36 := Aside0.mk (fun W (h : St w W w.heap.size x A3 c3 A4 c4 A5 c5) => live8_calls W (ht.below h.b) (hk.below h.b))
  have C37 := Aside0.mk (fun W (h : St w W w.heap.size x A3 c3 A4 c4 A5 c5) => hfew W h.b)
  have T := Aside0.mk (St.start ha.at_)
  cases few
  · clear hE ha ht hk hfew h30
    go_enter Tryd.func14, Tryd.ntmps14
    go_wp2_with (first
      | (go_at_call 36; (with_reducible refine (C36.out _ T.out).mono ?_); rintro e wn ⟨rfl, g⟩; replace T := Aside0.mk (T.out.below g); clear g ; obtain ⟨p0, p1, p2, p3, p4, p5⟩ := T.out.box.six)
      | (go_at_call 37; (with_reducible refine (C37.out _ T.out).mono ?_); rintro e wn ⟨rfl, g⟩; replace T := Aside0.mk (T.out.below g); clear g p0 p1 p2 p3 p4 p5; skip))
    go_ret
    exact ⟨rfl, T.out.b⟩
  · have C38 := Aside0.mk (fun W (h : St w W w.heap.size x A3 c3 A4 c4 A5 c5) => typA (hE.below h.b) (ha.below h.b) (by have := h30 rfl; omega) (ht.below h.b) (hk.below h.b))
    have C43 := Aside0.mk (fun W (h : St w W w.heap.size x A3 c3 A4 c4 A5 c5) => refTypA (hE.below h.b) (ha.below h.b) (by have := h30 rfl; omega))
    obtain ⟨r, hr⟩ : ∃ v, typ env x = v := ⟨_, rfl⟩
    rw [hr] at C38 C43
    clear hE ha ht hk hfew h30 hr
    go_enter Tryd.func14, Tryd.ntmps14
    go_upto_region 5 with (first
      | (go_at_call 36; (with_reducible refine (C36.out _ T.out).mono ?_); rintro e wn ⟨rfl, g⟩; replace T := Aside0.mk (T.out.below g); clear g ; obtain ⟨p0, p1, p2, p3, p4, p5⟩ := T.out.box.six)
      | (go_at_call 37; (with_reducible refine (C37.out _ T.out).mono ?_); rintro e wn ⟨rfl, g⟩; replace T := Aside0.mk (T.out.below g); clear g p0 p1 p2 p3 p4 p5; obtain ⟨p0, p1, p2, p3, p4, p5⟩ := T.out.box.six))
    go_region_held3 (fun w' => w'.cell? ⟨w.heap.size, 0, none⟩ = some (.int .i64 x.f0) ∧ w'.cell? ⟨w.heap.size, 1, none⟩ = some (.string x.f1) ∧ w'.cell? ⟨w.heap.size, 2, none⟩ = some (.int .i64 x.f2) ∧ w'.cell? ⟨w.heap.size, 3, none⟩ = some (.slice A3 x.f3.length c3) ∧ w'.cell? ⟨w.heap.size, 4, none⟩ = some (.slice A4 x.f4.length c4) ∧ w'.cell? ⟨w.heap.size, 5, none⟩ = some (.slice A5 x.f5.length c5)) (go_keep)
      (first
        | (go_at_call 38; (with_reducible refine (C38.out _ T.out).mono ?_); rintro e wn ⟨rfl, g⟩; replace T := Aside0.mk (T.out.below g); clear g p0 p1 p2 p3 p4 p5; obtain ⟨p0, p1, p2, p3, p4, p5⟩ := T.out.box.six)
        | (go_at_call 38; (with_reducible refine (C38.out _ T.out.drew).mono ?_); rintro e wn ⟨rfl, g⟩; replace T := Aside0.mk (T.out.drew.below g); clear g p0 p1 p2 p3 p4 p5; obtain ⟨p0, p1, p2, p3, p4, p5⟩ := T.out.box.six)
        | (go_at_call 43; (with_reducible refine (C43.out _ T.out).mono ?_); rintro e wn ⟨rfl, g⟩; replace T := Aside0.mk (T.out.below g); clear g p0 p1 p2 p3 p4 p5; obtain ⟨p0, p1, p2, p3, p4, p5⟩ := T.out.box.six)
        | (go_at_call 43; (with_reducible refine (C43.out _ T.out.drew).mono ?_); rintro e wn ⟨rfl, g⟩; replace T := Aside0.mk (T.out.drew.below g); clear g p0 p1 p2 p3 p4 p5; obtain ⟨p0, p1, p2, p3, p4, p5⟩ := T.out.box.six))
    all_goals
      go_wp2_with fail
      go_ret
      exact ⟨by first | rfl | (simp; rfl), T.out.b⟩
end Go.Proofs.YtmlcaecknocpoaaDoor.It
namespace Go.Proofs.YtmlcaecknocpoaaDoor.C14
set_option linter.unusedVariables false
set_option linter.unusedSimpArgs false
open Go Go.ChangeShapes Go.WideShapes Go.ChangeAt Go.RowKit Go.Proofs.YtmlcaecknocpoaaDoor.It
open Go.ChangeMaps (open_string shut_string)
set_option maxRecDepth 100000 in
theorem contract (H : Type) (enc : TypeId × Value → H) (W : World) (base : Nat) (args : Array Value) (ds gs : List (DataW H)) (before : List MemPlace)
    (hval0 : ∀ (j : Nat) t v, Tryd.f14.params[j]? = some t → args[j]? = some v → Value.okWide Tryd.prog W .any base t v)
    (hW : DataW.Whole enc Tryd.prog Tryd.f14.params.toList Rows.typesFormsSpec.vars false W args.toList ds gs before) (hk : Rows.uptoSmall H (ds ++ gs) = true) (hL : laidMetH Tryd.prog Rows.typesFormsUptoRow.laid W) :
    Calls Tryd.prog 14 args W fun e W' => ∃ v, e = .returned v ∧ Rows.typesFormsSpec.post enc Tryd.prog Tryd.f14 false true false false W args v W' := by
  have hval : ∀ (j : Nat) t v, Tryd.f14.params[j]? = some t → args[j]? = some v → Value.okWide Tryd.prog W .any base t v := hval0
  have hW' := hW
  obtain ⟨p, q, hA0, hV, rfl, hfz, hnd⟩ := hW
  have hA : DataW.TrodAll enc Tryd.prog W 0 (fun _ => true) true Tryd.f14.params.toList args.toList ds p := hA0
  rw [Tryd.params14] at hA hval
  obtain ⟨v0, vs0, d0, ds0, p0, q0, hargs, rfl, rfl, h0, r0⟩ := trodAll_cons hA
  obtain ⟨v1, vs1, d1, ds1, p1, q1, rfl, rfl, rfl, h1, r1⟩ := trodAll_cons r0
  obtain ⟨rfl, rfl, rfl⟩ := trodAll_nil r1
  obtain rfl : args = #[v0, v1] := by cases args; simp_all
  obtain ⟨rfl, rfl⟩ := trodVars_none hV
  have hk2 := of_decide_eq_true hk
  clear hk
  simp only [List.append_nil, Rows.uptoBulkAll] at hk2
  obtain ⟨x0, A30, c30, rfl, ha0, hn0⟩ := trod_env (hval 0 23 v0 rfl rfl) h0 (by omega)
  have lt0 : ∀ y ∈ p0, y.block < W.heap.size := by
    obtain ⟨m, hm⟩ := h0
    exact DataW.trod_lt m _ _ _ hm
  obtain ⟨x1, A31, c31, A41, c41, A51, c51, rfl, ha1⟩ := trod_val (hval 1 26 v1 rfl rfl) h1 (by omega)
  have lt1 : ∀ y ∈ p1, y.block < W.heap.size := by
    obtain ⟨m, hm⟩ := h1
    exact DataW.trod_lt m _ _ _ hm
  have hl := hL
  rw [MakeChecks.laidMetH_plain _ _ _ (by kernel_rfl)] at hl
  have ht : Tabs W := tabs_laid hl (by simp [Rows.typesFormsUptoRow]) (by simp [Rows.typesFormsUptoRow]) (by simp [Rows.typesFormsUptoRow])
  have hk : Kinds W := kinds_laid hl (by simp [Rows.typesFormsUptoRow]) (by simp [Rows.typesFormsUptoRow])
  refine (law14 x0 x1 A30 c30 A31 c31 A41 c41 A51 c51 W ha0 ha1 ht hk).mono fun e W' ⟨he, bel⟩ => ?_
  subst he
  exact ⟨_, rfl, _, _, _, [], _, [], hW', trodAll_mk1 (shut_bool Tryd.underlying4 _), (trodAll_cons_mk (Below.trod laidOut (by kernel_rfl) (of_decide_eq_true (by kernel_rfl)) h0 bel lt0) (trodAll_cons_mk (Below.trod laidOut (by kernel_rfl) (of_decide_eq_true (by kernel_rfl)) h1 bel lt1) trodAll_mk0)), rfl, bel.frame _, fun h => by cases h⟩
theorem met (os : Os) : laidMetH Tryd.prog Rows.typesFormsUptoRow.laid ((Wt.world os).forCall (fun _ _ => 0) ⟨#[], #[.slice none 0 0, Wt.zero26], []⟩).memory :=
  laidMetH_of_parts3 (fuel := 8) (laidMet_of_run' 8 (by kernel_rfl) (by kernel_rfl)) (by kernel_rfl) (by kernel_rfl)
set_option maxRecDepth 100000 in
theorem lifted (os : Os) (started : os.Started) (H : Type) (enc : TypeId × Value → H) (F : Stop.Interp) :
    ReturnsInHanded {} Tryd.checked os 14 .any ((Rows.OpenSpec.upto Rows.typesFormsSpec).preRow enc Tryd.prog Tryd.f14 Rows.typesFormsUptoRow.domain false Rows.typesFormsUptoRow.laid) (((Rows.OpenSpec.upto Rows.typesFormsSpec).at F).post enc Tryd.prog Tryd.f14 false true false false) := by
  have hx : DataW.whole enc Tryd.prog ((Wt.world os).forCall (fun _ _ => 0) ⟨#[], #[.slice none 0 0, Wt.zero26], []⟩).memory Tryd.f14.params.toList Rows.typesFormsSpec.vars false (#[.slice none 0 0, Wt.zero26] : Array Value).toList 8 = some ([.nil, .agg [.lit (.int .i64 0), .lit (.string []), .lit (.int .i64 0), .nil, .nil, .nil]], [], []) := by kernel_rfl
  refine returnsInHanded_of_row (C := Tryd.checked) (s := Rows.OpenSpec.upto Rows.typesFormsSpec) own started (by kernel_rfl) Tryd.func14
    (witness_row_atRef (enc := enc) (C := Tryd.checked) false (Wt.world os) #[.slice none 0 0, Wt.zero26] rfl (by kernel_rfl) (by kernel_rfl) (by kernel_rfl)
      (OpenSpec.preRow_of_cond 8 hx (by kernel_rfl) (fun k hk => by cases hk; kernel_rfl) (by kernel_rfl) (met os))) ?_
  intro W base args ds gs before hval hW _ hcond _ hL _ _
  exact contract H enc W base args ds gs before hval hW (hcond _ rfl) hL
end Go.Proofs.YtmlcaecknocpoaaDoor.C14
namespace Go.Proofs.YtmlcaecknocpoaaDoor.C14
set_option linter.unusedVariables false
open Go Go.ChangeShapes Go.WideShapes Go.ChangeAt Go.RowKit
theorem isInst : Func.isInstance Tryd.pinned.checked.prog Tryd.f14 Rows.typesFormsUptoRow.origin Rows.typesFormsUptoRow.targs := of_decide_eq_true (by kernel_rfl)
theorem isWrap : Func.isWrapper Tryd.pinned.checked.prog Tryd.f14 Rows.typesFormsUptoRow.wrapper Rows.typesFormsUptoRow.mainSum := by
  unfold Func.isWrapper; first | (rw [if_pos (by decide +kernel)]; kernel_rfl) | (rw [if_neg (by decide +kernel)]; exact ⟨rfl, rfl⟩)
theorem isName : Tryd.pinned.checked.prog.funcNamed Rows.typesFormsUptoRow.func = some 14 := by kernel_rfl
theorem saidUpto : Rows.TypesFormsUptoSaid :=
  OpenClaim.holds_of_cond 14 Tryd.f14 rfl rfl rfl rfl rfl rfl rfl ⟨rfl, rfl, rfl, rfl, rfl⟩ rfl rfl rfl rfl rfl isName Tryd.func14 F14.closed isInst isWrap
    (fun os started H enc _ F => by rw [OpenClaim.pre_eq_preRow]; exact lifted os started H enc F)
theorem plain (f : FuncId) (fn : Func) (hf : Tryd.pinned.checked.prog.funcNamed "chalkline/chalklinelaw08.TypesForms" = some f) (hfn : Tryd.pinned.checked.prog.funcs[f]? = some fn) :
    false = Tryd.pinned.checked.prog.looks [] ∧ ∀ (j : Nat) t, fn.params[j]? = some t → Tryd.pinned.checked.prog.wantsStandIn t = false := by
  obtain rfl : f = 14 := Option.some.inj ((show Tryd.prog.funcNamed "chalkline/chalklinelaw08.TypesForms" = some 14 by kernel_rfl).symm.trans hf) |>.symm
  obtain rfl : fn = Tryd.f14 := (Option.some.inj (Tryd.func14.symm.trans hfn)).symm
  refine ⟨by kernel_rfl, fun j t ht => ?_⟩
  rw [Tryd.params14] at ht
  have hm := Array.mem_of_getElem? ht
  simp only [List.mem_toArray, List.mem_cons, List.not_mem_nil, or_false] at hm
  rcases hm with rfl | rfl
  · exact (show Tryd.prog.wantsStandIn 23 = false by kernel_rfl)
  · exact (show Tryd.prog.wantsStandIn 26 = false by kernel_rfl)
theorem wfText : Rows.typesFormsUptoRow.wfByText (Rows.OpenSpec.upto Rows.typesFormsSpec) = true := by kernel_rfl
theorem goes : false = Rows.typesFormsUptoRow.goesBy Tryd.pinned.checked.prog := by kernel_rfl
theorem cardUpto : Rows.TypesFormsUptoCardSaid :=
  Claim7.holds_tied_plain_at .later [] _ _ _ _ saidUpto (fun _ h => by cases h) wfText (fun _ h => by cases h) typesFormsUpto_row_tie rfl ⟨rfl, rfl⟩ HH.mainIs rfl plain goes
end Go.Proofs.YtmlcaecknocpoaaDoor.C14
namespace Go.Proofs.YtmlcaecknocpoaaDoor
theorem typesFormsUpto_holds : Rows.TypesFormsUptoCardSaid := C14.cardUpto
#print axioms typesFormsUpto_holds
end Go.Proofs.YtmlcaecknocpoaaDoor
