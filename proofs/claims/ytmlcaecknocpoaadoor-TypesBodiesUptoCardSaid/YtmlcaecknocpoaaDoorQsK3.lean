/- Lemmas and walks for the claim below. -/
import Derived.Test.YtmlcaecknocpoaaDoorQsK2
import Derived.Lib.IndexEntry
import Derived.Deep.RegionHeld3
import Derived.Deep.DrawnRows
import Derived.Deep.DeepCutAuto
import Derived.Maps.OwnSet
import Derived.Carry
namespace Go.Proofs.YtmlcaecknocpoaaDoor.It
open Go Go.RowKit Go.Shelf Go.Proofs.YtmlcaecknocpoaaDoorW.PrintWords Go.Proofs.YtmlcaecknocpoaaDoorW.PrintLast Go.Proofs.YtmlcaecknocpoaaDoor.Pr Go.Proofs.YtmlcaecknocpoaaDoor.Sp
attribute [local go_sem] Oper.semAt_some
mutual
theorem form_nodes : ∀ x : S26, form x = (nodes x).all here
  | ⟨k, nm, n, ts, bs, l⟩ => by simp [form, nodes, forms_nodes l]
theorem forms_nodes : ∀ l : List S26, forms l = (nodesL l).all here
  | [] => rfl
  | x :: l => by simp [forms, nodesL, form_nodes x, forms_nodes l]
end
mutual
theorem depth_le : ∀ x : S26, depth x ≤ size x
  | ⟨_, _, _, _, _, l⟩ => by have := depths_le l; simp [depth, size]; omega
theorem depths_le : ∀ l : List S26, depths l ≤ sizes l
  | [] => by simp [depths, sizes]
  | x :: l => by have := depth_le x; have := depths_le l; simp [depths, sizes]; omega
end
theorem size_child (l : List S26) (j : Nat) (h : j < l.length) : size (rd_T26 l j) ≤ sizes l := by
  have := sizes_take l j h
  omega
theorem depths_take (l : List S26) (j : Nat) (h : j < l.length) : depths (l.take (j + 1)) = max (depths (l.take j)) (depth (rd_T26 l j)) := by
  induction l generalizing j with
  | nil => simp at h
  | cons x l ih =>
    cases j with
    | zero => simp [depths, rd_T26]
    | succ j =>
      have := ih j (by simpa using h)
      have e : rd_T26 (x :: l) ((j + 1 : Nat) : Int) = rd_T26 l j := by simp [rd_T26]
      rw [e]
      simp only [List.take_succ_cons, depths]
      rw [this]
      omega
theorem own_block {β : Type} (B : Nat) (cs : Array Value) (t : TypeId) (fr : Nat × Nat) : Own (fun (_ : β) W => W.heap[B]? = some (.cells cs t fr)) := fun s X Y row hs hg hrow =>
  (hg.block B (Array.getElem?_eq_some_iff.1 hs).1 (fun e' => by obtain ⟨o, ho, hc⟩ := hrow B e'.symm; rw [hs] at ho; cases ho; cases hc)).trans hs
theorem wrap_in {n : Int} (h : -9223372036854775808 ≤ n ∧ n ≤ 9223372036854775807) : wrap64 n = n := by unfold wrap64; omega
theorem depth_ev (s : Nat) : ∀ x : S26, size x ≤ s → size x ≤ 4611686018427387904 → Ev (fun k => formula_Depth.f k x.f0 x.f1 x.f2 x.f3 x.f4 x.f5) (depth x : Int) := by
  induction s with
  | zero => intro x h; rw [size_eq] at h; omega
  | succ s ih =>
    rintro ⟨k, nm, n, ts, bs, l⟩ hs hb
    simp only [size] at hs hb
    have hd := depths_le l
    have loop : ∀ d j : Nat, j + d = l.length → Ev (fun k => formula_Depth.l0 k (depths (l.take j) : Int) l (l.length : Int) (j : Int)) ((depths l + 1 : Nat) : Int) := by
      intro d
      induction d with
      | zero =>
        intro j hj
        have e : j = l.length := by omega
        subst e
        refine Ev.step (f := fun _ => some ((depths l + 1 : Nat) : Int)) (fun k => ?_) (Ev.now _)
        simp only [formula_Depth.l0]
        rw [if_neg (by omega), List.take_length, wrap_in (by omega)]
        simp
      | succ d ihd =>
        intro j hj
        have hlt : j < l.length := by omega
        have hc := size_child l j hlt
        refine Ev.step (f := fun k => (formula_Depth.f k (rd_T26 l j).f0 (rd_T26 l j).f1 (rd_T26 l j).f2 (rd_T26 l j).f3 (rd_T26 l j).f4 (rd_T26 l j).f5).bind fun t => formula_Depth.l0 k (mx (depths (l.take j) : Int) t) l (l.length : Int) (wrap64 ((j : Int) + 1))) (fun k => ?_) ?_
        · simp only [formula_Depth.l0]
          rw [if_pos (by omega), if_pos (by omega), if_pos (by omega)]
        · refine Ev.bind (ih (rd_T26 l j) (by omega) (by omega)) ?_
          have hlen : l.length ≤ sizes l := by
            clear ihd ih hs hb hd hj hlt hc
            induction l with
            | nil => simp
            | cons x l ihl => simp only [List.length_cons, sizes]; rw [size_eq]; omega
          have e1 : mx (depths (l.take j) : Int) (depth (rd_T26 l j) : Int) = (depths (l.take (j + 1)) : Int) := by
            rw [depths_take l j hlt]
            unfold mx
            split <;> omega
          have e2 : wrap64 ((j : Int) + 1) = ((j + 1 : Nat) : Int) := by rw [wrap_in (by omega)]; simp
          rw [e1, e2]
          exact ihd (j + 1) (by omega)
    refine Ev.step (f := fun k => formula_Depth.l0 k 0 l (l.length : Int) 0) (fun k => rfl) ?_
    exact loop l.length 0 (by omega)
theorem depth_calls (x : S26) (A3 : Option Addr) (c3 : Nat) (A4 : Option Addr) (c4 : Nat) (A5 : Option Addr) (c5 : Nat) (w : World) (hat : At w x A3 c3 A4 c4 A5 c5) (hs : size x ≤ 4611686018427387904) :
    Calls Tryd.prog 26 #[.agg #[.int .i64 x.f0, .string x.f1, .int .i64 x.f2, .slice A3 x.f3.length c3, .slice A4 x.f4.length c4, .slice A5 x.f5.length c5]] w fun e w' => e = .returned (.int .i64 (depth x)) ∧ Below w.heap.size w w' := by
  obtain ⟨k, hk⟩ := (depth_ev (size x) x (Nat.le_refl _) hs).rounds
  exact formula_Depth.calls k _ _ _ _ _ _ _ _ _ _ _ _ _ _ hat.g3 hat.l3 hat.g4 hat.l4 hat.g5 hat.l5 hk
theorem size_calls (x : S26) (A3 : Option Addr) (c3 : Nat) (A4 : Option Addr) (c4 : Nat) (A5 : Option Addr) (c5 : Nat) (w : World) (hat : At w x A3 c3 A4 c4 A5 c5) (hs : size x ≤ 4611686018427387904) (hok : Deep x) :
    Calls Tryd.prog 24 #[.agg #[.int .i64 x.f0, .string x.f1, .int .i64 x.f2, .slice A3 x.f3.length c3, .slice A4 x.f4.length c4, .slice A5 x.f5.length c5]] w fun e w' => e = .returned (.int .i64 (size x)) ∧ Below w.heap.size w w' :=
  callsIn_wide.1 (size_in Fence.wide rfl 3 trivial trivial trivial trivial rfl (Nat.le_refl _) x A3 c3 A4 c4 A5 c5 w hat hs hok)
theorem results_cell29 {fn : Func} (h : fn.results = #[.cell 2 29]) (tmps : Array Value) (w : World) (B : Nat) (v : Value) (hB : Boxed w B 29 v) (ht : tmps[2]?.getD undef = .pointer (some ⟨B, 0, none⟩)) :
    (results fn tmps).run Tryd.prog w = .ok v w := by
  have hc := hB.cell
  simp [results, h, ht, hc, loadVar, asAddr, go_sem]
set_option maxRecDepth 100000 in
set_option maxHeartbeats 8000000 in
theorem check_calls (x : S26) (A3 : Option Addr) (c3 : Nat) (A4 : Option Addr) (c4 : Nat) (A5 : Option Addr) (c5 : Nat) (w : World)
    (hat : At w x A3 c3 A4 c4 A5 c5) (hs : size x ≤ 4611686018427387904) (hd : Deep x) (ht : Tabs w) :
    Calls Tryd.prog 22 #[.agg #[.int .i64 x.f0, .string x.f1, .int .i64 x.f2, .slice A3 x.f3.length c3, .slice A4 x.f4.length c4, .slice A5 x.f5.length c5]] w fun e w' => e = .returned (.int .i64 (check x)) ∧ Below w.heap.size w w' := by
  refine callsIn_wide.1 (?_ : CallsIn Fence.wide 3 _ _ _ _ _)
  have h1 : 1 ≤ 3 := by omega
  have h52 : Fence.wide.fn 52 := trivial
  have h53 : Fence.wide.fn 53 := trivial
  have h24 : Fence.wide.fn 24 := trivial
  have h26 : Fence.wide.fn 26 := trivial
  refine callsIn_of_wp_marks Tryd.func22 rfl trivial ?_ rfl
  simp only [Tryd.ntmps22, List.size_toArray, List.length_cons, List.length_nil, Nat.reduceAdd, Nat.reduceSub, Array.replicate_succ, Array.replicate_zero, List.push_toArray, List.append_toArray, List.nil_append, List.cons_append]
  gi_wp2_with (gi_at_call 52; refine (all_in Fence.wide (3 - 1) trivial rfl _ x A3 c3 A4 c4 A5 c5 _ rfl).mono ?_; rintro e w' ⟨rfl, rfl⟩)
  obtain ⟨W0, hW0⟩ : ∃ W0, (((w.alloc (.cells #[.int .i64 x.f0, .string x.f1, .int .i64 x.f2, .slice A3 x.f3.length c3, .slice A4 x.f4.length c4, .slice A5 x.f5.length c5] 26)).alloc (.cells #[.int .i64 0] 29)).alloc
    (.cells #[.int .i64 x.f0, .string x.f1, .int .i64 x.f2, .slice A3 x.f3.length c3, .slice A4 x.f4.length c4, .slice A5 x.f5.length c5] 26)) = W0 := ⟨_, rfl⟩
  have hB : Below w.heap.size w W0 := by rw [← hW0]; exact (((Below.refl _ w).alloc (Nat.le_refl _) _).alloc (by simp) _).alloc (by simp; omega) _
  have hsz : W0.heap.size = w.heap.size + 3 := by rw [← hW0]; simp
  have hn : Boxed W0 (w.heap.size + 1) 29 (.int .i64 0) := by
    rw [← hW0]
    refine Boxed.alloc ?_ _
    have h := heap_new (w.alloc (.cells #[.int .i64 x.f0, .string x.f1, .int .i64 x.f2, .slice A3 x.f3.length c3, .slice A4 x.f4.length c4, .slice A5 x.f5.length c5] 26)) (.cells #[.int .i64 0] 29)
    rw [World.size_alloc] at h
    exact h
  have h0 : W0.heap[w.heap.size]? = some (.cells #[.int .i64 x.f0, .string x.f1, .int .i64 x.f2, .slice A3 x.f3.length c3, .slice A4 x.f4.length c4, .slice A5 x.f5.length c5] 26 (0, 0)) := by
    rw [← hW0]
    refine (Below.heap_alloc _ _ _ (by simp; omega)).trans ((Below.heap_alloc _ _ _ (by simp)).trans (heap_new w _))
  have hf : W0.heap[w.heap.size + 2]? = some (.cells #[.int .i64 x.f0, .string x.f1, .int .i64 x.f2, .slice A3 x.f3.length c3, .slice A4 x.f4.length c4, .slice A5 x.f5.length c5] 26 (0, 0)) := by
    rw [← hW0]
    have h := heap_new ((w.alloc (.cells #[.int .i64 x.f0, .string x.f1, .int .i64 x.f2, .slice A3 x.f3.length c3, .slice A4 x.f4.length c4, .slice A5 x.f5.length c5] 26)).alloc (.cells #[.int .i64 0] 29)) (.cells #[.int .i64 x.f0, .string x.f1, .int .i64 x.f2, .slice A3 x.f3.length c3, .slice A4 x.f4.length c4, .slice A5 x.f5.length c5] 26)
    rw [World.size_alloc, World.size_alloc] at h
    exact h
  rw [hW0]
  clear hW0
  refine wpIn_rangeFunc_ownH rfl h1 (gf := 78) (lb := #[.pointer (some ⟨w.heap.size + 1 + 1, 0, none⟩)]) rfl trivial (enters_of Tryd.func78 (by kernel_rfl) rfl)
    (all1_stops Fence.wide rfl (3 - 1) trivial trivial rfl w ⟨x, A3, c3, A4, c4, A5, c5, hat, hd⟩ (w.heap.size + 1 + 1) W0 hB (by omega) hf) (fun h k => h.trans k) (fun W l o o' hl h hc hw => Kp.put (w := W0) hB.size W l o o' hl h hc hw) (Below.refl _ _) (fun _ => rfl)
    (fun pre W => (W.heap[w.heap.size]? = some (.cells #[.int .i64 x.f0, .string x.f1, .int .i64 x.f2, .slice A3 x.f3.length c3, .slice A4 x.f4.length c4, .slice A5 x.f5.length c5] 26 (0, 0)) ∧ Boxed W (w.heap.size + 1) 29 (.int .i64 0)) ∧ (Below w.heap.size w W ∧ (∀ p ∈ pre, here p.x = true)))
    (fun c pre W => (c = Code.ret ∧ Boxed W (w.heap.size + 1) 29 (.int .i64 1)) ∧ (Below w.heap.size w W ∧ (∃ p ∈ pre, here p.x = false)))
    (OwnFrom.and (OwnFrom.and (Own.from (own_block _ _ _ _) _) (Own.from (boxed_own _ _ _) _)) (OwnFrom.and (ownFrom_below (Nat.le_refl _) (by omega)) (ownFrom_pure _ _)))
    (fun c => OwnFrom.and (OwnFrom.and (ownFrom_pure _ _) (Own.from (boxed_own _ _ _) _)) (OwnFrom.and (ownFrom_below (Nat.le_refl _) (by omega)) (ownFrom_pure _ _)))
    ⟨⟨h0, hn⟩, hB, by simp⟩
    (fun p a' W => ∃ Bx, w.heap.size + 1 < Bx ∧ W.heap[Bx]? = some (.cells #[.int .i64 p.x.f0, .string p.x.f1, .int .i64 p.x.f2, .slice p.A3 p.x.f3.length p.c3, .slice p.A4 p.x.f4.length p.c4, .slice p.A5 p.x.f5.length p.c5] 26 (0, 0)) ∧
      a' = { tmps := #[.agg #[.int .i64 x.f0, .string x.f1, .int .i64 x.f2, .slice A3 x.f3.length c3, .slice A4 x.f4.length c4, .slice A5 x.f5.length c5], .pointer (some ⟨w.heap.size, 0, none⟩), .pointer (some ⟨w.heap.size + 1, 0, none⟩), .pointer (some ⟨Bx, 0, none⟩),
      .agg #[.int .i64 x.f0, .string x.f1, .int .i64 x.f2, .slice A3 x.f3.length c3, .slice A4 x.f4.length c4, .slice A5 x.f5.length c5], .func (.func 78) #[] #[.pointer (some ⟨w.heap.size + 1 + 1, 0, none⟩)], p.val, undef, undef, undef, undef, undef, undef, undef, undef, undef, undef, undef], defers := [] })
    (fun p a' _ X Y row hs hg hr => by obtain ⟨Bx, h1, h2, h3⟩ := hs; exact ⟨Bx, h1, own_block Bx _ 26 (0, 0) () X Y row h2 hg (fun r e => (hr r e).2), h3⟩)
    ?assign ?body ?done ?stop
  case assign =>
    rintro l pre p W K ⟨⟨k0, k1⟩, k2, k3⟩ hK
    have hlt : w.heap.size + 1 < W.heap.size := k1.lt
    obtain ⟨px, pA3, pc3, pA4, pc4, pA5, pc5, pat, pok⟩ := p
    dsimp only [FA.val] at hK ⊢
    gi_wp2
    refine hK _ _ ((KeepsOthers.alloc _ _).from _) (Kp.alloc k2.size _) ⟨⟨(Below.heap_alloc _ _ _ (by omega)).trans k0, k1.alloc _⟩, k2.alloc k2.size _, k3⟩ ⟨W.heap.size, hlt, heap_new W _, rfl⟩
  case body =>
    rintro l pre p a' W hl ⟨r, hr⟩ ⟨⟨k0, k1⟩, k2, k3⟩ ⟨Bx, hBx, kx, rfl⟩ hlen
    obtain ⟨px, pA3, pc3, pA4, pc4, pA5, pc5, pat, pok⟩ := p
    have hlt : w.heap.size + 1 < W.heap.size := k1.lt
    have hc1 := (cell_blk k1).1
    have hf1 := (cell_blk k1).2
    have b0 := blk_cell kx 0
    have b1 := blk_cell kx 1
    have b2 := blk_cell kx 2
    have b3 := blk_cell kx 3
    have b4 := blk_cell kx 4
    have b5 := blk_cell kx 5
    simp only [List.getElem?_toArray, List.getElem?_cons_zero, List.getElem?_cons_succ] at b0 b1 b2 b3 b4 b5
    have hfm : CallsIn (Fence.wide.inRound l) 0 Tryd.prog 53 #[.agg #[.int .i64 px.f0, .string px.f1, .int .i64 px.f2, .slice pA3 px.f3.length pc3, .slice pA4 px.f4.length pc4, .slice pA5 px.f5.length pc5]] W fun e w' => e = .returned (.bool (here px)) ∧ Below W.heap.size W w' :=
      CallsIn.inRound l (callsIn_wide.2 (formed_calls px pA3 pc3 pA4 pc4 pA5 pc5 W (pat.below k2) pok.self (ht.below k2)))
    replace hfm := Aside0.mk hfm
    dsimp only [FA.val]
    gi_wp2
    gi_at_call 53
    refine hfm.out.mono ?_
    clear hfm
    rintro e W2 ⟨rfl, hbl⟩
    have z1 : Boxed W2 (w.heap.size + 1) 29 (.int .i64 0) := (hbl.block _ hlt).trans k1
    have z0 := (hbl.block _ (show w.heap.size < W.heap.size by omega)).trans k0
    have c1 := (cell_blk z1).1
    have f1 := (cell_blk z1).2
    have Z := Aside0.mk (And.intro z0 (And.intro z1 (k2.trans (hbl.mono k2.size))))
    have KF := Aside0.mk (show KeepsFrom W0.heap.size W W2 from ⟨hbl.size, fun k o _ hk _ => (hbl.block k (Array.getElem?_eq_some_iff.1 hk).1).trans hk⟩)
    clear z0 z1 k0 k1 k2 kx hc1 hf1 b0 b1 b2 b3 b4 b5
    obtain ⟨g, hg⟩ : ∃ g, here px = g := ⟨_, rfl⟩
    rw [hg]
    replace hg := Aside0.mk hg
    cases g
    · gi_wp2
      obtain ⟨z0, z1, k2⟩ := Z.out
      refine ⟨KF.out.trans ((KeepsOthers.setCell _ _ _).from _), ⟨rfl, ?_⟩, ?_, ?_⟩
      · exact z1.set _
      · exact k2.setCell (by simp) _
      · exact ⟨_, List.mem_append_right _ (List.mem_singleton.2 rfl), hg.out⟩
    · gi_wp2
      obtain ⟨z0, z1, k2⟩ := Z.out
      refine ⟨KF.out, Kp.of_below (by omega) hbl, ⟨z0, z1⟩, k2, ?_⟩
      intro q hq
      rcases List.mem_append.1 hq with h | h
      · exact k3 q h
      · obtain rfl := List.mem_singleton.1 h
        exact hg.out
  case done =>
    rintro D ys W hD hys ⟨⟨k0, k1⟩, k2, k3⟩ hK
    have b0 := blk_cell k0 0
    have b1 := blk_cell k0 1
    have b2 := blk_cell k0 2
    have b3 := blk_cell k0 3
    have b4 := blk_cell k0 4
    have b5 := blk_cell k0 5
    simp only [List.getElem?_toArray, List.getElem?_cons_zero, List.getElem?_cons_succ] at b0 b1 b2 b3 b4 b5
    have hlt : w.heap.size + 1 < W.heap.size := k1.lt
    have hDl : D < W.heap.size := (Array.getElem?_eq_some_iff.1 hK).1
    have hy : form x = true := by
      rw [form_nodes, List.all_eq_true]
      intro y hy
      rw [← hys, List.mem_map] at hy
      obtain ⟨p, hp, rfl⟩ := hy
      exact k3 p hp
    replace hy := Aside0.mk hy
    replace k3 := Aside0.mk k3
    gi_wp2
    gi_at_call 24
    refine (callsIn_wide.2 (size_calls x A3 c3 A4 c4 A5 c5 W (hat.below k2) hs hd)).mono ?_
    rintro e W1 ⟨rfl, hb1⟩
    have z1 : Boxed W1 (w.heap.size + 1) 29 (.int .i64 0) := (hb1.block _ hlt).trans k1
    have z0 := (hb1.block _ (show w.heap.size < W.heap.size by omega)).trans k0
    have zK := (hb1.block _ hDl).trans hK
    have zb := k2.trans (hb1.mono k2.size)
    have zl : w.heap.size + 1 < W1.heap.size := z1.lt
    have zD : D < W1.heap.size := (Array.getElem?_eq_some_iff.1 zK).1
    have c1 := (cell_blk z1).1
    have f1 := (cell_blk z1).2
    clear b0 b1 b2 b3 b4 b5 k0 k1 k2 hK hb1
    have b0 := blk_cell z0 0
    have b1 := blk_cell z0 1
    have b2 := blk_cell z0 2
    have b3 := blk_cell z0 3
    have b4 := blk_cell z0 4
    have b5 := blk_cell z0 5
    simp only [List.getElem?_toArray, List.getElem?_cons_zero, List.getElem?_cons_succ] at b0 b1 b2 b3 b4 b5
    gi_wp2
    · gi_at_call 26
      refine (callsIn_wide.2 (depth_calls x A3 c3 A4 c4 A5 c5 W1 (hat.below zb) hs)).mono ?_
      rintro e W2 ⟨rfl, hb2⟩
      have y1 : Boxed W2 (w.heap.size + 1) 29 (.int .i64 0) := (hb2.block _ zl).trans z1
      have yK := (hb2.block _ zD).trans zK
      have yb := zb.trans (hb2.mono zb.size)
      have yD : D < W2.heap.size := (Array.getElem?_eq_some_iff.1 yK).1
      clear c1 f1 b0 b1 b2 b3 b4 b5 z0 z1 zb zK hb2
      have c1 := (cell_blk y1).1
      have f1 := (cell_blk y1).2
      gi_wp2
      · rename_i hh
        have hne : D ≠ w.heap.size + 1 := fun he => by rw [he] at yK; rw [show _ = _ from y1] at yK; cases yK
        have hK' : (W2.setCell ⟨w.heap.size + 1, 0, none⟩ (.int .i64 2)).heap[D]? = some (.deferred (some [])) := (Below.heap_setCell _ _ _ _ hne).trans yK
        have yb' := yb.setCell (p := ⟨w.heap.size + 1, 0, none⟩) (Nat.le_add_right _ _) (.int .i64 2)
        have q1 : Boxed ((W2.setCell ⟨w.heap.size + 1, 0, none⟩ (.int .i64 2)).putObj D (.deferred none)) (w.heap.size + 1) 29 (.int .i64 2) := (World.putObj_heap_other (fun e => hne e.symm)).trans (y1.set _)
        refine ⟨by simp, .inl ⟨_, _, rfl, run_takeDeferred hK', ?_⟩⟩
        refine ⟨_, results_cell29 rfl _ _ _ _ q1 rfl, ?_, yb'.trans (belowK_b (w := w) (Nat.le_refl _) _ D _ _ (by omega) hK' rfl rfl)⟩
        rw [check, if_pos hy.out, if_pos (by omega)]
      · rename_i hh
        have hne : D ≠ w.heap.size + 1 := fun he => by rw [he] at yK; rw [show _ = _ from y1] at yK; cases yK
        have hK' : (W2.setCell ⟨w.heap.size + 1, 0, none⟩ (.int .i64 0)).heap[D]? = some (.deferred (some [])) := (Below.heap_setCell _ _ _ _ hne).trans yK
        have yb' := yb.setCell (p := ⟨w.heap.size + 1, 0, none⟩) (Nat.le_add_right _ _) (.int .i64 0)
        have q1 : Boxed ((W2.setCell ⟨w.heap.size + 1, 0, none⟩ (.int .i64 0)).putObj D (.deferred none)) (w.heap.size + 1) 29 (.int .i64 0) := (World.putObj_heap_other (fun e => hne e.symm)).trans (y1.set _)
        refine ⟨by simp, .inl ⟨_, _, rfl, run_takeDeferred hK', ?_⟩⟩
        refine ⟨_, results_cell29 rfl _ _ _ _ q1 rfl, ?_, yb'.trans (belowK_b (w := w) (Nat.le_refl _) _ D _ _ (by omega) hK' rfl rfl)⟩
        rw [check, if_pos hy.out, if_neg (by omega)]
    · rename_i hh
      have hne : D ≠ w.heap.size + 1 := fun he => by rw [he] at zK; rw [show _ = _ from z1] at zK; cases zK
      have hK' : (W1.setCell ⟨w.heap.size + 1, 0, none⟩ (.int .i64 2)).heap[D]? = some (.deferred (some [])) := (Below.heap_setCell _ _ _ _ hne).trans zK
      have yb' := zb.setCell (p := ⟨w.heap.size + 1, 0, none⟩) (Nat.le_add_right _ _) (.int .i64 2)
      have q1 : Boxed ((W1.setCell ⟨w.heap.size + 1, 0, none⟩ (.int .i64 2)).putObj D (.deferred none)) (w.heap.size + 1) 29 (.int .i64 2) := (World.putObj_heap_other (fun e => hne e.symm)).trans (z1.set _)
      refine ⟨by simp, .inl ⟨_, _, rfl, run_takeDeferred hK', ?_⟩⟩
      refine ⟨_, results_cell29 rfl _ _ _ _ q1 rfl, ?_, yb'.trans (belowK_b (w := w) (Nat.le_refl _) _ D _ _ (by omega) hK' rfl rfl)⟩
      rw [check, if_pos hy.out, if_pos (by omega)]
  case stop =>
    rintro D c pre W hD ⟨q, hq⟩ ⟨⟨rfl, k1⟩, k2, p, hp, hf⟩ hK
    gi_wp2
    have hne : D ≠ w.heap.size + 1 := fun he => by rw [he] at hK; rw [show _ = _ from k1] at hK; cases hK
    have q1 : Boxed (W.putObj D (.deferred none)) (w.heap.size + 1) 29 (.int .i64 1) := (World.putObj_heap_other (fun e => hne e.symm)).trans k1
    refine ⟨by simp, .inl ⟨_, _, rfl, run_takeDeferred hK, ?_⟩⟩
    refine ⟨_, results_cell29 rfl _ _ _ _ q1 rfl, ?_, k2.trans (belowK_b (w := w) (Nat.le_refl _) _ D _ _ (by omega) hK rfl rfl)⟩
    have hn : form x = false := by
      rw [form_nodes, List.all_eq_false]
      refine ⟨p.x, ?_, by simp [hf]⟩
      rw [← hq]
      exact List.mem_append_left _ (List.mem_map_of_mem hp)
    rw [check, if_neg (by simp [hn])]
end Go.Proofs.YtmlcaecknocpoaaDoor.It
namespace Go.Proofs.YtmlcaecknocpoaaDoor.Pr
open Go.RowKit Go.Proofs.YtmlcaecknocpoaaDoorW.PrintWords Go.Proofs.YtmlcaecknocpoaaDoorW.PrintLast Go.Proofs.YtmlcaecknocpoaaDoorW.PrintMore
attribute [local go_sem] max2_int min2_int max_two min_two max_three min_three max_four min_four   
set_option linter.unusedVariables false
set_option linter.unusedSimpArgs false
end Go.Proofs.YtmlcaecknocpoaaDoor.Pr
namespace Go.Proofs.YtmlcaecknocpoaaDoor.Pr
open Go.RowKit Go.Proofs.YtmlcaecknocpoaaDoorW.PrintWords Go.Proofs.YtmlcaecknocpoaaDoorW.PrintLast Go.Proofs.YtmlcaecknocpoaaDoorW.PrintMore
attribute [local go_sem] max2_int min2_int max_two min_two max_three min_three max_four min_four   
set_option linter.unusedVariables false
set_option linter.unusedSimpArgs false
end Go.Proofs.YtmlcaecknocpoaaDoor.Pr
namespace Go.Proofs.YtmlcaecknocpoaaDoor.Pr
open Go.RowKit Go.Proofs.YtmlcaecknocpoaaDoorW.PrintWords Go.Proofs.YtmlcaecknocpoaaDoorW.PrintLast Go.Proofs.YtmlcaecknocpoaaDoorW.PrintMore
attribute [local go_sem] max2_int min2_int max_two min_two max_three min_three max_four min_four   
set_option linter.unusedVariables false
set_option linter.unusedSimpArgs false
end Go.Proofs.YtmlcaecknocpoaaDoor.Pr
namespace Go.Proofs.YtmlcaecknocpoaaDoor.Pr
open Go.RowKit Go.Proofs.YtmlcaecknocpoaaDoorW.PrintWords Go.Proofs.YtmlcaecknocpoaaDoorW.PrintLast Go.Proofs.YtmlcaecknocpoaaDoorW.PrintMore
attribute [local go_sem] max2_int min2_int max_two min_two max_three min_three max_four min_four   
set_option linter.unusedVariables false
set_option linter.unusedSimpArgs false
end Go.Proofs.YtmlcaecknocpoaaDoor.Pr
namespace Go.Proofs.YtmlcaecknocpoaaDoor.It
set_option linter.unusedVariables false
set_option linter.unusedSimpArgs false
open Go Go.RowKit Go.Shelf Go.Proofs.YtmlcaecknocpoaaDoorW.PrintWords Go.Proofs.YtmlcaecknocpoaaDoorW.PrintLast Go.Proofs.YtmlcaecknocpoaaDoor.Pr Go.Proofs.YtmlcaecknocpoaaDoor.Sp
theorem Ev.ite {α : Type} {p : Prop} [Decidable p] {f g : Nat → Option α} {r : α} (h : p → Ev f r) (h' : ¬ p → Ev g r) : Ev (fun k => if p then f k else g k) r := by
  by_cases hp : p
  · exact Ev.congr (fun k => if_pos hp) (h hp)
  · exact Ev.congr (fun k => if_neg hp) (h' hp)
theorem Ev.val {α : Type} {r s : α} (h : r = s) : Ev (fun _ => some r) s := h ▸ Ev.now r
theorem wrap_one (j : Nat) (h : j < 9223372036854775807) : wrap64 ((j : Int) + 1) = ((j + 1 : Nat) : Int) := by rw [wrap_in (by omega)]; omega
end Go.Proofs.YtmlcaecknocpoaaDoor.It
namespace Go.Proofs.YtmlcaecknocpoaaDoor.Pr
open Go.RowKit Go.Proofs.YtmlcaecknocpoaaDoorW.PrintWords Go.Proofs.YtmlcaecknocpoaaDoorW.PrintLast Go.Proofs.YtmlcaecknocpoaaDoorW.PrintMore
attribute [local go_sem] max2_int min2_int max_two min_two max_three min_three max_four min_four   
set_option linter.unusedVariables false
set_option linter.unusedSimpArgs false
mutual
def chalklineref06_Size.l0 : Nat → Int → Int → Int → ByteArray → Int → List (S47) → List (S42) → List (S26) → Option (Int)
  | 0, _, _, _, _, _, _, _, _ => none
  | k + 1, x3, x4, x109000, x109001, x109002, x109003, x109004, x109005 => if x4 < (x109005.length : Int) then (if 0 ≤ x4 then ((chalklineref06_Size.f k ((rd_T26 x109005 x4).f0) ((rd_T26 x109005 x4).f1) ((rd_T26 x109005 x4).f2) ((rd_T26 x109005 x4).f3) ((rd_T26 x109005 x4).f4) ((rd_T26 x109005 x4).f5)).bind fun t110 => (chalklineref06_Size.l0 k (wrap64 (x3 + t110)) (wrap64 (x4 + 1)) x109000 x109001 x109002 x109003 x109004 x109005)) else (none)) else (some x3)
def chalklineref06_Size.f : Nat → Int → ByteArray → Int → List (S47) → List (S42) → List (S26) → Option (Int)
  | 0, _, _, _, _, _, _ => none
  | k + 1, a0_0, a0_1, a0_2, l0_3, l0_4, l0_5 => chalklineref06_Size.l0 k 1 0 a0_0 a0_1 a0_2 l0_3 l0_4 l0_5
end
set_option maxHeartbeats 8000000 in
set_option maxRecDepth 100000 in
theorem chalklineref06_Size.calls (k : Nat) : ∀ (a0_0 : Int) (a0_1 : ByteArray) (a0_2 : Int) (A0_3 : Option Addr) (c0_3 : Nat) (l0_3 : List (S47)) (A0_4 : Option Addr) (c0_4 : Nat) (l0_4 : List (S42)) (A0_5 : Option Addr) (c0_5 : Nat) (l0_5 : List (S26)) (r : Int) (w : World) (hr0_3 : Kd.C k47 w A0_3 l0_3.length l0_3) (hc0_3 : l0_3.length ≤ c0_3) (hr0_4 : Kd.C k42 w A0_4 l0_4.length l0_4) (hc0_4 : l0_4.length ≤ c0_4) (hr0_5 : Kd.C k26 w A0_5 l0_5.length l0_5) (hc0_5 : l0_5.length ≤ c0_5) (h : chalklineref06_Size.f k a0_0 a0_1 a0_2 l0_3 l0_4 l0_5 = some r),
    Calls Tryd.prog 25 #[.agg #[.int .i64 a0_0, .string a0_1, .int .i64 a0_2, .slice A0_3 l0_3.length c0_3, .slice A0_4 l0_4.length c0_4, .slice A0_5 l0_5.length c0_5]] w fun e w' => e = .returned (.int .i64 r) ∧ Below w.heap.size w w' := by
  induction k using Nat.strongRecOn with
  | _ k ih =>
  intro a0_0 a0_1 a0_2 A0_3 c0_3 l0_3 A0_4 c0_4 l0_4 A0_5 c0_5 l0_5 r w hr0_3 hc0_3 hr0_4 hc0_4 hr0_5 hc0_5 h
  cases k with
  | zero => exact absurd h (by simp [chalklineref06_Size.f])
  | succ k =>
  simp only [chalklineref06_Size.f] at h
  have hu26 := Tryd.underlying26
  have HR0_3 := Aside0.mk hr0_3
  have HC0_3 := Aside0.mk hc0_3
  clear hr0_3 hc0_3
  have HR0_4 := Aside0.mk hr0_4
  have HC0_4 := Aside0.mk hc0_4
  clear hr0_4 hc0_4
  have HR0_5 := Aside0.mk hr0_5
  have HC0_5 := Aside0.mk hc0_5
  clear hr0_5 hc0_5
  have HB := Aside0.mk (Below.refl w.heap.size w)
  have H : (chalklineref06_Size.l0 k 1 0 a0_0 a0_1 a0_2 l0_3 l0_4 l0_5) = some r := h
  clear h
  have H' := Aside0.mk H
  clear H
  go_enter Tryd.func25, Tryd.ntmps25
  go_wp2_with (first | ((with_reducible refine gate_dst (N := 1) rfl ?_); refine box_event ?hg (N := 1) ?hd (cs := #[.int .i64 a0_0, .string a0_1, .int .i64 a0_2, .slice A0_3 l0_3.length c0_3, .slice A0_4 l0_4.length c0_4, .slice A0_5 l0_5.length c0_5]) (t := 26) ?hr ?_; (case hd => rfl); (case hg => rfl); (case hr => first | (go_simp; done) | (go_simp; rfl)); intro gb108 hg w2 hbox hb; have n0_ := Aside0.mk (below_step (by repeat (first | (with_reducible first | exact HB.out | apply below_alloc | apply pw_below_drewN | apply below_drew1) | exact HB.out)) hb); have n1_ := Aside0.mk (hbox); have n2_ := Aside0.mk ((by rw [hg]; exact (below_size (by repeat (first | (with_reducible first | exact HB.out | apply below_alloc | apply pw_below_drewN | apply below_drew1) | exact HB.out))) : w.heap.size ≤ gb108)); have n3_ := Aside0.mk ((by rw [hg]; exact (below_size (by repeat (first | (with_reducible first | exact HB.out | apply below_alloc | apply pw_below_drewN | apply below_drew1) | exact HB.out))) : w.heap.size ≤ gb108)); clear HB; have HB := n0_; have BK108 := n1_; have GW108 := n2_; have GE108 := n3_; clear n0_ n1_ n2_ n3_; clear hb hbox hg))
  go_loopg [3, 4] k (fun kq v3 v4 w' => ∃ (x3_1 : Int) (x4_1 : Int), v3 = .int .i64 x3_1 ∧ v4 = .int .i64 x4_1 ∧ Aside0 (chalklineref06_Size.l0 kq x3_1 x4_1 a0_0 a0_1 a0_2 l0_3 l0_4 l0_5 = some r) ∧ Aside0 (kq ≤ k) ∧ Aside0 (w'.heap[gb108]? = some (.cells #[.int .i64 a0_0, .string a0_1, .int .i64 a0_2, (.slice A0_3 l0_3.length c0_3), (.slice A0_4 l0_4.length c0_4), (.slice A0_5 l0_5.length c0_5)] 26 (0, 0))) ∧ Aside0 (Below w.heap.size w w'))
  case atStart => exact ⟨(1), (0), (by first | rfl | (simp; done) | (simp [*]; done)), (by first | rfl | (simp; done) | (simp [*]; done)), H', ⟨Nat.le_refl _⟩, ⟨by (with_reducible repeat (first | refine blk_drewN ?_ _ | refine blk_drew ?_ | refine blk_alloc ?_ _)); exact BK108.out⟩, ⟨by repeat (first | (with_reducible first | exact HB.out | apply below_alloc | apply pw_below_drewN | apply below_drew1 | refine below_set ?_ GE108.out) | exact HB.out)⟩⟩
  case round =>
    clear H'
    try clear c2
    try clear p2
    obtain ⟨x3_1, x4_1, rfl, rfl, HA, HK1, BK108, HB⟩ := hrel
    cases gk with
    | zero => exact absurd HA.out (by simp [chalklineref06_Size.l0])
    | succ k1 =>
      have H := HA.out
      clear HA
      simp only [chalklineref06_Size.l0] at H
      by_cases c3 : x4_1 < (l0_5.length : Int)
      · rw [if_pos c3] at H
        have c3b0 : decide (x4_1 < (l0_5.length : Int)) = true := decide_eq_true c3
        clear c3
        by_cases c4 : 0 ≤ x4_1
        · rw [if_pos c4] at H
          have c4b0 : decide (0 ≤ x4_1) = true := decide_eq_true c4
          clear c4
          replace H := Option.bind_eq_some_iff.mp H
          obtain ⟨t110, A50, H⟩ := H
          replace H : (chalklineref06_Size.l0 k1 (wrap64 (x3_1 + t110)) (wrap64 (x4_1 + 1)) a0_0 a0_1 a0_2 l0_3 l0_4 l0_5) = some r := H
          have A5 := Aside0.mk A50
          clear A50
          have H' := Aside0.mk H
          clear H
          have hcz6_0 : wr.cell? ⟨gb108, 0, none⟩ = some (.int .i64 a0_0) := (blk_cell BK108.out 0).trans rfl
          have hcz6_1 : wr.cell? ⟨gb108, 1, none⟩ = some (.string a0_1) := (blk_cell BK108.out 1).trans rfl
          have hcz6_2 : wr.cell? ⟨gb108, 2, none⟩ = some (.int .i64 a0_2) := (blk_cell BK108.out 2).trans rfl
          have hcz6_3 : wr.cell? ⟨gb108, 3, none⟩ = some (.slice A0_3 l0_3.length c0_3) := (blk_cell BK108.out 3).trans rfl
          have hcz6_4 : wr.cell? ⟨gb108, 4, none⟩ = some (.slice A0_4 l0_4.length c0_4) := (blk_cell BK108.out 4).trans rfl
          have hcz6_5 : wr.cell? ⟨gb108, 5, none⟩ = some (.slice A0_5 l0_5.length c0_5) := (blk_cell BK108.out 5).trans rfl
          have hfz6_0 := blk_frozen BK108.out 0
          have hfz6_1 := blk_frozen BK108.out 1
          have hfz6_2 := blk_frozen BK108.out 2
          have hfz6_3 := blk_frozen BK108.out 3
          have hfz6_4 := blk_frozen BK108.out 4
          have hfz6_5 := blk_frozen BK108.out 5
          have p109 : 0 ≤ (x4_1 : Int) := of_decide_eq_true (by first | (with_reducible assumption) | assumption)
          have q109 : x4_1 < (l0_5.length : Int) := of_decide_eq_true (by first | (with_reducible assumption) | assumption)
          obtain ⟨ad109, A109_3, c109_3, A109_4, c109_4, A109_5, c109_5, e109, hx109_0, hx109_1, hx109_2, hx109_3, hx109_4, hx109_5, hl109_3, hi109_3, hl109_4, hi109_4, hl109_5, hi109_5⟩ := at_T26 HR0_5.out x4_1 p109 q109
          cases e109
          replace hx109_0 := (HB.out.cell (World.block_lt_of_cell? w _ hx109_0)).trans hx109_0
          replace hx109_1 := (HB.out.cell (World.block_lt_of_cell? w _ hx109_1)).trans hx109_1
          replace hx109_2 := (HB.out.cell (World.block_lt_of_cell? w _ hx109_2)).trans hx109_2
          replace hx109_3 := (HB.out.cell (World.block_lt_of_cell? w _ hx109_3)).trans hx109_3
          replace hx109_4 := (HB.out.cell (World.block_lt_of_cell? w _ hx109_4)).trans hx109_4
          replace hx109_5 := (HB.out.cell (World.block_lt_of_cell? w _ hx109_5)).trans hx109_5
          have HR109_3 := Aside0.mk hi109_3
          have HC109_3 := Aside0.mk hl109_3
          clear hi109_3 hl109_3
          have HR109_4 := Aside0.mk hi109_4
          have HC109_4 := Aside0.mk hl109_4
          clear hi109_4 hl109_4
          have HR109_5 := Aside0.mk hi109_5
          have HC109_5 := Aside0.mk hl109_5
          clear hi109_5 hl109_5
          replace p109 := eq_true p109
          replace q109 := eq_true q109
          go_wp2_with (first | ((with_reducible refine gate_callee (f := 25) rfl ?_); refine goesL_ (some 18) rfl rfl Tryd.func25 (by kernel_rfl) rfl #[.agg #[.int .i64 ((rd_T26 l0_5 x4_1).f0), .string ((rd_T26 l0_5 x4_1).f1), .int .i64 ((rd_T26 l0_5 x4_1).f2), .slice A109_3 ((rd_T26 l0_5 x4_1).f3).length c109_3, .slice A109_4 ((rd_T26 l0_5 x4_1).f4).length c109_4, .slice A109_5 ((rd_T26 l0_5 x4_1).f5).length c109_5]] rfl (by (try simp only [List.map_toArray, List.map_cons, List.map_nil]); first | done | rfl | (simp only [List.length_drop, List.length_take]; rfl)) ?_; (with_reducible refine (ih k1 (by have := HK1.out; omega) ((rd_T26 l0_5 x4_1).f0) ((rd_T26 l0_5 x4_1).f1) ((rd_T26 l0_5 x4_1).f2) _ _ ((rd_T26 l0_5 x4_1).f3) _ _ ((rd_T26 l0_5 x4_1).f4) _ _ ((rd_T26 l0_5 x4_1).f5) t110 _ ?side1 ?side2 ?side3 ?side4 ?side5 ?side6 A5.out).mono ?_); (case side1 => repeat (first | exact (Kd.C_below HR109_3.out HB.out) | (with_reducible refine Kd.C_alloc ?_ _) | (with_reducible refine Kd.C_drewN ?_ _) | (with_reducible refine Kd.C_drew ?_))); (case side2 => exact HC109_3.out); (case side3 => repeat (first | exact (Kd.C_below HR109_4.out HB.out) | (with_reducible refine Kd.C_alloc ?_ _) | (with_reducible refine Kd.C_drewN ?_ _) | (with_reducible refine Kd.C_drew ?_))); (case side4 => exact HC109_4.out); (case side5 => repeat (first | exact (Kd.C_below HR109_5.out HB.out) | (with_reducible refine Kd.C_alloc ?_ _) | (with_reducible refine Kd.C_drewN ?_ _) | (with_reducible refine Kd.C_drew ?_))); (case side6 => exact HC109_5.out); rintro e w7 ⟨rfl, hb⟩; refine ⟨_, rfl, ?_⟩; have n0_ := Aside0.mk (blk_below (g := gb108) (o := .cells #[.int .i64 a0_0, .string a0_1, .int .i64 a0_2, .slice A0_3 l0_3.length c0_3, .slice A0_4 l0_4.length c0_4, .slice (some ad109) l0_5.length c0_5] 26 (0, 0)) (by (with_reducible repeat (first | refine blk_drewN ?_ _ | refine blk_drew ?_ | refine blk_alloc ?_ _)); exact BK108.out) hb); have n1_ := Aside0.mk (below_step (by repeat (first | (with_reducible first | exact HB.out | apply below_alloc | apply pw_below_drewN | apply below_drew1 | refine below_set ?_ GE108.out) | exact HB.out)) hb); clear BK108; clear HB; have BK108 := n0_; have HB := n1_; clear n0_ n1_; (try clear hb); (try clear hb2); (try clear hk); (try clear hi)))
          go_roundg k1
          case measure => have := HK1.out; omega
          case rel => exact ⟨(wrap64 (x3_1 + t110)), (wrap64 (x4_1 + 1)), (by first | rfl | (simp; done) | (simp [*]; done)), (by first | rfl | (simp; done) | (simp [*]; done)), H', ⟨by have := HK1.out; omega⟩, ⟨by (with_reducible repeat (first | refine blk_drewN ?_ _ | refine blk_drew ?_ | refine blk_alloc ?_ _)); exact BK108.out⟩, ⟨by repeat (first | (with_reducible first | exact HB.out | apply below_alloc | apply pw_below_drewN | apply below_drew1 | refine below_set ?_ GE108.out) | exact HB.out)⟩⟩
        · rw [if_neg c4] at H
          exact absurd H (by simp)
      · rw [if_neg c3] at H
        have c3b0 : decide (x4_1 < (l0_5.length : Int)) = false := decide_eq_false c3
        clear c3
        obtain rfl := Option.some.inj H
        have hcz8_0 : wr.cell? ⟨gb108, 0, none⟩ = some (.int .i64 a0_0) := (blk_cell BK108.out 0).trans rfl
        have hcz8_1 : wr.cell? ⟨gb108, 1, none⟩ = some (.string a0_1) := (blk_cell BK108.out 1).trans rfl
        have hcz8_2 : wr.cell? ⟨gb108, 2, none⟩ = some (.int .i64 a0_2) := (blk_cell BK108.out 2).trans rfl
        have hcz8_3 : wr.cell? ⟨gb108, 3, none⟩ = some (.slice A0_3 l0_3.length c0_3) := (blk_cell BK108.out 3).trans rfl
        have hcz8_4 : wr.cell? ⟨gb108, 4, none⟩ = some (.slice A0_4 l0_4.length c0_4) := (blk_cell BK108.out 4).trans rfl
        have hcz8_5 : wr.cell? ⟨gb108, 5, none⟩ = some (.slice A0_5 l0_5.length c0_5) := (blk_cell BK108.out 5).trans rfl
        have hfz8_0 := blk_frozen BK108.out 0
        have hfz8_1 := blk_frozen BK108.out 1
        have hfz8_2 := blk_frozen BK108.out 2
        have hfz8_3 := blk_frozen BK108.out 3
        have hfz8_4 := blk_frozen BK108.out 4
        have hfz8_5 := blk_frozen BK108.out 5
        go_wp2
        go_ret
        exact ⟨by first | rfl | (simp [errW_none, errW_some] <;> rfl) | (simp [*, errW_none, errW_some] <;> rfl), by repeat (first | (with_reducible first | exact HB.out | apply below_alloc | apply pw_below_drewN | apply below_drew1 | refine below_set ?_ GE108.out) | exact HB.out)⟩
end Go.Proofs.YtmlcaecknocpoaaDoor.Pr
namespace Go.Proofs.YtmlcaecknocpoaaDoor.Pr
open Go.RowKit Go.Proofs.YtmlcaecknocpoaaDoorW.PrintWords Go.Proofs.YtmlcaecknocpoaaDoorW.PrintLast Go.Proofs.YtmlcaecknocpoaaDoorW.PrintMore
attribute [local go_sem] max2_int min2_int max_two min_two max_three min_three max_four min_four   
set_option linter.unusedVariables false
set_option linter.unusedSimpArgs false
end Go.Proofs.YtmlcaecknocpoaaDoor.Pr
namespace Go.Proofs.YtmlcaecknocpoaaDoor.Pr
open Go.RowKit Go.Proofs.YtmlcaecknocpoaaDoorW.PrintWords Go.Proofs.YtmlcaecknocpoaaDoorW.PrintLast Go.Proofs.YtmlcaecknocpoaaDoorW.PrintMore
attribute [local go_sem] max2_int min2_int max_two min_two max_three min_three max_four min_four   
set_option linter.unusedVariables false
set_option linter.unusedSimpArgs false
end Go.Proofs.YtmlcaecknocpoaaDoor.Pr
namespace Go.Proofs.YtmlcaecknocpoaaDoor.Pr
open Go.RowKit Go.Proofs.YtmlcaecknocpoaaDoorW.PrintWords Go.Proofs.YtmlcaecknocpoaaDoorW.PrintLast Go.Proofs.YtmlcaecknocpoaaDoorW.PrintMore
attribute [local go_sem] max2_int min2_int max_two min_two max_three min_three max_four min_four   
set_option linter.unusedVariables false
set_option linter.unusedSimpArgs false
end Go.Proofs.YtmlcaecknocpoaaDoor.Pr
namespace Go.Proofs.YtmlcaecknocpoaaDoor.Pr
open Go.RowKit Go.Proofs.YtmlcaecknocpoaaDoorW.PrintWords Go.Proofs.YtmlcaecknocpoaaDoorW.PrintLast Go.Proofs.YtmlcaecknocpoaaDoorW.PrintMore
attribute [local go_sem] max2_int min2_int max_two min_two max_three min_three max_four min_four   
set_option linter.unusedVariables false
set_option linter.unusedSimpArgs false
end Go.Proofs.YtmlcaecknocpoaaDoor.Pr
namespace Go.Proofs.YtmlcaecknocpoaaDoor.Pr
open Go.RowKit Go.Proofs.YtmlcaecknocpoaaDoorW.PrintWords Go.Proofs.YtmlcaecknocpoaaDoorW.PrintLast Go.Proofs.YtmlcaecknocpoaaDoorW.PrintMore
attribute [local go_sem] max2_int min2_int max_two min_two max_three min_three max_four min_four   
set_option linter.unusedVariables false
set_option linter.unusedSimpArgs false
end Go.Proofs.YtmlcaecknocpoaaDoor.Pr
namespace Go.Proofs.YtmlcaecknocpoaaDoor.Pr
open Go.RowKit Go.Proofs.YtmlcaecknocpoaaDoorW.PrintWords Go.Proofs.YtmlcaecknocpoaaDoorW.PrintLast Go.Proofs.YtmlcaecknocpoaaDoorW.PrintMore
attribute [local go_sem] max2_int min2_int max_two min_two max_three min_three max_four min_four   
set_option linter.unusedVariables false
set_option linter.unusedSimpArgs false
end Go.Proofs.YtmlcaecknocpoaaDoor.Pr
namespace Go.Proofs.YtmlcaecknocpoaaDoor.Pr
open Go.RowKit Go.Proofs.YtmlcaecknocpoaaDoorW.PrintWords Go.Proofs.YtmlcaecknocpoaaDoorW.PrintLast Go.Proofs.YtmlcaecknocpoaaDoorW.PrintMore
attribute [local go_sem] max2_int min2_int max_two min_two max_three min_three max_four min_four   
set_option linter.unusedVariables false
set_option linter.unusedSimpArgs false
end Go.Proofs.YtmlcaecknocpoaaDoor.Pr
namespace Go.Proofs.YtmlcaecknocpoaaDoor.Pr
open Go.RowKit Go.Proofs.YtmlcaecknocpoaaDoorW.PrintWords Go.Proofs.YtmlcaecknocpoaaDoorW.PrintLast Go.Proofs.YtmlcaecknocpoaaDoorW.PrintMore
attribute [local go_sem] max2_int min2_int max_two min_two max_three min_three max_four min_four   
set_option linter.unusedVariables false
set_option linter.unusedSimpArgs false
end Go.Proofs.YtmlcaecknocpoaaDoor.Pr
namespace Go.Proofs.YtmlcaecknocpoaaDoor.Pr
open Go.RowKit Go.Proofs.YtmlcaecknocpoaaDoorW.PrintWords Go.Proofs.YtmlcaecknocpoaaDoorW.PrintLast Go.Proofs.YtmlcaecknocpoaaDoorW.PrintMore
attribute [local go_sem] max2_int min2_int max_two min_two max_three min_three max_four min_four   
set_option linter.unusedVariables false
set_option linter.unusedSimpArgs false
end Go.Proofs.YtmlcaecknocpoaaDoor.Pr
namespace Go.Proofs.YtmlcaecknocpoaaDoor.It
set_option linter.unusedVariables false
set_option linter.unusedSimpArgs false
open Go Go.RowKit Go.Shelf Go.Proofs.YtmlcaecknocpoaaDoorW.PrintWords Go.Proofs.YtmlcaecknocpoaaDoorW.PrintLast Go.Proofs.YtmlcaecknocpoaaDoor.Pr Go.Proofs.YtmlcaecknocpoaaDoor.Sp
theorem len_sizes (l : List S26) : l.length ≤ sizes l := by
  induction l with
  | nil => simp
  | cons x l ih => simp only [List.length_cons, sizes]; rw [size_eq]; omega
theorem drop_rd (l : List S26) (j : Nat) (h : j < l.length) : l.drop j = rd_T26 l j :: l.drop (j + 1) := by
  rw [List.drop_eq_getElem_cons h]
  simp [rd_T26, List.getD, h]
def NmOk (x : S26) : Prop := ∀ y ∈ nodes x, (∀ t ∈ y.f3, t.f1.size ≤ 9223372036854775807) ∧ (∀ b ∈ y.f4, b.f0.size ≤ 9223372036854775807) ∧ y.f4.length ≤ 9223372036854775807 ∧ y.f3.length ≤ 9223372036854775807
theorem NmOk.child {x : S26} (h : NmOk x) (j : Nat) (hj : j < x.f5.length) : NmOk (rd_T26 x.f5 j) := fun y hy => h y (by
  rw [nodes_eq]
  refine .tail _ (nodes_mem (x := rd_T26 x.f5 j) ?_ hy)
  simp [rd_T26, List.getD, hj])
theorem NmOk.self {x : S26} (h : NmOk x) : (∀ t ∈ x.f3, t.f1.size ≤ 9223372036854775807) ∧ (∀ b ∈ x.f4, b.f0.size ≤ 9223372036854775807) ∧ x.f4.length ≤ 9223372036854775807 ∧ x.f3.length ≤ 9223372036854775807 := h x (by rw [nodes_eq]; exact .head _)
theorem refSize_ev (s : Nat) : ∀ x : S26, size x ≤ s → size x ≤ 4611686018427387904 → Ev (fun k => chalklineref06_Size.f k x.f0 x.f1 x.f2 x.f3 x.f4 x.f5) (size x : Int) := by
  induction s with
  | zero => intro x h; rw [size_eq] at h; omega
  | succ s ih =>
    rintro ⟨k, nm, n, ts, bs, l⟩ hs hb
    simp only [size] at hs hb
    have hlen := len_sizes l
    have loop : ∀ d j : Nat, j + d = l.length → Ev (fun K => chalklineref06_Size.l0 K ((1 + sizes (l.take j) : Nat) : Int) (j : Int) k nm n ts bs l) ((1 + sizes l : Nat) : Int) := by
      intro d
      induction d with
      | zero =>
        intro j hj
        have e : j = l.length := by omega
        subst e
        refine Ev.step (f := fun _ => some ((1 + sizes l : Nat) : Int)) (fun K => ?_) (Ev.now _)
        simp only [chalklineref06_Size.l0]
        rw [if_neg (by omega), List.take_length]
      | succ d ihd =>
        intro j hj
        have hlt : j < l.length := by omega
        have hc := sizes_take l j hlt
        refine Ev.step (f := fun K => (chalklineref06_Size.f K (rd_T26 l (j : Int)).f0 (rd_T26 l (j : Int)).f1 (rd_T26 l (j : Int)).f2 (rd_T26 l (j : Int)).f3 (rd_T26 l (j : Int)).f4 (rd_T26 l (j : Int)).f5).bind fun t110 => chalklineref06_Size.l0 K (wrap64 (((1 + sizes (l.take j) : Nat) : Int) + t110)) ((j + 1 : Nat) : Int) k nm n ts bs l) (fun K => ?_) (Ev.bind (ih _ (by omega) (by omega)) ?_)
        · simp only [chalklineref06_Size.l0]
          rw [if_pos (by omega), if_pos (by omega), wrap_one j (by omega)]
        · have h := ihd (j + 1) (by omega)
          rw [show wrap64 (((1 + sizes (l.take j) : Nat) : Int) + (size (rd_T26 l j) : Int)) = ((1 + sizes (l.take (j + 1)) : Nat) : Int) by rw [wrap_in (by omega)]; omega]
          exact h
    refine Ev.step (f := fun K => chalklineref06_Size.l0 K 1 0 k nm n ts bs l) (fun K => rfl) ?_
    simpa [size, sizes] using loop l.length 0 (by omega)
end Go.Proofs.YtmlcaecknocpoaaDoor.It
namespace Go.Proofs.YtmlcaecknocpoaaDoor.It
open Go Go.RowKit Go.Shelf Go.Proofs.YtmlcaecknocpoaaDoorW.PrintWords Go.Proofs.YtmlcaecknocpoaaDoorW.PrintLast Go.Proofs.YtmlcaecknocpoaaDoor.Pr Go.Proofs.YtmlcaecknocpoaaDoor.Sp
theorem nil22 (w : World) (n c : Nat) (ad : Addr) : (binOp BinOp.eql 22 (.slice (some ad) n c) (.slice none 0 0)).run Tryd.prog w = .ok (.bool false) w := by kernel_rfl
theorem nil22' (w : World) (n c : Nat) : (binOp BinOp.eql 22 (.slice none n c) (.slice none 0 0)).run Tryd.prog w = .ok (.bool true) w := by kernel_rfl
theorem nil23 (w : World) (n c : Nat) (ad : Addr) : (binOp BinOp.eql 23 (.slice (some ad) n c) (.slice none 0 0)).run Tryd.prog w = .ok (.bool false) w := by kernel_rfl
theorem nil23' (w : World) (n c : Nat) : (binOp BinOp.eql 23 (.slice none n c) (.slice none 0 0)).run Tryd.prog w = .ok (.bool true) w := by kernel_rfl
attribute [local go_sem] nil22 nil22' nil23 nil23'
end Go.Proofs.YtmlcaecknocpoaaDoor.It
namespace Go.Proofs.YtmlcaecknocpoaaDoor.Pr
open Go.RowKit Go.Proofs.YtmlcaecknocpoaaDoorW.PrintWords Go.Proofs.YtmlcaecknocpoaaDoorW.PrintLast Go.Proofs.YtmlcaecknocpoaaDoorW.PrintMore
attribute [local go_sem] max2_int min2_int max_two min_two max_three min_three max_four min_four   
set_option linter.unusedVariables false
set_option linter.unusedSimpArgs false
end Go.Proofs.YtmlcaecknocpoaaDoor.Pr
namespace Go.Proofs.YtmlcaecknocpoaaDoor.It
open Go Go.RowKit Go.Shelf Go.Proofs.YtmlcaecknocpoaaDoorW.PrintWords Go.Proofs.YtmlcaecknocpoaaDoorW.PrintLast Go.Proofs.YtmlcaecknocpoaaDoor.Pr Go.Proofs.YtmlcaecknocpoaaDoor.Sp
def Agree (ok : Nat → Prop) (w w1 : World) : Prop := Below 0 w w1 ∧ ∀ k, ok k → k < w.heap.size → w1.heap[k]? = w.heap[k]?
theorem Agree.of_below {ok : Nat → Prop} {w w1 : World} {n : Nat} (h : Below n w w1) (hok : ∀ k, ok k → k < w.heap.size → k < n) : Agree ok w w1 := ⟨h.mono (Nat.zero_le _), fun k hk hl => h.block k (hok k hk hl)⟩
theorem Agree.trans {ok ok' : Nat → Prop} {w w1 w2 : World} (h : Agree ok w w1) (k : Agree ok' w1 w2) (hok : ∀ i, ok i → i < w.heap.size → ok' i) : Agree ok w w2 :=
  ⟨h.1.trans k.1, fun i hi hl => (k.2 i (hok i hi hl) (Nat.lt_of_lt_of_le hl h.1.size)).trans (h.2 i hi hl)⟩
theorem Agree.refl (ok : Nat → Prop) (w : World) : Agree ok w w := ⟨Below.refl _ _, fun _ _ _ => rfl⟩
theorem Agree.mono {ok ok' : Nat → Prop} {w w1 : World} (h : Agree ok w w1) (hok : ∀ i, ok' i → i < w.heap.size → ok i) : Agree ok' w w1 := ⟨h.1, fun i hi hl => h.2 i (hok i hi hl) hl⟩
theorem Agree.below {w w1 : World} (h : Agree (fun _ => True) w w1) : Below w.heap.size w w1 := ⟨h.1.os, h.1.tape, h.1.output, h.1.size, fun k hk => h.2 k trivial hk⟩
def Lies (ok : Nat → Prop) (w : World) (y : S26) (B3 : Option Addr) (d3 : Nat) (B4 : Option Addr) (d4 : Nat) (B5 : Option Addr) (d5 : Nat) : Prop := ∀ w1, Agree ok w w1 → At w1 y B3 d3 B4 d4 B5 d5
theorem Lies.at_ {ok : Nat → Prop} {w : World} {y : S26} {B3 : Option Addr} {d3 : Nat} {B4 : Option Addr} {d4 : Nat} {B5 : Option Addr} {d5 : Nat} (h : Lies ok w y B3 d3 B4 d4 B5 d5) : At w y B3 d3 B4 d4 B5 d5 := h w (Agree.refl _ _)
theorem Lies.move {ok ok' : Nat → Prop} {w w1 : World} {y : S26} {B3 : Option Addr} {d3 : Nat} {B4 : Option Addr} {d4 : Nat} {B5 : Option Addr} {d5 : Nat} (h : Lies ok w y B3 d3 B4 d4 B5 d5) (ha : Agree ok w w1) (hok : ∀ i, ok i → i < w.heap.size → ok' i) : Lies ok' w1 y B3 d3 B4 d4 B5 d5 :=
  fun w2 h2 => h w2 (ha.trans h2 hok)
theorem Lies.mono {ok ok' : Nat → Prop} {w : World} {y : S26} {B3 : Option Addr} {d3 : Nat} {B4 : Option Addr} {d4 : Nat} {B5 : Option Addr} {d5 : Nat} (h : Lies ok w y B3 d3 B4 d4 B5 d5) (hok : ∀ i, ok i → i < w.heap.size → ok' i) : Lies ok' w y B3 d3 B4 d4 B5 d5 := h.move (Agree.refl _ _) hok
def cl (y : S26) (B3 : Option Addr) (d3 : Nat) (B4 : Option Addr) (d4 : Nat) (B5 : Option Addr) (d5 : Nat) : List Value :=
  [.int .i64 y.f0, .string y.f1, .int .i64 y.f2, .slice B3 y.f3.length d3, .slice B4 y.f4.length d4, .slice B5 y.f5.length d5]
theorem At.K {w : World} {y : S26} {B3 : Option Addr} {d3 : Nat} {B4 : Option Addr} {d4 : Nat} {B5 : Option Addr} {d5 : Nat} (h : At w y B3 d3 B4 d4 B5 d5) : k26.K w y (cl y B3 d3 B4 d4 B5 d5) := k26_mk w y h.l3 h.g3 h.l4 h.g4 h.l5 h.g5
def Row (ok : Nat → Prop) (w : World) (base : Nat) (v : Value) (l : List S26) : Prop :=
  OwnRow (fun y cs => ∀ w1, Agree (fun k => ok k ∧ some k ≠ v.ownBlock) w w1 → k26.K w1 y cs) 26 6 w base v l
theorem Row.nil (ok : Nat → Prop) (w : World) (base : Nat) : Row ok w base (.slice none 0 0) [] := OwnRow.none_ _ _ _ _ _
theorem own_lt {w : World} {base : Nat} {e : TypeId} {size n : Nat} {v : Value} {xs : List Value} (h : w.ownsRow base e size v n xs) (k : Nat) (hk : v.ownBlock = some k) : k < w.heap.size ∧ base ≤ k := by
  rcases h.2 with ⟨rfl, _⟩ | ⟨g, cap, cur, rfl, hg, hh, r⟩
  · simp [Value.ownBlock] at hk
  · have : g = k := by simpa [Value.ownBlock] using hk
    subst this
    exact ⟨(Array.getElem?_eq_some_iff.1 hh).1, hg⟩
theorem Row.lt {ok : Nat → Prop} {w : World} {base : Nat} {v : Value} {l : List S26} (h : Row ok w base v l) (k : Nat) (hk : v.ownBlock = some k) : k < w.heap.size ∧ base ≤ k := by
  obtain ⟨inner, ho, _⟩ := h
  exact own_lt ho k hk
theorem Row.move {ok ok' : Nat → Prop} {w w1 : World} {base : Nat} {v : Value} {l : List S26} (h : Row ok w base v l) (ha : Agree ok w w1) (hv : ∀ k, v.ownBlock = some k → ok k) (hok : ∀ i, ok i → i < w.heap.size → ok' i) : Row ok' w1 base v l := by
  obtain ⟨inner, ho, hr⟩ := h
  refine ⟨inner, own_move ho (fun k hk => ha.2 k (hv k hk) (own_lt ho k hk).1), hr.imp_ (fun y cs hy w2 h2 => hy w2 ?_)⟩
  exact (ha.mono (fun i hi _ => hi.1)).trans h2 (fun i hi hl => ⟨hok i hi.1 hl, hi.2⟩)
theorem Row.slice {ok : Nat → Prop} {w : World} {base : Nat} {v : Value} {l : List S26} (h : Row ok w base v l) : ∃ A c, v = .slice A l.length c := by
  obtain ⟨A, c, e, _⟩ := OwnRow.slice_ h
  exact ⟨A, c, e⟩
theorem Row.reads {ok : Nat → Prop} {w w1 : World} {base : Nat} {A : Option Addr} {c : Nat} {l : List S26} (h : Row ok w base (.slice A l.length c) l) (ha : Agree ok w w1) (hv : ∀ k, (Value.slice A l.length c).ownBlock = some k → ok k) : l.length ≤ c ∧ Kd.C k26 w1 A l.length l := by
  have h1 := h.move (ok' := ok) ha hv (fun _ hi _ => hi)
  obtain ⟨A', c', e, hl, hr⟩ := OwnRow.reads h1
  injection e with e1 e2 e3
  subst e1
  refine ⟨by omega, hr.1, hr.2.1, fun hp => ?_⟩
  obtain ⟨ad, ea, hc⟩ := hr.2.2 hp
  refine ⟨ad, ea, fun j p hj => ?_⟩
  obtain ⟨cs, hcs, hR, hcell⟩ := hc j p hj
  exact ⟨cs, hcs, hR w1 (Agree.refl _ _), hcell⟩
theorem Row.snoc {ok : Nat → Prop} {W w1 : World} {base : Nat} {v v1 : Value} {l : List S26} {R : S26 → List Value → Prop}
    (hR : ∀ y cs, R y cs → ∀ w2, Agree (fun k => ok k ∧ some k ≠ v.ownBlock) W w2 → k26.K w2 y cs)
    (ho : OwnRow R 26 6 w1 base v1 l) (hb : Below 0 W w1) (hg : W.grownBy w1 v.ownBlock) (hat : v1.ownBlock = v.ownBlock ∨ ∃ b, v1.ownBlock = some b ∧ W.heap.size ≤ b) : Row ok w1 base v1 l := by
  obtain ⟨inner, ho, hr⟩ := ho
  refine ⟨inner, ho, hr.imp_ (fun y cs hy w2 h2 => hR y cs hy w2 ?_)⟩
  refine ⟨hb.trans h2.1, fun k hk hl => ?_⟩
  have h3 : some k ≠ v1.ownBlock := by
    rcases hat with e | ⟨b, e, hle⟩
    · rw [e]; exact hk.2
    · rw [e]; intro h; injection h with h; omega
  exact (h2.2 k ⟨hk.1, h3⟩ (Nat.lt_of_lt_of_le hl hb.size)).trans (hg.block k hl hk.2)
end Go.Proofs.YtmlcaecknocpoaaDoor.It
namespace Go.Proofs.YtmlcaecknocpoaaDoor.It
open Go Go.RowKit Go.Shelf Go.Proofs.YtmlcaecknocpoaaDoorW.PrintWords Go.Proofs.YtmlcaecknocpoaaDoorW.PrintLast Go.Proofs.YtmlcaecknocpoaaDoor.Pr Go.Proofs.YtmlcaecknocpoaaDoor.Sp
attribute [local go_sem ↓] Go.wp_at_zero Go.wp_at_succ
theorem six {w : World} {B : Nat} {a0 a1 a2 a3 a4 a5 : Value} (h : w.heap[B]? = some (.cells #[a0, a1, a2, a3, a4, a5] 26 (0, 0))) :
    w.cell? ⟨B, 0, none⟩ = some a0 ∧ w.cell? ⟨B, 1, none⟩ = some a1 ∧ w.cell? ⟨B, 2, none⟩ = some a2 ∧ w.cell? ⟨B, 3, none⟩ = some a3 ∧ w.cell? ⟨B, 4, none⟩ = some a4 ∧ w.cell? ⟨B, 5, none⟩ = some a5 :=
  ⟨(blk_cell h 0).trans rfl, (blk_cell h 1).trans rfl, (blk_cell h 2).trans rfl, (blk_cell h 3).trans rfl, (blk_cell h 4).trans rfl, (blk_cell h 5).trans rfl⟩
structure Two (w0 W w : World) (k : Int) (nm : ByteArray) (n : Int) (ts : List S47) (bs : List S42) (l : List S26) (A3 : Option Addr) (c3 : Nat) (A4 : Option Addr) (c4 : Nat) (A5 : Option Addr) (c5 : Nat) : Prop where
  a : w.heap[W.heap.size]? = some (.cells #[.int .i64 k, .string nm, .int .i64 n, .slice A3 ts.length c3, .slice A4 bs.length c4, .slice A5 l.length c5] 26 (0, 0))
  b : w.heap[W.heap.size + 1]? = some (.cells #[.int .i64 0, .string ⟨#[]⟩, .int .i64 0, .slice none 0 0, .slice none 0 0, .slice none 0 0] 26 (0, 0))
  h0 : Below w0.heap.size w0 w
  h : Below W.heap.size W w
  s : W.heap.size + 2 ≤ w.heap.size
theorem Two.below {w0 W w w1 : World} {k : Int} {nm : ByteArray} {n : Int} {ts : List S47} {bs : List S42} {l : List S26} {A3 : Option Addr} {c3 : Nat} {A4 : Option Addr} {c4 : Nat} {A5 : Option Addr} {c5 : Nat} (h : Two w0 W w k nm n ts bs l A3 c3 A4 c4 A5 c5) (hb : Below w.heap.size w w1) : Two w0 W w1 k nm n ts bs l A3 c3 A4 c4 A5 c5 :=
  ⟨blk_below hb h.a, blk_below hb h.b, h.h0.trans (hb.mono h.h0.size), h.h.trans (hb.mono h.h.size), Nat.le_trans h.s hb.size⟩
theorem Two.drew {w0 W w : World} {k : Int} {nm : ByteArray} {n : Int} {ts : List S47} {bs : List S42} {l : List S26} {A3 : Option Addr} {c3 : Nat} {A4 : Option Addr} {c4 : Nat} {A5 : Option Addr} {c5 : Nat} (h : Two w0 W w k nm n ts bs l A3 c3 A4 c4 A5 c5) : Two w0 W w.drew k nm n ts bs l A3 c3 A4 c4 A5 c5 := h.below (below_drew (Below.refl _ _))
theorem Two.alloc {w0 W w : World} {k : Int} {nm : ByteArray} {n : Int} {ts : List S47} {bs : List S42} {l : List S26} {A3 : Option Addr} {c3 : Nat} {A4 : Option Addr} {c4 : Nat} {A5 : Option Addr} {c5 : Nat} (h : Two w0 W w k nm n ts bs l A3 c3 A4 c4 A5 c5) (o : Obj) : Two w0 W (w.alloc o) k nm n ts bs l A3 c3 A4 c4 A5 c5 := h.below ((Below.refl _ _).alloc (Nat.le_refl _) _)
theorem set_one {w : World} {B : Nat} {cs : Array Value} {t : TypeId} (h : w.heap[B]? = some (.cells cs t (0, 0))) (j : Nat) (v : Value) : (w.setCell ⟨B, j, none⟩ v).heap[B]? = some (.cells (cs.setIfInBounds j v) t (0, 0)) := by
  simp [World.setCell, Array.getElem?_modify, h]
theorem Agree.set (w : World) (B j : Nat) (v : Value) (ok : Nat → Prop) (h : ∀ k, ok k → k ≠ B) : Agree ok w (w.setCell ⟨B, j, none⟩ v) :=
  ⟨(Below.refl _ _).setCell (Nat.zero_le _) _, fun k hk _ => Below.heap_setCell _ _ _ _ (h k hk)⟩
theorem Agree.six (w : World) (B : Nat) (v0 v1 v2 v3 v4 v5 : Value) (ok : Nat → Prop) (h : ∀ k, ok k → k ≠ B) :
    Agree ok w ((((((w.setCell ⟨B, 0, none⟩ v0).setCell ⟨B, 1, none⟩ v1).setCell ⟨B, 2, none⟩ v2).setCell ⟨B, 3, none⟩ v3).setCell ⟨B, 4, none⟩ v4).setCell ⟨B, 5, none⟩ v5) :=
  (((((Agree.set w B 0 v0 ok h).trans (Agree.set _ B 1 v1 ok h) (fun _ h _ => h)).trans (Agree.set _ B 2 v2 ok h) (fun _ h _ => h)).trans (Agree.set _ B 3 v3 ok h) (fun _ h _ => h)).trans (Agree.set _ B 4 v4 ok h) (fun _ h _ => h)).trans (Agree.set _ B 5 v5 ok h) (fun _ h _ => h)
theorem Agree.alloc (w : World) (o : Obj) (ok : Nat → Prop) : Agree ok w (w.alloc o) := Agree.of_below ((Below.refl w.heap.size w).alloc (Nat.le_refl _) o) (fun _ _ h => h)
theorem Agree.low {ok : Nat → Prop} {n : Nat} {w w1 : World} (h : Agree ok w w1) (hok : ∀ k, k < n → ok k) (hn : n ≤ w.heap.size) : Below n w w1 :=
  ⟨h.1.os, h.1.tape, h.1.output, h.1.size, fun k hk => h.2 k (hok k hk) (by omega)⟩
theorem Two.agree {w0 W w w1 : World} {k : Int} {nm : ByteArray} {n : Int} {ts : List S47} {bs : List S42} {l : List S26} {A3 : Option Addr} {c3 : Nat} {A4 : Option Addr} {c4 : Nat} {A5 : Option Addr} {c5 : Nat} (h : Two w0 W w k nm n ts bs l A3 c3 A4 c4 A5 c5) (hw : w0.heap.size ≤ W.heap.size) (ha : Agree (fun i => i < W.heap.size + 2) w w1) : Two w0 W w1 k nm n ts bs l A3 c3 A4 c4 A5 c5 := by
  have hs := h.s
  exact ⟨(ha.2 _ (by omega) (by omega)).trans h.a, (ha.2 _ (by omega) (by omega)).trans h.b, h.h0.trans (ha.low (fun k hk => by omega) (by omega)), h.h.trans (ha.low (fun k hk => by omega) (by omega)), Nat.le_trans h.s ha.1.size⟩
structure Three (w0 W wx : World) (B : Nat) (V3 : Option Addr) (e3 : Nat) (V4 : Option Addr) (e4 : Nat) (k : Int) (nm : ByteArray) (n : Int) (ts : List S47) (bs : List S42) (l : List S26) (A3 : Option Addr) (c3 : Nat) (A4 : Option Addr) (c4 : Nat) (A5 : Option Addr) (c5 : Nat) (k1 : Int) (nm1 : ByteArray) (n1 : Int) : Prop where
  two : Two w0 W wx k nm n ts bs l A3 c3 A4 c4 A5 c5
  hB : W.heap.size + 2 ≤ B
  box : wx.heap[B]? = some (.cells #[.int .i64 k1, .string nm1, .int .i64 n1, .slice V3 ts.length e3, .slice V4 bs.length e4, .slice none 0 0] 26 (0, 0))
  r3 : ∀ w1, Agree (fun i => W.heap.size + 2 ≤ i ∧ i ≠ B) wx w1 → ts.length ≤ e3 ∧ Kd.C k47 w1 V3 ts.length ts
  r4 : ∀ w1, Agree (fun i => W.heap.size + 2 ≤ i ∧ i ≠ B) wx w1 → bs.length ≤ e4 ∧ Kd.C k42 w1 V4 bs.length bs
def okR (w0 W : World) (B i : Nat) : Prop := (i < w0.heap.size ∨ W.heap.size + 2 ≤ i) ∧ i ≠ B
structure LI (w0 W wx wr : World) (B : Nat) (V3 : Option Addr) (e3 : Nat) (V4 : Option Addr) (e4 : Nat) (ts : List S47) (bs : List S42) (k1 : Int) (nm1 : ByteArray) (n1 : Int) (b : Bool) (l : List S26) (j : Nat) (v : Value) : Prop where
  ag : Agree (fun i => i ≠ B) wx wr
  box : wr.heap[B]? = some (.cells #[.int .i64 k1, .string nm1, .int .i64 n1, .slice V3 ts.length e3, .slice V4 bs.length e4, v] 26 (0, 0))
  row : Row (okR w0 W B) wr wx.heap.size v (rights (l.take j) b)
theorem okR_own {w0 W wx wr : World} {B : Nat} {v : Value} {l : List S26} (hs : W.heap.size + 2 ≤ wx.heap.size) (hB : B < wx.heap.size) (h : Row (okR w0 W B) wr wx.heap.size v l) : ∀ k, v.ownBlock = some k → okR w0 W B k := fun k hk => by
  have := (h.lt k hk).2
  exact ⟨by omega, by omega⟩
theorem rights_take (l : List S26) (b : Bool) (j : Nat) (hj : j < l.length) : rights (l.take (j + 1)) b = rights (l.take j) b ++ [right (rd_T26 l j) b] := by
  induction l generalizing j with
  | nil => simp at hj
  | cons x l ih =>
    cases j with
    | zero => simp [rights, rd_T26]
    | succ j =>
      have := ih j (by simpa using hj)
      have e : rd_T26 (x :: l) ((j + 1 : Nat) : Int) = rd_T26 l j := by simp [rd_T26]
      rw [e]
      simp only [List.take_succ_cons, rights, this, List.cons_append]
theorem LI.up {w0 W wx wr : World} {B : Nat} {V3 : Option Addr} {e3 : Nat} {V4 : Option Addr} {e4 : Nat} {ts : List S47} {bs : List S42} {k1 : Int} {nm1 : ByteArray} {n1 : Int} {b : Bool} {l : List S26} {j : Nat} {v : Value} (h : LI w0 W wx wr B V3 e3 V4 e4 ts bs k1 nm1 n1 b l j v) (hs : W.heap.size + 2 ≤ wx.heap.size) (hB : B < wx.heap.size) {w5 : World} (g : Below wr.heap.size wr w5) : LI w0 W wx w5 B V3 e3 V4 e4 ts bs k1 nm1 n1 b l j v :=
  ⟨h.ag.trans (Agree.of_below g (fun _ _ h => h)) (fun _ h _ => h), blk_below g h.box, h.row.move (Agree.of_below g (fun _ _ h => h)) (okR_own hs hB h.row) (fun _ h _ => h)⟩
theorem LI.step {w0 W wx wr : World} {B : Nat} {V3 : Option Addr} {e3 : Nat} {V4 : Option Addr} {e4 : Nat} {ts : List S47} {bs : List S42} {k1 : Int} {nm1 : ByteArray} {n1 : Int} {b : Bool} {l : List S26} {j : Nat} {v : Value} (h : LI w0 W wx wr B V3 e3 V4 e4 ts bs k1 nm1 n1 b l j v) (hj : j < l.length) (hs : W.heap.size + 2 ≤ wx.heap.size) (hB : B < wx.heap.size)
    {v1 : Value} {w1 : World} (ho : OwnRow (fun y cs => ∀ w1, Agree (fun k => okR w0 W B k ∧ some k ≠ v.ownBlock) wr w1 → k26.K w1 y cs) 26 6 w1 wx.heap.size v1 (rights (l.take j) b ++ [right (rd_T26 l j) b])) (hb : Below 0 wr w1) (hg : wr.grownBy w1 v.ownBlock) (hat : v1.ownBlock = v.ownBlock ∨ ∃ b, v1.ownBlock = some b ∧ wr.heap.size ≤ b) :
    LI w0 W wx (w1.setCell ⟨B, 5, none⟩ v1) B V3 e3 V4 e4 ts bs k1 nm1 n1 b l (j + 1) v1 := by
  have hv : some B ≠ v.ownBlock := fun e => by have := (h.row.lt B e.symm).2; omega
  have hr : Row (okR w0 W B) w1 wx.heap.size v1 (rights (l.take (j + 1)) b) := by
    rw [rights_take l b j hj]
    exact Row.snoc (fun y cs h => h) ho hb hg hat
  refine ⟨?_, ?_, hr.move (Agree.set w1 B 5 v1 (okR w0 W B) (fun _ h => h.2)) (okR_own hs hB hr) (fun _ h _ => h)⟩
  · refine ⟨(h.ag.1.trans hb).trans ((Below.refl _ _).setCell (Nat.zero_le _) _), fun k hk hl => ?_⟩
    rw [Below.heap_setCell _ _ _ _ (by simpa using hk), hg.block k (Nat.lt_of_lt_of_le hl h.ag.1.size) (fun e => by have := (h.row.lt k e.symm).2; omega)]
    exact h.ag.2 k hk hl
  · have hb1 : w1.heap[B]? = _ := (hg.block B (Array.getElem?_eq_some_iff.1 h.box).1 hv).trans h.box
    exact (set_one hb1 5 v1).trans rfl
theorem LI.fin {w0 W wx wr : World} {B : Nat} {V3 : Option Addr} {e3 : Nat} {V4 : Option Addr} {e4 : Nat} {k : Int} {nm : ByteArray} {n : Int} {ts : List S47} {bs : List S42} {l : List S26} {A3 : Option Addr} {c3 : Nat} {A4 : Option Addr} {c4 : Nat} {A5 : Option Addr} {c5 : Nat} {k1 : Int} {nm1 : ByteArray} {n1 : Int} {b : Bool} {A : Option Addr} {c : Nat}
    (T : Three w0 W wx B V3 e3 V4 e4 k nm n ts bs l A3 c3 A4 c4 A5 c5 k1 nm1 n1) (h : LI w0 W wx wr B V3 e3 V4 e4 ts bs k1 nm1 n1 b l l.length (.slice A (rights l b).length c)) (hw : w0.heap.size ≤ W.heap.size) {wf : World} (hf : Agree (fun i => i ≠ W.heap.size + 1) wr wf) :
    Below W.heap.size W wf ∧ Lies (fun i => i < w0.heap.size ∨ W.heap.size ≤ i) wf ⟨k1, nm1, n1, ts, bs, rights l b⟩ V3 e3 V4 e4 A c := by
  have hB := T.hB
  have hs := T.two.s
  have hlt : B < wx.heap.size := (Array.getElem?_eq_some_iff.1 T.box).1
  have hsz := h.ag.1.size
  refine ⟨T.two.h.trans ((h.ag.low (fun k hk => by omega) (by omega)).trans (hf.low (fun k hk => by omega) (by omega))), fun w1 h1 => ?_⟩
  have hrow := h.row
  rw [List.take_length] at hrow
  have a1 : Agree (fun i => W.heap.size + 2 ≤ i ∧ i ≠ B) wx w1 := ((h.ag.mono (ok' := fun i => W.heap.size + 2 ≤ i ∧ i ≠ B) (fun i hi _ => hi.2)).trans hf (fun i hi _ => by omega)).trans h1 (fun i hi _ => .inr (by omega))
  have a2 : Agree (okR w0 W B) wr w1 := (hf.mono (ok' := okR w0 W B) (fun i hi _ => by unfold okR at hi; omega)).trans h1 (fun i hi _ => by unfold okR at hi; omega)
  obtain ⟨l3, g3⟩ := T.r3 w1 a1
  obtain ⟨l4, g4⟩ := T.r4 w1 a1
  obtain ⟨l5, g5⟩ := hrow.reads a2 (okR_own hs hlt hrow)
  exact ⟨l3, g3, l4, g4, l5, g5⟩
theorem Three.set {w0 W wx w1 : World} {B : Nat} {V3 : Option Addr} {e3 : Nat} {V4 : Option Addr} {e4 : Nat} {k : Int} {nm : ByteArray} {n : Int} {ts : List S47} {bs : List S42} {l : List S26} {A3 : Option Addr} {c3 : Nat} {A4 : Option Addr} {c4 : Nat} {A5 : Option Addr} {c5 : Nat} {k1 : Int} {nm1 : ByteArray} {n1 : Int}
    (T : Three w0 W wx B V3 e3 V4 e4 k nm n ts bs l A3 c3 A4 c4 A5 c5 k1 nm1 n1) (hw : w0.heap.size ≤ W.heap.size) (ha : Agree (fun i => i ≠ B) wx w1) (k2 : Int) (nm2 : ByteArray) (n2 : Int)
    (hbox : w1.heap[B]? = some (.cells #[.int .i64 k2, .string nm2, .int .i64 n2, .slice V3 ts.length e3, .slice V4 bs.length e4, .slice none 0 0] 26 (0, 0))) : Three w0 W w1 B V3 e3 V4 e4 k nm n ts bs l A3 c3 A4 c4 A5 c5 k2 nm2 n2 :=
  ⟨T.two.agree hw (ha.mono (fun i hi _ => by have := T.hB; omega)), T.hB, hbox, fun w2 h2 => T.r3 w2 ((ha.mono (fun i hi _ => hi.2)).trans h2 (fun _ h _ => h)), fun w2 h2 => T.r4 w2 ((ha.mono (fun i hi _ => hi.2)).trans h2 (fun _ h _ => h))⟩
theorem forms_rd (l : List S26) (h : forms l = true) (j : Nat) (hj : j < l.length) : form (rd_T26 l j) = true := by
  induction l generalizing j with
  | nil => simp at hj
  | cons x l ih =>
    simp only [forms, Bool.and_eq_true] at h
    cases j with
    | zero => simpa [rd_T26] using h.1
    | succ j => simpa [rd_T26] using ih h.2 j (by simpa using hj)
theorem leaf_at (w : World) (k : Int) : At w (leaf k) none 0 none 0 none 0 := ⟨Nat.le_refl _, Kd.C_nil _ _, Nat.le_refl _, Kd.C_nil _ _, Nat.le_refl _, Kd.C_nil _ _⟩
end Go.Proofs.YtmlcaecknocpoaaDoor.It
namespace Go.Proofs.YtmlcaecknocpoaaDoor.It
open Go Go.RowKit Go.Shelf Go.Proofs.YtmlcaecknocpoaaDoorW.PrintWords Go.Proofs.YtmlcaecknocpoaaDoorW.PrintLast Go.Proofs.YtmlcaecknocpoaaDoor.Pr Go.Proofs.YtmlcaecknocpoaaDoor.Sp
open Go.ChangeMaps Go.MapKept Go.WideShapes
theorem key9 (s : ByteArray) (hs : s.size ≤ maxLen) : keyOf Tryd.prog 9 (.string s) = some (.string s.data.toList) := by
  have h9 := Tryd.underlying9
  simp [keyOf, mapKey, h9, hs]
theorem keyed9 : Maps.Keyed Tryd.prog 9 := Maps.string_keyed Tryd.underlying9
def cnt (l : List ByteArray) (s : ByteArray) : Nat := (l.filter fun x => decide (x = s)).length
def MapIs (w : World) (M n : Nat) (bl : List ByteArray) : Prop :=
  ∃ D : DataW Unit, w.ownsMap Tryd.prog 9 (plainElem Tryd.prog 3) M n D ∧ ∀ s : ByteArray, D.atKey (.string s.data.toList) (.lit (.int .i64 0)) = .lit (.int .i64 (cnt bl s))
theorem MapIs.look {w : World} {M n : Nat} {bl : List ByteArray} (h : MapIs w M n bl) (s : ByteArray) (hs : s.size ≤ maxLen) : (Instr.lookup 68 (.map (some M)) (.string s) false).run Tryd.prog w = .ok (.int .i64 (cnt bl s)) w := by
  obtain ⟨D, ho, hD⟩ := h
  obtain ⟨c, hrun, hat, _⟩ := ho.lookup_int keyed9 Tryd.underlying68 Tryd.underlying3 (by kernel_rfl) (key := .string s) (kl := .string s.data.toList) (key9 s hs)
  have e := (hD s).symm.trans hat
  have e2 : ((cnt bl s : Nat) : Int) = c := (Lit.int.inj (DataW.lit.inj e)).2
  rw [hrun, ← e2]
theorem MapIs.kept {w w1 : World} {M n : Nat} {bl : List ByteArray} (h : MapIs w M n bl) {row : Option Nat} (hg : w.grownBy w1 row) (hne : some M ≠ row) : MapIs w1 M n bl := by
  obtain ⟨D, ho, hD⟩ := h
  exact ⟨D, ho.kept hg hne, hD⟩
theorem MapIs.congr {w : World} {M n : Nat} {bl bl' : List ByteArray} (h : MapIs w M n bl) (hc : ∀ s, cnt bl' s = cnt bl s) : MapIs w M n bl' := by
  obtain ⟨D, ho, hD⟩ := h
  exact ⟨D, ho, fun s => by rw [hc s]; exact hD s⟩
theorem MapIs.put {w : World} {M n : Nat} {bl bl' : List ByteArray} (h : MapIs w M n bl) (hn : n < maxLen) (s : ByteArray) (hs : s.size ≤ maxLen) (hI : I64 (cnt bl' s : Nat)) (hc : ∀ s', s' ≠ s → cnt bl' s' = cnt bl s') :
    ∃ w1, (Instr.mapUpdate 68 (.map (some M)) (.string s) (.int .i64 (cnt bl' s))).run Tryd.prog w = .ok () w1 ∧ MapIs w1 M (n + 1) bl' ∧ w.grownBy w1 (some M) := by
  obtain ⟨D, ho, hD⟩ := h
  obtain ⟨w1, hrun, h1, h2⟩ := ho.update keyed9 Tryd.underlying68 hn (key9 s hs) (plainElem_int Tryd.underlying3 hI)
  refine ⟨w1, hrun, ⟨_, h1, fun s' => ?_⟩, h2⟩
  by_cases e : s' = s
  · subst e
    exact Maps.atKey_put_same ho.isMap (by simp [WideAt.IsKeyLit]) _ _
  · rw [Maps.atKey_put_other (fun he => e ?_), hD s', hc s' e]
    have he' := Lit.string.inj he
    cases s'; cases s
    simpa [Array.toList_inj] using he'
theorem MapIs.new (w : World) : MapIs (w.alloc (.map #[] 0)) w.heap.size 0 [] := ⟨.map [], World.ownsMap_made w _ _ _, fun _ => rfl⟩
end Go.Proofs.YtmlcaecknocpoaaDoor.It
namespace Go.Proofs.YtmlcaecknocpoaaDoor.Pr
open Go.RowKit Go.Proofs.YtmlcaecknocpoaaDoorW.PrintWords Go.Proofs.YtmlcaecknocpoaaDoorW.PrintLast Go.Proofs.YtmlcaecknocpoaaDoorW.PrintMore
attribute [local go_sem] max2_int min2_int max_two min_two max_three min_three max_four min_four   
set_option linter.unusedVariables false
set_option linter.unusedSimpArgs false
end Go.Proofs.YtmlcaecknocpoaaDoor.Pr
namespace Go.Proofs.YtmlcaecknocpoaaDoor.Pr
open Go.RowKit Go.Proofs.YtmlcaecknocpoaaDoorW.PrintWords Go.Proofs.YtmlcaecknocpoaaDoorW.PrintLast Go.Proofs.YtmlcaecknocpoaaDoorW.PrintMore
attribute [local go_sem] max2_int min2_int max_two min_two max_three min_three max_four min_four   
set_option linter.unusedVariables false
set_option linter.unusedSimpArgs false
end Go.Proofs.YtmlcaecknocpoaaDoor.Pr
namespace Go.Proofs.YtmlcaecknocpoaaDoor.It
open Go Go.RowKit Go.Shelf Go.Proofs.YtmlcaecknocpoaaDoorW.PrintWords Go.Proofs.YtmlcaecknocpoaaDoorW.PrintLast Go.Proofs.YtmlcaecknocpoaaDoor.Pr Go.Proofs.YtmlcaecknocpoaaDoor.Sp
mutual
def nb : S26 → Nat
  | ⟨_, _, _, _, bs, l⟩ => bs.length + nbs l
def nbs : List S26 → Nat
  | [] => 0
  | x :: l => nb x + nbs l
end
mutual
def nt : S26 → Nat
  | ⟨_, _, _, ts, _, l⟩ => ts.length + nts l
def nts : List S26 → Nat
  | [] => 0
  | x :: l => nt x + nts l
end
structure FS (w0 W : World) (Bm Bo Bl M n : Nat) (bl out : List ByteArray) (v : Value) : Prop where
  bm : W.heap[Bm]? = some (.cells #[.map (some M)] 68 (0, 0))
  bo : W.heap[Bo]? = some (.cells #[v] 32 (0, 0))
  bf : W.heap[Bl]? = some (.cells #[.func (.func 55) #[] #[.pointer (some ⟨Bm, 0, none⟩), .pointer (some ⟨Bo, 0, none⟩), .pointer (some ⟨Bl, 0, none⟩)]] 69 (0, 0))
  map : MapIs W M n bl
  row : Kd.R Kd.string 9 W w0.heap.size (fun _ => True) v out
  h0 : Below w0.heap.size w0 W
  gM : w0.heap.size ≤ M
  gO : w0.heap.size ≤ Bo
theorem MapIs.obj {w : World} {M n : Nat} {bl : List ByteArray} (h : MapIs w M n bl) : ∃ es c, w.heap[M]? = some (.map es c) := by
  obtain ⟨D, ⟨es, c, h, _⟩, _⟩ := h
  exact ⟨es, c, h⟩
theorem MapIs.ne {w : World} {M n : Nat} {bl : List ByteArray} (h : MapIs w M n bl) {B : Nat} {cs : Array Value} {t : TypeId} (hB : w.heap[B]? = some (.cells cs t (0, 0))) : B ≠ M := by
  rintro rfl
  obtain ⟨es, c, h⟩ := h.obj
  rw [h] at hB
  cases hB
theorem FS.up {w0 W W1 : World} {Bm Bo Bl M n : Nat} {bl out : List ByteArray} {v : Value} (h : FS w0 W Bm Bo Bl M n bl out v) (g : Below W.heap.size W W1) : FS w0 W1 Bm Bo Bl M n bl out v := by
  have hg : W.grownBy W1 none := ⟨g.os, g.tape, g.output, g.size, fun k hk _ => g.block k hk⟩
  exact ⟨blk_below g h.bm, blk_below g h.bo, blk_below g h.bf, h.map.kept hg (by simp), Kd.R_below h.row g, h.h0.trans (g.mono h.h0.size), h.gM, h.gO⟩
theorem MapIs.setCell {w : World} {M n : Nat} {bl : List ByteArray} (h : MapIs w M n bl) {a : Addr} (ha : M ≠ a.block) (u : Value) : MapIs (w.setCell a u) M n bl := by
  obtain ⟨D, ho, hD⟩ := h
  exact ⟨D, ho.setCell ha u, hD⟩
end Go.Proofs.YtmlcaecknocpoaaDoor.It
namespace Go.Proofs.YtmlcaecknocpoaaDoor.It
open Go Go.RowKit Go.Shelf Go.Proofs.YtmlcaecknocpoaaDoorW.PrintWords Go.Proofs.YtmlcaecknocpoaaDoorW.PrintLast Go.Proofs.YtmlcaecknocpoaaDoor.Pr Go.Proofs.YtmlcaecknocpoaaDoor.Sp
def Kept26 (W w : World) : Prop := ∀ (B : Nat) (cs : Array Value), W.heap[B]? = some (.cells cs 26 (0, 0)) → w.heap[B]? = some (.cells cs 26 (0, 0))
theorem Kept26.refl (W : World) : Kept26 W W := fun _ _ h => h
theorem Kept26.below {W w w1 : World} (h : Kept26 W w) (g : Below w.heap.size w w1) : Kept26 W w1 := fun B cs hB => blk_below g (h B cs hB)
theorem Kept26.trans {W w w1 : World} (h : Kept26 W w) (g : Kept26 w w1) : Kept26 W w1 := fun B cs hB => g B cs (h B cs hB)
theorem Kept26.map {W w w1 : World} {M n : Nat} {bl : List ByteArray} (h : Kept26 W w) (hm : MapIs w M n bl) (g : w.grownBy w1 (some M)) : Kept26 W w1 := fun B cs hB =>
  (g.block B (Array.getElem?_eq_some_iff.1 (h B cs hB)).1 (fun e => hm.ne (h B cs hB) (by injection e))).trans (h B cs hB)
def BoxAt (W w : World) (k : Int) (nm : ByteArray) (nn : Int) (ts : List S47) (bs : List S42) (l : List S26) (A3 : Option Addr) (c3 : Nat) (A4 : Option Addr) (c4 : Nat) (A5 : Option Addr) (c5 : Nat) : Prop :=
  Kept26 (W.alloc (.cells #[.int .i64 k, .string nm, .int .i64 nn, .slice A3 ts.length c3, .slice A4 bs.length c4, .slice A5 l.length c5] 26)) w
theorem BoxAt.box {W w : World} {k : Int} {nm : ByteArray} {nn : Int} {ts : List S47} {bs : List S42} {l : List S26} {A3 : Option Addr} {c3 : Nat} {A4 : Option Addr} {c4 : Nat} {A5 : Option Addr} {c5 : Nat} (h : BoxAt W w k nm nn ts bs l A3 c3 A4 c4 A5 c5) :
    w.heap[W.heap.size]? = some (.cells #[.int .i64 k, .string nm, .int .i64 nn, .slice A3 ts.length c3, .slice A4 bs.length c4, .slice A5 l.length c5] 26 (0, 0)) := h _ _ (heap_new W _)
theorem BoxAt.kept {W w : World} {k : Int} {nm : ByteArray} {nn : Int} {ts : List S47} {bs : List S42} {l : List S26} {A3 : Option Addr} {c3 : Nat} {A4 : Option Addr} {c4 : Nat} {A5 : Option Addr} {c5 : Nat} (h : BoxAt W w k nm nn ts bs l A3 c3 A4 c4 A5 c5) : Kept26 W w :=
  ((Kept26.refl W).below ((Below.refl _ W).alloc (Nat.le_refl _) _)).trans h
end Go.Proofs.YtmlcaecknocpoaaDoor.It
namespace Go.Proofs.YtmlcaecknocpoaaDoor.Pr
open Go.RowKit Go.Proofs.YtmlcaecknocpoaaDoorW.PrintWords Go.Proofs.YtmlcaecknocpoaaDoorW.PrintLast Go.Proofs.YtmlcaecknocpoaaDoorW.PrintMore
attribute [local go_sem] max2_int min2_int max_two min_two max_three min_three max_four min_four   
set_option linter.unusedVariables false
set_option linter.unusedSimpArgs false
end Go.Proofs.YtmlcaecknocpoaaDoor.Pr
namespace Go.Proofs.YtmlcaecknocpoaaDoor.Pr
open Go.RowKit Go.Proofs.YtmlcaecknocpoaaDoorW.PrintWords Go.Proofs.YtmlcaecknocpoaaDoorW.PrintLast Go.Proofs.YtmlcaecknocpoaaDoorW.PrintMore
attribute [local go_sem] max2_int min2_int max_two min_two max_three min_three max_four min_four   
set_option linter.unusedVariables false
set_option linter.unusedSimpArgs false
end Go.Proofs.YtmlcaecknocpoaaDoor.Pr
namespace Go.Proofs.YtmlcaecknocpoaaDoor.Pr
open Go.RowKit Go.Proofs.YtmlcaecknocpoaaDoorW.PrintWords Go.Proofs.YtmlcaecknocpoaaDoorW.PrintLast Go.Proofs.YtmlcaecknocpoaaDoorW.PrintMore
attribute [local go_sem] max2_int min2_int max_two min_two max_three min_three max_four min_four   
set_option linter.unusedVariables false
set_option linter.unusedSimpArgs false
attribute [local go_sem high] eqA42 eqA47
end Go.Proofs.YtmlcaecknocpoaaDoor.Pr
namespace Go.Proofs.YtmlcaecknocpoaaDoor.Pr
open Go.RowKit Go.Proofs.YtmlcaecknocpoaaDoorW.PrintWords Go.Proofs.YtmlcaecknocpoaaDoorW.PrintLast Go.Proofs.YtmlcaecknocpoaaDoorW.PrintMore
attribute [local go_sem] max2_int min2_int max_two min_two max_three min_three max_four min_four   
set_option linter.unusedVariables false
set_option linter.unusedSimpArgs false
end Go.Proofs.YtmlcaecknocpoaaDoor.Pr
namespace Go.Proofs.YtmlcaecknocpoaaDoor.Pr
open Go.RowKit Go.Proofs.YtmlcaecknocpoaaDoorW.PrintWords Go.Proofs.YtmlcaecknocpoaaDoorW.PrintLast Go.Proofs.YtmlcaecknocpoaaDoorW.PrintMore
attribute [local go_sem] max2_int min2_int max_two min_two max_three min_three max_four min_four   
set_option linter.unusedVariables false
set_option linter.unusedSimpArgs false
end Go.Proofs.YtmlcaecknocpoaaDoor.Pr
namespace Go.Proofs.YtmlcaecknocpoaaDoor.Pr
open Go.RowKit Go.Proofs.YtmlcaecknocpoaaDoorW.PrintWords Go.Proofs.YtmlcaecknocpoaaDoorW.PrintLast Go.Proofs.YtmlcaecknocpoaaDoorW.PrintMore
attribute [local go_sem] max2_int min2_int max_two min_two max_three min_three max_four min_four   
set_option linter.unusedVariables false
set_option linter.unusedSimpArgs false
mutual
def chalklineref06_Weigh.j1 : Nat → Int → Int → Int → ByteArray → Int → List (S47) → List (S42) → List (S26) → Option (Int)
  | 0, _, _, _, _, _, _, _, _ => none
  | k + 1, x1, x5, x102000, x102001, x102002, x102003, x102004, x102005 => chalklineref06_Weigh.l1 k x1 x5 0 x102000 x102001 x102002 x102003 x102004 x102005
def chalklineref06_Weigh.j3 : Nat → Int → Int → Int → ByteArray → Int → List (S47) → List (S42) → List (S26) → Option (Int)
  | 0, _, _, _, _, _, _, _, _ => none
  | k + 1, x1, x5, x102000, x102001, x102002, x102003, x102004, x102005 => chalklineref06_Weigh.l2 k x1 x5 0 x102000 x102001 x102002 x102003 x102004 x102005
def chalklineref06_Weigh.l2 : Nat → Int → Int → Int → Int → ByteArray → Int → List (S47) → List (S42) → List (S26) → Option (Int)
  | 0, _, _, _, _, _, _, _, _, _ => none
  | k + 1, x1, x5, x8, x102000, x102001, x102002, x102003, x102004, x102005 => if x8 < (x102005.length : Int) then (if x5 ≤ x1 then (if 0 ≤ x8 then ((chalklineref06_Weigh.f k ((rd_T26 x102005 x8).f0) ((rd_T26 x102005 x8).f1) ((rd_T26 x102005 x8).f2) ((rd_T26 x102005 x8).f3) ((rd_T26 x102005 x8).f4) ((rd_T26 x102005 x8).f5) x1).bind fun t105 => (chalklineref06_Weigh.l2 k x1 (wrap64 (x5 + t105)) (wrap64 (x8 + 1)) x102000 x102001 x102002 x102003 x102004 x102005)) else (none)) else (some x5)) else (some x5)
def chalklineref06_Weigh.l1 : Nat → Int → Int → Int → Int → ByteArray → Int → List (S47) → List (S42) → List (S26) → Option (Int)
  | 0, _, _, _, _, _, _, _, _, _ => none
  | k + 1, x1, x5, x7, x102000, x102001, x102002, x102003, x102004, x102005 => if x7 < (x102004.length : Int) then (if x5 ≤ x1 then (if 0 ≤ x7 then (chalklineref06_Weigh.l1 k x1 (wrap64 (x5 + (((rd_T42 x102004 x7).f0).size : Int))) (wrap64 (x7 + 1)) x102000 x102001 x102002 x102003 x102004 x102005) else (none)) else (chalklineref06_Weigh.j3 k x1 x5 x102000 x102001 x102002 x102003 x102004 x102005)) else (chalklineref06_Weigh.j3 k x1 x5 x102000 x102001 x102002 x102003 x102004 x102005)
def chalklineref06_Weigh.l0 : Nat → Int → Int → Int → Int → ByteArray → Int → List (S47) → List (S42) → List (S26) → Option (Int)
  | 0, _, _, _, _, _, _, _, _, _ => none
  | k + 1, x1, x5, x6, x102000, x102001, x102002, x102003, x102004, x102005 => if x6 < (x102003.length : Int) then (if x5 ≤ x1 then (if 0 ≤ x6 then (chalklineref06_Weigh.l0 k x1 (wrap64 (x5 + (((rd_T47 x102003 x6).f1).size : Int))) (wrap64 (x6 + 1)) x102000 x102001 x102002 x102003 x102004 x102005) else (none)) else (chalklineref06_Weigh.j1 k x1 x5 x102000 x102001 x102002 x102003 x102004 x102005)) else (chalklineref06_Weigh.j1 k x1 x5 x102000 x102001 x102002 x102003 x102004 x102005)
def chalklineref06_Weigh.f : Nat → Int → ByteArray → Int → List (S47) → List (S42) → List (S26) → Int → Option (Int)
  | 0, _, _, _, _, _, _, _ => none
  | k + 1, a0_0, a0_1, a0_2, l0_3, l0_4, l0_5, a1 => chalklineref06_Weigh.l0 k a1 (wrap64 ((wrap64 ((wrap64 (1 + (a0_1.size : Int))) + (l0_3.length : Int))) + (l0_4.length : Int))) 0 a0_0 a0_1 a0_2 l0_3 l0_4 l0_5
end
set_option maxHeartbeats 8000000 in
set_option maxRecDepth 100000 in
theorem chalklineref06_Weigh.calls (k : Nat) : ∀ (a0_0 : Int) (a0_1 : ByteArray) (a0_2 : Int) (A0_3 : Option Addr) (c0_3 : Nat) (l0_3 : List (S47)) (A0_4 : Option Addr) (c0_4 : Nat) (l0_4 : List (S42)) (A0_5 : Option Addr) (c0_5 : Nat) (l0_5 : List (S26)) (a1 : Int) (r : Int) (w : World) (hr0_3 : Kd.C k47 w A0_3 l0_3.length l0_3) (hc0_3 : l0_3.length ≤ c0_3) (hr0_4 : Kd.C k42 w A0_4 l0_4.length l0_4) (hc0_4 : l0_4.length ≤ c0_4) (hr0_5 : Kd.C k26 w A0_5 l0_5.length l0_5) (hc0_5 : l0_5.length ≤ c0_5) (h : chalklineref06_Weigh.f k a0_0 a0_1 a0_2 l0_3 l0_4 l0_5 a1 = some r),
    Calls Tryd.prog 51 #[.agg #[.int .i64 a0_0, .string a0_1, .int .i64 a0_2, .slice A0_3 l0_3.length c0_3, .slice A0_4 l0_4.length c0_4, .slice A0_5 l0_5.length c0_5], .int .i64 a1] w fun e w' => e = .returned (.int .i64 r) ∧ Below w.heap.size w w' := by
  induction k using Nat.strongRecOn with
  | _ k ih =>
  intro a0_0 a0_1 a0_2 A0_3 c0_3 l0_3 A0_4 c0_4 l0_4 A0_5 c0_5 l0_5 a1 r w hr0_3 hc0_3 hr0_4 hc0_4 hr0_5 hc0_5 h
  cases k with
  | zero => exact absurd h (by simp [chalklineref06_Weigh.f])
  | succ k =>
  simp only [chalklineref06_Weigh.f] at h
  have hu26 := Tryd.underlying26
  have HR0_3 := Aside0.mk hr0_3
  have HC0_3 := Aside0.mk hc0_3
  clear hr0_3 hc0_3
  have HR0_4 := Aside0.mk hr0_4
  have HC0_4 := Aside0.mk hc0_4
  clear hr0_4 hc0_4
  have HR0_5 := Aside0.mk hr0_5
  have HC0_5 := Aside0.mk hc0_5
  clear hr0_5 hc0_5
  have HB := Aside0.mk (Below.refl w.heap.size w)
  have H : (chalklineref06_Weigh.l0 k a1 (wrap64 ((wrap64 ((wrap64 (1 + (a0_1.size : Int))) + (l0_3.length : Int))) + (l0_4.length : Int))) 0 a0_0 a0_1 a0_2 l0_3 l0_4 l0_5) = some r := h
  clear h
  have HC3 := Aside0.mk H
  clear H
  go_enter Tryd.func51, Tryd.ntmps51
  go_upto_block 0 with (first | ((with_reducible refine gate_dst (N := 2) rfl ?_); refine box_event ?hg (N := 2) ?hd (cs := #[.int .i64 a0_0, .string a0_1, .int .i64 a0_2, .slice A0_3 l0_3.length c0_3, .slice A0_4 l0_4.length c0_4, .slice A0_5 l0_5.length c0_5]) (t := 26) ?hr ?_; (case hd => rfl); (case hg => rfl); (case hr => first | (go_simp; done) | (go_simp; rfl)); intro gb101 hg w4 hbox hb; have n0_ := Aside0.mk (below_step (by repeat (first | (with_reducible first | exact HB.out | apply below_alloc | apply pw_below_drewN | apply below_drew1) | exact HB.out)) hb); have n1_ := Aside0.mk (hbox); have n2_ := Aside0.mk ((by rw [hg]; exact (below_size (by repeat (first | (with_reducible first | exact HB.out | apply below_alloc | apply pw_below_drewN | apply below_drew1) | exact HB.out))) : w.heap.size ≤ gb101)); have n3_ := Aside0.mk ((by rw [hg]; exact (below_size (by repeat (first | (with_reducible first | exact HB.out | apply below_alloc | apply pw_below_drewN | apply below_drew1) | exact HB.out))) : w.heap.size ≤ gb101)); clear HB; have HB := n0_; have BK101 := n1_; have GW101 := n2_; have GE101 := n3_; clear n0_ n1_ n2_ n3_; clear hb hbox hg; have hcz5_0 : w4.cell? ⟨gb101, 0, none⟩ = some (.int .i64 a0_0) := (blk_cell BK101.out 0).trans rfl; have hcz5_1 : w4.cell? ⟨gb101, 1, none⟩ = some (.string a0_1) := (blk_cell BK101.out 1).trans rfl; have hcz5_2 : w4.cell? ⟨gb101, 2, none⟩ = some (.int .i64 a0_2) := (blk_cell BK101.out 2).trans rfl; have hcz5_3 : w4.cell? ⟨gb101, 3, none⟩ = some (.slice A0_3 l0_3.length c0_3) := (blk_cell BK101.out 3).trans rfl; have hcz5_4 : w4.cell? ⟨gb101, 4, none⟩ = some (.slice A0_4 l0_4.length c0_4) := (blk_cell BK101.out 4).trans rfl; have hcz5_5 : w4.cell? ⟨gb101, 5, none⟩ = some (.slice A0_5 l0_5.length c0_5) := (blk_cell BK101.out 5).trans rfl; have hfz5_0 := blk_frozen BK101.out 0; have hfz5_1 := blk_frozen BK101.out 1; have hfz5_2 := blk_frozen BK101.out 2; have hfz5_3 := blk_frozen BK101.out 3; have hfz5_4 := blk_frozen BK101.out 4; have hfz5_5 := blk_frozen BK101.out 5))
  (try simp only [Act.put, List.setIfInBounds_toArray, List.set_cons_zero, List.set_cons_succ])
  go_cut [5] (fun v5 wc => ∃ (kq : Nat) (x5_2 : Int), v5 = .int .i64 x5_2 ∧ Aside0 (chalklineref06_Weigh.j1 kq a1 x5_2 a0_0 a0_1 a0_2 l0_3 l0_4 l0_5 = some r) ∧ Aside0 (kq ≤ k) ∧ Aside0 (wc.heap[gb101]? = some (.cells #[.int .i64 a0_0, .string a0_1, .int .i64 a0_2, (.slice A0_3 l0_3.length c0_3), (.slice A0_4 l0_4.length c0_4), (.slice A0_5 l0_5.length c0_5)] 26 (0, 0))) ∧ Aside0 (Below w.heap.size w wc))
  case first =>
    have H := HC3.out
    clear HC3
    have H' := Aside0.mk H
    clear H
    go_wp2
    go_loopg [5, 6] k (fun kq v5 v6 w' => ∃ (x5_1 : Int) (x6_1 : Int), v5 = .int .i64 x5_1 ∧ v6 = .int .i64 x6_1 ∧ Aside0 (chalklineref06_Weigh.l0 kq a1 x5_1 x6_1 a0_0 a0_1 a0_2 l0_3 l0_4 l0_5 = some r) ∧ Aside0 (kq ≤ k) ∧ Aside0 (w'.heap[gb101]? = some (.cells #[.int .i64 a0_0, .string a0_1, .int .i64 a0_2, (.slice A0_3 l0_3.length c0_3), (.slice A0_4 l0_4.length c0_4), (.slice A0_5 l0_5.length c0_5)] 26 (0, 0))) ∧ Aside0 (Below w.heap.size w w'))
    case atStart => exact ⟨(wrap64 ((wrap64 ((wrap64 (1 + (a0_1.size : Int))) + (l0_3.length : Int))) + (l0_4.length : Int))), (0), (by first | rfl | (simp; done) | (simp [*]; done)), (by first | rfl | (simp; done) | (simp [*]; done)), H', ⟨Nat.le_refl _⟩, ⟨by (with_reducible repeat (first | refine blk_drewN ?_ _ | refine blk_drew ?_ | refine blk_alloc ?_ _)); exact BK101.out⟩, ⟨by repeat (first | (with_reducible first | exact HB.out | apply below_alloc | apply pw_below_drewN | apply below_drew1 | refine below_set ?_ GE101.out) | exact HB.out)⟩⟩
    case round =>
      clear H'
      try clear p2
      try clear c5
      try clear hcz5_0
      try clear hcz5_1
      try clear hcz5_2
      try clear hcz5_3
      try clear hcz5_4
      try clear hcz5_5
      try clear hfz5_0
      try clear hfz5_1
      try clear hfz5_2
      try clear hfz5_3
      try clear hfz5_4
      try clear hfz5_5
      obtain ⟨x5_1, x6_1, rfl, rfl, HA, HK1, BK101, HB⟩ := hrel
      cases gk with
      | zero => exact absurd HA.out (by simp [chalklineref06_Weigh.l0])
      | succ k1 =>
        have H := HA.out
        clear HA
        simp only [chalklineref06_Weigh.l0] at H
        by_cases c6 : x6_1 < (l0_3.length : Int)
        · rw [if_pos c6] at H
          have c6b0 : decide (x6_1 < (l0_3.length : Int)) = true := decide_eq_true c6
          clear c6
          (first | rw [c6b0] | (simp only [i64_w, i32_w]; rw [c6b0]) | skip)
          by_cases c7 : x5_1 ≤ a1
          · rw [if_pos c7] at H
            have c7b0 : decide (x5_1 ≤ a1) = true := decide_eq_true c7
            clear c7
            by_cases c8 : 0 ≤ x6_1
            · rw [if_pos c8] at H
              have c8b0 : decide (0 ≤ x6_1) = true := decide_eq_true c8
              clear c8
              have H' := Aside0.mk H
              clear H
              have hcz9_0 : wr.cell? ⟨gb101, 0, none⟩ = some (.int .i64 a0_0) := (blk_cell BK101.out 0).trans rfl
              have hcz9_1 : wr.cell? ⟨gb101, 1, none⟩ = some (.string a0_1) := (blk_cell BK101.out 1).trans rfl
              have hcz9_2 : wr.cell? ⟨gb101, 2, none⟩ = some (.int .i64 a0_2) := (blk_cell BK101.out 2).trans rfl
              have hcz9_3 : wr.cell? ⟨gb101, 3, none⟩ = some (.slice A0_3 l0_3.length c0_3) := (blk_cell BK101.out 3).trans rfl
              have hcz9_4 : wr.cell? ⟨gb101, 4, none⟩ = some (.slice A0_4 l0_4.length c0_4) := (blk_cell BK101.out 4).trans rfl
              have hcz9_5 : wr.cell? ⟨gb101, 5, none⟩ = some (.slice A0_5 l0_5.length c0_5) := (blk_cell BK101.out 5).trans rfl
              have hfz9_0 := blk_frozen BK101.out 0
              have hfz9_1 := blk_frozen BK101.out 1
              have hfz9_2 := blk_frozen BK101.out 2
              have hfz9_3 := blk_frozen BK101.out 3
              have hfz9_4 := blk_frozen BK101.out 4
              have hfz9_5 := blk_frozen BK101.out 5
              have p102 : 0 ≤ (x6_1 : Int) := of_decide_eq_true (by first | (with_reducible assumption) | assumption)
              have q102 : x6_1 < (l0_3.length : Int) := of_decide_eq_true (by first | (with_reducible assumption) | assumption)
              obtain ⟨ad102, e102, hx102_0, hx102_1, hx102_2⟩ := at_T47 HR0_3.out x6_1 p102 q102
              cases e102
              replace hx102_0 := (HB.out.cell (World.block_lt_of_cell? w _ hx102_0)).trans hx102_0
              replace hx102_1 := (HB.out.cell (World.block_lt_of_cell? w _ hx102_1)).trans hx102_1
              replace hx102_2 := (HB.out.cell (World.block_lt_of_cell? w _ hx102_2)).trans hx102_2
              replace p102 := eq_true p102
              replace q102 := eq_true q102
              go_wp2
              go_roundg k1
              case measure => have := HK1.out; omega
              case rel => exact ⟨(wrap64 (x5_1 + (((rd_T47 l0_3 x6_1).f1).size : Int))), (wrap64 (x6_1 + 1)), (by first | rfl | (simp; done) | (simp [*]; done)), (by first | rfl | (simp; done) | (simp [*]; done)), H', ⟨by have := HK1.out; omega⟩, ⟨by (with_reducible repeat (first | refine blk_drewN ?_ _ | refine blk_drew ?_ | refine blk_alloc ?_ _)); exact BK101.out⟩, ⟨by repeat (first | (with_reducible first | exact HB.out | apply below_alloc | apply pw_below_drewN | apply below_drew1 | refine below_set ?_ GE101.out) | exact HB.out)⟩⟩
            · rw [if_neg c8] at H
              exact absurd H (by simp)
          · rw [if_neg c7] at H
            have c7b0 : decide (x5_1 ≤ a1) = false := decide_eq_false c7
            clear c7
            have H' := Aside0.mk H
            clear H
            have hcz10_0 : wr.cell? ⟨gb101, 0, none⟩ = some (.int .i64 a0_0) := (blk_cell BK101.out 0).trans rfl
            have hcz10_1 : wr.cell? ⟨gb101, 1, none⟩ = some (.string a0_1) := (blk_cell BK101.out 1).trans rfl
            have hcz10_2 : wr.cell? ⟨gb101, 2, none⟩ = some (.int .i64 a0_2) := (blk_cell BK101.out 2).trans rfl
            have hcz10_3 : wr.cell? ⟨gb101, 3, none⟩ = some (.slice A0_3 l0_3.length c0_3) := (blk_cell BK101.out 3).trans rfl
            have hcz10_4 : wr.cell? ⟨gb101, 4, none⟩ = some (.slice A0_4 l0_4.length c0_4) := (blk_cell BK101.out 4).trans rfl
            have hcz10_5 : wr.cell? ⟨gb101, 5, none⟩ = some (.slice A0_5 l0_5.length c0_5) := (blk_cell BK101.out 5).trans rfl
            have hfz10_0 := blk_frozen BK101.out 0
            have hfz10_1 := blk_frozen BK101.out 1
            have hfz10_2 := blk_frozen BK101.out 2
            have hfz10_3 := blk_frozen BK101.out 3
            have hfz10_4 := blk_frozen BK101.out 4
            have hfz10_5 := blk_frozen BK101.out 5
            go_wp2
            go_meet
            case rel => exact ⟨_, (x5_1), (by first | rfl | (simp; done) | (simp [*]; done)), H', ⟨by have := HK1.out; first | omega | exact Nat.le_refl _⟩, ⟨by (with_reducible repeat (first | refine blk_drewN ?_ _ | refine blk_drew ?_ | refine blk_alloc ?_ _)); exact BK101.out⟩, ⟨by repeat (first | (with_reducible first | exact HB.out | apply below_alloc | apply pw_below_drewN | apply below_drew1 | refine below_set ?_ GE101.out) | exact HB.out)⟩⟩
        · rw [if_neg c6] at H
          have c6b0 : decide (x6_1 < (l0_3.length : Int)) = false := decide_eq_false c6
          clear c6
          (first | rw [c6b0] | (simp only [i64_w, i32_w]; rw [c6b0]) | skip)
          have H' := Aside0.mk H
          clear H
          have hcz11_0 : wr.cell? ⟨gb101, 0, none⟩ = some (.int .i64 a0_0) := (blk_cell BK101.out 0).trans rfl
          have hcz11_1 : wr.cell? ⟨gb101, 1, none⟩ = some (.string a0_1) := (blk_cell BK101.out 1).trans rfl
          have hcz11_2 : wr.cell? ⟨gb101, 2, none⟩ = some (.int .i64 a0_2) := (blk_cell BK101.out 2).trans rfl
          have hcz11_3 : wr.cell? ⟨gb101, 3, none⟩ = some (.slice A0_3 l0_3.length c0_3) := (blk_cell BK101.out 3).trans rfl
          have hcz11_4 : wr.cell? ⟨gb101, 4, none⟩ = some (.slice A0_4 l0_4.length c0_4) := (blk_cell BK101.out 4).trans rfl
          have hcz11_5 : wr.cell? ⟨gb101, 5, none⟩ = some (.slice A0_5 l0_5.length c0_5) := (blk_cell BK101.out 5).trans rfl
          have hfz11_0 := blk_frozen BK101.out 0
          have hfz11_1 := blk_frozen BK101.out 1
          have hfz11_2 := blk_frozen BK101.out 2
          have hfz11_3 := blk_frozen BK101.out 3
          have hfz11_4 := blk_frozen BK101.out 4
          have hfz11_5 := blk_frozen BK101.out 5
          go_wp2
          go_meet
          case rel => exact ⟨_, (x5_1), (by first | rfl | (simp; done) | (simp [*]; done)), H', ⟨by have := HK1.out; first | omega | exact Nat.le_refl _⟩, ⟨by (with_reducible repeat (first | refine blk_drewN ?_ _ | refine blk_drew ?_ | refine blk_alloc ?_ _)); exact BK101.out⟩, ⟨by repeat (first | (with_reducible first | exact HB.out | apply below_alloc | apply pw_below_drewN | apply below_drew1 | refine below_set ?_ GE101.out) | exact HB.out)⟩⟩
  case rest =>
    clear HC3
    try clear p1
    try clear q1
    try clear hx1
    try clear p2
    try clear c5
    try clear c6
    try clear c6b0
    try clear p6
    try clear c7
    try clear c7b0
    try clear c8
    try clear c8b0
    try clear p10
    try clear q10
    try clear hx10
    try clear hcz10_0
    try clear hcz10_1
    try clear hcz10_2
    try clear hcz10_3
    try clear hcz10_4
    try clear hcz10_5
    try clear hcz11_0
    try clear hcz11_1
    try clear hcz11_2
    try clear hcz11_3
    try clear hcz11_4
    try clear hcz11_5
    try clear hcz5_0
    try clear hcz5_1
    try clear hcz5_2
    try clear hcz5_3
    try clear hcz5_4
    try clear hcz5_5
    try clear hcz9_0
    try clear hcz9_1
    try clear hcz9_2
    try clear hcz9_3
    try clear hcz9_4
    try clear hcz9_5
    try clear hfz10_0
    try clear hfz10_1
    try clear hfz10_2
    try clear hfz10_3
    try clear hfz10_4
    try clear hfz10_5
    try clear hfz11_0
    try clear hfz11_1
    try clear hfz11_2
    try clear hfz11_3
    try clear hfz11_4
    try clear hfz11_5
    try clear hfz5_0
    try clear hfz5_1
    try clear hfz5_2
    try clear hfz5_3
    try clear hfz5_4
    try clear hfz5_5
    try clear hfz9_0
    try clear hfz9_1
    try clear hfz9_2
    try clear hfz9_3
    try clear hfz9_4
    try clear hfz9_5
    try clear hx102_0
    try clear hx102_1
    try clear hx102_2
    try clear p102
    try clear p2
    try clear q102
    obtain ⟨kq, x5_2, rfl, HA, HJ2, BK101, HB⟩ := hcut
    cases kq with
    | zero => exact absurd HA.out (by simp [chalklineref06_Weigh.j1])
    | succ kj2 =>
      have H := HA.out
      clear HA
      simp only [chalklineref06_Weigh.j1] at H
      have HC12 := Aside0.mk H
      clear H
      go_upto_block 2 with (fail)
      go_cut [5] (fun v5 wc => ∃ (kq : Nat) (x5_11 : Int), v5 = .int .i64 x5_11 ∧ Aside0 (chalklineref06_Weigh.j3 kq a1 x5_11 a0_0 a0_1 a0_2 l0_3 l0_4 l0_5 = some r) ∧ Aside0 (kq ≤ kj2) ∧ Aside0 (wc.heap[gb101]? = some (.cells #[.int .i64 a0_0, .string a0_1, .int .i64 a0_2, (.slice A0_3 l0_3.length c0_3), (.slice A0_4 l0_4.length c0_4), (.slice A0_5 l0_5.length c0_5)] 26 (0, 0))) ∧ Aside0 (Below w.heap.size w wc))
      case first =>
        have H := HC12.out
        clear HC12
        have H' := Aside0.mk H
        clear H
        go_wp2
        go_loopg [5, 7] kj2 (fun kq v5 v7 w' => ∃ (x5_2 : Int) (x7_2 : Int), v5 = .int .i64 x5_2 ∧ v7 = .int .i64 x7_2 ∧ Aside0 (chalklineref06_Weigh.l1 kq a1 x5_2 x7_2 a0_0 a0_1 a0_2 l0_3 l0_4 l0_5 = some r) ∧ Aside0 (kq ≤ kj2) ∧ Aside0 (w'.heap[gb101]? = some (.cells #[.int .i64 a0_0, .string a0_1, .int .i64 a0_2, (.slice A0_3 l0_3.length c0_3), (.slice A0_4 l0_4.length c0_4), (.slice A0_5 l0_5.length c0_5)] 26 (0, 0))) ∧ Aside0 (Below w.heap.size w w'))
        case atStart => exact ⟨(x5_2), (0), (by first | rfl | (simp; done) | (simp [*]; done)), (by first | rfl | (simp; done) | (simp [*]; done)), H', ⟨Nat.le_refl _⟩, ⟨by (with_reducible repeat (first | refine blk_drewN ?_ _ | refine blk_drew ?_ | refine blk_alloc ?_ _)); exact BK101.out⟩, ⟨by repeat (first | (with_reducible first | exact HB.out | apply below_alloc | apply pw_below_drewN | apply below_drew1 | refine below_set ?_ GE101.out) | exact HB.out)⟩⟩
        case round =>
          clear H'
          try clear p1
          try clear q1
          try clear hx1
          try clear p2
          try clear c5
          try clear c6
          try clear c6b0
          try clear p6
          try clear c7
          try clear c7b0
          try clear c8
          try clear c8b0
          try clear p10
          try clear q10
          try clear hx10
          try clear hcz10_0
          try clear hcz10_1
          try clear hcz10_2
          try clear hcz10_3
          try clear hcz10_4
          try clear hcz10_5
          try clear hcz11_0
          try clear hcz11_1
          try clear hcz11_2
          try clear hcz11_3
          try clear hcz11_4
          try clear hcz11_5
          try clear hcz5_0
          try clear hcz5_1
          try clear hcz5_2
          try clear hcz5_3
          try clear hcz5_4
          try clear hcz5_5
          try clear hcz9_0
          try clear hcz9_1
          try clear hcz9_2
          try clear hcz9_3
          try clear hcz9_4
          try clear hcz9_5
          try clear hfz10_0
          try clear hfz10_1
          try clear hfz10_2
          try clear hfz10_3
          try clear hfz10_4
          try clear hfz10_5
          try clear hfz11_0
          try clear hfz11_1
          try clear hfz11_2
          try clear hfz11_3
          try clear hfz11_4
          try clear hfz11_5
          try clear hfz5_0
          try clear hfz5_1
          try clear hfz5_2
          try clear hfz5_3
          try clear hfz5_4
          try clear hfz5_5
          try clear hfz9_0
          try clear hfz9_1
          try clear hfz9_2
          try clear hfz9_3
          try clear hfz9_4
          try clear hfz9_5
          try clear hx102_0
          try clear hx102_1
          try clear hx102_2
          try clear p1
          try clear p10
          try clear p102
          try clear p2
          try clear p6
          try clear q1
          try clear q10
          try clear q102
          obtain ⟨x5_2, x7_2, rfl, rfl, HA, HK2, BK101, HB⟩ := hrel
          cases gk with
          | zero => exact absurd HA.out (by simp [chalklineref06_Weigh.l1])
          | succ k2 =>
            have H := HA.out
            clear HA
            simp only [chalklineref06_Weigh.l1] at H
            by_cases c13 : x7_2 < (l0_4.length : Int)
            · rw [if_pos c13] at H
              have c13b0 : decide (x7_2 < (l0_4.length : Int)) = true := decide_eq_true c13
              clear c13
              (first | rw [c13b0] | (simp only [i64_w, i32_w]; rw [c13b0]) | skip)
              by_cases c14 : x5_2 ≤ a1
              · rw [if_pos c14] at H
                have c14b0 : decide (x5_2 ≤ a1) = true := decide_eq_true c14
                clear c14
                by_cases c15 : 0 ≤ x7_2
                · rw [if_pos c15] at H
                  have c15b0 : decide (0 ≤ x7_2) = true := decide_eq_true c15
                  clear c15
                  have H' := Aside0.mk H
                  clear H
                  have hcz16_0 : wr.cell? ⟨gb101, 0, none⟩ = some (.int .i64 a0_0) := (blk_cell BK101.out 0).trans rfl
                  have hcz16_1 : wr.cell? ⟨gb101, 1, none⟩ = some (.string a0_1) := (blk_cell BK101.out 1).trans rfl
                  have hcz16_2 : wr.cell? ⟨gb101, 2, none⟩ = some (.int .i64 a0_2) := (blk_cell BK101.out 2).trans rfl
                  have hcz16_3 : wr.cell? ⟨gb101, 3, none⟩ = some (.slice A0_3 l0_3.length c0_3) := (blk_cell BK101.out 3).trans rfl
                  have hcz16_4 : wr.cell? ⟨gb101, 4, none⟩ = some (.slice A0_4 l0_4.length c0_4) := (blk_cell BK101.out 4).trans rfl
                  have hcz16_5 : wr.cell? ⟨gb101, 5, none⟩ = some (.slice A0_5 l0_5.length c0_5) := (blk_cell BK101.out 5).trans rfl
                  have hfz16_0 := blk_frozen BK101.out 0
                  have hfz16_1 := blk_frozen BK101.out 1
                  have hfz16_2 := blk_frozen BK101.out 2
                  have hfz16_3 := blk_frozen BK101.out 3
                  have hfz16_4 := blk_frozen BK101.out 4
                  have hfz16_5 := blk_frozen BK101.out 5
                  have p103 : 0 ≤ (x7_2 : Int) := of_decide_eq_true (by first | (with_reducible assumption) | assumption)
                  have q103 : x7_2 < (l0_4.length : Int) := of_decide_eq_true (by first | (with_reducible assumption) | assumption)
                  obtain ⟨ad103, e103, hx103_0, hx103_1⟩ := at_T42 HR0_4.out x7_2 p103 q103
                  cases e103
                  replace hx103_0 := (HB.out.cell (World.block_lt_of_cell? w _ hx103_0)).trans hx103_0
                  replace hx103_1 := (HB.out.cell (World.block_lt_of_cell? w _ hx103_1)).trans hx103_1
                  replace p103 := eq_true p103
                  replace q103 := eq_true q103
                  go_wp2
                  go_roundg k2
                  case measure => have := HJ2.out; have := HK2.out; omega
                  case rel => exact ⟨(wrap64 (x5_2 + (((rd_T42 l0_4 x7_2).f0).size : Int))), (wrap64 (x7_2 + 1)), (by first | rfl | (simp; done) | (simp [*]; done)), (by first | rfl | (simp; done) | (simp [*]; done)), H', ⟨by have := HJ2.out; have := HK2.out; omega⟩, ⟨by (with_reducible repeat (first | refine blk_drewN ?_ _ | refine blk_drew ?_ | refine blk_alloc ?_ _)); exact BK101.out⟩, ⟨by repeat (first | (with_reducible first | exact HB.out | apply below_alloc | apply pw_below_drewN | apply below_drew1 | refine below_set ?_ GE101.out) | exact HB.out)⟩⟩
                · rw [if_neg c15] at H
                  exact absurd H (by simp)
              · rw [if_neg c14] at H
                have c14b0 : decide (x5_2 ≤ a1) = false := decide_eq_false c14
                clear c14
                have H' := Aside0.mk H
                clear H
                have hcz17_0 : wr.cell? ⟨gb101, 0, none⟩ = some (.int .i64 a0_0) := (blk_cell BK101.out 0).trans rfl
                have hcz17_1 : wr.cell? ⟨gb101, 1, none⟩ = some (.string a0_1) := (blk_cell BK101.out 1).trans rfl
                have hcz17_2 : wr.cell? ⟨gb101, 2, none⟩ = some (.int .i64 a0_2) := (blk_cell BK101.out 2).trans rfl
                have hcz17_3 : wr.cell? ⟨gb101, 3, none⟩ = some (.slice A0_3 l0_3.length c0_3) := (blk_cell BK101.out 3).trans rfl
                have hcz17_4 : wr.cell? ⟨gb101, 4, none⟩ = some (.slice A0_4 l0_4.length c0_4) := (blk_cell BK101.out 4).trans rfl
                have hcz17_5 : wr.cell? ⟨gb101, 5, none⟩ = some (.slice A0_5 l0_5.length c0_5) := (blk_cell BK101.out 5).trans rfl
                have hfz17_0 := blk_frozen BK101.out 0
                have hfz17_1 := blk_frozen BK101.out 1
                have hfz17_2 := blk_frozen BK101.out 2
                have hfz17_3 := blk_frozen BK101.out 3
                have hfz17_4 := blk_frozen BK101.out 4
                have hfz17_5 := blk_frozen BK101.out 5
                go_wp2
                go_meet
                case rel => exact ⟨_, (x5_2), (by first | rfl | (simp; done) | (simp [*]; done)), H', ⟨by have := HJ2.out; have := HK2.out; first | omega | exact Nat.le_refl _⟩, ⟨by (with_reducible repeat (first | refine blk_drewN ?_ _ | refine blk_drew ?_ | refine blk_alloc ?_ _)); exact BK101.out⟩, ⟨by repeat (first | (with_reducible first | exact HB.out | apply below_alloc | apply pw_below_drewN | apply below_drew1 | refine below_set ?_ GE101.out) | exact HB.out)⟩⟩
            · rw [if_neg c13] at H
              have c13b0 : decide (x7_2 < (l0_4.length : Int)) = false := decide_eq_false c13
              clear c13
              (first | rw [c13b0] | (simp only [i64_w, i32_w]; rw [c13b0]) | skip)
              have H' := Aside0.mk H
              clear H
              have hcz18_0 : wr.cell? ⟨gb101, 0, none⟩ = some (.int .i64 a0_0) := (blk_cell BK101.out 0).trans rfl
              have hcz18_1 : wr.cell? ⟨gb101, 1, none⟩ = some (.string a0_1) := (blk_cell BK101.out 1).trans rfl
              have hcz18_2 : wr.cell? ⟨gb101, 2, none⟩ = some (.int .i64 a0_2) := (blk_cell BK101.out 2).trans rfl
              have hcz18_3 : wr.cell? ⟨gb101, 3, none⟩ = some (.slice A0_3 l0_3.length c0_3) := (blk_cell BK101.out 3).trans rfl
              have hcz18_4 : wr.cell? ⟨gb101, 4, none⟩ = some (.slice A0_4 l0_4.length c0_4) := (blk_cell BK101.out 4).trans rfl
              have hcz18_5 : wr.cell? ⟨gb101, 5, none⟩ = some (.slice A0_5 l0_5.length c0_5) := (blk_cell BK101.out 5).trans rfl
              have hfz18_0 := blk_frozen BK101.out 0
              have hfz18_1 := blk_frozen BK101.out 1
              have hfz18_2 := blk_frozen BK101.out 2
              have hfz18_3 := blk_frozen BK101.out 3
              have hfz18_4 := blk_frozen BK101.out 4
              have hfz18_5 := blk_frozen BK101.out 5
              go_wp2
              go_meet
              case rel => exact ⟨_, (x5_2), (by first | rfl | (simp; done) | (simp [*]; done)), H', ⟨by have := HJ2.out; have := HK2.out; first | omega | exact Nat.le_refl _⟩, ⟨by (with_reducible repeat (first | refine blk_drewN ?_ _ | refine blk_drew ?_ | refine blk_alloc ?_ _)); exact BK101.out⟩, ⟨by repeat (first | (with_reducible first | exact HB.out | apply below_alloc | apply pw_below_drewN | apply below_drew1 | refine below_set ?_ GE101.out) | exact HB.out)⟩⟩
      case rest =>
        clear HC12
        try clear c1
        try clear p1
        try clear q1
        try clear hx1
        try clear p2
        try clear c5
        try clear c6
        try clear c6b0
        try clear p6
        try clear c7
        try clear c7b0
        try clear c8
        try clear c8b0
        try clear p10
        try clear q10
        try clear hx10
        try clear c13
        try clear c13b0
        try clear c14
        try clear c14b0
        try clear c15
        try clear c15b0
        try clear hcz10_0
        try clear hcz10_1
        try clear hcz10_2
        try clear hcz10_3
        try clear hcz10_4
        try clear hcz10_5
        try clear hcz11_0
        try clear hcz11_1
        try clear hcz11_2
        try clear hcz11_3
        try clear hcz11_4
        try clear hcz11_5
        try clear hcz16_0
        try clear hcz16_1
        try clear hcz16_2
        try clear hcz16_3
        try clear hcz16_4
        try clear hcz16_5
        try clear hcz17_0
        try clear hcz17_1
        try clear hcz17_2
        try clear hcz17_3
        try clear hcz17_4
        try clear hcz17_5
        try clear hcz18_0
        try clear hcz18_1
        try clear hcz18_2
        try clear hcz18_3
        try clear hcz18_4
        try clear hcz18_5
        try clear hcz5_0
        try clear hcz5_1
        try clear hcz5_2
        try clear hcz5_3
        try clear hcz5_4
        try clear hcz5_5
        try clear hcz9_0
        try clear hcz9_1
        try clear hcz9_2
        try clear hcz9_3
        try clear hcz9_4
        try clear hcz9_5
        try clear hfz10_0
        try clear hfz10_1
        try clear hfz10_2
        try clear hfz10_3
        try clear hfz10_4
        try clear hfz10_5
        try clear hfz11_0
        try clear hfz11_1
        try clear hfz11_2
        try clear hfz11_3
        try clear hfz11_4
        try clear hfz11_5
        try clear hfz16_0
        try clear hfz16_1
        try clear hfz16_2
        try clear hfz16_3
        try clear hfz16_4
        try clear hfz16_5
        try clear hfz17_0
        try clear hfz17_1
        try clear hfz17_2
        try clear hfz17_3
        try clear hfz17_4
        try clear hfz17_5
        try clear hfz18_0
        try clear hfz18_1
        try clear hfz18_2
        try clear hfz18_3
        try clear hfz18_4
        try clear hfz18_5
        try clear hfz5_0
        try clear hfz5_1
        try clear hfz5_2
        try clear hfz5_3
        try clear hfz5_4
        try clear hfz5_5
        try clear hfz9_0
        try clear hfz9_1
        try clear hfz9_2
        try clear hfz9_3
        try clear hfz9_4
        try clear hfz9_5
        try clear hx102_0
        try clear hx102_1
        try clear hx102_2
        try clear hx103_0
        try clear hx103_1
        try clear p1
        try clear p10
        try clear p102
        try clear p103
        try clear p2
        try clear p6
        try clear q1
        try clear q10
        try clear q102
        try clear q103
        obtain ⟨kq, x5_11, rfl, HA, HJ11, BK101, HB⟩ := hcut
        cases kq with
        | zero => exact absurd HA.out (by simp [chalklineref06_Weigh.j3])
        | succ kj11 =>
          have H := HA.out
          clear HA
          simp only [chalklineref06_Weigh.j3] at H
          have H' := Aside0.mk H
          clear H
          go_wp2
          go_loopg [5, 8] kj11 (fun kq v5 v8 w' => ∃ (x5_3 : Int) (x8_3 : Int), v5 = .int .i64 x5_3 ∧ v8 = .int .i64 x8_3 ∧ Aside0 (chalklineref06_Weigh.l2 kq a1 x5_3 x8_3 a0_0 a0_1 a0_2 l0_3 l0_4 l0_5 = some r) ∧ Aside0 (kq ≤ kj11) ∧ Aside0 (w'.heap[gb101]? = some (.cells #[.int .i64 a0_0, .string a0_1, .int .i64 a0_2, (.slice A0_3 l0_3.length c0_3), (.slice A0_4 l0_4.length c0_4), (.slice A0_5 l0_5.length c0_5)] 26 (0, 0))) ∧ Aside0 (Below w.heap.size w w'))
          case atStart => exact ⟨(x5_11), (0), (by first | rfl | (simp; done) | (simp [*]; done)), (by first | rfl | (simp; done) | (simp [*]; done)), H', ⟨Nat.le_refl _⟩, ⟨by (with_reducible repeat (first | refine blk_drewN ?_ _ | refine blk_drew ?_ | refine blk_alloc ?_ _)); exact BK101.out⟩, ⟨by repeat (first | (with_reducible first | exact HB.out | apply below_alloc | apply pw_below_drewN | apply below_drew1 | refine below_set ?_ GE101.out) | exact HB.out)⟩⟩
          case round =>
            clear H'
            try clear c1
            try clear p1
            try clear q1
            try clear hx1
            try clear p2
            try clear c5
            try clear c6
            try clear c6b0
            try clear p6
            try clear c7
            try clear c7b0
            try clear c8
            try clear c8b0
            try clear p10
            try clear q10
            try clear hx10
            try clear c13
            try clear c13b0
            try clear c14
            try clear c14b0
            try clear c15
            try clear c15b0
            try clear hcz10_0
            try clear hcz10_1
            try clear hcz10_2
            try clear hcz10_3
            try clear hcz10_4
            try clear hcz10_5
            try clear hcz11_0
            try clear hcz11_1
            try clear hcz11_2
            try clear hcz11_3
            try clear hcz11_4
            try clear hcz11_5
            try clear hcz16_0
            try clear hcz16_1
            try clear hcz16_2
            try clear hcz16_3
            try clear hcz16_4
            try clear hcz16_5
            try clear hcz17_0
            try clear hcz17_1
            try clear hcz17_2
            try clear hcz17_3
            try clear hcz17_4
            try clear hcz17_5
            try clear hcz18_0
            try clear hcz18_1
            try clear hcz18_2
            try clear hcz18_3
            try clear hcz18_4
            try clear hcz18_5
            try clear hcz5_0
            try clear hcz5_1
            try clear hcz5_2
            try clear hcz5_3
            try clear hcz5_4
            try clear hcz5_5
            try clear hcz9_0
            try clear hcz9_1
            try clear hcz9_2
            try clear hcz9_3
            try clear hcz9_4
            try clear hcz9_5
            try clear hfz10_0
            try clear hfz10_1
            try clear hfz10_2
            try clear hfz10_3
            try clear hfz10_4
            try clear hfz10_5
            try clear hfz11_0
            try clear hfz11_1
            try clear hfz11_2
            try clear hfz11_3
            try clear hfz11_4
            try clear hfz11_5
            try clear hfz16_0
            try clear hfz16_1
            try clear hfz16_2
            try clear hfz16_3
            try clear hfz16_4
            try clear hfz16_5
            try clear hfz17_0
            try clear hfz17_1
            try clear hfz17_2
            try clear hfz17_3
            try clear hfz17_4
            try clear hfz17_5
            try clear hfz18_0
            try clear hfz18_1
            try clear hfz18_2
            try clear hfz18_3
            try clear hfz18_4
            try clear hfz18_5
            try clear hfz5_0
            try clear hfz5_1
            try clear hfz5_2
            try clear hfz5_3
            try clear hfz5_4
            try clear hfz5_5
            try clear hfz9_0
            try clear hfz9_1
            try clear hfz9_2
            try clear hfz9_3
            try clear hfz9_4
            try clear hfz9_5
            try clear hx102_0
            try clear hx102_1
            try clear hx102_2
            try clear hx103_0
            try clear hx103_1
            try clear p1
            try clear p10
            try clear p102
            try clear p103
            try clear p2
            try clear p6
            try clear q1
            try clear q10
            try clear q102
            try clear q103
            obtain ⟨x5_3, x8_3, rfl, rfl, HA, HK3, BK101, HB⟩ := hrel
            cases gk with
            | zero => exact absurd HA.out (by simp [chalklineref06_Weigh.l2])
            | succ k3 =>
              have H := HA.out
              clear HA
              simp only [chalklineref06_Weigh.l2] at H
              by_cases c19 : x8_3 < (l0_5.length : Int)
              · rw [if_pos c19] at H
                have c19b0 : decide (x8_3 < (l0_5.length : Int)) = true := decide_eq_true c19
                clear c19
                by_cases c20 : x5_3 ≤ a1
                · rw [if_pos c20] at H
                  have c20b0 : decide (x5_3 ≤ a1) = true := decide_eq_true c20
                  clear c20
                  by_cases c21 : 0 ≤ x8_3
                  · rw [if_pos c21] at H
                    have c21b0 : decide (0 ≤ x8_3) = true := decide_eq_true c21
                    clear c21
                    replace H := Option.bind_eq_some_iff.mp H
                    obtain ⟨t105, A220, H⟩ := H
                    replace H : (chalklineref06_Weigh.l2 k3 a1 (wrap64 (x5_3 + t105)) (wrap64 (x8_3 + 1)) a0_0 a0_1 a0_2 l0_3 l0_4 l0_5) = some r := H
                    have A22 := Aside0.mk A220
                    clear A220
                    have H' := Aside0.mk H
                    clear H
                    have hcz23_0 : wr.cell? ⟨gb101, 0, none⟩ = some (.int .i64 a0_0) := (blk_cell BK101.out 0).trans rfl
                    have hcz23_1 : wr.cell? ⟨gb101, 1, none⟩ = some (.string a0_1) := (blk_cell BK101.out 1).trans rfl
                    have hcz23_2 : wr.cell? ⟨gb101, 2, none⟩ = some (.int .i64 a0_2) := (blk_cell BK101.out 2).trans rfl
                    have hcz23_3 : wr.cell? ⟨gb101, 3, none⟩ = some (.slice A0_3 l0_3.length c0_3) := (blk_cell BK101.out 3).trans rfl
                    have hcz23_4 : wr.cell? ⟨gb101, 4, none⟩ = some (.slice A0_4 l0_4.length c0_4) := (blk_cell BK101.out 4).trans rfl
                    have hcz23_5 : wr.cell? ⟨gb101, 5, none⟩ = some (.slice A0_5 l0_5.length c0_5) := (blk_cell BK101.out 5).trans rfl
                    have hfz23_0 := blk_frozen BK101.out 0
                    have hfz23_1 := blk_frozen BK101.out 1
                    have hfz23_2 := blk_frozen BK101.out 2
                    have hfz23_3 := blk_frozen BK101.out 3
                    have hfz23_4 := blk_frozen BK101.out 4
                    have hfz23_5 := blk_frozen BK101.out 5
                    have p104 : 0 ≤ (x8_3 : Int) := of_decide_eq_true (by first | (with_reducible assumption) | assumption)
                    have q104 : x8_3 < (l0_5.length : Int) := of_decide_eq_true (by first | (with_reducible assumption) | assumption)
                    obtain ⟨ad104, A104_3, c104_3, A104_4, c104_4, A104_5, c104_5, e104, hx104_0, hx104_1, hx104_2, hx104_3, hx104_4, hx104_5, hl104_3, hi104_3, hl104_4, hi104_4, hl104_5, hi104_5⟩ := at_T26 HR0_5.out x8_3 p104 q104
                    cases e104
                    replace hx104_0 := (HB.out.cell (World.block_lt_of_cell? w _ hx104_0)).trans hx104_0
                    replace hx104_1 := (HB.out.cell (World.block_lt_of_cell? w _ hx104_1)).trans hx104_1
                    replace hx104_2 := (HB.out.cell (World.block_lt_of_cell? w _ hx104_2)).trans hx104_2
                    replace hx104_3 := (HB.out.cell (World.block_lt_of_cell? w _ hx104_3)).trans hx104_3
                    replace hx104_4 := (HB.out.cell (World.block_lt_of_cell? w _ hx104_4)).trans hx104_4
                    replace hx104_5 := (HB.out.cell (World.block_lt_of_cell? w _ hx104_5)).trans hx104_5
                    have HR104_3 := Aside0.mk hi104_3
                    have HC104_3 := Aside0.mk hl104_3
                    clear hi104_3 hl104_3
                    have HR104_4 := Aside0.mk hi104_4
                    have HC104_4 := Aside0.mk hl104_4
                    clear hi104_4 hl104_4
                    have HR104_5 := Aside0.mk hi104_5
                    have HC104_5 := Aside0.mk hl104_5
                    clear hi104_5 hl104_5
                    replace p104 := eq_true p104
                    replace q104 := eq_true q104
                    go_wp2_with (first | ((with_reducible refine gate_callee (f := 51) rfl ?_); refine goesL_ (some 82) rfl rfl Tryd.func51 (by kernel_rfl) rfl #[.agg #[.int .i64 ((rd_T26 l0_5 x8_3).f0), .string ((rd_T26 l0_5 x8_3).f1), .int .i64 ((rd_T26 l0_5 x8_3).f2), .slice A104_3 ((rd_T26 l0_5 x8_3).f3).length c104_3, .slice A104_4 ((rd_T26 l0_5 x8_3).f4).length c104_4, .slice A104_5 ((rd_T26 l0_5 x8_3).f5).length c104_5], .int .i64 a1] rfl (by (try simp only [List.map_toArray, List.map_cons, List.map_nil]); first | done | rfl | (simp only [List.length_drop, List.length_take]; rfl)) ?_; (with_reducible refine (ih k3 (by have := HJ2.out; have := HJ11.out; have := HK3.out; omega) ((rd_T26 l0_5 x8_3).f0) ((rd_T26 l0_5 x8_3).f1) ((rd_T26 l0_5 x8_3).f2) _ _ ((rd_T26 l0_5 x8_3).f3) _ _ ((rd_T26 l0_5 x8_3).f4) _ _ ((rd_T26 l0_5 x8_3).f5) a1 t105 _ ?side1 ?side2 ?side3 ?side4 ?side5 ?side6 A22.out).mono ?_); (case side1 => repeat (first | exact (Kd.C_below HR104_3.out HB.out) | (with_reducible refine Kd.C_alloc ?_ _) | (with_reducible refine Kd.C_drewN ?_ _) | (with_reducible refine Kd.C_drew ?_))); (case side2 => exact HC104_3.out); (case side3 => repeat (first | exact (Kd.C_below HR104_4.out HB.out) | (with_reducible refine Kd.C_alloc ?_ _) | (with_reducible refine Kd.C_drewN ?_ _) | (with_reducible refine Kd.C_drew ?_))); (case side4 => exact HC104_4.out); (case side5 => repeat (first | exact (Kd.C_below HR104_5.out HB.out) | (with_reducible refine Kd.C_alloc ?_ _) | (with_reducible refine Kd.C_drewN ?_ _) | (with_reducible refine Kd.C_drew ?_))); (case side6 => exact HC104_5.out); rintro e w24 ⟨rfl, hb⟩; refine ⟨_, rfl, ?_⟩; have n0_ := Aside0.mk (blk_below (g := gb101) (o := .cells #[.int .i64 a0_0, .string a0_1, .int .i64 a0_2, .slice A0_3 l0_3.length c0_3, .slice A0_4 l0_4.length c0_4, .slice (some ad104) l0_5.length c0_5] 26 (0, 0)) (by (with_reducible repeat (first | refine blk_drewN ?_ _ | refine blk_drew ?_ | refine blk_alloc ?_ _)); exact BK101.out) hb); have n1_ := Aside0.mk (below_step (by repeat (first | (with_reducible first | exact HB.out | apply below_alloc | apply pw_below_drewN | apply below_drew1 | refine below_set ?_ GE101.out) | exact HB.out)) hb); clear BK101; clear HB; have BK101 := n0_; have HB := n1_; clear n0_ n1_; (try clear hb); (try clear hb2); (try clear hk); (try clear hi)))
                    go_roundg k3
                    case measure => have := HJ2.out; have := HJ11.out; have := HK3.out; omega
                    case rel => exact ⟨(wrap64 (x5_3 + t105)), (wrap64 (x8_3 + 1)), (by first | rfl | (simp; done) | (simp [*]; done)), (by first | rfl | (simp; done) | (simp [*]; done)), H', ⟨by have := HJ2.out; have := HJ11.out; have := HK3.out; omega⟩, ⟨by (with_reducible repeat (first | refine blk_drewN ?_ _ | refine blk_drew ?_ | refine blk_alloc ?_ _)); exact BK101.out⟩, ⟨by repeat (first | (with_reducible first | exact HB.out | apply below_alloc | apply pw_below_drewN | apply below_drew1 | refine below_set ?_ GE101.out) | exact HB.out)⟩⟩
                  · rw [if_neg c21] at H
                    exact absurd H (by simp)
                · rw [if_neg c20] at H
                  have c20b0 : decide (x5_3 ≤ a1) = false := decide_eq_false c20
                  clear c20
                  obtain rfl := Option.some.inj H
                  have hcz25_0 : wr.cell? ⟨gb101, 0, none⟩ = some (.int .i64 a0_0) := (blk_cell BK101.out 0).trans rfl
                  have hcz25_1 : wr.cell? ⟨gb101, 1, none⟩ = some (.string a0_1) := (blk_cell BK101.out 1).trans rfl
                  have hcz25_2 : wr.cell? ⟨gb101, 2, none⟩ = some (.int .i64 a0_2) := (blk_cell BK101.out 2).trans rfl
                  have hcz25_3 : wr.cell? ⟨gb101, 3, none⟩ = some (.slice A0_3 l0_3.length c0_3) := (blk_cell BK101.out 3).trans rfl
                  have hcz25_4 : wr.cell? ⟨gb101, 4, none⟩ = some (.slice A0_4 l0_4.length c0_4) := (blk_cell BK101.out 4).trans rfl
                  have hcz25_5 : wr.cell? ⟨gb101, 5, none⟩ = some (.slice A0_5 l0_5.length c0_5) := (blk_cell BK101.out 5).trans rfl
                  have hfz25_0 := blk_frozen BK101.out 0
                  have hfz25_1 := blk_frozen BK101.out 1
                  have hfz25_2 := blk_frozen BK101.out 2
                  have hfz25_3 := blk_frozen BK101.out 3
                  have hfz25_4 := blk_frozen BK101.out 4
                  have hfz25_5 := blk_frozen BK101.out 5
                  go_wp2
                  go_ret
                  exact ⟨by first | rfl | (simp [errW_none, errW_some] <;> rfl) | (simp [*, errW_none, errW_some] <;> rfl), by repeat (first | (with_reducible first | exact HB.out | apply below_alloc | apply pw_below_drewN | apply below_drew1 | refine below_set ?_ GE101.out) | exact HB.out)⟩
              · rw [if_neg c19] at H
                have c19b0 : decide (x8_3 < (l0_5.length : Int)) = false := decide_eq_false c19
                clear c19
                obtain rfl := Option.some.inj H
                have hcz26_0 : wr.cell? ⟨gb101, 0, none⟩ = some (.int .i64 a0_0) := (blk_cell BK101.out 0).trans rfl
                have hcz26_1 : wr.cell? ⟨gb101, 1, none⟩ = some (.string a0_1) := (blk_cell BK101.out 1).trans rfl
                have hcz26_2 : wr.cell? ⟨gb101, 2, none⟩ = some (.int .i64 a0_2) := (blk_cell BK101.out 2).trans rfl
                have hcz26_3 : wr.cell? ⟨gb101, 3, none⟩ = some (.slice A0_3 l0_3.length c0_3) := (blk_cell BK101.out 3).trans rfl
                have hcz26_4 : wr.cell? ⟨gb101, 4, none⟩ = some (.slice A0_4 l0_4.length c0_4) := (blk_cell BK101.out 4).trans rfl
                have hcz26_5 : wr.cell? ⟨gb101, 5, none⟩ = some (.slice A0_5 l0_5.length c0_5) := (blk_cell BK101.out 5).trans rfl
                have hfz26_0 := blk_frozen BK101.out 0
                have hfz26_1 := blk_frozen BK101.out 1
                have hfz26_2 := blk_frozen BK101.out 2
                have hfz26_3 := blk_frozen BK101.out 3
                have hfz26_4 := blk_frozen BK101.out 4
                have hfz26_5 := blk_frozen BK101.out 5
                go_wp2
                go_ret
                exact ⟨by first | rfl | (simp [errW_none, errW_some] <;> rfl) | (simp [*, errW_none, errW_some] <;> rfl), by repeat (first | (with_reducible first | exact HB.out | apply below_alloc | apply pw_below_drewN | apply below_drew1 | refine below_set ?_ GE101.out) | exact HB.out)⟩
end Go.Proofs.YtmlcaecknocpoaaDoor.Pr
namespace Go.Proofs.YtmlcaecknocpoaaDoor.Pr
open Go.RowKit Go.Proofs.YtmlcaecknocpoaaDoorW.PrintWords Go.Proofs.YtmlcaecknocpoaaDoorW.PrintLast Go.Proofs.YtmlcaecknocpoaaDoorW.PrintMore
attribute [local go_sem] max2_int min2_int max_two min_two max_three min_three max_four min_four   
set_option linter.unusedVariables false
set_option linter.unusedSimpArgs false
def chalklineref06_Few.f (k : Nat) (a0_0 : Int) (a0_1 : ByteArray) (a0_2 : Int) (l0_3 : List (S47)) (l0_4 : List (S42)) (l0_5 : List (S26)) : Option (Bool) := (chalklineref06_Weigh.f k a0_0 a0_1 a0_2 l0_3 l0_4 l0_5 3000).bind fun t107 => (some (decide (t107 ≤ 3000)))
set_option maxHeartbeats 8000000 in
set_option maxRecDepth 100000 in
theorem chalklineref06_Few.calls (k : Nat) (a0_0 : Int) (a0_1 : ByteArray) (a0_2 : Int) (A0_3 : Option Addr) (c0_3 : Nat) (l0_3 : List (S47)) (A0_4 : Option Addr) (c0_4 : Nat) (l0_4 : List (S42)) (A0_5 : Option Addr) (c0_5 : Nat) (l0_5 : List (S26)) (r : Bool) (w : World) (hr0_3 : Kd.C k47 w A0_3 l0_3.length l0_3) (hc0_3 : l0_3.length ≤ c0_3) (hr0_4 : Kd.C k42 w A0_4 l0_4.length l0_4) (hc0_4 : l0_4.length ≤ c0_4) (hr0_5 : Kd.C k26 w A0_5 l0_5.length l0_5) (hc0_5 : l0_5.length ≤ c0_5) (h : chalklineref06_Few.f k a0_0 a0_1 a0_2 l0_3 l0_4 l0_5 = some r) :
    Calls Tryd.prog 21 #[.agg #[.int .i64 a0_0, .string a0_1, .int .i64 a0_2, .slice A0_3 l0_3.length c0_3, .slice A0_4 l0_4.length c0_4, .slice A0_5 l0_5.length c0_5]] w fun e w' => e = .returned (.bool r) ∧ Below w.heap.size w w' := by
  have hu26 := Tryd.underlying26
  have HR0_3 := Aside0.mk hr0_3
  have HC0_3 := Aside0.mk hc0_3
  clear hr0_3 hc0_3
  have HR0_4 := Aside0.mk hr0_4
  have HC0_4 := Aside0.mk hc0_4
  clear hr0_4 hc0_4
  have HR0_5 := Aside0.mk hr0_5
  have HC0_5 := Aside0.mk hc0_5
  clear hr0_5 hc0_5
  have HB := Aside0.mk (Below.refl w.heap.size w)
  have H : ((chalklineref06_Weigh.f k a0_0 a0_1 a0_2 l0_3 l0_4 l0_5 3000).bind fun t107 => (some (decide (t107 ≤ 3000)))) = some r := h
  clear h
  replace H := Option.bind_eq_some_iff.mp H
  obtain ⟨t107, A20, H⟩ := H
  replace H : (some (decide (t107 ≤ 3000))) = some r := H
  have A2 := Aside0.mk A20
  clear A20
  obtain rfl := Option.some.inj H
  go_enter Tryd.func21, Tryd.ntmps21
  go_wp2_with (first | ((with_reducible refine gate_dst (N := 1) rfl ?_); refine box_event ?hg (N := 1) ?hd (cs := #[.int .i64 a0_0, .string a0_1, .int .i64 a0_2, .slice A0_3 l0_3.length c0_3, .slice A0_4 l0_4.length c0_4, .slice A0_5 l0_5.length c0_5]) (t := 26) ?hr ?_; (case hd => rfl); (case hg => rfl); (case hr => first | (go_simp; done) | (go_simp; rfl)); intro gb106 hg w3 hbox hb; have n0_ := Aside0.mk (below_step (by repeat (first | (with_reducible first | exact HB.out | apply below_alloc | apply pw_below_drewN | apply below_drew1) | exact HB.out)) hb); have n1_ := Aside0.mk (hbox); have n2_ := Aside0.mk ((by rw [hg]; exact (below_size (by repeat (first | (with_reducible first | exact HB.out | apply below_alloc | apply pw_below_drewN | apply below_drew1) | exact HB.out))) : w.heap.size ≤ gb106)); have n3_ := Aside0.mk ((by rw [hg]; exact (below_size (by repeat (first | (with_reducible first | exact HB.out | apply below_alloc | apply pw_below_drewN | apply below_drew1) | exact HB.out))) : w.heap.size ≤ gb106)); clear HB; have HB := n0_; have BK106 := n1_; have GW106 := n2_; have GE106 := n3_; clear n0_ n1_ n2_ n3_; clear hb hbox hg; have hcz4_0 : w3.cell? ⟨gb106, 0, none⟩ = some (.int .i64 a0_0) := (blk_cell BK106.out 0).trans rfl; have hcz4_1 : w3.cell? ⟨gb106, 1, none⟩ = some (.string a0_1) := (blk_cell BK106.out 1).trans rfl; have hcz4_2 : w3.cell? ⟨gb106, 2, none⟩ = some (.int .i64 a0_2) := (blk_cell BK106.out 2).trans rfl; have hcz4_3 : w3.cell? ⟨gb106, 3, none⟩ = some (.slice A0_3 l0_3.length c0_3) := (blk_cell BK106.out 3).trans rfl; have hcz4_4 : w3.cell? ⟨gb106, 4, none⟩ = some (.slice A0_4 l0_4.length c0_4) := (blk_cell BK106.out 4).trans rfl; have hcz4_5 : w3.cell? ⟨gb106, 5, none⟩ = some (.slice A0_5 l0_5.length c0_5) := (blk_cell BK106.out 5).trans rfl; have hfz4_0 := blk_frozen BK106.out 0; have hfz4_1 := blk_frozen BK106.out 1; have hfz4_2 := blk_frozen BK106.out 2; have hfz4_3 := blk_frozen BK106.out 3; have hfz4_4 := blk_frozen BK106.out 4; have hfz4_5 := blk_frozen BK106.out 5) | ((with_reducible refine gate_callee (f := 51) rfl ?_); refine goesL_ (some 4) rfl rfl Tryd.func51 (by kernel_rfl) rfl #[.agg #[.int .i64 a0_0, .string a0_1, .int .i64 a0_2, .slice A0_3 l0_3.length c0_3, .slice A0_4 l0_4.length c0_4, .slice A0_5 l0_5.length c0_5], .int .i64 3000] rfl (by (try simp only [List.map_toArray, List.map_cons, List.map_nil]); first | done | rfl | (simp only [List.length_drop, List.length_take]; rfl)) ?_; (with_reducible refine (chalklineref06_Weigh.calls k a0_0 a0_1 a0_2 _ _ l0_3 _ _ l0_4 _ _ l0_5 3000 t107 _ ?side1 ?side2 ?side3 ?side4 ?side5 ?side6 A2.out).mono ?_); (case side1 => repeat (first | exact (Kd.C_below HR0_3.out HB.out) | (with_reducible refine Kd.C_alloc ?_ _) | (with_reducible refine Kd.C_drewN ?_ _) | (with_reducible refine Kd.C_drew ?_))); (case side2 => exact HC0_3.out); (case side3 => repeat (first | exact (Kd.C_below HR0_4.out HB.out) | (with_reducible refine Kd.C_alloc ?_ _) | (with_reducible refine Kd.C_drewN ?_ _) | (with_reducible refine Kd.C_drew ?_))); (case side4 => exact HC0_4.out); (case side5 => repeat (first | exact (Kd.C_below HR0_5.out HB.out) | (with_reducible refine Kd.C_alloc ?_ _) | (with_reducible refine Kd.C_drewN ?_ _) | (with_reducible refine Kd.C_drew ?_))); (case side6 => exact HC0_5.out); rintro e w5 ⟨rfl, hb⟩; refine ⟨_, rfl, ?_⟩; have n0_ := Aside0.mk (blk_below (g := gb106) (o := .cells #[.int .i64 a0_0, .string a0_1, .int .i64 a0_2, .slice A0_3 l0_3.length c0_3, .slice A0_4 l0_4.length c0_4, .slice A0_5 l0_5.length c0_5] 26 (0, 0)) (by (with_reducible repeat (first | refine blk_drewN ?_ _ | refine blk_drew ?_ | refine blk_alloc ?_ _)); exact BK106.out) hb); have n1_ := Aside0.mk (below_step (by repeat (first | (with_reducible first | exact HB.out | apply below_alloc | apply pw_below_drewN | apply below_drew1 | refine below_set ?_ GE106.out) | exact HB.out)) hb); clear BK106; clear HB; have BK106 := n0_; have HB := n1_; clear n0_ n1_; (try clear hb); (try clear hb2); (try clear hk); (try clear hi)))
  go_ret
  exact ⟨by first | rfl | (simp [errW_none, errW_some] <;> rfl) | (simp [*, errW_none, errW_some] <;> rfl), by repeat (first | (with_reducible first | exact HB.out | apply below_alloc | apply pw_below_drewN | apply below_drew1 | refine below_set ?_ GE106.out) | exact HB.out)⟩
end Go.Proofs.YtmlcaecknocpoaaDoor.Pr
namespace Go.Proofs.YtmlcaecknocpoaaDoor.It
set_option linter.unusedVariables false
set_option linter.unusedSimpArgs false
open Go Go.RowKit Go.Shelf Go.Proofs.YtmlcaecknocpoaaDoorW.PrintWords Go.Proofs.YtmlcaecknocpoaaDoorW.PrintLast Go.Proofs.YtmlcaecknocpoaaDoor.Pr Go.Proofs.YtmlcaecknocpoaaDoor.Sp
theorem weigh_ev (s : Nat) (b : Int) : ∀ x : S26, size x ≤ s → size x ≤ 4611686018427387904 → NmOk x → ∃ r : Int, Ev (fun k => chalklineref06_Weigh.f k x.f0 x.f1 x.f2 x.f3 x.f4 x.f5 b) r := by
  induction s with
  | zero => intro x h; rw [size_eq] at h; omega
  | succ s ih =>
    rintro ⟨k, nm, n, ts, bs, l⟩ hs hb hn
    simp only [size] at hs hb
    have hlen := len_sizes l
    have hln := hn.self.2.2
    dsimp only at hln
    have l2 : ∀ d j : Nat, j + d = l.length → ∀ a : Int, ∃ r, Ev (fun K => chalklineref06_Weigh.l2 K b a (j : Int) k nm n ts bs l) r := by
      intro d
      induction d with
      | zero =>
        intro j hj a
        refine ⟨a, Ev.step (f := fun _ => some a) (fun K => ?_) (Ev.now _)⟩
        simp only [chalklineref06_Weigh.l2]
        rw [if_neg (by omega)]
      | succ d ihd =>
        intro j hj a
        have hlt : j < l.length := by omega
        have hc := size_child l j hlt
        by_cases hle : a ≤ b
        · obtain ⟨r1, h1⟩ := ih (rd_T26 l j) (by omega) (by omega) (hn.child j hlt)
          obtain ⟨r2, h2⟩ := ihd (j + 1) (by omega) (wrap64 (a + r1))
          refine ⟨r2, Ev.step (f := fun K => (chalklineref06_Weigh.f K (rd_T26 l (j : Int)).f0 (rd_T26 l (j : Int)).f1 (rd_T26 l (j : Int)).f2 (rd_T26 l (j : Int)).f3 (rd_T26 l (j : Int)).f4 (rd_T26 l (j : Int)).f5 b).bind fun t => chalklineref06_Weigh.l2 K b (wrap64 (a + t)) ((j + 1 : Nat) : Int) k nm n ts bs l) (fun K => ?_) (Ev.bind h1 h2)⟩
          simp only [chalklineref06_Weigh.l2]
          rw [if_pos (by omega), if_pos hle, if_pos (by omega), wrap_one j (by omega)]
        · refine ⟨a, Ev.step (f := fun _ => some a) (fun K => ?_) (Ev.now _)⟩
          simp only [chalklineref06_Weigh.l2]
          rw [if_pos (by omega), if_neg hle]
    have j3 : ∀ a : Int, ∃ r, Ev (fun K => chalklineref06_Weigh.j3 K b a k nm n ts bs l) r := fun a => by
      obtain ⟨r, h⟩ := l2 l.length 0 (by omega) a
      exact ⟨r, Ev.step (f := fun K => chalklineref06_Weigh.l2 K b a 0 k nm n ts bs l) (fun K => rfl) h⟩
    have l1 : ∀ d j : Nat, j + d = bs.length → ∀ a : Int, ∃ r, Ev (fun K => chalklineref06_Weigh.l1 K b a (j : Int) k nm n ts bs l) r := by
      intro d
      induction d with
      | zero =>
        intro j hj a
        obtain ⟨r, h⟩ := j3 a
        refine ⟨r, Ev.step (f := fun K => chalklineref06_Weigh.j3 K b a k nm n ts bs l) (fun K => ?_) h⟩
        simp only [chalklineref06_Weigh.l1]
        rw [if_neg (by omega)]
      | succ d ihd =>
        intro j hj a
        by_cases hle : a ≤ b
        · obtain ⟨r, h⟩ := ihd (j + 1) (by omega) (wrap64 (a + ((rd_T42 bs (j : Int)).f0.size : Int)))
          refine ⟨r, Ev.step (f := fun K => chalklineref06_Weigh.l1 K b (wrap64 (a + ((rd_T42 bs (j : Int)).f0.size : Int))) ((j + 1 : Nat) : Int) k nm n ts bs l) (fun K => ?_) h⟩
          simp only [chalklineref06_Weigh.l1]
          rw [if_pos (by omega), if_pos hle, if_pos (by omega), wrap_one j (by omega)]
        · obtain ⟨r, h⟩ := j3 a
          refine ⟨r, Ev.step (f := fun K => chalklineref06_Weigh.j3 K b a k nm n ts bs l) (fun K => ?_) h⟩
          simp only [chalklineref06_Weigh.l1]
          rw [if_pos (by omega), if_neg hle]
    have j1 : ∀ a : Int, ∃ r, Ev (fun K => chalklineref06_Weigh.j1 K b a k nm n ts bs l) r := fun a => by
      obtain ⟨r, h⟩ := l1 bs.length 0 (by omega) a
      exact ⟨r, Ev.step (f := fun K => chalklineref06_Weigh.l1 K b a 0 k nm n ts bs l) (fun K => rfl) h⟩
    have l0 : ∀ d j : Nat, j + d = ts.length → ∀ a : Int, ∃ r, Ev (fun K => chalklineref06_Weigh.l0 K b a (j : Int) k nm n ts bs l) r := by
      intro d
      induction d with
      | zero =>
        intro j hj a
        obtain ⟨r, h⟩ := j1 a
        refine ⟨r, Ev.step (f := fun K => chalklineref06_Weigh.j1 K b a k nm n ts bs l) (fun K => ?_) h⟩
        simp only [chalklineref06_Weigh.l0]
        rw [if_neg (by omega)]
      | succ d ihd =>
        intro j hj a
        by_cases hle : a ≤ b
        · obtain ⟨r, h⟩ := ihd (j + 1) (by omega) (wrap64 (a + ((rd_T47 ts (j : Int)).f1.size : Int)))
          refine ⟨r, Ev.step (f := fun K => chalklineref06_Weigh.l0 K b (wrap64 (a + ((rd_T47 ts (j : Int)).f1.size : Int))) ((j + 1 : Nat) : Int) k nm n ts bs l) (fun K => ?_) h⟩
          simp only [chalklineref06_Weigh.l0]
          rw [if_pos (by omega), if_pos hle, if_pos (by omega), wrap_one j (by omega)]
        · obtain ⟨r, h⟩ := j1 a
          refine ⟨r, Ev.step (f := fun K => chalklineref06_Weigh.j1 K b a k nm n ts bs l) (fun K => ?_) h⟩
          simp only [chalklineref06_Weigh.l0]
          rw [if_pos (by omega), if_neg hle]
    obtain ⟨r, h⟩ := l0 ts.length 0 (by omega) (wrap64 (wrap64 (wrap64 (1 + (nm.size : Int)) + (ts.length : Int)) + (bs.length : Int)))
    exact ⟨r, Ev.step (f := fun K => chalklineref06_Weigh.l0 K b (wrap64 (wrap64 (wrap64 (1 + (nm.size : Int)) + (ts.length : Int)) + (bs.length : Int))) 0 k nm n ts bs l) (fun K => rfl) h⟩
theorem few_ev (x : S26) (hs : size x ≤ 4611686018427387904) (hn : NmOk x) : ∃ r : Bool, Ev (fun k => chalklineref06_Few.f k x.f0 x.f1 x.f2 x.f3 x.f4 x.f5) r := by
  obtain ⟨r, h⟩ := weigh_ev (size x) 3000 x (Nat.le_refl _) hs hn
  exact ⟨decide (r ≤ 3000), Ev.bind h (Ev.now _)⟩
end Go.Proofs.YtmlcaecknocpoaaDoor.It
namespace Go.Proofs.YtmlcaecknocpoaaDoor.It
open Go Go.RowKit Go.Shelf Go.Proofs.YtmlcaecknocpoaaDoorW.PrintWords Go.Proofs.YtmlcaecknocpoaaDoorW.PrintLast Go.Proofs.YtmlcaecknocpoaaDoor.Pr Go.Proofs.YtmlcaecknocpoaaDoor.Sp
attribute [local go_sem ↓] Go.wp_at_zero Go.wp_at_succ
end Go.Proofs.YtmlcaecknocpoaaDoor.It
namespace Go.Proofs.YtmlcaecknocpoaaDoor.It
open Go Go.RowKit Go.Shelf Go.Proofs.YtmlcaecknocpoaaDoorW.PrintWords Go.Proofs.YtmlcaecknocpoaaDoorW.PrintLast Go.Proofs.YtmlcaecknocpoaaDoor.Pr Go.Proofs.YtmlcaecknocpoaaDoor.Sp
attribute [local go_sem ↓] Go.wp_at_zero Go.wp_at_succ
theorem row_one {w : World} {B : Nat} {y : S26} {D3 : Option Addr} {f3 : Nat} {D4 : Option Addr} {f4 : Nat} {D5 : Option Addr} {f5 : Nat} (hB : w.heap[B]? = some (.cells #[.int .i64 y.f0, .string y.f1, .int .i64 y.f2, .slice D3 y.f3.length f3, .slice D4 y.f4.length f4, .slice D5 y.f5.length f5] 26 (0, 0))) (hat : At w y D3 f3 D4 f4 D5 f5) :
    Kd.C k26 w (some ⟨B, 0, none⟩) [y].length [y] := by
  refine ⟨rfl, by simp, fun _ => ⟨⟨B, 0, none⟩, rfl, fun j p hj => ?_⟩⟩
  cases j with
  | zero =>
    obtain rfl : y = p := by simpa using hj
    refine ⟨_, rfl, hat.K, fun i u hu => ?_⟩
    have := World.news_of_block hB i u (by simpa [cl] using hu)
    simpa using this
  | succ j => simp at hj
end Go.Proofs.YtmlcaecknocpoaaDoor.It
namespace Go.Proofs.YtmlcaecknocpoaaDoor.It
open Go Go.RowKit Go.Shelf Go.Proofs.YtmlcaecknocpoaaDoorW.PrintWords Go.Proofs.YtmlcaecknocpoaaDoorW.PrintLast Go.Proofs.YtmlcaecknocpoaaDoor.Pr Go.Proofs.YtmlcaecknocpoaaDoor.Sp
attribute [local go_sem ↓] Go.wp_at_zero Go.wp_at_succ
end Go.Proofs.YtmlcaecknocpoaaDoor.It
namespace Go.Proofs.YtmlcaecknocpoaaDoor.It
set_option linter.unusedVariables false
set_option linter.unusedSimpArgs false
open Go Go.RowKit Go.Shelf Go.Proofs.YtmlcaecknocpoaaDoorW.PrintWords Go.Proofs.YtmlcaecknocpoaaDoorW.PrintLast Go.Proofs.YtmlcaecknocpoaaDoor.Pr Go.Proofs.YtmlcaecknocpoaaDoor.Sp
attribute [local go_sem ↓] Go.wp_at_zero Go.wp_at_succ
def Ans (w0 W : World) (R : S26) (e : Ending) (w' : World) : Prop := ∃ B3 d3 B4 d4 B5 d5,
    e = .returned (.agg #[.int .i64 R.f0, .string R.f1, .int .i64 R.f2, .slice B3 R.f3.length d3, .slice B4 R.f4.length d4, .slice B5 R.f5.length d5]) ∧ Below W.heap.size W w' ∧ Lies (fun k => k < w0.heap.size ∨ W.heap.size ≤ k) w' R B3 d3 B4 d4 B5 d5
theorem Ans.leaf {w0 W w : World} {B : Nat} {k1 : Int} (h : Below W.heap.size W w) (hB : W.heap.size ≤ B) (hsz : B < w.heap.size) : Ans w0 W (leaf k1) (.returned (.agg #[.int .i64 k1, .string ⟨#[]⟩, .int .i64 0, .slice none 0 0, .slice none 0 0, .slice none 0 0])) ((((((w.setCell ⟨B, 0, none⟩ (.int .i64 k1)).setCell ⟨B, 1, none⟩ (.string ⟨#[]⟩)).setCell ⟨B, 2, none⟩ (.int .i64 0)).setCell ⟨B, 3, none⟩ (.slice none 0 0)).setCell ⟨B, 4, none⟩ (.slice none 0 0)).setCell ⟨B, 5, none⟩ (.slice none 0 0)) :=
  ⟨none, 0, none, 0, none, 0, rfl, h.trans ((Agree.six _ _ _ _ _ _ _ _ (fun i => i < W.heap.size) (fun i hi => by omega)).low (fun _ h => h) (by have := h.size; omega)), fun w1 _ => leaf_at w1 _⟩
theorem Ans.laid {w0 W w : World} {B : Nat} {R : S26} (B3 : Option Addr) (d3 : Nat) (B4 : Option Addr) (d4 : Nat) (B5 : Option Addr) (d5 : Nat) (hw : w0.heap.size ≤ W.heap.size) (h : Below W.heap.size W w) (hB : W.heap.size ≤ B) (m : Nat) (hm : W.heap.size ≤ m) (hBm : B < m) (hl : Lies (fun i => i < w0.heap.size ∨ m ≤ i) w R B3 d3 B4 d4 B5 d5) :
    Ans w0 W R (.returned (.agg #[.int .i64 R.f0, .string R.f1, .int .i64 R.f2, .slice B3 R.f3.length d3, .slice B4 R.f4.length d4, .slice B5 R.f5.length d5])) ((((((w.setCell ⟨B, 0, none⟩ (.int .i64 R.f0)).setCell ⟨B, 1, none⟩ (.string R.f1)).setCell ⟨B, 2, none⟩ (.int .i64 R.f2)).setCell ⟨B, 3, none⟩ (.slice B3 R.f3.length d3)).setCell ⟨B, 4, none⟩ (.slice B4 R.f4.length d4)).setCell ⟨B, 5, none⟩ (.slice B5 R.f5.length d5)) :=
  ⟨B3, d3, B4, d4, B5, d5, rfl, h.trans ((Agree.six _ _ _ _ _ _ _ _ (fun i => i < W.heap.size) (fun i hi => by omega)).low (fun _ h => h) (by have := h.size; omega)), hl.move (Agree.six _ _ _ _ _ _ _ _ _ (fun i hi => by omega)) (fun i hi _ => by omega)⟩
end Go.Proofs.YtmlcaecknocpoaaDoor.It
namespace Go.Proofs.YtmlcaecknocpoaaDoor.It
set_option linter.unusedVariables false
set_option linter.unusedSimpArgs false
open Go Go.RowKit Go.Shelf Go.Proofs.YtmlcaecknocpoaaDoorW.PrintWords Go.Proofs.YtmlcaecknocpoaaDoorW.PrintLast Go.Proofs.YtmlcaecknocpoaaDoor.Pr Go.Proofs.YtmlcaecknocpoaaDoor.Sp
attribute [local go_sem ↓] Go.wp_at_zero Go.wp_at_succ
end Go.Proofs.YtmlcaecknocpoaaDoor.It
namespace Go.Proofs.YtmlcaecknocpoaaDoor.It
set_option linter.unusedVariables false
set_option linter.unusedSimpArgs false
open Go Go.RowKit Go.Shelf Go.Proofs.YtmlcaecknocpoaaDoorW.PrintWords Go.Proofs.YtmlcaecknocpoaaDoorW.PrintLast Go.Proofs.YtmlcaecknocpoaaDoor.Pr Go.Proofs.YtmlcaecknocpoaaDoor.Sp
attribute [local go_sem ↓] Go.wp_at_zero Go.wp_at_succ
theorem Lies.step {w0 w3 w4 : World} {y : S26} {B3 : Option Addr} {d3 : Nat} {B4 : Option Addr} {d4 : Nat} {B5 : Option Addr} {d5 : Nat} {m n : Nat} (l : Lies (fun i => i < w0.heap.size ∨ m ≤ i) w3 y B3 d3 B4 d4 B5 d5) (g : Below w3.heap.size w3 w4) (hm : n ≤ m) :
    Lies (fun i => i < w0.heap.size ∨ n ≤ i) w4 y B3 d3 B4 d4 B5 d5 := l.move (Agree.of_below g (fun _ _ h => h)) (fun i hi _ => by omega)
end Go.Proofs.YtmlcaecknocpoaaDoor.It
namespace Go.Proofs.YtmlcaecknocpoaaDoor.It
set_option linter.unusedVariables false
set_option linter.unusedSimpArgs false
open Go Go.RowKit Go.Shelf Go.Proofs.YtmlcaecknocpoaaDoorW.PrintWords Go.Proofs.YtmlcaecknocpoaaDoorW.PrintLast Go.Proofs.YtmlcaecknocpoaaDoor.Pr Go.Proofs.YtmlcaecknocpoaaDoor.Sp
attribute [local go_sem ↓] Go.wp_at_zero Go.wp_at_succ
end Go.Proofs.YtmlcaecknocpoaaDoor.It
namespace Go.Proofs.YtmlcaecknocpoaaDoor.Pr
open Go.RowKit Go.Proofs.YtmlcaecknocpoaaDoorW.PrintWords Go.Proofs.YtmlcaecknocpoaaDoorW.PrintLast Go.Proofs.YtmlcaecknocpoaaDoorW.PrintMore
attribute [local go_sem] max2_int min2_int max_two min_two max_three min_three max_four min_four   
set_option linter.unusedVariables false
set_option linter.unusedSimpArgs false
end Go.Proofs.YtmlcaecknocpoaaDoor.Pr
