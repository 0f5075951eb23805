/- Lemmas and walks for the claim below. -/
import Derived.Test.YtmlcaecknocpoaaDoorQrK2
import Derived.Lib.IndexEntry
namespace Go.Proofs.YtmlcaecknocpoaaDoor.It
open Go Go.RowKit Go.Shelf Go.Proofs.YtmlcaecknocpoaaDoorW.PrintWords Go.Proofs.YtmlcaecknocpoaaDoorW.PrintLast Go.Proofs.YtmlcaecknocpoaaDoor.Pr Go.Proofs.YtmlcaecknocpoaaDoor.Sp
attribute [local go_sem] Oper.semAt_some
mutual
theorem form_nodes : ∀ x : S26, form x = (nodes x).all here
 | ⟨k, nm, n, ts, bs, l⟩ => by simp [form, nodes, forms_nodes l]
theorem forms_nodes : ∀ l : List S26, forms l = (nodesL l).all here
 | [] => rfl
 | x :: l => by simp [forms, nodesL, form_nodes x, forms_nodes l]
end
mutual
theorem depth_le : ∀ x : S26, depth x ≤ size x
 | ⟨_, _, _, _, _, l⟩ => by have := depths_le l; simp [depth, size]; omega
theorem depths_le : ∀ l : List S26, depths l ≤ sizes l
 | [] => by simp [depths, sizes]
 | x :: l => by have := depth_le x; have := depths_le l; simp [depths, sizes]; omega
end
theorem size_child (l : List S26) (j : Nat) (h : j < l.length) : size (rd_T26 l j) ≤ sizes l := by
 have := sizes_take l j h
 omega
theorem depths_take (l : List S26) (j : Nat) (h : j < l.length) : depths (l.take (j + 1)) = max (depths (l.take j)) (depth (rd_T26 l j)) := by
 induction l generalizing j with
 | nil => simp at h
 | cons x l ih =>
   cases j with
   | zero => simp [depths, rd_T26]
   | succ j =>
     have := ih j (by simpa using h)
     have e : rd_T26 (x :: l) ((j + 1 : Nat) : Int) = rd_T26 l j := by simp [rd_T26]
     rw [e]
     simp only [List.take_succ_cons, depths]
     rw [this]
     omega
theorem own_block {β : Type} (B : Nat) (cs : Array Value) (t : TypeId) (fr : Nat × Nat) : Own (fun (_ : β) W => W.heap[B]? = some (.cells cs t fr)) := fun s X Y row hs hg hrow =>
 (hg.block B (Array.getElem?_eq_some_iff.1 hs).1 (fun e' => by obtain ⟨o, ho, hc⟩ := hrow B e'.symm; rw [hs] at ho; cases ho; cases hc)).trans hs
theorem wrap_in {n : Int} (h : -9223372036854775808 ≤ n ∧ n ≤ 9223372036854775807) : wrap64 n = n := by unfold wrap64; omega
theorem depth_ev (s : Nat) : ∀ x : S26, size x ≤ s → size x ≤ 4611686018427387904 → Ev (fun k => formula_Depth.f k x.f0 x.f1 x.f2 x.f3 x.f4 x.f5) (depth x : Int) := by
 induction s with
 | zero => intro x h; rw [size_eq] at h; omega
 | succ s ih =>
   rintro ⟨k, nm, n, ts, bs, l⟩ hs hb
   simp only [size] at hs hb
   have hd := depths_le l
   have loop : ∀ d j : Nat, j + d = l.length → Ev (fun k => formula_Depth.l0 k (depths (l.take j) : Int) l (l.length : Int) (j : Int)) ((depths l + 1 : Nat) : Int) := by
     intro d
     induction d with
     | zero =>
       intro j hj
       have e : j = l.length := by omega
       subst e
       refine Ev.step (f := fun _ => some ((depths l + 1 : Nat) : Int)) (fun k => ?_) (Ev.now _)
       simp only [formula_Depth.l0]
       rw [if_neg (by omega), List.take_length, wrap_in (by omega)]
       simp
     | succ d ihd =>
       intro j hj
       have hlt : j < l.length := by omega
       have hc := size_child l j hlt
       refine Ev.step (f := fun k => (formula_Depth.f k (rd_T26 l j).f0 (rd_T26 l j).f1 (rd_T26 l j).f2 (rd_T26 l j).f3 (rd_T26 l j).f4 (rd_T26 l j).f5).bind fun t => formula_Depth.l0 k (mx (depths (l.take j) : Int) t) l (l.length : Int) (wrap64 ((j : Int) + 1))) (fun k => ?_) ?_
       · simp only [formula_Depth.l0]
         rw [if_pos (by omega), if_pos (by omega), if_pos (by omega)]
       · refine Ev.bind (ih (rd_T26 l j) (by omega) (by omega)) ?_
         have hlen : l.length ≤ sizes l := by
           clear ihd ih hs hb hd hj hlt hc
           induction l with
           | nil => simp
           | cons x l ihl => simp only [List.length_cons, sizes]; rw [size_eq]; omega
         have e1 : mx (depths (l.take j) : Int) (depth (rd_T26 l j) : Int) = (depths (l.take (j + 1)) : Int) := by
           rw [depths_take l j hlt]
           unfold mx
           split <;> omega
         have e2 : wrap64 ((j : Int) + 1) = ((j + 1 : Nat) : Int) := by rw [wrap_in (by omega)]; simp
         rw [e1, e2]
         exact ihd (j + 1) (by omega)
   refine Ev.step (f := fun k => formula_Depth.l0 k 0 l (l.length : Int) 0) (fun k => rfl) ?_
   exact loop l.length 0 (by omega)
theorem depth_calls (x : S26) (A3 : Option Addr) (c3 : Nat) (A4 : Option Addr) (c4 : Nat) (A5 : Option Addr) (c5 : Nat) (w : World) (hat : At w x A3 c3 A4 c4 A5 c5) (hs : size x ≤ 4611686018427387904) :
   Calls Tryd.prog 26 #[.agg #[.int .i64 x.f0, .string x.f1, .int .i64 x.f2, .slice A3 x.f3.length c3, .slice A4 x.f4.length c4, .slice A5 x.f5.length c5]] w fun e w' => e = .returned (.int .i64 (depth x)) ∧ Below w.heap.size w w' := by
 obtain ⟨k, hk⟩ := (depth_ev (size x) x (Nat.le_refl _) hs).rounds
 exact formula_Depth.calls k _ _ _ _ _ _ _ _ _ _ _ _ _ _ hat.g3 hat.l3 hat.g4 hat.l4 hat.g5 hat.l5 hk
theorem size_calls (x : S26) (A3 : Option Addr) (c3 : Nat) (A4 : Option Addr) (c4 : Nat) (A5 : Option Addr) (c5 : Nat) (w : World) (hat : At w x A3 c3 A4 c4 A5 c5) (hs : size x ≤ 4611686018427387904) (hok : Deep x) :
   Calls Tryd.prog 24 #[.agg #[.int .i64 x.f0, .string x.f1, .int .i64 x.f2, .slice A3 x.f3.length c3, .slice A4 x.f4.length c4, .slice A5 x.f5.length c5]] w fun e w' => e = .returned (.int .i64 (size x)) ∧ Below w.heap.size w w' :=
 callsIn_wide.1 (size_in Fence.wide rfl 3 trivial trivial trivial trivial rfl (Nat.le_refl _) x A3 c3 A4 c4 A5 c5 w hat hs hok)
theorem results_cell29 {fn : Func} (h : fn.results = #[.cell 2 29]) (tmps : Array Value) (w : World) (B : Nat) (v : Value) (hB : Boxed w B 29 v) (ht : tmps[2]?.getD undef = .pointer (some ⟨B, 0, none⟩)) :
   (results fn tmps).run Tryd.prog w = .ok v w := by
 have hc := hB.cell
 simp [results, h, ht, hc, loadVar, asAddr, go_sem]
set_option maxRecDepth 100000 in
set_option maxHeartbeats 8000000 in
theorem check_calls (x : S26) (A3 : Option Addr) (c3 : Nat) (A4 : Option Addr) (c4 : Nat) (A5 : Option Addr) (c5 : Nat) (w : World)
   (hat : At w x A3 c3 A4 c4 A5 c5) (hs : size x ≤ 4611686018427387904) (hd : Deep x) (ht : Tabs w) :
   Calls Tryd.prog 22 #[.agg #[.int .i64 x.f0, .string x.f1, .int .i64 x.f2, .slice A3 x.f3.length c3, .slice A4 x.f4.length c4, .slice A5 x.f5.length c5]] w fun e w' => e = .returned (.int .i64 (check x)) ∧ Below w.heap.size w w' := by
 refine callsIn_wide.1 (?_ : CallsIn Fence.wide 3 _ _ _ _ _)
 have h1 : 1 ≤ 3 := by omega
 have h52 : Fence.wide.fn 52 := trivial
 have h53 : Fence.wide.fn 53 := trivial
 have h24 : Fence.wide.fn 24 := trivial
 have h26 : Fence.wide.fn 26 := trivial
 refine callsIn_of_wp_marks Tryd.func22 rfl trivial ?_ rfl
 simp only [Tryd.ntmps22, List.size_toArray, List.length_cons, List.length_nil, Nat.reduceAdd, Nat.reduceSub, Array.replicate_succ, Array.replicate_zero, List.push_toArray, List.append_toArray, List.nil_append, List.cons_append]
 gi_wp2_with (gi_at_call 52; refine (all_in Fence.wide (3 - 1) trivial rfl _ x A3 c3 A4 c4 A5 c5 _ rfl).mono ?_; rintro e w' ⟨rfl, rfl⟩)
 obtain ⟨W0, hW0⟩ : ∃ W0, (((w.alloc (.cells #[.int .i64 x.f0, .string x.f1, .int .i64 x.f2, .slice A3 x.f3.length c3, .slice A4 x.f4.length c4, .slice A5 x.f5.length c5] 26)).alloc (.cells #[.int .i64 0] 29)).alloc
   (.cells #[.int .i64 x.f0, .string x.f1, .int .i64 x.f2, .slice A3 x.f3.length c3, .slice A4 x.f4.length c4, .slice A5 x.f5.length c5] 26)) = W0 := ⟨_, rfl⟩
 have hB : Below w.heap.size w W0 := by rw [← hW0]; exact (((Below.refl _ w).alloc (Nat.le_refl _) _).alloc (by simp) _).alloc (by simp; omega) _
 have hsz : W0.heap.size = w.heap.size + 3 := by rw [← hW0]; simp
 have hn : Boxed W0 (w.heap.size + 1) 29 (.int .i64 0) := by
   rw [← hW0]
   refine Boxed.alloc ?_ _
   have h := heap_new (w.alloc (.cells #[.int .i64 x.f0, .string x.f1, .int .i64 x.f2, .slice A3 x.f3.length c3, .slice A4 x.f4.length c4, .slice A5 x.f5.length c5] 26)) (.cells #[.int .i64 0] 29)
   rw [World.size_alloc] at h
   exact h
 have h0 : W0.heap[w.heap.size]? = some (.cells #[.int .i64 x.f0, .string x.f1, .int .i64 x.f2, .slice A3 x.f3.length c3, .slice A4 x.f4.length c4, .slice A5 x.f5.length c5] 26 (0, 0)) := by
   rw [← hW0]
   refine (Below.heap_alloc _ _ _ (by simp; omega)).trans ((Below.heap_alloc _ _ _ (by simp)).trans (heap_new w _))
 have hf : W0.heap[w.heap.size + 2]? = some (.cells #[.int .i64 x.f0, .string x.f1, .int .i64 x.f2, .slice A3 x.f3.length c3, .slice A4 x.f4.length c4, .slice A5 x.f5.length c5] 26 (0, 0)) := by
   rw [← hW0]
   have h := heap_new ((w.alloc (.cells #[.int .i64 x.f0, .string x.f1, .int .i64 x.f2, .slice A3 x.f3.length c3, .slice A4 x.f4.length c4, .slice A5 x.f5.length c5] 26)).alloc (.cells #[.int .i64 0] 29)) (.cells #[.int .i64 x.f0, .string x.f1, .int .i64 x.f2, .slice A3 x.f3.length c3, .slice A4 x.f4.length c4, .slice A5 x.f5.length c5] 26)
   rw [World.size_alloc, World.size_alloc] at h
   exact h
 rw [hW0]
 clear hW0
 refine wpIn_rangeFunc_ownH rfl h1 (gf := 78) (lb := #[.pointer (some ⟨w.heap.size + 1 + 1, 0, none⟩)]) rfl trivial (enters_of Tryd.func78 (by kernel_rfl) rfl)
   (all1_stops Fence.wide rfl (3 - 1) trivial trivial rfl w ⟨x, A3, c3, A4, c4, A5, c5, hat, hd⟩ (w.heap.size + 1 + 1) W0 hB (by omega) hf) (fun h k => h.trans k) (fun W l o o' hl h hc hw => Kp.put (w := W0) hB.size W l o o' hl h hc hw) (Below.refl _ _) (fun _ => rfl)
   (fun pre W => (W.heap[w.heap.size]? = some (.cells #[.int .i64 x.f0, .string x.f1, .int .i64 x.f2, .slice A3 x.f3.length c3, .slice A4 x.f4.length c4, .slice A5 x.f5.length c5] 26 (0, 0)) ∧ Boxed W (w.heap.size + 1) 29 (.int .i64 0)) ∧ (Below w.heap.size w W ∧ (∀ p ∈ pre, here p.x = true)))
   (fun c pre W => (c = Code.ret ∧ Boxed W (w.heap.size + 1) 29 (.int .i64 1)) ∧ (Below w.heap.size w W ∧ (∃ p ∈ pre, here p.x = false)))
   (OwnFrom.and (OwnFrom.and (Own.from (own_block _ _ _ _) _) (Own.from (boxed_own _ _ _) _)) (OwnFrom.and (ownFrom_below (Nat.le_refl _) (by omega)) (ownFrom_pure _ _)))
   (fun c => OwnFrom.and (OwnFrom.and (ownFrom_pure _ _) (Own.from (boxed_own _ _ _) _)) (OwnFrom.and (ownFrom_below (Nat.le_refl _) (by omega)) (ownFrom_pure _ _)))
   ⟨⟨h0, hn⟩, hB, by simp⟩
   (fun p a' W => ∃ Bx, w.heap.size + 1 < Bx ∧ W.heap[Bx]? = some (.cells #[.int .i64 p.x.f0, .string p.x.f1, .int .i64 p.x.f2, .slice p.A3 p.x.f3.length p.c3, .slice p.A4 p.x.f4.length p.c4, .slice p.A5 p.x.f5.length p.c5] 26 (0, 0)) ∧
     a' = { tmps := #[.agg #[.int .i64 x.f0, .string x.f1, .int .i64 x.f2, .slice A3 x.f3.length c3, .slice A4 x.f4.length c4, .slice A5 x.f5.length c5], .pointer (some ⟨w.heap.size, 0, none⟩), .pointer (some ⟨w.heap.size + 1, 0, none⟩), .pointer (some ⟨Bx, 0, none⟩),
     .agg #[.int .i64 x.f0, .string x.f1, .int .i64 x.f2, .slice A3 x.f3.length c3, .slice A4 x.f4.length c4, .slice A5 x.f5.length c5], .func (.func 78) #[] #[.pointer (some ⟨w.heap.size + 1 + 1, 0, none⟩)], p.val, undef, undef, undef, undef, undef, undef, undef, undef, undef, undef, undef], defers := [] })
   (fun p a' _ X Y row hs hg hr => by obtain ⟨Bx, h1, h2, h3⟩ := hs; exact ⟨Bx, h1, own_block Bx _ 26 (0, 0) () X Y row h2 hg (fun r e => (hr r e).2), h3⟩)
   ?assign ?body ?done ?stop
 case assign =>
   rintro l pre p W K ⟨⟨k0, k1⟩, k2, k3⟩ hK
   have hlt : w.heap.size + 1 < W.heap.size := k1.lt
   obtain ⟨px, pA3, pc3, pA4, pc4, pA5, pc5, pat, pok⟩ := p
   dsimp only [FA.val] at hK ⊢
   gi_wp2
   refine hK _ _ ((KeepsOthers.alloc _ _).from _) (Kp.alloc k2.size _) ⟨⟨(Below.heap_alloc _ _ _ (by omega)).trans k0, k1.alloc _⟩, k2.alloc k2.size _, k3⟩ ⟨W.heap.size, hlt, heap_new W _, rfl⟩
 case body =>
   rintro l pre p a' W hl ⟨r, hr⟩ ⟨⟨k0, k1⟩, k2, k3⟩ ⟨Bx, hBx, kx, rfl⟩ hlen
   obtain ⟨px, pA3, pc3, pA4, pc4, pA5, pc5, pat, pok⟩ := p
   have hlt : w.heap.size + 1 < W.heap.size := k1.lt
   have hc1 := (cell_blk k1).1
   have hf1 := (cell_blk k1).2
   have b0 := bCl kx 0
   have b1 := bCl kx 1
   have b2 := bCl kx 2
   have b3 := bCl kx 3
   have b4 := bCl kx 4
   have b5 := bCl kx 5
   simp only [List.getElem?_toArray, List.getElem?_cons_zero, List.getElem?_cons_succ] at b0 b1 b2 b3 b4 b5
   have hfm : CallsIn (Fence.wide.inRound l) 0 Tryd.prog 53 #[.agg #[.int .i64 px.f0, .string px.f1, .int .i64 px.f2, .slice pA3 px.f3.length pc3, .slice pA4 px.f4.length pc4, .slice pA5 px.f5.length pc5]] W fun e w' => e = .returned (.bool (here px)) ∧ Below W.heap.size W w' :=
     CallsIn.inRound l (callsIn_wide.2 (formed_calls px pA3 pc3 pA4 pc4 pA5 pc5 W (pat.below k2) pok.self (ht.below k2)))
   replace hfm := Aside0.mk hfm
   dsimp only [FA.val]
   gi_wp2
   gi_at_call 53
   refine hfm.out.mono ?_
   clear hfm
   rintro e W2 ⟨rfl, hbl⟩
   have z1 : Boxed W2 (w.heap.size + 1) 29 (.int .i64 0) := (hbl.block _ hlt).trans k1
   have z0 := (hbl.block _ (show w.heap.size < W.heap.size by omega)).trans k0
   have c1 := (cell_blk z1).1
   have f1 := (cell_blk z1).2
   have Z := Aside0.mk (And.intro z0 (And.intro z1 (k2.trans (hbl.mono k2.size))))
   have KF := Aside0.mk (show KeepsFrom W0.heap.size W W2 from ⟨hbl.size, fun k o _ hk _ => (hbl.block k (Array.getElem?_eq_some_iff.1 hk).1).trans hk⟩)
   clear z0 z1 k0 k1 k2 kx hc1 hf1 b0 b1 b2 b3 b4 b5
   obtain ⟨g, hg⟩ : ∃ g, here px = g := ⟨_, rfl⟩
   rw [hg]
   replace hg := Aside0.mk hg
   cases g
   · gi_wp2
     obtain ⟨z0, z1, k2⟩ := Z.out
     refine ⟨KF.out.trans ((KeepsOthers.setCell _ _ _).from _), ⟨rfl, ?_⟩, ?_, ?_⟩
     · exact z1.set _
     · exact k2.setCell (by simp) _
     · exact ⟨_, List.mem_append_right _ (List.mem_singleton.2 rfl), hg.out⟩
   · gi_wp2
     obtain ⟨z0, z1, k2⟩ := Z.out
     refine ⟨KF.out, Kp.of_below (by omega) hbl, ⟨z0, z1⟩, k2, ?_⟩
     intro q hq
     rcases List.mem_append.1 hq with h | h
     · exact k3 q h
     · obtain rfl := List.mem_singleton.1 h
       exact hg.out
 case done =>
   rintro D ys W hD hys ⟨⟨k0, k1⟩, k2, k3⟩ hK
   have b0 := bCl k0 0
   have b1 := bCl k0 1
   have b2 := bCl k0 2
   have b3 := bCl k0 3
   have b4 := bCl k0 4
   have b5 := bCl k0 5
   simp only [List.getElem?_toArray, List.getElem?_cons_zero, List.getElem?_cons_succ] at b0 b1 b2 b3 b4 b5
   have hlt : w.heap.size + 1 < W.heap.size := k1.lt
   have hDl : D < W.heap.size := (Array.getElem?_eq_some_iff.1 hK).1
   have hy : form x = true := by
     rw [form_nodes, List.all_eq_true]
     intro y hy
     rw [← hys, List.mem_map] at hy
     obtain ⟨p, hp, rfl⟩ := hy
     exact k3 p hp
   replace hy := Aside0.mk hy
   replace k3 := Aside0.mk k3
   gi_wp2
   gi_at_call 24
   refine (callsIn_wide.2 (size_calls x A3 c3 A4 c4 A5 c5 W (hat.below k2) hs hd)).mono ?_
   rintro e W1 ⟨rfl, hb1⟩
   have z1 : Boxed W1 (w.heap.size + 1) 29 (.int .i64 0) := (hb1.block _ hlt).trans k1
   have z0 := (hb1.block _ (show w.heap.size < W.heap.size by omega)).trans k0
   have zK := (hb1.block _ hDl).trans hK
   have zb := k2.trans (hb1.mono k2.size)
   have zl : w.heap.size + 1 < W1.heap.size := z1.lt
   have zD : D < W1.heap.size := (Array.getElem?_eq_some_iff.1 zK).1
   have c1 := (cell_blk z1).1
   have f1 := (cell_blk z1).2
   clear b0 b1 b2 b3 b4 b5 k0 k1 k2 hK hb1
   have b0 := bCl z0 0
   have b1 := bCl z0 1
   have b2 := bCl z0 2
   have b3 := bCl z0 3
   have b4 := bCl z0 4
   have b5 := bCl z0 5
   simp only [List.getElem?_toArray, List.getElem?_cons_zero, List.getElem?_cons_succ] at b0 b1 b2 b3 b4 b5
   gi_wp2
   · gi_at_call 26
     refine (callsIn_wide.2 (depth_calls x A3 c3 A4 c4 A5 c5 W1 (hat.below zb) hs)).mono ?_
     rintro e W2 ⟨rfl, hb2⟩
     have y1 : Boxed W2 (w.heap.size + 1) 29 (.int .i64 0) := (hb2.block _ zl).trans z1
     have yK := (hb2.block _ zD).trans zK
     have yb := zb.trans (hb2.mono zb.size)
     have yD : D < W2.heap.size := (Array.getElem?_eq_some_iff.1 yK).1
     clear c1 f1 b0 b1 b2 b3 b4 b5 z0 z1 zb zK hb2
     have c1 := (cell_blk y1).1
     have f1 := (cell_blk y1).2
     gi_wp2
     · rename_i hh
       have hne : D ≠ w.heap.size + 1 := fun he => by rw [he] at yK; rw [show _ = _ from y1] at yK; cases yK
       have hK' : (W2.setCell ⟨w.heap.size + 1, 0, none⟩ (.int .i64 2)).heap[D]? = some (.deferred (some [])) := (Below.heap_setCell _ _ _ _ hne).trans yK
       have yb' := yb.setCell (p := ⟨w.heap.size + 1, 0, none⟩) (Nat.le_add_right _ _) (.int .i64 2)
       have q1 : Boxed ((W2.setCell ⟨w.heap.size + 1, 0, none⟩ (.int .i64 2)).putObj D (.deferred none)) (w.heap.size + 1) 29 (.int .i64 2) := (World.putObj_heap_other (fun e => hne e.symm)).trans (y1.set _)
       refine ⟨by simp, .inl ⟨_, _, rfl, run_takeDeferred hK', ?_⟩⟩
       refine ⟨_, results_cell29 rfl _ _ _ _ q1 rfl, ?_, yb'.trans (belowK_b (w := w) (Nat.le_refl _) _ D _ _ (by omega) hK' rfl rfl)⟩
       rw [check, if_pos hy.out, if_pos (by omega)]
     · rename_i hh
       have hne : D ≠ w.heap.size + 1 := fun he => by rw [he] at yK; rw [show _ = _ from y1] at yK; cases yK
       have hK' : (W2.setCell ⟨w.heap.size + 1, 0, none⟩ (.int .i64 0)).heap[D]? = some (.deferred (some [])) := (Below.heap_setCell _ _ _ _ hne).trans yK
       have yb' := yb.setCell (p := ⟨w.heap.size + 1, 0, none⟩) (Nat.le_add_right _ _) (.int .i64 0)
       have q1 : Boxed ((W2.setCell ⟨w.heap.size + 1, 0, none⟩ (.int .i64 0)).putObj D (.deferred none)) (w.heap.size + 1) 29 (.int .i64 0) := (World.putObj_heap_other (fun e => hne e.symm)).trans (y1.set _)
       refine ⟨by simp, .inl ⟨_, _, rfl, run_takeDeferred hK', ?_⟩⟩
       refine ⟨_, results_cell29 rfl _ _ _ _ q1 rfl, ?_, yb'.trans (belowK_b (w := w) (Nat.le_refl _) _ D _ _ (by omega) hK' rfl rfl)⟩
       rw [check, if_pos hy.out, if_neg (by omega)]
   · rename_i hh
     have hne : D ≠ w.heap.size + 1 := fun he => by rw [he] at zK; rw [show _ = _ from z1] at zK; cases zK
     have hK' : (W1.setCell ⟨w.heap.size + 1, 0, none⟩ (.int .i64 2)).heap[D]? = some (.deferred (some [])) := (Below.heap_setCell _ _ _ _ hne).trans zK
     have yb' := zb.setCell (p := ⟨w.heap.size + 1, 0, none⟩) (Nat.le_add_right _ _) (.int .i64 2)
     have q1 : Boxed ((W1.setCell ⟨w.heap.size + 1, 0, none⟩ (.int .i64 2)).putObj D (.deferred none)) (w.heap.size + 1) 29 (.int .i64 2) := (World.putObj_heap_other (fun e => hne e.symm)).trans (z1.set _)
     refine ⟨by simp, .inl ⟨_, _, rfl, run_takeDeferred hK', ?_⟩⟩
     refine ⟨_, results_cell29 rfl _ _ _ _ q1 rfl, ?_, yb'.trans (belowK_b (w := w) (Nat.le_refl _) _ D _ _ (by omega) hK' rfl rfl)⟩
     rw [check, if_pos hy.out, if_pos (by omega)]
 case stop =>
   rintro D c pre W hD ⟨q, hq⟩ ⟨⟨rfl, k1⟩, k2, p, hp, hf⟩ hK
   gi_wp2
   have hne : D ≠ w.heap.size + 1 := fun he => by rw [he] at hK; rw [show _ = _ from k1] at hK; cases hK
   have q1 : Boxed (W.putObj D (.deferred none)) (w.heap.size + 1) 29 (.int .i64 1) := (World.putObj_heap_other (fun e => hne e.symm)).trans k1
   refine ⟨by simp, .inl ⟨_, _, rfl, run_takeDeferred hK, ?_⟩⟩
   refine ⟨_, results_cell29 rfl _ _ _ _ q1 rfl, ?_, k2.trans (belowK_b (w := w) (Nat.le_refl _) _ D _ _ (by omega) hK rfl rfl)⟩
   have hn : form x = false := by
     rw [form_nodes, List.all_eq_false]
     refine ⟨p.x, ?_, by simp [hf]⟩
     rw [← hq]
     exact List.mem_append_left _ (List.mem_map_of_mem hp)
   rw [check, if_neg (by simp [hn])]
end Go.Proofs.YtmlcaecknocpoaaDoor.It
namespace Go.Proofs.YtmlcaecknocpoaaDoor.Pr
open Go.RowKit Go.Proofs.YtmlcaecknocpoaaDoorW.PrintWords Go.Proofs.YtmlcaecknocpoaaDoorW.PrintLast Go.Proofs.YtmlcaecknocpoaaDoorW.PrintMore
attribute [local go_sem] max2_int min2_int max_two min_two max_three min_three max_four min_four   
set_option linter.unusedVariables false
set_option linter.unusedSimpArgs false
def rf6Word.l0 : Nat → ByteArray → Int → Option (Bool)
 | 0, _, _ => none
 | k + 1, x0, x3 => if x3 < (x0.size : Int) then (if 0 ≤ x3 then (if (bt x0 x3) ≥ 97 then (if ((bt x0 x3) ≤ 122) then (rf6Word.l0 k x0 (wrap64 (x3 + 1))) else (if x3 = 0 then (some false) else (if (bt x0 x3) ≥ 48 then (if ((bt x0 x3) ≤ 57) then (rf6Word.l0 k x0 (wrap64 (x3 + 1))) else (if (bt x0 x3) = 95 then (rf6Word.l0 k x0 (wrap64 (x3 + 1))) else (some false))) else (if (bt x0 x3) = 95 then (rf6Word.l0 k x0 (wrap64 (x3 + 1))) else (some false))))) else (if x3 = 0 then (some false) else (if (bt x0 x3) ≥ 48 then (if ((bt x0 x3) ≤ 57) then (rf6Word.l0 k x0 (wrap64 (x3 + 1))) else (if (bt x0 x3) = 95 then (rf6Word.l0 k x0 (wrap64 (x3 + 1))) else (some false))) else (if (bt x0 x3) = 95 then (rf6Word.l0 k x0 (wrap64 (x3 + 1))) else (some false))))) else (none)) else (if (x0.size : Int) ≥ 1 then (some (decide ((x0.size : Int) ≤ 64))) else (some false))
def rf6Word.f (k : Nat) (a0 : ByteArray) : Option (Bool) := rf6Word.l0 k a0 0
set_option maxHeartbeats 8000000 in
set_option maxRecDepth 100000 in
theorem rf6Word.calls (k : Nat) (a0 : ByteArray) (r : Bool) (w : World) (h : rf6Word.f k a0 = some r) :
   Calls Tryd.prog 76 #[.string a0] w fun e w' => e = .returned (.bool r) ∧ Drawn0 w w' := by
 have H : (rf6Word.l0 k a0 0) = some r := h
 clear h
 have H' := Aside0.mk H
 clear H
 go_enter Tryd.func76, Tryd.ntmps76
 go_wp2
 go_loopg [3] k (fun kq v3 w' => ∃ (x3_1 : Int), v3 = .int .i64 x3_1 ∧ Aside0 (rf6Word.l0 kq a0 x3_1 = some r) ∧ Aside0 (kq ≤ k) ∧ Drawn0 w w')
 case atStart => exact ⟨(0), (by first | rfl | (simp; done) | (simp [*]; done)), H', ⟨Nat.le_refl _⟩, by repeat (first | exact Drawn0.refl _ | apply Drawn0.step)⟩
 case round =>
   clear H'
   obtain ⟨x3_1, rfl, HA, HK1, ⟨m1, rfl⟩⟩ := hrel
   cases gk with
   | zero => exact absurd HA.out (by simp [rf6Word.l0])
   | succ k1 =>
     have H := HA.out
     clear HA
     simp only [rf6Word.l0] at H
     by_cases c2 : x3_1 < (a0.size : Int)
     · rw [if_pos c2] at H
       have c2b0 : decide (x3_1 < (a0.size : Int)) = true := decide_eq_true c2
       clear c2
       by_cases c3 : 0 ≤ x3_1
       · rw [if_pos c3] at H
         have c3b0 : decide (0 ≤ x3_1) = true := decide_eq_true c3
         clear c3
         by_cases c5 : (bt a0 x3_1) ≥ 97
         · rw [if_pos c5] at H
           have c5b0 : decide (97 ≤ (bt a0 x3_1)) = true := decide_eq_true c5
           clear c5
           by_cases c6 : ((bt a0 x3_1) ≤ 122)
           · rw [if_pos c6] at H
             have c6b0 : decide ((bt a0 x3_1) ≤ 122) = true := decide_eq_true c6
             clear c6
             have H' := Aside0.mk H
             clear H
             have p4 : 0 ≤ (x3_1 : Int) := of_decide_eq_true (by first | (with_reducible assumption) | assumption)
             have q4 : x3_1 < (a0.size : Int) := of_decide_eq_true (by first | (with_reducible assumption) | assumption)
             have hx4 := bt_at a0 x3_1
             replace p4 := eq_true p4
             replace q4 := eq_true q4
             go_wp2
             go_roundg k1
             case measure => have := HK1.out; omega
             case rel => exact ⟨(wrap64 (x3_1 + 1)), (by first | rfl | (simp; done) | (simp [*]; done)), H', ⟨by have := HK1.out; omega⟩, by repeat (first | exact Drawn0.refl _ | apply Drawn0.step)⟩
           · rw [if_neg c6] at H
             have c6b0 : decide ((bt a0 x3_1) ≤ 122) = false := decide_eq_false c6
             clear c6
             by_cases c7 : x3_1 = 0
             · rw [if_pos c7] at H
               have c7b0 : (x3_1 == 0) = true := beq_iff_eq.mpr c7
               have c7b1 : (x3_1 != 0) = false := bne_eq_false_iff_eq.mpr c7
               clear c7
               obtain rfl := Option.some.inj H
               have p4 : 0 ≤ (x3_1 : Int) := of_decide_eq_true (by first | (with_reducible assumption) | assumption)
               have q4 : x3_1 < (a0.size : Int) := of_decide_eq_true (by first | (with_reducible assumption) | assumption)
               have hx4 := bt_at a0 x3_1
               replace p4 := eq_true p4
               replace q4 := eq_true q4
               go_wp2
               go_ret
               exact ⟨by first | rfl | (simp; done) | (simp [*]; done), by repeat (first | exact Drawn0.refl _ | apply Drawn0.step)⟩
             · rw [if_neg c7] at H
               have c7b0 : (x3_1 == 0) = false := beq_eq_false_iff_ne.mpr c7
               have c7b1 : (x3_1 != 0) = true := bne_iff_ne.mpr c7
               by_cases c8 : (bt a0 x3_1) ≥ 48
               · rw [if_pos c8] at H
                 have c8b0 : decide (48 ≤ (bt a0 x3_1)) = true := decide_eq_true c8
                 clear c8
                 by_cases c9 : ((bt a0 x3_1) ≤ 57)
                 · rw [if_pos c9] at H
                   have c9b0 : decide ((bt a0 x3_1) ≤ 57) = true := decide_eq_true c9
                   clear c9
                   have H' := Aside0.mk H
                   clear H
                   have p4 : 0 ≤ (x3_1 : Int) := of_decide_eq_true (by first | (with_reducible assumption) | assumption)
                   have q4 : x3_1 < (a0.size : Int) := of_decide_eq_true (by first | (with_reducible assumption) | assumption)
                   have hx4 := bt_at a0 x3_1
                   replace p4 := eq_true p4
                   replace q4 := eq_true q4
                   go_wp2
                   go_roundg k1
                   case measure => have := HK1.out; omega
                   case rel => exact ⟨(wrap64 (x3_1 + 1)), (by first | rfl | (simp; done) | (simp [*]; done)), H', ⟨by have := HK1.out; omega⟩, by repeat (first | exact Drawn0.refl _ | apply Drawn0.step)⟩
                 · rw [if_neg c9] at H
                   have c9b0 : decide ((bt a0 x3_1) ≤ 57) = false := decide_eq_false c9
                   clear c9
                   by_cases c10 : (bt a0 x3_1) = 95
                   · rw [if_pos c10] at H
                     have c10b0 : ((bt a0 x3_1) == 95) = true := beq_iff_eq.mpr c10
                     have c10b1 : ((bt a0 x3_1) != 95) = false := bne_eq_false_iff_eq.mpr c10
                     clear c10
                     have H' := Aside0.mk H
                     clear H
                     have p4 : 0 ≤ (x3_1 : Int) := of_decide_eq_true (by first | (with_reducible assumption) | assumption)
                     have q4 : x3_1 < (a0.size : Int) := of_decide_eq_true (by first | (with_reducible assumption) | assumption)
                     have hx4 := bt_at a0 x3_1
                     replace p4 := eq_true p4
                     replace q4 := eq_true q4
                     go_wp2
                     go_roundg k1
                     case measure => have := HK1.out; omega
                     case rel => exact ⟨(wrap64 (x3_1 + 1)), (by first | rfl | (simp; done) | (simp [*]; done)), H', ⟨by have := HK1.out; omega⟩, by repeat (first | exact Drawn0.refl _ | apply Drawn0.step)⟩
                   · rw [if_neg c10] at H
                     have c10b0 : ((bt a0 x3_1) == 95) = false := beq_eq_false_iff_ne.mpr c10
                     have c10b1 : ((bt a0 x3_1) != 95) = true := bne_iff_ne.mpr c10
                     obtain rfl := Option.some.inj H
                     have p4 : 0 ≤ (x3_1 : Int) := of_decide_eq_true (by first | (with_reducible assumption) | assumption)
                     have q4 : x3_1 < (a0.size : Int) := of_decide_eq_true (by first | (with_reducible assumption) | assumption)
                     have hx4 := bt_at a0 x3_1
                     replace p4 := eq_true p4
                     replace q4 := eq_true q4
                     go_wp2
                     go_ret
                     exact ⟨by first | rfl | (simp; done) | (simp [*]; done), by repeat (first | exact Drawn0.refl _ | apply Drawn0.step)⟩
               · rw [if_neg c8] at H
                 have c8b0 : decide (48 ≤ (bt a0 x3_1)) = false := decide_eq_false c8
                 clear c8
                 by_cases c11 : (bt a0 x3_1) = 95
                 · rw [if_pos c11] at H
                   have c11b0 : ((bt a0 x3_1) == 95) = true := beq_iff_eq.mpr c11
                   have c11b1 : ((bt a0 x3_1) != 95) = false := bne_eq_false_iff_eq.mpr c11
                   clear c11
                   have H' := Aside0.mk H
                   clear H
                   have p4 : 0 ≤ (x3_1 : Int) := of_decide_eq_true (by first | (with_reducible assumption) | assumption)
                   have q4 : x3_1 < (a0.size : Int) := of_decide_eq_true (by first | (with_reducible assumption) | assumption)
                   have hx4 := bt_at a0 x3_1
                   replace p4 := eq_true p4
                   replace q4 := eq_true q4
                   go_wp2
                   go_roundg k1
                   case measure => have := HK1.out; omega
                   case rel => exact ⟨(wrap64 (x3_1 + 1)), (by first | rfl | (simp; done) | (simp [*]; done)), H', ⟨by have := HK1.out; omega⟩, by repeat (first | exact Drawn0.refl _ | apply Drawn0.step)⟩
                 · rw [if_neg c11] at H
                   have c11b0 : ((bt a0 x3_1) == 95) = false := beq_eq_false_iff_ne.mpr c11
                   have c11b1 : ((bt a0 x3_1) != 95) = true := bne_iff_ne.mpr c11
                   obtain rfl := Option.some.inj H
                   have p4 : 0 ≤ (x3_1 : Int) := of_decide_eq_true (by first | (with_reducible assumption) | assumption)
                   have q4 : x3_1 < (a0.size : Int) := of_decide_eq_true (by first | (with_reducible assumption) | assumption)
                   have hx4 := bt_at a0 x3_1
                   replace p4 := eq_true p4
                   replace q4 := eq_true q4
                   go_wp2
                   go_ret
                   exact ⟨by first | rfl | (simp; done) | (simp [*]; done), by repeat (first | exact Drawn0.refl _ | apply Drawn0.step)⟩
         · rw [if_neg c5] at H
           have c5b0 : decide (97 ≤ (bt a0 x3_1)) = false := decide_eq_false c5
           clear c5
           by_cases c12 : x3_1 = 0
           · rw [if_pos c12] at H
             have c12b0 : (x3_1 == 0) = true := beq_iff_eq.mpr c12
             have c12b1 : (x3_1 != 0) = false := bne_eq_false_iff_eq.mpr c12
             clear c12
             obtain rfl := Option.some.inj H
             have p4 : 0 ≤ (x3_1 : Int) := of_decide_eq_true (by first | (with_reducible assumption) | assumption)
             have q4 : x3_1 < (a0.size : Int) := of_decide_eq_true (by first | (with_reducible assumption) | assumption)
             have hx4 := bt_at a0 x3_1
             replace p4 := eq_true p4
             replace q4 := eq_true q4
             go_wp2
             go_ret
             exact ⟨by first | rfl | (simp; done) | (simp [*]; done), by repeat (first | exact Drawn0.refl _ | apply Drawn0.step)⟩
           · rw [if_neg c12] at H
             have c12b0 : (x3_1 == 0) = false := beq_eq_false_iff_ne.mpr c12
             have c12b1 : (x3_1 != 0) = true := bne_iff_ne.mpr c12
             by_cases c13 : (bt a0 x3_1) ≥ 48
             · rw [if_pos c13] at H
               have c13b0 : decide (48 ≤ (bt a0 x3_1)) = true := decide_eq_true c13
               clear c13
               by_cases c14 : ((bt a0 x3_1) ≤ 57)
               · rw [if_pos c14] at H
                 have c14b0 : decide ((bt a0 x3_1) ≤ 57) = true := decide_eq_true c14
                 clear c14
                 have H' := Aside0.mk H
                 clear H
                 have p4 : 0 ≤ (x3_1 : Int) := of_decide_eq_true (by first | (with_reducible assumption) | assumption)
                 have q4 : x3_1 < (a0.size : Int) := of_decide_eq_true (by first | (with_reducible assumption) | assumption)
                 have hx4 := bt_at a0 x3_1
                 replace p4 := eq_true p4
                 replace q4 := eq_true q4
                 go_wp2
                 go_roundg k1
                 case measure => have := HK1.out; omega
                 case rel => exact ⟨(wrap64 (x3_1 + 1)), (by first | rfl | (simp; done) | (simp [*]; done)), H', ⟨by have := HK1.out; omega⟩, by repeat (first | exact Drawn0.refl _ | apply Drawn0.step)⟩
               · rw [if_neg c14] at H
                 have c14b0 : decide ((bt a0 x3_1) ≤ 57) = false := decide_eq_false c14
                 clear c14
                 by_cases c15 : (bt a0 x3_1) = 95
                 · rw [if_pos c15] at H
                   have c15b0 : ((bt a0 x3_1) == 95) = true := beq_iff_eq.mpr c15
                   have c15b1 : ((bt a0 x3_1) != 95) = false := bne_eq_false_iff_eq.mpr c15
                   clear c15
                   have H' := Aside0.mk H
                   clear H
                   have p4 : 0 ≤ (x3_1 : Int) := of_decide_eq_true (by first | (with_reducible assumption) | assumption)
                   have q4 : x3_1 < (a0.size : Int) := of_decide_eq_true (by first | (with_reducible assumption) | assumption)
                   have hx4 := bt_at a0 x3_1
                   replace p4 := eq_true p4
                   replace q4 := eq_true q4
                   go_wp2
                   go_roundg k1
                   case measure => have := HK1.out; omega
                   case rel => exact ⟨(wrap64 (x3_1 + 1)), (by first | rfl | (simp; done) | (simp [*]; done)), H', ⟨by have := HK1.out; omega⟩, by repeat (first | exact Drawn0.refl _ | apply Drawn0.step)⟩
                 · rw [if_neg c15] at H
                   have c15b0 : ((bt a0 x3_1) == 95) = false := beq_eq_false_iff_ne.mpr c15
                   have c15b1 : ((bt a0 x3_1) != 95) = true := bne_iff_ne.mpr c15
                   obtain rfl := Option.some.inj H
                   have p4 : 0 ≤ (x3_1 : Int) := of_decide_eq_true (by first | (with_reducible assumption) | assumption)
                   have q4 : x3_1 < (a0.size : Int) := of_decide_eq_true (by first | (with_reducible assumption) | assumption)
                   have hx4 := bt_at a0 x3_1
                   replace p4 := eq_true p4
                   replace q4 := eq_true q4
                   go_wp2
                   go_ret
                   exact ⟨by first | rfl | (simp; done) | (simp [*]; done), by repeat (first | exact Drawn0.refl _ | apply Drawn0.step)⟩
             · rw [if_neg c13] at H
               have c13b0 : decide (48 ≤ (bt a0 x3_1)) = false := decide_eq_false c13
               clear c13
               by_cases c16 : (bt a0 x3_1) = 95
               · rw [if_pos c16] at H
                 have c16b0 : ((bt a0 x3_1) == 95) = true := beq_iff_eq.mpr c16
                 have c16b1 : ((bt a0 x3_1) != 95) = false := bne_eq_false_iff_eq.mpr c16
                 clear c16
                 have H' := Aside0.mk H
                 clear H
                 have p4 : 0 ≤ (x3_1 : Int) := of_decide_eq_true (by first | (with_reducible assumption) | assumption)
                 have q4 : x3_1 < (a0.size : Int) := of_decide_eq_true (by first | (with_reducible assumption) | assumption)
                 have hx4 := bt_at a0 x3_1
                 replace p4 := eq_true p4
                 replace q4 := eq_true q4
                 go_wp2
                 go_roundg k1
                 case measure => have := HK1.out; omega
                 case rel => exact ⟨(wrap64 (x3_1 + 1)), (by first | rfl | (simp; done) | (simp [*]; done)), H', ⟨by have := HK1.out; omega⟩, by repeat (first | exact Drawn0.refl _ | apply Drawn0.step)⟩
               · rw [if_neg c16] at H
                 have c16b0 : ((bt a0 x3_1) == 95) = false := beq_eq_false_iff_ne.mpr c16
                 have c16b1 : ((bt a0 x3_1) != 95) = true := bne_iff_ne.mpr c16
                 obtain rfl := Option.some.inj H
                 have p4 : 0 ≤ (x3_1 : Int) := of_decide_eq_true (by first | (with_reducible assumption) | assumption)
                 have q4 : x3_1 < (a0.size : Int) := of_decide_eq_true (by first | (with_reducible assumption) | assumption)
                 have hx4 := bt_at a0 x3_1
                 replace p4 := eq_true p4
                 replace q4 := eq_true q4
                 go_wp2
                 go_ret
                 exact ⟨by first | rfl | (simp; done) | (simp [*]; done), by repeat (first | exact Drawn0.refl _ | apply Drawn0.step)⟩
       · rw [if_neg c3] at H
         exact absurd H (by simp)
     · rw [if_neg c2] at H
       have c2b0 : decide (x3_1 < (a0.size : Int)) = false := decide_eq_false c2
       clear c2
       by_cases c17 : (a0.size : Int) ≥ 1
       · rw [if_pos c17] at H
         have c17b0 : decide (1 ≤ (a0.size : Int)) = true := decide_eq_true c17
         have c17b1 : decide (1 ≤ a0.size) = true := decide_eq_true (by omega)
         clear c17
         obtain rfl := Option.some.inj H
         go_wp2
         go_ret
         exact ⟨by first | rfl | (simp; done) | (simp [*]; done), by repeat (first | exact Drawn0.refl _ | apply Drawn0.step)⟩
       · rw [if_neg c17] at H
         have c17b0 : decide (1 ≤ (a0.size : Int)) = false := decide_eq_false c17
         have c17b1 : decide (1 ≤ a0.size) = false := decide_eq_false (by omega)
         clear c17
         obtain rfl := Option.some.inj H
         go_wp2
         go_ret
         exact ⟨by first | rfl | (simp; done) | (simp [*]; done), by repeat (first | exact Drawn0.refl _ | apply Drawn0.step)⟩
def rf6stands.l0 : Nat → ByteArray → ByteArray → Int → Option (Bool)
 | 0, _, _, _ => none
 | k + 1, x0, x1, x5 => if (wrap64 (x5 + (x1.size : Int))) ≤ (x0.size : Int) then (if 0 ≤ x5 then (if x5 ≤ (wrap64 (x5 + (x1.size : Int))) then (if (x0.extract (x5 : Int).toNat ((wrap64 (x5 + (x1.size : Int))) : Int).toNat).toList = x1.toList then (some true) else (rf6stands.l0 k x0 x1 (wrap64 (x5 + 1)))) else (none)) else (none)) else (some false)
def rf6stands.f (k : Nat) (a0 : ByteArray) (a1 : ByteArray) : Option (Bool) := rf6stands.l0 k a0 a1 0
set_option maxHeartbeats 8000000 in
set_option maxRecDepth 100000 in
theorem rf6stands.calls (k : Nat) (a0 : ByteArray) (a1 : ByteArray) (r : Bool) (w : World) (h : rf6stands.f k a0 a1 = some r) :
   Calls Tryd.prog 77 #[.string a0, .string a1] w fun e w' => e = .returned (.bool r) ∧ Drawn0 w w' := by
 have H : (rf6stands.l0 k a0 a1 0) = some r := h
 clear h
 have H' := Aside0.mk H
 clear H
 go_enter Tryd.func77, Tryd.ntmps77
 go_wp2
 go_loopg [5] k (fun kq v5 w' => ∃ (x5_1 : Int), v5 = .int .i64 x5_1 ∧ Aside0 (rf6stands.l0 kq a0 a1 x5_1 = some r) ∧ Aside0 (kq ≤ k) ∧ Drawn0 w w')
 case atStart => exact ⟨(0), (by first | rfl | (simp; done) | (simp [*]; done)), H', ⟨Nat.le_refl _⟩, by repeat (first | exact Drawn0.refl _ | apply Drawn0.step)⟩
 case round =>
   clear H'
   try clear p2
   obtain ⟨x5_1, rfl, HA, HK1, ⟨m1, rfl⟩⟩ := hrel
   cases gk with
   | zero => exact absurd HA.out (by simp [rf6stands.l0])
   | succ k1 =>
     have H := HA.out
     clear HA
     simp only [rf6stands.l0] at H
     by_cases c3 : (wrap64 (x5_1 + (a1.size : Int))) ≤ (a0.size : Int)
     · rw [if_pos c3] at H
       have c3b0 : decide ((wrap64 (x5_1 + (a1.size : Int))) ≤ (a0.size : Int)) = true := decide_eq_true c3
       clear c3
       by_cases c4 : 0 ≤ x5_1
       · rw [if_pos c4] at H
         have c4b0 := eq_true c4
         have c4b1 : decide (0 ≤ x5_1) = true := decide_eq_true c4
         clear c4
         by_cases c5 : x5_1 ≤ (wrap64 (x5_1 + (a1.size : Int)))
         · rw [if_pos c5] at H
           have c5b0 := eq_true c5
           have c5b1 : decide (x5_1 ≤ (wrap64 (x5_1 + (a1.size : Int)))) = true := decide_eq_true c5
           have c6b0 := eq_true (of_decide_eq_true (by first | (with_reducible assumption) | assumption) : (wrap64 (x5_1 + (a1.size : Int))) ≤ (a0.size : Int))
           by_cases c7 : (a0.extract (x5_1 : Int).toNat ((wrap64 (x5_1 + (a1.size : Int))) : Int).toNat).toList = a1.toList
           · rw [if_pos c7] at H
             have c7b0 : ((a0.extract (x5_1 : Int).toNat ((wrap64 (x5_1 + (a1.size : Int))) : Int).toNat).toList == a1.toList) = true := beq_iff_eq.mpr c7
             have c7b1 : ((a0.extract (x5_1 : Int).toNat ((wrap64 (x5_1 + (a1.size : Int))) : Int).toNat).toList != a1.toList) = false := bne_eq_false_iff_eq.mpr c7
             clear c7
             obtain rfl := Option.some.inj H
             go_wp2
             go_ret
             exact ⟨by first | rfl | (simp; done) | (simp [*]; done), by repeat (first | exact Drawn0.refl _ | apply Drawn0.step)⟩
           · rw [if_neg c7] at H
             have c7b0 : ((a0.extract (x5_1 : Int).toNat ((wrap64 (x5_1 + (a1.size : Int))) : Int).toNat).toList == a1.toList) = false := beq_eq_false_iff_ne.mpr c7
             have c7b1 : ((a0.extract (x5_1 : Int).toNat ((wrap64 (x5_1 + (a1.size : Int))) : Int).toNat).toList != a1.toList) = true := bne_iff_ne.mpr c7
             have H' := Aside0.mk H
             clear H
             go_wp2
             go_roundg k1
             case measure => have := HK1.out; omega
             case rel => exact ⟨(wrap64 (x5_1 + 1)), (by first | rfl | (simp; done) | (simp [*]; done)), H', ⟨by have := HK1.out; omega⟩, by repeat (first | exact Drawn0.refl _ | apply Drawn0.step)⟩
         · rw [if_neg c5] at H
           exact absurd H (by simp)
       · rw [if_neg c4] at H
         exact absurd H (by simp)
     · rw [if_neg c3] at H
       have c3b0 : decide ((wrap64 (x5_1 + (a1.size : Int))) ≤ (a0.size : Int)) = false := decide_eq_false c3
       clear c3
       obtain rfl := Option.some.inj H
       go_wp2
       go_ret
       exact ⟨by first | rfl | (simp; done) | (simp [*]; done), by repeat (first | exact Drawn0.refl _ | apply Drawn0.step)⟩
def rf6Name.f (k : Nat) (a0 : ByteArray) : Option (Bool) := (rf6Word.f k a0).bind fun t115 => (if t115 = true then (if 1 + a0.size ≤ 9223372036854775807 then (if ((⟨#[32]⟩ : ByteArray) ++ a0).size + 1 ≤ 9223372036854775807 then ((rf6stands.f k (⟨#[32, 104, 97, 114, 100, 32, 115, 111, 102, 116, 32, 101, 97, 99, 104, 32, 97, 108, 108, 32, 115, 111, 109, 101, 32, 108, 101, 97, 115, 116, 32, 109, 111, 115, 116, 32, 116, 114, 117, 101, 32, 102, 97, 108, 115, 101, 32, 97, 116, 32, 105, 110, 32, 116, 101, 97, 99, 104, 101, 115, 32, 97, 116, 116, 101, 110, 100, 115, 32, 97, 119, 97, 121, 32, 115, 104, 117, 116, 32, 100, 97, 121, 32, 104, 111, 117, 114, 32, 104, 111, 117, 115, 101, 32, 115, 101, 97, 116, 115, 32, 115, 105, 122, 101, 32, 108, 101, 115, 115, 111, 110, 32, 115, 108, 111, 116, 32, 114, 111, 111, 109, 32, 112, 101, 114, 115, 111, 110, 32, 103, 114, 111, 117, 112, 32]⟩ : ByteArray) (((⟨#[32]⟩ : ByteArray) ++ a0) ++ (⟨#[32]⟩ : ByteArray))).bind fun t116 => (some (!t116))) else (none)) else (none)) else (some false))
set_option maxHeartbeats 2000000 in
set_option maxRecDepth 100000 in
theorem rf6Name.calls (k : Nat) (a0 : ByteArray) (r : Bool) (w : World) (h : rf6Name.f k a0 = some r) :
   Calls Tryd.prog 49 #[.string a0] w fun e w' => e = .returned (.bool r) ∧ Drawn0 w w' := by
 unfold rf6Name.f at h
 obtain ⟨t108, A20, H⟩ := Option.bind_eq_some_iff.mp h
 clear h
 have A2 := Aside0.mk A20
 clear A20
 cases t108 with
 | true =>
   simp only [if_true] at H
   split at H
   · rename_i c4b0
     split at H
     · rename_i c5b0
       obtain ⟨t109, A60, H⟩ := Option.bind_eq_some_iff.mp H
       obtain rfl := Option.some.inj H
       clear H
       have A6 := Aside0.mk A60
       clear A60
       have c4b2 : (9223372036854775807 < 1 + a0.size) = False := eq_false (Nat.not_lt.2 c4b0)
       have c5b2 : (9223372036854775807 < ((⟨#[32]⟩ : ByteArray) ++ a0).size + 1) = False := eq_false (Nat.not_lt.2 c5b0)
       have c5b3 : ¬ 9223372036854775807 < 1 + a0.size + 1 := by
         have e : ((⟨#[32]⟩ : ByteArray) ++ a0).size = 1 + a0.size := by rw [ByteArray.size_append]; rfl
         omega
       clear c5b2
       replace c5b3 := eq_false c5b3
       replace c4b0 := eq_true c4b0
       replace c5b0 := eq_true c5b0
       go_enter Tryd.func49, Tryd.ntmps49
       go_wp2_with (first | (go_at_call 76; refine (rf6Word.calls k a0 true _ A2.out).mono ?_; rintro e w' ⟨rfl, ⟨nd, rfl⟩⟩) | fail)
       refine (rf6stands.calls k _ _ t109 _ A6.out).mono ?_
       rintro e w' ⟨rfl, ⟨nd, rfl⟩⟩
       go_wp2_with fail
       go_ret
       exact ⟨rfl, ⟨_, rfl⟩⟩
     · cases H
   · cases H
 | false =>
   simp only [Bool.false_eq_true, if_false] at H
   obtain rfl := Option.some.inj H
   go_enter Tryd.func49, Tryd.ntmps49
   go_wp2_with (go_at_call 76; refine (rf6Word.calls k a0 false _ A2.out).mono ?_; rintro e w' ⟨rfl, ⟨nd, rfl⟩⟩)
   go_ret
   exact ⟨rfl, ⟨_, rfl⟩⟩
def rf6term.f (k : Nat) (a0_0 : Int) (a0_1 : ByteArray) (a0_2 : Int) : Option (Bool) := if a0_0 = 1 then (if a0_1.toList = ([] : List UInt8) then (if a0_2 ≥ 0 then (some (decide (a0_2 ≤ 1099511627776))) else (some false)) else (some false)) else (if a0_0 ≥ 2 then (if a0_0 ≤ 7 then ((rf6Name.f k a0_1).bind fun t118 => (if t118 = true then (some (a0_2 == 0)) else (some false))) else (some false)) else (some false))
set_option maxHeartbeats 8000000 in
set_option maxRecDepth 100000 in
theorem rf6term.calls (k : Nat) (a0_0 : Int) (a0_1 : ByteArray) (a0_2 : Int) (r : Bool) (w : World) (h : rf6term.f k a0_0 a0_1 a0_2 = some r) :
   Calls Tryd.prog 112 #[.agg #[.int .i64 a0_0, .string a0_1, .int .i64 a0_2]] w fun e w' => e = .returned (.bool r) ∧ Below w.heap.size w w' := by
 have hu47 := Tryd.underlying47
 have HB := Aside0.mk (Below.refl w.heap.size w)
 have H : (if a0_0 = 1 then (if a0_1.toList = ([] : List UInt8) then (if a0_2 ≥ 0 then (some (decide (a0_2 ≤ 1099511627776))) else (some false)) else (some false)) else (if a0_0 ≥ 2 then (if a0_0 ≤ 7 then ((rf6Name.f k a0_1).bind fun t118 => (if t118 = true then (some (a0_2 == 0)) else (some false))) else (some false)) else (some false))) = some r := h
 clear h
 by_cases c2 : a0_0 = 1
 · rw [if_pos c2] at H
   have c2b0 : (a0_0 == 1) = true := beq_iff_eq.mpr c2
   have c2b1 : (a0_0 != 1) = false := bne_eq_false_iff_eq.mpr c2
   clear c2
   by_cases c3 : a0_1.toList = ([] : List UInt8)
   · rw [if_pos c3] at H
     have c3b0 : (a0_1.toList == ([] : List UInt8)) = true := beq_iff_eq.mpr c3
     have c3b1 : (a0_1.toList != ([] : List UInt8)) = false := bne_eq_false_iff_eq.mpr c3
     clear c3
     by_cases c4 : a0_2 ≥ 0
     · rw [if_pos c4] at H
       have c4b0 : decide (0 ≤ a0_2) = true := decide_eq_true c4
       clear c4
       obtain rfl := Option.some.inj H
       go_enter Tryd.func112, Tryd.ntmps112
       go_wp2_with (first | ((with_reducible refine gate_dst (N := 1) rfl ?_); refine box_event ?hg (N := 1) ?hd (cs := #[.int .i64 a0_0, .string a0_1, .int .i64 a0_2]) (t := 47) ?hr ?_; (case hd => rfl); (case hg => rfl); (case hr => first | (go_simp; done) | (go_simp; rfl)); intro gb117 hg w5 hbox hb; have n0_ := Aside0.mk (below_step (by repeat (first | (with_reducible first | exact HB.out | apply bAl | apply pwDN | apply bD1) | exact HB.out)) hb); have n1_ := Aside0.mk (hbox); have n2_ := Aside0.mk ((by rw [hg]; exact (below_size (by repeat (first | (with_reducible first | exact HB.out | apply bAl | apply pwDN | apply bD1) | exact HB.out))) : w.heap.size ≤ gb117)); have n3_ := Aside0.mk ((by rw [hg]; exact (below_size (by repeat (first | (with_reducible first | exact HB.out | apply bAl | apply pwDN | apply bD1) | exact HB.out))) : w.heap.size ≤ gb117)); clear HB; have HB := n0_; have BK117 := n1_; have GW117 := n2_; have GE117 := n3_; clear n0_ n1_ n2_ n3_; clear hb hbox hg; have hcz6_0 : w5.cell? ⟨gb117, 0, none⟩ = some (.int .i64 a0_0) := (bCl BK117.out 0).trans rfl; have hcz6_1 : w5.cell? ⟨gb117, 1, none⟩ = some (.string a0_1) := (bCl BK117.out 1).trans rfl; have hcz6_2 : w5.cell? ⟨gb117, 2, none⟩ = some (.int .i64 a0_2) := (bCl BK117.out 2).trans rfl; have hfz6_0 := bFz BK117.out 0; have hfz6_1 := bFz BK117.out 1; have hfz6_2 := bFz BK117.out 2))
       go_ret
       exact ⟨by first | rfl | (simp [errW_none, errW_some] <;> rfl) | (simp [*, errW_none, errW_some] <;> rfl), by repeat (first | (with_reducible first | exact HB.out | apply bAl | apply pwDN | apply bD1 | refine bSt ?_ GE117.out) | exact HB.out)⟩
     · rw [if_neg c4] at H
       have c4b0 : decide (0 ≤ a0_2) = false := decide_eq_false c4
       clear c4
       obtain rfl := Option.some.inj H
       go_enter Tryd.func112, Tryd.ntmps112
       go_wp2_with (first | ((with_reducible refine gate_dst (N := 1) rfl ?_); refine box_event ?hg (N := 1) ?hd (cs := #[.int .i64 a0_0, .string a0_1, .int .i64 a0_2]) (t := 47) ?hr ?_; (case hd => rfl); (case hg => rfl); (case hr => first | (go_simp; done) | (go_simp; rfl)); intro gb117 hg w7 hbox hb; have n0_ := Aside0.mk (below_step (by repeat (first | (with_reducible first | exact HB.out | apply bAl | apply pwDN | apply bD1) | exact HB.out)) hb); have n1_ := Aside0.mk (hbox); have n2_ := Aside0.mk ((by rw [hg]; exact (below_size (by repeat (first | (with_reducible first | exact HB.out | apply bAl | apply pwDN | apply bD1) | exact HB.out))) : w.heap.size ≤ gb117)); have n3_ := Aside0.mk ((by rw [hg]; exact (below_size (by repeat (first | (with_reducible first | exact HB.out | apply bAl | apply pwDN | apply bD1) | exact HB.out))) : w.heap.size ≤ gb117)); clear HB; have HB := n0_; have BK117 := n1_; have GW117 := n2_; have GE117 := n3_; clear n0_ n1_ n2_ n3_; clear hb hbox hg; have hcz8_0 : w7.cell? ⟨gb117, 0, none⟩ = some (.int .i64 a0_0) := (bCl BK117.out 0).trans rfl; have hcz8_1 : w7.cell? ⟨gb117, 1, none⟩ = some (.string a0_1) := (bCl BK117.out 1).trans rfl; have hcz8_2 : w7.cell? ⟨gb117, 2, none⟩ = some (.int .i64 a0_2) := (bCl BK117.out 2).trans rfl; have hfz8_0 := bFz BK117.out 0; have hfz8_1 := bFz BK117.out 1; have hfz8_2 := bFz BK117.out 2))
       go_ret
       exact ⟨by first | rfl | (simp [errW_none, errW_some] <;> rfl) | (simp [*, errW_none, errW_some] <;> rfl), by repeat (first | (with_reducible first | exact HB.out | apply bAl | apply pwDN | apply bD1 | refine bSt ?_ GE117.out) | exact HB.out)⟩
   · rw [if_neg c3] at H
     have c3b0 : (a0_1.toList == ([] : List UInt8)) = false := beq_eq_false_iff_ne.mpr c3
     have c3b1 : (a0_1.toList != ([] : List UInt8)) = true := bne_iff_ne.mpr c3
     obtain rfl := Option.some.inj H
     go_enter Tryd.func112, Tryd.ntmps112
     go_wp2_with (first | ((with_reducible refine gate_dst (N := 1) rfl ?_); refine box_event ?hg (N := 1) ?hd (cs := #[.int .i64 a0_0, .string a0_1, .int .i64 a0_2]) (t := 47) ?hr ?_; (case hd => rfl); (case hg => rfl); (case hr => first | (go_simp; done) | (go_simp; rfl)); intro gb117 hg w9 hbox hb; have n0_ := Aside0.mk (below_step (by repeat (first | (with_reducible first | exact HB.out | apply bAl | apply pwDN | apply bD1) | exact HB.out)) hb); have n1_ := Aside0.mk (hbox); have n2_ := Aside0.mk ((by rw [hg]; exact (below_size (by repeat (first | (with_reducible first | exact HB.out | apply bAl | apply pwDN | apply bD1) | exact HB.out))) : w.heap.size ≤ gb117)); have n3_ := Aside0.mk ((by rw [hg]; exact (below_size (by repeat (first | (with_reducible first | exact HB.out | apply bAl | apply pwDN | apply bD1) | exact HB.out))) : w.heap.size ≤ gb117)); clear HB; have HB := n0_; have BK117 := n1_; have GW117 := n2_; have GE117 := n3_; clear n0_ n1_ n2_ n3_; clear hb hbox hg; have hcz10_0 : w9.cell? ⟨gb117, 0, none⟩ = some (.int .i64 a0_0) := (bCl BK117.out 0).trans rfl; have hcz10_1 : w9.cell? ⟨gb117, 1, none⟩ = some (.string a0_1) := (bCl BK117.out 1).trans rfl; have hcz10_2 : w9.cell? ⟨gb117, 2, none⟩ = some (.int .i64 a0_2) := (bCl BK117.out 2).trans rfl; have hfz10_0 := bFz BK117.out 0; have hfz10_1 := bFz BK117.out 1; have hfz10_2 := bFz BK117.out 2))
     go_ret
     exact ⟨by first | rfl | (simp [errW_none, errW_some] <;> rfl) | (simp [*, errW_none, errW_some] <;> rfl), by repeat (first | (with_reducible first | exact HB.out | apply bAl | apply pwDN | apply bD1 | refine bSt ?_ GE117.out) | exact HB.out)⟩
 · rw [if_neg c2] at H
   have c2b0 : (a0_0 == 1) = false := beq_eq_false_iff_ne.mpr c2
   have c2b1 : (a0_0 != 1) = true := bne_iff_ne.mpr c2
   by_cases c11 : a0_0 ≥ 2
   · rw [if_pos c11] at H
     have c11b0 : decide (2 ≤ a0_0) = true := decide_eq_true c11
     clear c11
     by_cases c12 : a0_0 ≤ 7
     · rw [if_pos c12] at H
       have c12b0 : decide (a0_0 ≤ 7) = true := decide_eq_true c12
       clear c12
       replace H := Option.bind_eq_some_iff.mp H
       obtain ⟨t118, A130, H⟩ := H
       replace H : (if t118 = true then (some (a0_2 == 0)) else (some false)) = some r := H
       have A13 := Aside0.mk A130
       clear A130
       by_cases c14 : t118 = true
       · subst c14
         have H1 : (some (a0_2 == 0)) = some r := by rw [if_pos rfl] at H; exact H
         clear H
         have H := H1
         clear H1
         obtain rfl := Option.some.inj H
         go_enter Tryd.func112, Tryd.ntmps112
         go_wp2_with (first | ((with_reducible refine gate_dst (N := 1) rfl ?_); refine box_event ?hg (N := 1) ?hd (cs := #[.int .i64 a0_0, .string a0_1, .int .i64 a0_2]) (t := 47) ?hr ?_; (case hd => rfl); (case hg => rfl); (case hr => first | (go_simp; done) | (go_simp; rfl)); intro gb117 hg w15 hbox hb; have n0_ := Aside0.mk (below_step (by repeat (first | (with_reducible first | exact HB.out | apply bAl | apply pwDN | apply bD1) | exact HB.out)) hb); have n1_ := Aside0.mk (hbox); have n2_ := Aside0.mk ((by rw [hg]; exact (below_size (by repeat (first | (with_reducible first | exact HB.out | apply bAl | apply pwDN | apply bD1) | exact HB.out))) : w.heap.size ≤ gb117)); have n3_ := Aside0.mk ((by rw [hg]; exact (below_size (by repeat (first | (with_reducible first | exact HB.out | apply bAl | apply pwDN | apply bD1) | exact HB.out))) : w.heap.size ≤ gb117)); clear HB; have HB := n0_; have BK117 := n1_; have GW117 := n2_; have GE117 := n3_; clear n0_ n1_ n2_ n3_; clear hb hbox hg; have hcz16_0 : w15.cell? ⟨gb117, 0, none⟩ = some (.int .i64 a0_0) := (bCl BK117.out 0).trans rfl; have hcz16_1 : w15.cell? ⟨gb117, 1, none⟩ = some (.string a0_1) := (bCl BK117.out 1).trans rfl; have hcz16_2 : w15.cell? ⟨gb117, 2, none⟩ = some (.int .i64 a0_2) := (bCl BK117.out 2).trans rfl; have hfz16_0 := bFz BK117.out 0; have hfz16_1 := bFz BK117.out 1; have hfz16_2 := bFz BK117.out 2) | (go_at_call 49; (with_reducible refine (rf6Name.calls k a0_1 true _ A13.out).mono ?_); rintro e w' ⟨rfl, ⟨nd, rfl⟩⟩))
         go_ret
         exact ⟨by first | rfl | (simp [errW_none, errW_some] <;> rfl) | (simp [*, errW_none, errW_some] <;> rfl), by repeat (first | (with_reducible first | exact HB.out | apply bAl | apply pwDN | apply bD1 | refine bSt ?_ GE117.out) | exact HB.out)⟩
       · replace c14 := Bool.eq_false_iff.mpr c14
         subst c14
         have H1 : (some false) = some r := by rw [if_neg (show ¬ (false = true) by decide)] at H; exact H
         clear H
         have H := H1
         clear H1
         obtain rfl := Option.some.inj H
         go_enter Tryd.func112, Tryd.ntmps112
         go_wp2_with (first | ((with_reducible refine gate_dst (N := 1) rfl ?_); refine box_event ?hg (N := 1) ?hd (cs := #[.int .i64 a0_0, .string a0_1, .int .i64 a0_2]) (t := 47) ?hr ?_; (case hd => rfl); (case hg => rfl); (case hr => first | (go_simp; done) | (go_simp; rfl)); intro gb117 hg w17 hbox hb; have n0_ := Aside0.mk (below_step (by repeat (first | (with_reducible first | exact HB.out | apply bAl | apply pwDN | apply bD1) | exact HB.out)) hb); have n1_ := Aside0.mk (hbox); have n2_ := Aside0.mk ((by rw [hg]; exact (below_size (by repeat (first | (with_reducible first | exact HB.out | apply bAl | apply pwDN | apply bD1) | exact HB.out))) : w.heap.size ≤ gb117)); have n3_ := Aside0.mk ((by rw [hg]; exact (below_size (by repeat (first | (with_reducible first | exact HB.out | apply bAl | apply pwDN | apply bD1) | exact HB.out))) : w.heap.size ≤ gb117)); clear HB; have HB := n0_; have BK117 := n1_; have GW117 := n2_; have GE117 := n3_; clear n0_ n1_ n2_ n3_; clear hb hbox hg; have hcz18_0 : w17.cell? ⟨gb117, 0, none⟩ = some (.int .i64 a0_0) := (bCl BK117.out 0).trans rfl; have hcz18_1 : w17.cell? ⟨gb117, 1, none⟩ = some (.string a0_1) := (bCl BK117.out 1).trans rfl; have hcz18_2 : w17.cell? ⟨gb117, 2, none⟩ = some (.int .i64 a0_2) := (bCl BK117.out 2).trans rfl; have hfz18_0 := bFz BK117.out 0; have hfz18_1 := bFz BK117.out 1; have hfz18_2 := bFz BK117.out 2) | (go_at_call 49; (with_reducible refine (rf6Name.calls k a0_1 false _ A13.out).mono ?_); rintro e w' ⟨rfl, ⟨nd, rfl⟩⟩))
         go_ret
         exact ⟨by first | rfl | (simp [errW_none, errW_some] <;> rfl) | (simp [*, errW_none, errW_some] <;> rfl), by repeat (first | (with_reducible first | exact HB.out | apply bAl | apply pwDN | apply bD1 | refine bSt ?_ GE117.out) | exact HB.out)⟩
     · rw [if_neg c12] at H
       have c12b0 : decide (a0_0 ≤ 7) = false := decide_eq_false c12
       clear c12
       obtain rfl := Option.some.inj H
       go_enter Tryd.func112, Tryd.ntmps112
       go_wp2_with (first | ((with_reducible refine gate_dst (N := 1) rfl ?_); refine box_event ?hg (N := 1) ?hd (cs := #[.int .i64 a0_0, .string a0_1, .int .i64 a0_2]) (t := 47) ?hr ?_; (case hd => rfl); (case hg => rfl); (case hr => first | (go_simp; done) | (go_simp; rfl)); intro gb117 hg w19 hbox hb; have n0_ := Aside0.mk (below_step (by repeat (first | (with_reducible first | exact HB.out | apply bAl | apply pwDN | apply bD1) | exact HB.out)) hb); have n1_ := Aside0.mk (hbox); have n2_ := Aside0.mk ((by rw [hg]; exact (below_size (by repeat (first | (with_reducible first | exact HB.out | apply bAl | apply pwDN | apply bD1) | exact HB.out))) : w.heap.size ≤ gb117)); have n3_ := Aside0.mk ((by rw [hg]; exact (below_size (by repeat (first | (with_reducible first | exact HB.out | apply bAl | apply pwDN | apply bD1) | exact HB.out))) : w.heap.size ≤ gb117)); clear HB; have HB := n0_; have BK117 := n1_; have GW117 := n2_; have GE117 := n3_; clear n0_ n1_ n2_ n3_; clear hb hbox hg; have hcz20_0 : w19.cell? ⟨gb117, 0, none⟩ = some (.int .i64 a0_0) := (bCl BK117.out 0).trans rfl; have hcz20_1 : w19.cell? ⟨gb117, 1, none⟩ = some (.string a0_1) := (bCl BK117.out 1).trans rfl; have hcz20_2 : w19.cell? ⟨gb117, 2, none⟩ = some (.int .i64 a0_2) := (bCl BK117.out 2).trans rfl; have hfz20_0 := bFz BK117.out 0; have hfz20_1 := bFz BK117.out 1; have hfz20_2 := bFz BK117.out 2))
       go_ret
       exact ⟨by first | rfl | (simp [errW_none, errW_some] <;> rfl) | (simp [*, errW_none, errW_some] <;> rfl), by repeat (first | (with_reducible first | exact HB.out | apply bAl | apply pwDN | apply bD1 | refine bSt ?_ GE117.out) | exact HB.out)⟩
   · rw [if_neg c11] at H
     have c11b0 : decide (2 ≤ a0_0) = false := decide_eq_false c11
     clear c11
     obtain rfl := Option.some.inj H
     go_enter Tryd.func112, Tryd.ntmps112
     go_wp2_with (first | ((with_reducible refine gate_dst (N := 1) rfl ?_); refine box_event ?hg (N := 1) ?hd (cs := #[.int .i64 a0_0, .string a0_1, .int .i64 a0_2]) (t := 47) ?hr ?_; (case hd => rfl); (case hg => rfl); (case hr => first | (go_simp; done) | (go_simp; rfl)); intro gb117 hg w21 hbox hb; have n0_ := Aside0.mk (below_step (by repeat (first | (with_reducible first | exact HB.out | apply bAl | apply pwDN | apply bD1) | exact HB.out)) hb); have n1_ := Aside0.mk (hbox); have n2_ := Aside0.mk ((by rw [hg]; exact (below_size (by repeat (first | (with_reducible first | exact HB.out | apply bAl | apply pwDN | apply bD1) | exact HB.out))) : w.heap.size ≤ gb117)); have n3_ := Aside0.mk ((by rw [hg]; exact (below_size (by repeat (first | (with_reducible first | exact HB.out | apply bAl | apply pwDN | apply bD1) | exact HB.out))) : w.heap.size ≤ gb117)); clear HB; have HB := n0_; have BK117 := n1_; have GW117 := n2_; have GE117 := n3_; clear n0_ n1_ n2_ n3_; clear hb hbox hg; have hcz22_0 : w21.cell? ⟨gb117, 0, none⟩ = some (.int .i64 a0_0) := (bCl BK117.out 0).trans rfl; have hcz22_1 : w21.cell? ⟨gb117, 1, none⟩ = some (.string a0_1) := (bCl BK117.out 1).trans rfl; have hcz22_2 : w21.cell? ⟨gb117, 2, none⟩ = some (.int .i64 a0_2) := (bCl BK117.out 2).trans rfl; have hfz22_0 := bFz BK117.out 0; have hfz22_1 := bFz BK117.out 1; have hfz22_2 := bFz BK117.out 2))
     go_ret
     exact ⟨by first | rfl | (simp [errW_none, errW_some] <;> rfl) | (simp [*, errW_none, errW_some] <;> rfl), by repeat (first | (with_reducible first | exact HB.out | apply bAl | apply pwDN | apply bD1 | refine bSt ?_ GE117.out) | exact HB.out)⟩
end Go.Proofs.YtmlcaecknocpoaaDoor.Pr
namespace Go.Proofs.YtmlcaecknocpoaaDoor.It
set_option linter.unusedVariables false
set_option linter.unusedSimpArgs false
open Go Go.RowKit Go.Shelf Go.Proofs.YtmlcaecknocpoaaDoorW.PrintWords Go.Proofs.YtmlcaecknocpoaaDoorW.PrintLast Go.Proofs.YtmlcaecknocpoaaDoor.Pr Go.Proofs.YtmlcaecknocpoaaDoor.Sp
theorem Ev.ite {α : Type} {p : Prop} [Decidable p] {f g : Nat → Option α} {r : α} (h : p → Ev f r) (h' : ¬ p → Ev g r) : Ev (fun k => if p then f k else g k) r := by
 by_cases hp : p
 · exact Ev.congr (fun k => if_pos hp) (h hp)
 · exact Ev.congr (fun k => if_neg hp) (h' hp)
theorem Ev.val {α : Type} {r s : α} (h : r = s) : Ev (fun _ => some r) s := h ▸ Ev.now r
theorem wrap_one (j : Nat) (h : j < 9223372036854775807) : wrap64 ((j : Int) + 1) = ((j + 1 : Nat) : Int) := by rw [wrap_in (by omega)]; omega
theorem bt_get (s : ByteArray) (j : Nat) (h : j < s.size) : ∃ c : UInt8, s.data.toList[j]? = some c ∧ bt s (j : Int) = (c.toNat : Int) := by
 refine ⟨s[j], ?_, ?_⟩
 · exact Lib.data_getElem? s j h
 · unfold bt
   rw [dif_pos (by simpa using h)]
   simp
theorem letter_nat (c : UInt8) : letter c = (decide ((c.toNat : Int) ≥ 97) && decide ((c.toNat : Int) ≤ 122)) :=
 all_u8 (p := fun c => letter c = (decide ((c.toNat : Int) ≥ 97) && decide ((c.toNat : Int) ≤ 122))) (by decide +kernel) c
theorem wordC_nat (c : UInt8) : wordC c = ((decide ((c.toNat : Int) ≥ 97) && decide ((c.toNat : Int) ≤ 122)) || (decide ((c.toNat : Int) ≥ 48) && decide ((c.toNat : Int) ≤ 57)) || decide ((c.toNat : Int) = 95)) :=
 all_u8 (p := fun c => wordC c = ((decide ((c.toNat : Int) ≥ 97) && decide ((c.toNat : Int) ≤ 122)) || (decide ((c.toNat : Int) ≥ 48) && decide ((c.toNat : Int) ≤ 57)) || decide ((c.toNat : Int) = 95))) (by decide +kernel) c
theorem drop_get {α : Type} (l : List α) (j : Nat) (c : α) (h : l[j]? = some c) : l.drop j = c :: l.drop (j + 1) := by
 obtain ⟨hj, rfl⟩ := List.getElem?_eq_some_iff.1 h
 exact List.drop_eq_getElem_cons hj
theorem word_loop (s : ByteArray) (hs : s.size ≤ 9223372036854775807) : ∀ d j : Nat, j + d = s.size → 1 ≤ j → Ev (fun k => rf6Word.l0 k s (j : Int)) ((s.data.toList.drop j).all wordC && decide (s.size ≤ 64)) := by
 have hl : s.data.toList.length = s.size := Array.length_toList
 intro d
 induction d with
 | zero =>
   intro j hj h1
   refine Ev.step (f := fun _ => some (decide (s.size ≤ 64))) (fun k => ?_) (Ev.val ?_)
   · simp only [rf6Word.l0]
     rw [if_neg (by omega), if_pos (by omega)]
     congr 1
     simp only [decide_eq_decide]
     omega
   · rw [List.drop_of_length_le (by omega)]; simp
 | succ d ih =>
   intro j hj h1
   obtain ⟨c, hc, hb⟩ := bt_get s j (by omega)
   have hd := drop_get _ _ _ hc
   have hn := ih (j + 1) (by omega) (by omega)
   have hwc := wordC_nat c
   rw [hd, List.all_cons]
   cases hw : wordC c with
   | true =>
     refine Ev.step (f := fun k => rf6Word.l0 k s ((j + 1 : Nat) : Int)) (fun k => ?_) (by simpa using hn)
     simp only [rf6Word.l0]
     rw [if_pos (by omega), if_pos (by omega), hb, wrap_one j (by omega), if_neg (by omega : ¬ (j : Int) = 0)]
     rw [hw] at hwc
     simp only [Bool.true_eq, Bool.or_eq_true, Bool.and_eq_true, decide_eq_true_eq] at hwc
     split
     · split
       · rfl
       · split
         · split
           · rfl
           · rw [if_pos (by omega)]
         · rw [if_pos (by omega)]
     · split
       · split
         · rfl
         · rw [if_pos (by omega)]
       · rw [if_pos (by omega)]
   | false =>
     refine Ev.step (f := fun _ => some false) (fun k => ?_) (Ev.val (by simp))
     simp only [rf6Word.l0]
     rw [if_pos (by omega), if_pos (by omega), hb, if_neg (by omega : ¬ (j : Int) = 0)]
     rw [hw] at hwc
     have h : ¬ (((((c.toNat : Int) ≥ 97) ∧ (c.toNat : Int) ≤ 122) ∨ ((c.toNat : Int) ≥ 48 ∧ (c.toNat : Int) ≤ 57)) ∨ (c.toNat : Int) = 95) := fun e => by
       have : (decide ((c.toNat : Int) ≥ 97) && decide ((c.toNat : Int) ≤ 122) || decide ((c.toNat : Int) ≥ 48) && decide ((c.toNat : Int) ≤ 57) || decide ((c.toNat : Int) = 95)) = true := by simpa using e
       rw [← hwc] at this
       cases this
     split
     · rw [if_neg (by omega)]
       split
       · rw [if_neg (by omega), if_neg (by omega)]
       · rw [if_neg (by omega)]
     · split
       · rw [if_neg (by omega), if_neg (by omega)]
       · rw [if_neg (by omega)]
theorem word_ev (s : ByteArray) (hs : s.size ≤ 9223372036854775807) : Ev (fun k => rf6Word.f k s) (word s.data.toList) := by
 have hl : s.data.toList.length = s.size := Array.length_toList
 refine Ev.congr (f := fun k => rf6Word.l0 k s 0) (fun k => rfl) ?_
 by_cases h0 : s.size = 0
 · have e : s.data.toList = [] := List.length_eq_zero_iff.1 (by omega)
   refine Ev.step (f := fun _ => some false) (fun k => ?_) (Ev.val (by rw [e]; rfl))
   simp only [rf6Word.l0]
   rw [if_neg (by omega), if_neg (by omega)]
 · obtain ⟨c, hc, hb⟩ := bt_get s 0 (by omega)
   have hd := drop_get _ _ _ hc
   rw [List.drop_zero] at hd
   have hln : (s.data.toList.drop 1).length + 1 = s.size := by simp; omega
   have hlt := letter_nat c
   cases hw : letter c with
   | true =>
     refine Ev.step (f := fun k => rf6Word.l0 k s ((1 : Nat) : Int)) (fun k => ?_) ?_
     · simp only [rf6Word.l0]
       rw [hw] at hlt
       simp only [Bool.true_eq, Bool.and_eq_true, decide_eq_true_eq] at hlt
       have hb' : bt s 0 = (c.toNat : Int) := hb
       rw [if_pos (by omega), if_pos (by omega), hb', if_pos hlt.1, if_pos hlt.2, show wrap64 (0 + 1) = ((1 : Nat) : Int) from wrap_one 0 (by omega)]
     · have h := word_loop s hs (s.size - 1) 1 (by omega) (Nat.le_refl _)
       have e : word s.data.toList = ((s.data.toList.drop 1).all wordC && decide (s.size ≤ 64)) := by
         rw [hd]
         simp only [word, hw, Bool.true_and, List.drop_succ_cons, List.drop_zero]
         congr 1
         simp only [decide_eq_decide]
         simp only [Nat.zero_add] at hln ⊢
         omega
       rw [e]
       exact h
   | false =>
     refine Ev.step (f := fun _ => some false) (fun k => ?_) (Ev.val (by rw [hd]; simp [word, hw]))
     simp only [rf6Word.l0]
     have hb' : bt s 0 = (c.toNat : Int) := hb
     rw [hw] at hlt
     have h : ¬ (((c.toNat : Int) ≥ 97) ∧ (c.toNat : Int) ≤ 122) := fun e => by
       have : (decide ((c.toNat : Int) ≥ 97) && decide ((c.toNat : Int) ≤ 122)) = true := by simpa using e
       rw [← hlt] at this
       cases this
     rw [if_pos (by omega), if_pos (by omega), hb']
     split
     · rw [if_neg (by omega)]; simp
     · simp
def occurs (t : List UInt8) : List UInt8 → Bool
 | [] => t.isEmpty
 | c :: r => t.isPrefixOf (c :: r) || occurs t r
theorem occurs_short (t : List UInt8) : ∀ r : List UInt8, r.length < t.length → occurs t r = false
 | [], h => by cases t with
   | nil => simp at h
   | cons _ _ => rfl
 | c :: r, h => by
   simp only [List.length_cons] at h
   have h1 : t.isPrefixOf (c :: r) = false := by
     cases hp : t.isPrefixOf (c :: r)
     · rfl
     · have := (List.isPrefixOf_iff_prefix.1 hp).length_le
       simp at this
       omega
   rw [occurs, h1, occurs_short t r (by omega)]
   rfl
theorem stands_ev (a b : ByteArray) (ha : a.size ≤ 4611686018427387903) (hb : b.size ≤ 4611686018427387903) (h1 : 1 ≤ b.size) : Ev (fun k => rf6stands.f k a b) (occurs b.data.toList a.data.toList) := by
 have hla : a.data.toList.length = a.size := Array.length_toList
 have hlb : b.data.toList.length = b.size := Array.length_toList
 have loop : ∀ d j : Nat, j + d = a.size → Ev (fun k => rf6stands.l0 k a b (j : Int)) (occurs b.data.toList (a.data.toList.drop j)) := by
   intro d
   induction d with
   | zero =>
     intro j hj
     refine Ev.step (f := fun _ => some false) (fun k => ?_) (Ev.val ?_)
     · simp only [rf6stands.l0]
       rw [wrap_in (by omega), if_neg (by omega)]
     · rw [occurs_short _ _ (by simp; omega)]
   | succ d ih =>
     intro j hj
     by_cases hle : j + b.size ≤ a.size
     · obtain ⟨c, hc⟩ : ∃ c, a.data.toList[j]? = some c := ⟨_, List.getElem?_eq_getElem (by omega)⟩
       have hd := drop_get _ _ _ hc
       have hex : ((a.extract j (j + b.size)).toList = b.toList ↔ b.data.toList.isPrefixOf (a.data.toList.drop j) = true) := by
         rw [ByteArray.toList_eq, ByteArray.toList_eq, List.isPrefixOf_iff_prefix, List.prefix_iff_eq_take, hlb]
         have : (a.extract j (j + b.size)).data.toList = (a.data.toList.drop j).take b.size := by
           rw [ByteArray.data_extract, Array.toList_extract]
           simp [List.extract_eq_take_drop]
         rw [this, eq_comm]
       have e1 : (wrap64 ((j : Int) + (b.size : Int)) : Int) = ((j + b.size : Nat) : Int) := by rw [wrap_in (by omega)]; omega
       cases hp : b.data.toList.isPrefixOf (a.data.toList.drop j) with
       | true =>
         refine Ev.step (f := fun _ => some true) (fun k => ?_) (Ev.val ?_)
         · simp only [rf6stands.l0]
           rw [e1, if_pos (by omega), if_pos (by omega), if_pos (by omega), if_pos (by simp only [Int.toNat_natCast]; exact hex.2 hp)]
         · rw [hd, occurs, ← hd, hp]; rfl
       | false =>
         refine Ev.step (f := fun k => rf6stands.l0 k a b ((j + 1 : Nat) : Int)) (fun k => ?_) ?_
         · simp only [rf6stands.l0]
           rw [e1, if_pos (by omega), if_pos (by omega), if_pos (by omega), if_neg (fun h => by simp only [Int.toNat_natCast] at h; rw [hex.1 h] at hp; cases hp), wrap_one j (by omega)]
         · rw [hd, occurs, ← hd, hp, Bool.false_or]
           exact ih (j + 1) (by omega)
     · refine Ev.step (f := fun _ => some false) (fun k => ?_) (Ev.val ?_)
       · simp only [rf6stands.l0]
         rw [wrap_in (by omega), if_neg (by omega)]
       · rw [occurs_short _ _ (by simp; omega)]
 exact loop a.size 0 (by omega)
def spell : List (List UInt8) → List UInt8
 | [] => []
 | w :: ws => w ++ 32 :: spell ws
theorem prefix_word (s : List UInt8) (hs : (32 : UInt8) ∉ s) : ∀ w r : List UInt8, (32 : UInt8) ∉ w → ((s ++ [32]).isPrefixOf (w ++ 32 :: r) = true ↔ s = w) := by
 induction s with
 | nil =>
   intro w r hw
   cases w with
   | nil => simp
   | cons c w =>
     have : ¬ (32 : UInt8) = c := fun e => hw (by simp [e])
     simp [List.isPrefixOf, this]
 | cons c s ih =>
   intro w r hw
   cases w with
   | nil =>
     have : ¬ c = 32 := fun e => hs (by simp [e])
     simp [List.isPrefixOf, this]
   | cons d w =>
     simp only [List.cons_append, List.isPrefixOf, Bool.and_eq_true, beq_iff_eq, List.cons.injEq]
     rw [ih (fun h => hs (by simp [h])) w r (fun h => hw (by simp [h]))]
theorem occurs_skip (t : List UInt8) : ∀ w r : List UInt8, (32 : UInt8) ∉ w → occurs (32 :: t) (w ++ r) = occurs (32 :: t) r
 | [], r, _ => rfl
 | c :: w, r, h => by
   have : ¬ (32 : UInt8) = c := fun e => h (by simp [e])
   rw [List.cons_append, occurs, occurs_skip t w r (fun h' => h (by simp [h']))]
   simp [List.isPrefixOf, this]
theorem occurs_spell (s : List UInt8) (hs : (32 : UInt8) ∉ s) : ∀ ws : List (List UInt8), (∀ w ∈ ws, (32 : UInt8) ∉ w) → occurs (32 :: (s ++ [32])) (32 :: spell ws) = ws.contains s
 | [], _ => by simp [occurs, spell, List.isPrefixOf]
 | w :: ws, h => by
   have hw : (32 : UInt8) ∉ w := h w (by simp)
   rw [occurs, spell, occurs_skip _ w _ hw, occurs_spell s hs ws (fun v hv => h v (by simp [hv]))]
   have hp := prefix_word s hs w (spell ws) hw
   simp only [List.isPrefixOf, beq_self_eq_true, Bool.true_and, List.contains_cons]
   congr 1
   rw [Bool.eq_iff_iff, hp]
   simp
theorem word_blank (l : List UInt8) (h : word l = true) : (32 : UInt8) ∉ l := by
 cases l with
 | nil => simp
 | cons c r =>
   simp only [word, Bool.and_eq_true] at h
   intro hm
   cases hm with
   | head => exact absurd h.1.1 (by decide)
   | tail _ hm => exact absurd (List.all_eq_true.1 h.1.2 _ hm) (by decide)
theorem name_ev (s : ByteArray) (hs : s.size ≤ 9223372036854775807) : Ev (fun k => rf6Name.f k s) (name s) := by
 refine Ev.bind (word_ev s hs) ?_
 cases hw : word s.data.toList with
 | false => exact Ev.val (by simp [name, hw])
 | true =>
   have hl : s.data.toList.length = s.size := Array.length_toList
   replace hs : s.size ≤ 64 := by
     cases he : s.data.toList with
     | nil => rw [he] at hl; simp at hl; omega
     | cons c r =>
       rw [he] at hw hl
       simp only [word, Bool.and_eq_true, decide_eq_true_eq] at hw
       simp only [List.length_cons] at hl
       omega
   have e1 : ((⟨#[32]⟩ : ByteArray) ++ s).size = 1 + s.size := by rw [ByteArray.size_append]; rfl
   refine Ev.congr (fun k => if_pos rfl) (Ev.congr (fun k => if_pos (by omega)) (Ev.congr (fun k => if_pos (by omega)) ?_))
   have e2 : (((⟨#[32]⟩ : ByteArray) ++ s) ++ (⟨#[32]⟩ : ByteArray)).size = s.size + 2 := by rw [ByteArray.size_append, e1]; show 1 + s.size + 1 = _; omega
   refine Ev.bind (stands_ev _ _ (by decide +kernel) (by omega) (by omega)) (Ev.val ?_)
   have hb := word_blank _ hw
   have e3 : (((⟨#[32]⟩ : ByteArray) ++ s) ++ (⟨#[32]⟩ : ByteArray)).data.toList = 32 :: (s.data.toList ++ [32]) := by
     rw [ByteArray.data_append, ByteArray.data_append]; simp
   rw [e3]
   have hsp := occurs_spell s.data.toList hb reserved (by decide +kernel)
   rw [show (32 :: spell reserved : List UInt8) = _ from rfl] at hsp
   unfold name
   rw [hw, Bool.true_and, ← hsp]
   rfl
end Go.Proofs.YtmlcaecknocpoaaDoor.It
namespace Go.Proofs.YtmlcaecknocpoaaDoor.Pr
open Go.RowKit Go.Proofs.YtmlcaecknocpoaaDoorW.PrintWords Go.Proofs.YtmlcaecknocpoaaDoorW.PrintLast Go.Proofs.YtmlcaecknocpoaaDoorW.PrintMore
attribute [local go_sem] max2_int min2_int max_two min_two max_three min_three max_four min_four   
set_option linter.unusedVariables false
set_option linter.unusedSimpArgs false
mutual
def rf6Size.l0 : Nat → Int → Int → Int → ByteArray → Int → List (S47) → List (S42) → List (S26) → Option (Int)
 | 0, _, _, _, _, _, _, _, _ => none
 | k + 1, x3, x4, x109000, x109001, x109002, x109003, x109004, x109005 => if x4 < (x109005.length : Int) then (if 0 ≤ x4 then ((rf6Size.f k ((rd_T26 x109005 x4).f0) ((rd_T26 x109005 x4).f1) ((rd_T26 x109005 x4).f2) ((rd_T26 x109005 x4).f3) ((rd_T26 x109005 x4).f4) ((rd_T26 x109005 x4).f5)).bind fun t110 => (rf6Size.l0 k (wrap64 (x3 + t110)) (wrap64 (x4 + 1)) x109000 x109001 x109002 x109003 x109004 x109005)) else (none)) else (some x3)
def rf6Size.f : Nat → Int → ByteArray → Int → List (S47) → List (S42) → List (S26) → Option (Int)
 | 0, _, _, _, _, _, _ => none
 | k + 1, a0_0, a0_1, a0_2, l0_3, l0_4, l0_5 => rf6Size.l0 k 1 0 a0_0 a0_1 a0_2 l0_3 l0_4 l0_5
end
set_option maxHeartbeats 8000000 in
set_option maxRecDepth 100000 in
theorem rf6Size.calls (k : Nat) : ∀ (a0_0 : Int) (a0_1 : ByteArray) (a0_2 : Int) (A0_3 : Option Addr) (c0_3 : Nat) (l0_3 : List (S47)) (A0_4 : Option Addr) (c0_4 : Nat) (l0_4 : List (S42)) (A0_5 : Option Addr) (c0_5 : Nat) (l0_5 : List (S26)) (r : Int) (w : World) (hr0_3 : Kd.C k47 w A0_3 l0_3.length l0_3) (hc0_3 : l0_3.length ≤ c0_3) (hr0_4 : Kd.C k42 w A0_4 l0_4.length l0_4) (hc0_4 : l0_4.length ≤ c0_4) (hr0_5 : Kd.C k26 w A0_5 l0_5.length l0_5) (hc0_5 : l0_5.length ≤ c0_5) (h : rf6Size.f k a0_0 a0_1 a0_2 l0_3 l0_4 l0_5 = some r),
   Calls Tryd.prog 25 #[.agg #[.int .i64 a0_0, .string a0_1, .int .i64 a0_2, .slice A0_3 l0_3.length c0_3, .slice A0_4 l0_4.length c0_4, .slice A0_5 l0_5.length c0_5]] w fun e w' => e = .returned (.int .i64 r) ∧ Below w.heap.size w w' := by
 induction k using Nat.strongRecOn with
 | _ k ih =>
 intro a0_0 a0_1 a0_2 A0_3 c0_3 l0_3 A0_4 c0_4 l0_4 A0_5 c0_5 l0_5 r w hr0_3 hc0_3 hr0_4 hc0_4 hr0_5 hc0_5 h
 cases k with
 | zero => exact absurd h (by simp [rf6Size.f])
 | succ k =>
 simp only [rf6Size.f] at h
 have hu26 := Tryd.underlying26
 have HR0_3 := Aside0.mk hr0_3
 have HC0_3 := Aside0.mk hc0_3
 clear hr0_3 hc0_3
 have HR0_4 := Aside0.mk hr0_4
 have HC0_4 := Aside0.mk hc0_4
 clear hr0_4 hc0_4
 have HR0_5 := Aside0.mk hr0_5
 have HC0_5 := Aside0.mk hc0_5
 clear hr0_5 hc0_5
 have HB := Aside0.mk (Below.refl w.heap.size w)
 have H : (rf6Size.l0 k 1 0 a0_0 a0_1 a0_2 l0_3 l0_4 l0_5) = some r := h
 clear h
 have H' := Aside0.mk H
 clear H
 go_enter Tryd.func25, Tryd.ntmps25
 go_wp2_with (first | ((with_reducible refine gate_dst (N := 1) rfl ?_); refine box_event ?hg (N := 1) ?hd (cs := #[.int .i64 a0_0, .string a0_1, .int .i64 a0_2, .slice A0_3 l0_3.length c0_3, .slice A0_4 l0_4.length c0_4, .slice A0_5 l0_5.length c0_5]) (t := 26) ?hr ?_; (case hd => rfl); (case hg => rfl); (case hr => first | (go_simp; done) | (go_simp; rfl)); intro gb108 hg w2 hbox hb; have n0_ := Aside0.mk (below_step (by repeat (first | (with_reducible first | exact HB.out | apply bAl | apply pwDN | apply bD1) | exact HB.out)) hb); have n1_ := Aside0.mk (hbox); have n2_ := Aside0.mk ((by rw [hg]; exact (below_size (by repeat (first | (with_reducible first | exact HB.out | apply bAl | apply pwDN | apply bD1) | exact HB.out))) : w.heap.size ≤ gb108)); have n3_ := Aside0.mk ((by rw [hg]; exact (below_size (by repeat (first | (with_reducible first | exact HB.out | apply bAl | apply pwDN | apply bD1) | exact HB.out))) : w.heap.size ≤ gb108)); clear HB; have HB := n0_; have BK108 := n1_; have GW108 := n2_; have GE108 := n3_; clear n0_ n1_ n2_ n3_; clear hb hbox hg))
 go_loopg [3, 4] k (fun kq v3 v4 w' => ∃ (x3_1 : Int) (x4_1 : Int), v3 = .int .i64 x3_1 ∧ v4 = .int .i64 x4_1 ∧ Aside0 (rf6Size.l0 kq x3_1 x4_1 a0_0 a0_1 a0_2 l0_3 l0_4 l0_5 = some r) ∧ Aside0 (kq ≤ k) ∧ Aside0 (w'.heap[gb108]? = some (.cells #[.int .i64 a0_0, .string a0_1, .int .i64 a0_2, (.slice A0_3 l0_3.length c0_3), (.slice A0_4 l0_4.length c0_4), (.slice A0_5 l0_5.length c0_5)] 26 (0, 0))) ∧ Aside0 (Below w.heap.size w w'))
 case atStart => exact ⟨(1), (0), (by first | rfl | (simp; done) | (simp [*]; done)), (by first | rfl | (simp; done) | (simp [*]; done)), H', ⟨Nat.le_refl _⟩, ⟨by (with_reducible repeat (first | refine blk_drewN ?_ _ | refine blk_drew ?_ | refine blk_alloc ?_ _)); exact BK108.out⟩, ⟨by repeat (first | (with_reducible first | exact HB.out | apply bAl | apply pwDN | apply bD1 | refine bSt ?_ GE108.out) | exact HB.out)⟩⟩
 case round =>
   clear H'
   try clear c2
   try clear p2
   obtain ⟨x3_1, x4_1, rfl, rfl, HA, HK1, BK108, HB⟩ := hrel
   cases gk with
   | zero => exact absurd HA.out (by simp [rf6Size.l0])
   | succ k1 =>
     have H := HA.out
     clear HA
     simp only [rf6Size.l0] at H
     by_cases c3 : x4_1 < (l0_5.length : Int)
     · rw [if_pos c3] at H
       have c3b0 : decide (x4_1 < (l0_5.length : Int)) = true := decide_eq_true c3
       clear c3
       by_cases c4 : 0 ≤ x4_1
       · rw [if_pos c4] at H
         have c4b0 : decide (0 ≤ x4_1) = true := decide_eq_true c4
         clear c4
         replace H := Option.bind_eq_some_iff.mp H
         obtain ⟨t110, A50, H⟩ := H
         replace H : (rf6Size.l0 k1 (wrap64 (x3_1 + t110)) (wrap64 (x4_1 + 1)) a0_0 a0_1 a0_2 l0_3 l0_4 l0_5) = some r := H
         have A5 := Aside0.mk A50
         clear A50
         have H' := Aside0.mk H
         clear H
         have hcz6_0 : wr.cell? ⟨gb108, 0, none⟩ = some (.int .i64 a0_0) := (bCl BK108.out 0).trans rfl
         have hcz6_1 : wr.cell? ⟨gb108, 1, none⟩ = some (.string a0_1) := (bCl BK108.out 1).trans rfl
         have hcz6_2 : wr.cell? ⟨gb108, 2, none⟩ = some (.int .i64 a0_2) := (bCl BK108.out 2).trans rfl
         have hcz6_3 : wr.cell? ⟨gb108, 3, none⟩ = some (.slice A0_3 l0_3.length c0_3) := (bCl BK108.out 3).trans rfl
         have hcz6_4 : wr.cell? ⟨gb108, 4, none⟩ = some (.slice A0_4 l0_4.length c0_4) := (bCl BK108.out 4).trans rfl
         have hcz6_5 : wr.cell? ⟨gb108, 5, none⟩ = some (.slice A0_5 l0_5.length c0_5) := (bCl BK108.out 5).trans rfl
         have hfz6_0 := bFz BK108.out 0
         have hfz6_1 := bFz BK108.out 1
         have hfz6_2 := bFz BK108.out 2
         have hfz6_3 := bFz BK108.out 3
         have hfz6_4 := bFz BK108.out 4
         have hfz6_5 := bFz BK108.out 5
         have p109 : 0 ≤ (x4_1 : Int) := of_decide_eq_true (by first | (with_reducible assumption) | assumption)
         have q109 : x4_1 < (l0_5.length : Int) := of_decide_eq_true (by first | (with_reducible assumption) | assumption)
         obtain ⟨ad109, A109_3, c109_3, A109_4, c109_4, A109_5, c109_5, e109, hx109_0, hx109_1, hx109_2, hx109_3, hx109_4, hx109_5, hl109_3, hi109_3, hl109_4, hi109_4, hl109_5, hi109_5⟩ := at_T26 HR0_5.out x4_1 p109 q109
         cases e109
         replace hx109_0 := (HB.out.cell (World.block_lt_of_cell? w _ hx109_0)).trans hx109_0
         replace hx109_1 := (HB.out.cell (World.block_lt_of_cell? w _ hx109_1)).trans hx109_1
         replace hx109_2 := (HB.out.cell (World.block_lt_of_cell? w _ hx109_2)).trans hx109_2
         replace hx109_3 := (HB.out.cell (World.block_lt_of_cell? w _ hx109_3)).trans hx109_3
         replace hx109_4 := (HB.out.cell (World.block_lt_of_cell? w _ hx109_4)).trans hx109_4
         replace hx109_5 := (HB.out.cell (World.block_lt_of_cell? w _ hx109_5)).trans hx109_5
         have HR109_3 := Aside0.mk hi109_3
         have HC109_3 := Aside0.mk hl109_3
         clear hi109_3 hl109_3
         have HR109_4 := Aside0.mk hi109_4
         have HC109_4 := Aside0.mk hl109_4
         clear hi109_4 hl109_4
         have HR109_5 := Aside0.mk hi109_5
         have HC109_5 := Aside0.mk hl109_5
         clear hi109_5 hl109_5
         replace p109 := eq_true p109
         replace q109 := eq_true q109
         go_wp2_with (first | ((with_reducible refine gate_callee (f := 25) rfl ?_); refine goesL_ (some 18) rfl rfl Tryd.func25 (by kernel_rfl) rfl #[.agg #[.int .i64 ((rd_T26 l0_5 x4_1).f0), .string ((rd_T26 l0_5 x4_1).f1), .int .i64 ((rd_T26 l0_5 x4_1).f2), .slice A109_3 ((rd_T26 l0_5 x4_1).f3).length c109_3, .slice A109_4 ((rd_T26 l0_5 x4_1).f4).length c109_4, .slice A109_5 ((rd_T26 l0_5 x4_1).f5).length c109_5]] rfl (by (try simp only [List.map_toArray, List.map_cons, List.map_nil]); first | done | rfl | (simp only [List.length_drop, List.length_take]; rfl)) ?_; (with_reducible refine (ih k1 (by have := HK1.out; omega) ((rd_T26 l0_5 x4_1).f0) ((rd_T26 l0_5 x4_1).f1) ((rd_T26 l0_5 x4_1).f2) _ _ ((rd_T26 l0_5 x4_1).f3) _ _ ((rd_T26 l0_5 x4_1).f4) _ _ ((rd_T26 l0_5 x4_1).f5) t110 _ ?side1 ?side2 ?side3 ?side4 ?side5 ?side6 A5.out).mono ?_); (case side1 => repeat (first | exact (Kd.C_below HR109_3.out HB.out) | (with_reducible refine Kd.C_alloc ?_ _) | (with_reducible refine Kd.C_drewN ?_ _) | (with_reducible refine Kd.C_drew ?_))); (case side2 => exact HC109_3.out); (case side3 => repeat (first | exact (Kd.C_below HR109_4.out HB.out) | (with_reducible refine Kd.C_alloc ?_ _) | (with_reducible refine Kd.C_drewN ?_ _) | (with_reducible refine Kd.C_drew ?_))); (case side4 => exact HC109_4.out); (case side5 => repeat (first | exact (Kd.C_below HR109_5.out HB.out) | (with_reducible refine Kd.C_alloc ?_ _) | (with_reducible refine Kd.C_drewN ?_ _) | (with_reducible refine Kd.C_drew ?_))); (case side6 => exact HC109_5.out); rintro e w7 ⟨rfl, hb⟩; refine ⟨_, rfl, ?_⟩; have n0_ := Aside0.mk (blk_below (g := gb108) (o := .cells #[.int .i64 a0_0, .string a0_1, .int .i64 a0_2, .slice A0_3 l0_3.length c0_3, .slice A0_4 l0_4.length c0_4, .slice (some ad109) l0_5.length c0_5] 26 (0, 0)) (by (with_reducible repeat (first | refine blk_drewN ?_ _ | refine blk_drew ?_ | refine blk_alloc ?_ _)); exact BK108.out) hb); have n1_ := Aside0.mk (below_step (by repeat (first | (with_reducible first | exact HB.out | apply bAl | apply pwDN | apply bD1 | refine bSt ?_ GE108.out) | exact HB.out)) hb); clear BK108; clear HB; have BK108 := n0_; have HB := n1_; clear n0_ n1_; (try clear hb); (try clear hb2); (try clear hk); (try clear hi)))
         go_roundg k1
         case measure => have := HK1.out; omega
         case rel => exact ⟨(wrap64 (x3_1 + t110)), (wrap64 (x4_1 + 1)), (by first | rfl | (simp; done) | (simp [*]; done)), (by first | rfl | (simp; done) | (simp [*]; done)), H', ⟨by have := HK1.out; omega⟩, ⟨by (with_reducible repeat (first | refine blk_drewN ?_ _ | refine blk_drew ?_ | refine blk_alloc ?_ _)); exact BK108.out⟩, ⟨by repeat (first | (with_reducible first | exact HB.out | apply bAl | apply pwDN | apply bD1 | refine bSt ?_ GE108.out) | exact HB.out)⟩⟩
       · rw [if_neg c4] at H
         exact absurd H (by simp)
     · rw [if_neg c3] at H
       have c3b0 : decide (x4_1 < (l0_5.length : Int)) = false := decide_eq_false c3
       clear c3
       obtain rfl := Option.some.inj H
       have hcz8_0 : wr.cell? ⟨gb108, 0, none⟩ = some (.int .i64 a0_0) := (bCl BK108.out 0).trans rfl
       have hcz8_1 : wr.cell? ⟨gb108, 1, none⟩ = some (.string a0_1) := (bCl BK108.out 1).trans rfl
       have hcz8_2 : wr.cell? ⟨gb108, 2, none⟩ = some (.int .i64 a0_2) := (bCl BK108.out 2).trans rfl
       have hcz8_3 : wr.cell? ⟨gb108, 3, none⟩ = some (.slice A0_3 l0_3.length c0_3) := (bCl BK108.out 3).trans rfl
       have hcz8_4 : wr.cell? ⟨gb108, 4, none⟩ = some (.slice A0_4 l0_4.length c0_4) := (bCl BK108.out 4).trans rfl
       have hcz8_5 : wr.cell? ⟨gb108, 5, none⟩ = some (.slice A0_5 l0_5.length c0_5) := (bCl BK108.out 5).trans rfl
       have hfz8_0 := bFz BK108.out 0
       have hfz8_1 := bFz BK108.out 1
       have hfz8_2 := bFz BK108.out 2
       have hfz8_3 := bFz BK108.out 3
       have hfz8_4 := bFz BK108.out 4
       have hfz8_5 := bFz BK108.out 5
       go_wp2
       go_ret
       exact ⟨by first | rfl | (simp [errW_none, errW_some] <;> rfl) | (simp [*, errW_none, errW_some] <;> rfl), by repeat (first | (with_reducible first | exact HB.out | apply bAl | apply pwDN | apply bD1 | refine bSt ?_ GE108.out) | exact HB.out)⟩
mutual
def rf6Depth.l0 : Nat → Int → Int → Int → ByteArray → Int → List (S47) → List (S42) → List (S26) → Option (Int)
 | 0, _, _, _, _, _, _, _, _ => none
 | k + 1, x3, x4, x112000, x112001, x112002, x112003, x112004, x112005 => if x4 < (x112005.length : Int) then (if 0 ≤ x4 then ((rf6Depth.f k ((rd_T26 x112005 x4).f0) ((rd_T26 x112005 x4).f1) ((rd_T26 x112005 x4).f2) ((rd_T26 x112005 x4).f3) ((rd_T26 x112005 x4).f4) ((rd_T26 x112005 x4).f5)).bind fun t113 => (rf6Depth.l0 k (mx x3 t113) (wrap64 (x4 + 1)) x112000 x112001 x112002 x112003 x112004 x112005)) else (none)) else (some (wrap64 (x3 + 1)))
def rf6Depth.f : Nat → Int → ByteArray → Int → List (S47) → List (S42) → List (S26) → Option (Int)
 | 0, _, _, _, _, _, _ => none
 | k + 1, a0_0, a0_1, a0_2, l0_3, l0_4, l0_5 => rf6Depth.l0 k 0 0 a0_0 a0_1 a0_2 l0_3 l0_4 l0_5
end
set_option maxHeartbeats 8000000 in
set_option maxRecDepth 100000 in
theorem rf6Depth.calls (k : Nat) : ∀ (a0_0 : Int) (a0_1 : ByteArray) (a0_2 : Int) (A0_3 : Option Addr) (c0_3 : Nat) (l0_3 : List (S47)) (A0_4 : Option Addr) (c0_4 : Nat) (l0_4 : List (S42)) (A0_5 : Option Addr) (c0_5 : Nat) (l0_5 : List (S26)) (r : Int) (w : World) (hr0_3 : Kd.C k47 w A0_3 l0_3.length l0_3) (hc0_3 : l0_3.length ≤ c0_3) (hr0_4 : Kd.C k42 w A0_4 l0_4.length l0_4) (hc0_4 : l0_4.length ≤ c0_4) (hr0_5 : Kd.C k26 w A0_5 l0_5.length l0_5) (hc0_5 : l0_5.length ≤ c0_5) (h : rf6Depth.f k a0_0 a0_1 a0_2 l0_3 l0_4 l0_5 = some r),
   Calls Tryd.prog 27 #[.agg #[.int .i64 a0_0, .string a0_1, .int .i64 a0_2, .slice A0_3 l0_3.length c0_3, .slice A0_4 l0_4.length c0_4, .slice A0_5 l0_5.length c0_5]] w fun e w' => e = .returned (.int .i64 r) ∧ Below w.heap.size w w' := by
 induction k using Nat.strongRecOn with
 | _ k ih =>
 intro a0_0 a0_1 a0_2 A0_3 c0_3 l0_3 A0_4 c0_4 l0_4 A0_5 c0_5 l0_5 r w hr0_3 hc0_3 hr0_4 hc0_4 hr0_5 hc0_5 h
 cases k with
 | zero => exact absurd h (by simp [rf6Depth.f])
 | succ k =>
 simp only [rf6Depth.f] at h
 have hu26 := Tryd.underlying26
 have HR0_3 := Aside0.mk hr0_3
 have HC0_3 := Aside0.mk hc0_3
 clear hr0_3 hc0_3
 have HR0_4 := Aside0.mk hr0_4
 have HC0_4 := Aside0.mk hc0_4
 clear hr0_4 hc0_4
 have HR0_5 := Aside0.mk hr0_5
 have HC0_5 := Aside0.mk hc0_5
 clear hr0_5 hc0_5
 have HB := Aside0.mk (Below.refl w.heap.size w)
 have H : (rf6Depth.l0 k 0 0 a0_0 a0_1 a0_2 l0_3 l0_4 l0_5) = some r := h
 clear h
 have H' := Aside0.mk H
 clear H
 go_enter Tryd.func27, Tryd.ntmps27
 go_wp2_with (first | ((with_reducible refine gate_dst (N := 1) rfl ?_); refine box_event ?hg (N := 1) ?hd (cs := #[.int .i64 a0_0, .string a0_1, .int .i64 a0_2, .slice A0_3 l0_3.length c0_3, .slice A0_4 l0_4.length c0_4, .slice A0_5 l0_5.length c0_5]) (t := 26) ?hr ?_; (case hd => rfl); (case hg => rfl); (case hr => first | (go_simp; done) | (go_simp; rfl)); intro gb111 hg w2 hbox hb; have n0_ := Aside0.mk (below_step (by repeat (first | (with_reducible first | exact HB.out | apply bAl | apply pwDN | apply bD1) | exact HB.out)) hb); have n1_ := Aside0.mk (hbox); have n2_ := Aside0.mk ((by rw [hg]; exact (below_size (by repeat (first | (with_reducible first | exact HB.out | apply bAl | apply pwDN | apply bD1) | exact HB.out))) : w.heap.size ≤ gb111)); have n3_ := Aside0.mk ((by rw [hg]; exact (below_size (by repeat (first | (with_reducible first | exact HB.out | apply bAl | apply pwDN | apply bD1) | exact HB.out))) : w.heap.size ≤ gb111)); clear HB; have HB := n0_; have BK111 := n1_; have GW111 := n2_; have GE111 := n3_; clear n0_ n1_ n2_ n3_; clear hb hbox hg))
 go_loopg [3, 4] k (fun kq v3 v4 w' => ∃ (x3_1 : Int) (x4_1 : Int), v3 = .int .i64 x3_1 ∧ v4 = .int .i64 x4_1 ∧ Aside0 (rf6Depth.l0 kq x3_1 x4_1 a0_0 a0_1 a0_2 l0_3 l0_4 l0_5 = some r) ∧ Aside0 (kq ≤ k) ∧ Aside0 (w'.heap[gb111]? = some (.cells #[.int .i64 a0_0, .string a0_1, .int .i64 a0_2, (.slice A0_3 l0_3.length c0_3), (.slice A0_4 l0_4.length c0_4), (.slice A0_5 l0_5.length c0_5)] 26 (0, 0))) ∧ Aside0 (Below w.heap.size w w'))
 case atStart => exact ⟨(0), (0), (by first | rfl | (simp; done) | (simp [*]; done)), (by first | rfl | (simp; done) | (simp [*]; done)), H', ⟨Nat.le_refl _⟩, ⟨by (with_reducible repeat (first | refine blk_drewN ?_ _ | refine blk_drew ?_ | refine blk_alloc ?_ _)); exact BK111.out⟩, ⟨by repeat (first | (with_reducible first | exact HB.out | apply bAl | apply pwDN | apply bD1 | refine bSt ?_ GE111.out) | exact HB.out)⟩⟩
 case round =>
   clear H'
   try clear c2
   try clear p2
   obtain ⟨x3_1, x4_1, rfl, rfl, HA, HK1, BK111, HB⟩ := hrel
   cases gk with
   | zero => exact absurd HA.out (by simp [rf6Depth.l0])
   | succ k1 =>
     have H := HA.out
     clear HA
     simp only [rf6Depth.l0] at H
     by_cases c3 : x4_1 < (l0_5.length : Int)
     · rw [if_pos c3] at H
       have c3b0 : decide (x4_1 < (l0_5.length : Int)) = true := decide_eq_true c3
       clear c3
       by_cases c4 : 0 ≤ x4_1
       · rw [if_pos c4] at H
         have c4b0 : decide (0 ≤ x4_1) = true := decide_eq_true c4
         clear c4
         replace H := Option.bind_eq_some_iff.mp H
         obtain ⟨t113, A50, H⟩ := H
         replace H : (rf6Depth.l0 k1 (mx x3_1 t113) (wrap64 (x4_1 + 1)) a0_0 a0_1 a0_2 l0_3 l0_4 l0_5) = some r := H
         have A5 := Aside0.mk A50
         clear A50
         obtain ⟨ji6, hji6⟩ : ∃ j_ : Int, (mx x3_1 t113) = j_ := ⟨_, rfl⟩
         replace H : (rf6Depth.l0 k1 ji6 (wrap64 (x4_1 + 1)) a0_0 a0_1 a0_2 l0_3 l0_4 l0_5) = some r := by first | (rw [hji6] at H; exact H) | (simp only [hji6] at H ⊢; exact H)
         (try rw [hji6] at A5)
         have hji6_ : (if x3_1 < t113 then t113 else x3_1) = ji6 := hji6
         have H' := Aside0.mk H
         clear H
         have hcz7_0 : wr.cell? ⟨gb111, 0, none⟩ = some (.int .i64 a0_0) := (bCl BK111.out 0).trans rfl
         have hcz7_1 : wr.cell? ⟨gb111, 1, none⟩ = some (.string a0_1) := (bCl BK111.out 1).trans rfl
         have hcz7_2 : wr.cell? ⟨gb111, 2, none⟩ = some (.int .i64 a0_2) := (bCl BK111.out 2).trans rfl
         have hcz7_3 : wr.cell? ⟨gb111, 3, none⟩ = some (.slice A0_3 l0_3.length c0_3) := (bCl BK111.out 3).trans rfl
         have hcz7_4 : wr.cell? ⟨gb111, 4, none⟩ = some (.slice A0_4 l0_4.length c0_4) := (bCl BK111.out 4).trans rfl
         have hcz7_5 : wr.cell? ⟨gb111, 5, none⟩ = some (.slice A0_5 l0_5.length c0_5) := (bCl BK111.out 5).trans rfl
         have hfz7_0 := bFz BK111.out 0
         have hfz7_1 := bFz BK111.out 1
         have hfz7_2 := bFz BK111.out 2
         have hfz7_3 := bFz BK111.out 3
         have hfz7_4 := bFz BK111.out 4
         have hfz7_5 := bFz BK111.out 5
         have p112 : 0 ≤ (x4_1 : Int) := of_decide_eq_true (by first | (with_reducible assumption) | assumption)
         have q112 : x4_1 < (l0_5.length : Int) := of_decide_eq_true (by first | (with_reducible assumption) | assumption)
         obtain ⟨ad112, A112_3, c112_3, A112_4, c112_4, A112_5, c112_5, e112, hx112_0, hx112_1, hx112_2, hx112_3, hx112_4, hx112_5, hl112_3, hi112_3, hl112_4, hi112_4, hl112_5, hi112_5⟩ := at_T26 HR0_5.out x4_1 p112 q112
         cases e112
         replace hx112_0 := (HB.out.cell (World.block_lt_of_cell? w _ hx112_0)).trans hx112_0
         replace hx112_1 := (HB.out.cell (World.block_lt_of_cell? w _ hx112_1)).trans hx112_1
         replace hx112_2 := (HB.out.cell (World.block_lt_of_cell? w _ hx112_2)).trans hx112_2
         replace hx112_3 := (HB.out.cell (World.block_lt_of_cell? w _ hx112_3)).trans hx112_3
         replace hx112_4 := (HB.out.cell (World.block_lt_of_cell? w _ hx112_4)).trans hx112_4
         replace hx112_5 := (HB.out.cell (World.block_lt_of_cell? w _ hx112_5)).trans hx112_5
         have HR112_3 := Aside0.mk hi112_3
         have HC112_3 := Aside0.mk hl112_3
         clear hi112_3 hl112_3
         have HR112_4 := Aside0.mk hi112_4
         have HC112_4 := Aside0.mk hl112_4
         clear hi112_4 hl112_4
         have HR112_5 := Aside0.mk hi112_5
         have HC112_5 := Aside0.mk hl112_5
         clear hi112_5 hl112_5
         replace p112 := eq_true p112
         replace q112 := eq_true q112
         go_wp2_with (first | ((with_reducible refine gate_callee (f := 27) rfl ?_); refine goesL_ (some 18) rfl rfl Tryd.func27 (by kernel_rfl) rfl #[.agg #[.int .i64 ((rd_T26 l0_5 x4_1).f0), .string ((rd_T26 l0_5 x4_1).f1), .int .i64 ((rd_T26 l0_5 x4_1).f2), .slice A112_3 ((rd_T26 l0_5 x4_1).f3).length c112_3, .slice A112_4 ((rd_T26 l0_5 x4_1).f4).length c112_4, .slice A112_5 ((rd_T26 l0_5 x4_1).f5).length c112_5]] rfl (by (try simp only [List.map_toArray, List.map_cons, List.map_nil]); first | done | rfl | (simp only [List.length_drop, List.length_take]; rfl)) ?_; (with_reducible refine (ih k1 (by have := HK1.out; omega) ((rd_T26 l0_5 x4_1).f0) ((rd_T26 l0_5 x4_1).f1) ((rd_T26 l0_5 x4_1).f2) _ _ ((rd_T26 l0_5 x4_1).f3) _ _ ((rd_T26 l0_5 x4_1).f4) _ _ ((rd_T26 l0_5 x4_1).f5) t113 _ ?side1 ?side2 ?side3 ?side4 ?side5 ?side6 A5.out).mono ?_); (case side1 => repeat (first | exact (Kd.C_below HR112_3.out HB.out) | (with_reducible refine Kd.C_alloc ?_ _) | (with_reducible refine Kd.C_drewN ?_ _) | (with_reducible refine Kd.C_drew ?_))); (case side2 => exact HC112_3.out); (case side3 => repeat (first | exact (Kd.C_below HR112_4.out HB.out) | (with_reducible refine Kd.C_alloc ?_ _) | (with_reducible refine Kd.C_drewN ?_ _) | (with_reducible refine Kd.C_drew ?_))); (case side4 => exact HC112_4.out); (case side5 => repeat (first | exact (Kd.C_below HR112_5.out HB.out) | (with_reducible refine Kd.C_alloc ?_ _) | (with_reducible refine Kd.C_drewN ?_ _) | (with_reducible refine Kd.C_drew ?_))); (case side6 => exact HC112_5.out); rintro e w8 ⟨rfl, hb⟩; refine ⟨_, rfl, ?_⟩; have n0_ := Aside0.mk (blk_below (g := gb111) (o := .cells #[.int .i64 a0_0, .string a0_1, .int .i64 a0_2, .slice A0_3 l0_3.length c0_3, .slice A0_4 l0_4.length c0_4, .slice (some ad112) l0_5.length c0_5] 26 (0, 0)) (by (with_reducible repeat (first | refine blk_drewN ?_ _ | refine blk_drew ?_ | refine blk_alloc ?_ _)); exact BK111.out) hb); have n1_ := Aside0.mk (below_step (by repeat (first | (with_reducible first | exact HB.out | apply bAl | apply pwDN | apply bD1 | refine bSt ?_ GE111.out) | exact HB.out)) hb); clear BK111; clear HB; have BK111 := n0_; have HB := n1_; clear n0_ n1_; (try clear hb); (try clear hb2); (try clear hk); (try clear hi)))
         go_roundg k1
         case measure => have := HK1.out; omega
         case rel => exact ⟨(ji6), (wrap64 (x4_1 + 1)), (by first | rfl | (simp; done) | (simp only [← hji6] <;> (first | rfl | simp)) | (simp [*]; done)), (by first | rfl | (simp; done) | (simp [*]; done)), H', ⟨by have := HK1.out; omega⟩, ⟨by (with_reducible repeat (first | refine blk_drewN ?_ _ | refine blk_drew ?_ | refine blk_alloc ?_ _)); exact BK111.out⟩, ⟨by repeat (first | (with_reducible first | exact HB.out | apply bAl | apply pwDN | apply bD1 | refine bSt ?_ GE111.out) | exact HB.out)⟩⟩
       · rw [if_neg c4] at H
         exact absurd H (by simp)
     · rw [if_neg c3] at H
       have c3b0 : decide (x4_1 < (l0_5.length : Int)) = false := decide_eq_false c3
       clear c3
       obtain rfl := Option.some.inj H
       have hcz9_0 : wr.cell? ⟨gb111, 0, none⟩ = some (.int .i64 a0_0) := (bCl BK111.out 0).trans rfl
       have hcz9_1 : wr.cell? ⟨gb111, 1, none⟩ = some (.string a0_1) := (bCl BK111.out 1).trans rfl
       have hcz9_2 : wr.cell? ⟨gb111, 2, none⟩ = some (.int .i64 a0_2) := (bCl BK111.out 2).trans rfl
       have hcz9_3 : wr.cell? ⟨gb111, 3, none⟩ = some (.slice A0_3 l0_3.length c0_3) := (bCl BK111.out 3).trans rfl
       have hcz9_4 : wr.cell? ⟨gb111, 4, none⟩ = some (.slice A0_4 l0_4.length c0_4) := (bCl BK111.out 4).trans rfl
       have hcz9_5 : wr.cell? ⟨gb111, 5, none⟩ = some (.slice A0_5 l0_5.length c0_5) := (bCl BK111.out 5).trans rfl
       have hfz9_0 := bFz BK111.out 0
       have hfz9_1 := bFz BK111.out 1
       have hfz9_2 := bFz BK111.out 2
       have hfz9_3 := bFz BK111.out 3
       have hfz9_4 := bFz BK111.out 4
       have hfz9_5 := bFz BK111.out 5
       go_wp2
       go_ret
       exact ⟨by first | rfl | (simp [errW_none, errW_some] <;> rfl) | (simp [*, errW_none, errW_some] <;> rfl), by repeat (first | (with_reducible first | exact HB.out | apply bAl | apply pwDN | apply bD1 | refine bSt ?_ GE111.out) | exact HB.out)⟩
def rf6Atom.f (a0 : Int) : Option (Bool) := if a0 ≥ 3 then (some (decide (a0 ≤ 9))) else (some false)
set_option maxHeartbeats 8000000 in
set_option maxRecDepth 100000 in
theorem rf6Atom.calls (a0 : Int) (r : Bool) (w : World) (h : rf6Atom.f a0 = some r) :
   Calls Tryd.prog 96 #[.int .i64 a0] w fun e w' => e = .returned (.bool r) ∧ Drawn0 w w' := by
 have H : (if a0 ≥ 3 then (some (decide (a0 ≤ 9))) else (some false)) = some r := h
 clear h
 by_cases c2 : a0 ≥ 3
 · rw [if_pos c2] at H
   have c2b0 : decide (3 ≤ a0) = true := decide_eq_true c2
   clear c2
   obtain rfl := Option.some.inj H
   go_enter Tryd.func96, Tryd.ntmps96
   go_wp2
   go_ret
   exact ⟨by first | rfl | (simp; done) | (simp [*]; done), by repeat (first | exact Drawn0.refl _ | apply Drawn0.step)⟩
 · rw [if_neg c2] at H
   have c2b0 : decide (3 ≤ a0) = false := decide_eq_false c2
   clear c2
   obtain rfl := Option.some.inj H
   go_enter Tryd.func96, Tryd.ntmps96
   go_wp2
   go_ret
   exact ⟨by first | rfl | (simp; done) | (simp [*]; done), by repeat (first | exact Drawn0.refl _ | apply Drawn0.step)⟩
mutual
def rf6parts.j0 : Nat → Int → Int → Bool → Option (Int)
 | 0, _, _, _ => none
 | k + 1, x0, x3, x4 => if x4 = true then (some 1) else (if x3 = 11 then (rf6parts.j1 k x0 (x3 == 11)) else (if x3 = 12 then (rf6parts.j1 k x0 (x3 == 12)) else (rf6parts.j1 k x0 (x3 == 13))))
def rf6parts.j1 : Nat → Int → Bool → Option (Int)
 | 0, _, _ => none
 | k + 1, x0, x10 => if x10 = true then (some 2) else (if x0 = 1 then (some 0) else (if x0 = 2 then (some 0) else ((rf6Atom.f x0).bind fun t114 => (if t114 = true then (some 0) else (some (-1))))))
end
def rf6parts.f (k : Nat) (a0 : Int) : Option (Int) := if a0 = 10 then (rf6parts.j0 k a0 a0 (a0 == 10)) else (if a0 = 14 then (rf6parts.j0 k a0 a0 (a0 == 14)) else (if a0 = 15 then (rf6parts.j0 k a0 a0 (a0 == 15)) else (if a0 = 16 then (rf6parts.j0 k a0 a0 (a0 == 16)) else (rf6parts.j0 k a0 a0 (a0 == 17)))))
set_option maxHeartbeats 8000000 in
set_option maxRecDepth 100000 in
theorem rf6parts.calls (k : Nat) (a0 : Int) (r : Int) (w : World) (h : rf6parts.f k a0 = some r) :
   Calls Tryd.prog 89 #[.int .i64 a0] w fun e w' => e = .returned (.int .i64 r) ∧ Drawn0 w w' := by
 have H : (if a0 = 10 then (rf6parts.j0 k a0 a0 (a0 == 10)) else (if a0 = 14 then (rf6parts.j0 k a0 a0 (a0 == 14)) else (if a0 = 15 then (rf6parts.j0 k a0 a0 (a0 == 15)) else (if a0 = 16 then (rf6parts.j0 k a0 a0 (a0 == 16)) else (rf6parts.j0 k a0 a0 (a0 == 17)))))) = some r := h
 clear h
 have HC2 := Aside0.mk H
 clear H
 go_enter Tryd.func89, Tryd.ntmps89
 go_upto_if 4 with (fail)
 go_cut [4] (fun v4 wc => ∃ (kq : Nat) (x4_1 : Bool), v4 = .bool x4_1 ∧ Aside0 (rf6parts.j0 kq a0 a0 x4_1 = some r) ∧ Aside0 (kq ≤ k) ∧ Drawn0 w wc)
 case first =>
   have H := HC2.out
   clear HC2
   by_cases c3 : a0 = 10
   · rw [if_pos c3] at H
     have c3b0 : (a0 == 10) = true := beq_iff_eq.mpr c3
     have c3b1 : (a0 != 10) = false := bne_eq_false_iff_eq.mpr c3
     clear c3
     (first | rw [c3b0] | (simp only [i64_w, i32_w]; rw [c3b0]) | skip)
     have H' := Aside0.mk H
     clear H
     go_wp2
     go_meet
     case rel => exact ⟨_, ((a0 == 10)), (by first | rfl | (simp; done) | (simp [*]; done)), H', ⟨by first | omega | exact Nat.le_refl _⟩, by repeat (first | exact Drawn0.refl _ | apply Drawn0.step)⟩
   · rw [if_neg c3] at H
     have c3b0 : (a0 == 10) = false := beq_eq_false_iff_ne.mpr c3
     have c3b1 : (a0 != 10) = true := bne_iff_ne.mpr c3
     (first | rw [c3b0] | (simp only [i64_w, i32_w]; rw [c3b0]) | skip)
     by_cases c4 : a0 = 14
     · rw [if_pos c4] at H
       have c4b0 : (a0 == 14) = true := beq_iff_eq.mpr c4
       have c4b1 : (a0 != 14) = false := bne_eq_false_iff_eq.mpr c4
       clear c4
       have H' := Aside0.mk H
       clear H
       go_wp2
       go_meet
       case rel => exact ⟨_, ((a0 == 14)), (by first | rfl | (simp; done) | (simp [*]; done)), H', ⟨by first | omega | exact Nat.le_refl _⟩, by repeat (first | exact Drawn0.refl _ | apply Drawn0.step)⟩
     · rw [if_neg c4] at H
       have c4b0 : (a0 == 14) = false := beq_eq_false_iff_ne.mpr c4
       have c4b1 : (a0 != 14) = true := bne_iff_ne.mpr c4
       by_cases c5 : a0 = 15
       · rw [if_pos c5] at H
         have c5b0 : (a0 == 15) = true := beq_iff_eq.mpr c5
         have c5b1 : (a0 != 15) = false := bne_eq_false_iff_eq.mpr c5
         clear c5
         have H' := Aside0.mk H
         clear H
         go_wp2
         go_meet
         case rel => exact ⟨_, ((a0 == 15)), (by first | rfl | (simp; done) | (simp [*]; done)), H', ⟨by first | omega | exact Nat.le_refl _⟩, by repeat (first | exact Drawn0.refl _ | apply Drawn0.step)⟩
       · rw [if_neg c5] at H
         have c5b0 : (a0 == 15) = false := beq_eq_false_iff_ne.mpr c5
         have c5b1 : (a0 != 15) = true := bne_iff_ne.mpr c5
         by_cases c6 : a0 = 16
         · rw [if_pos c6] at H
           have c6b0 : (a0 == 16) = true := beq_iff_eq.mpr c6
           have c6b1 : (a0 != 16) = false := bne_eq_false_iff_eq.mpr c6
           clear c6
           have H' := Aside0.mk H
           clear H
           go_wp2
           go_meet
           case rel => exact ⟨_, ((a0 == 16)), (by first | rfl | (simp; done) | (simp [*]; done)), H', ⟨by first | omega | exact Nat.le_refl _⟩, by repeat (first | exact Drawn0.refl _ | apply Drawn0.step)⟩
         · rw [if_neg c6] at H
           have c6b0 : (a0 == 16) = false := beq_eq_false_iff_ne.mpr c6
           have c6b1 : (a0 != 16) = true := bne_iff_ne.mpr c6
           have H' := Aside0.mk H
           clear H
           go_wp2
           go_meet
           case rel => exact ⟨_, ((a0 == 17)), (by first | rfl | (simp; done) | (simp [*]; done)), H', ⟨by first | omega | exact Nat.le_refl _⟩, by repeat (first | exact Drawn0.refl _ | apply Drawn0.step)⟩
 case rest =>
   clear HC2
   try clear p2
   try clear c3
   try clear c3b0
   try clear c3b1
   try clear c4
   try clear c4b0
   try clear c4b1
   try clear c5
   try clear c5b0
   try clear c5b1
   try clear c6
   try clear c6b0
   try clear c6b1
   obtain ⟨kq, x4_1, rfl, HA, HJ1, ⟨mc1, rfl⟩⟩ := hcut
   cases kq with
   | zero => exact absurd HA.out (by simp [rf6parts.j0])
   | succ kj1 =>
     have H := HA.out
     clear HA
     simp only [rf6parts.j0] at H
     by_cases c7 : x4_1 = true
     · subst c7
       have H1 : (some 1) = some r := by rw [if_pos rfl] at H; exact H
       clear H
       have H := H1
       clear H1
       obtain rfl := Option.some.inj H
       go_wp2
       go_ret
       exact ⟨by first | rfl | (simp; done) | (simp [*]; done), by repeat (first | exact Drawn0.refl _ | apply Drawn0.step)⟩
     · replace c7 := Bool.eq_false_iff.mpr c7
       subst c7
       have H1 : (if a0 = 11 then (rf6parts.j1 kj1 a0 (a0 == 11)) else (if a0 = 12 then (rf6parts.j1 kj1 a0 (a0 == 12)) else (rf6parts.j1 kj1 a0 (a0 == 13)))) = some r := by rw [if_neg (show ¬ (false = true) by decide)] at H; exact H
       clear H
       have H := H1
       clear H1
       have HC8 := Aside0.mk H
       clear H
       go_upto_if 10 with (fail)
       go_cut [10] (fun v10 wc => ∃ (kq : Nat) (x10_7 : Bool), v10 = .bool x10_7 ∧ Aside0 (rf6parts.j1 kq a0 x10_7 = some r) ∧ Aside0 (kq ≤ kj1) ∧ Drawn0 w wc)
       case first =>
         have H := HC8.out
         clear HC8
         by_cases c9 : a0 = 11
         · rw [if_pos c9] at H
           have c9b0 : (a0 == 11) = true := beq_iff_eq.mpr c9
           have c9b1 : (a0 != 11) = false := bne_eq_false_iff_eq.mpr c9
           clear c9
           (first | rw [c9b0] | (simp only [i64_w, i32_w]; rw [c9b0]) | skip)
           have H' := Aside0.mk H
           clear H
           go_wp2
           go_meet
           case rel => exact ⟨_, ((a0 == 11)), (by first | rfl | (simp; done) | (simp [*]; done)), H', ⟨by have := HJ1.out; first | omega | exact Nat.le_refl _⟩, by repeat (first | exact Drawn0.refl _ | apply Drawn0.step)⟩
         · rw [if_neg c9] at H
           have c9b0 : (a0 == 11) = false := beq_eq_false_iff_ne.mpr c9
           have c9b1 : (a0 != 11) = true := bne_iff_ne.mpr c9
           (first | rw [c9b0] | (simp only [i64_w, i32_w]; rw [c9b0]) | skip)
           by_cases c10 : a0 = 12
           · rw [if_pos c10] at H
             have c10b0 : (a0 == 12) = true := beq_iff_eq.mpr c10
             have c10b1 : (a0 != 12) = false := bne_eq_false_iff_eq.mpr c10
             clear c10
             have H' := Aside0.mk H
             clear H
             go_wp2
             go_meet
             case rel => exact ⟨_, ((a0 == 12)), (by first | rfl | (simp; done) | (simp [*]; done)), H', ⟨by have := HJ1.out; first | omega | exact Nat.le_refl _⟩, by repeat (first | exact Drawn0.refl _ | apply Drawn0.step)⟩
           · rw [if_neg c10] at H
             have c10b0 : (a0 == 12) = false := beq_eq_false_iff_ne.mpr c10
             have c10b1 : (a0 != 12) = true := bne_iff_ne.mpr c10
             have H' := Aside0.mk H
             clear H
             go_wp2
             go_meet
             case rel => exact ⟨_, ((a0 == 13)), (by first | rfl | (simp; done) | (simp [*]; done)), H', ⟨by have := HJ1.out; first | omega | exact Nat.le_refl _⟩, by repeat (first | exact Drawn0.refl _ | apply Drawn0.step)⟩
       case rest =>
         clear HC8
         try clear c1
         try clear p2
         try clear c3
         try clear c3b0
         try clear c3b1
         try clear c4
         try clear c4b0
         try clear c4b1
         try clear c5
         try clear c5b0
         try clear c5b1
         try clear c6
         try clear c6b0
         try clear c6b1
         try clear c7
         try clear c8
         try clear c9
         try clear c9b0
         try clear c9b1
         try clear c10
         try clear c10b0
         try clear c10b1
         try clear p2
         obtain ⟨kq, x10_7, rfl, HA, HJ7, ⟨mc7, rfl⟩⟩ := hcut
         cases kq with
         | zero => exact absurd HA.out (by simp [rf6parts.j1])
         | succ kj7 =>
           have H := HA.out
           clear HA
           simp only [rf6parts.j1] at H
           by_cases c11 : x10_7 = true
           · subst c11
             have H1 : (some 2) = some r := by rw [if_pos rfl] at H; exact H
             clear H
             have H := H1
             clear H1
             obtain rfl := Option.some.inj H
             go_wp2
             go_ret
             exact ⟨by first | rfl | (simp; done) | (simp [*]; done), by repeat (first | exact Drawn0.refl _ | apply Drawn0.step)⟩
           · replace c11 := Bool.eq_false_iff.mpr c11
             subst c11
             have H1 : (if a0 = 1 then (some 0) else (if a0 = 2 then (some 0) else ((rf6Atom.f a0).bind fun t114 => (if t114 = true then (some 0) else (some (-1)))))) = some r := by rw [if_neg (show ¬ (false = true) by decide)] at H; exact H
             clear H
             have H := H1
             clear H1
             by_cases c12 : a0 = 1
             · rw [if_pos c12] at H
               have c12b0 : (a0 == 1) = true := beq_iff_eq.mpr c12
               have c12b1 : (a0 != 1) = false := bne_eq_false_iff_eq.mpr c12
               clear c12
               obtain rfl := Option.some.inj H
               go_wp2
               go_ret
               exact ⟨by first | rfl | (simp; done) | (simp [*]; done), by repeat (first | exact Drawn0.refl _ | apply Drawn0.step)⟩
             · rw [if_neg c12] at H
               have c12b0 : (a0 == 1) = false := beq_eq_false_iff_ne.mpr c12
               have c12b1 : (a0 != 1) = true := bne_iff_ne.mpr c12
               by_cases c13 : a0 = 2
               · rw [if_pos c13] at H
                 have c13b0 : (a0 == 2) = true := beq_iff_eq.mpr c13
                 have c13b1 : (a0 != 2) = false := bne_eq_false_iff_eq.mpr c13
                 clear c13
                 obtain rfl := Option.some.inj H
                 go_wp2
                 go_ret
                 exact ⟨by first | rfl | (simp; done) | (simp [*]; done), by repeat (first | exact Drawn0.refl _ | apply Drawn0.step)⟩
               · rw [if_neg c13] at H
                 have c13b0 : (a0 == 2) = false := beq_eq_false_iff_ne.mpr c13
                 have c13b1 : (a0 != 2) = true := bne_iff_ne.mpr c13
                 replace H := Option.bind_eq_some_iff.mp H
                 obtain ⟨t114, A140, H⟩ := H
                 replace H : (if t114 = true then (some 0) else (some (-1))) = some r := H
                 have A14 := Aside0.mk A140
                 clear A140
                 by_cases c15 : t114 = true
                 · subst c15
                   have H1 : (some 0) = some r := by rw [if_pos rfl] at H; exact H
                   clear H
                   have H := H1
                   clear H1
                   obtain rfl := Option.some.inj H
                   go_wp2_with (first | (go_at_call 96; (with_reducible refine (rf6Atom.calls a0 true _ A14.out).mono ?_); rintro e w' ⟨rfl, ⟨nd, rfl⟩⟩))
                   go_ret
                   exact ⟨by first | rfl | (simp; done) | (simp [*]; done), by repeat (first | exact Drawn0.refl _ | apply Drawn0.step)⟩
                 · replace c15 := Bool.eq_false_iff.mpr c15
                   subst c15
                   have H1 : (some (-1)) = some r := by rw [if_neg (show ¬ (false = true) by decide)] at H; exact H
                   clear H
                   have H := H1
                   clear H1
                   obtain rfl := Option.some.inj H
                   go_wp2_with (first | (go_at_call 96; (with_reducible refine (rf6Atom.calls a0 false _ A14.out).mono ?_); rintro e w' ⟨rfl, ⟨nd, rfl⟩⟩))
                   go_ret
                   exact ⟨by first | rfl | (simp; done) | (simp [*]; done), by repeat (first | exact Drawn0.refl _ | apply Drawn0.step)⟩
def rf6sign.f (a0 : ByteArray) : Option (Bool) := if a0.toList = ([61] : List UInt8) then (some true) else (if a0.toList = ([33, 61] : List UInt8) then (some true) else (if a0.toList = ([60] : List UInt8) then (some true) else (if a0.toList = ([60, 61] : List UInt8) then (some true) else (if a0.toList = ([62] : List UInt8) then (some true) else (some (a0.toList == ([62, 61] : List UInt8)))))))
set_option maxHeartbeats 8000000 in
set_option maxRecDepth 100000 in
theorem rf6sign.calls (a0 : ByteArray) (r : Bool) (w : World) (h : rf6sign.f a0 = some r) :
   Calls Tryd.prog 113 #[.string a0] w fun e w' => e = .returned (.bool r) ∧ Drawn0 w w' := by
 have H : (if a0.toList = ([61] : List UInt8) then (some true) else (if a0.toList = ([33, 61] : List UInt8) then (some true) else (if a0.toList = ([60] : List UInt8) then (some true) else (if a0.toList = ([60, 61] : List UInt8) then (some true) else (if a0.toList = ([62] : List UInt8) then (some true) else (some (a0.toList == ([62, 61] : List UInt8)))))))) = some r := h
 clear h
 by_cases c2 : a0.toList = ([61] : List UInt8)
 · rw [if_pos c2] at H
   have c2b0 : (a0.toList == ([61] : List UInt8)) = true := beq_iff_eq.mpr c2
   have c2b1 : (a0.toList != ([61] : List UInt8)) = false := bne_eq_false_iff_eq.mpr c2
   clear c2
   obtain rfl := Option.some.inj H
   go_enter Tryd.func113, Tryd.ntmps113
   go_wp2
   go_ret
   exact ⟨by first | rfl | (simp; done) | (simp [*]; done), by repeat (first | exact Drawn0.refl _ | apply Drawn0.step)⟩
 · rw [if_neg c2] at H
   have c2b0 : (a0.toList == ([61] : List UInt8)) = false := beq_eq_false_iff_ne.mpr c2
   have c2b1 : (a0.toList != ([61] : List UInt8)) = true := bne_iff_ne.mpr c2
   by_cases c3 : a0.toList = ([33, 61] : List UInt8)
   · rw [if_pos c3] at H
     have c3b0 : (a0.toList == ([33, 61] : List UInt8)) = true := beq_iff_eq.mpr c3
     have c3b1 : (a0.toList != ([33, 61] : List UInt8)) = false := bne_eq_false_iff_eq.mpr c3
     clear c3
     obtain rfl := Option.some.inj H
     go_enter Tryd.func113, Tryd.ntmps113
     go_wp2
     go_ret
     exact ⟨by first | rfl | (simp; done) | (simp [*]; done), by repeat (first | exact Drawn0.refl _ | apply Drawn0.step)⟩
   · rw [if_neg c3] at H
     have c3b0 : (a0.toList == ([33, 61] : List UInt8)) = false := beq_eq_false_iff_ne.mpr c3
     have c3b1 : (a0.toList != ([33, 61] : List UInt8)) = true := bne_iff_ne.mpr c3
     by_cases c4 : a0.toList = ([60] : List UInt8)
     · rw [if_pos c4] at H
       have c4b0 : (a0.toList == ([60] : List UInt8)) = true := beq_iff_eq.mpr c4
       have c4b1 : (a0.toList != ([60] : List UInt8)) = false := bne_eq_false_iff_eq.mpr c4
       clear c4
       obtain rfl := Option.some.inj H
       go_enter Tryd.func113, Tryd.ntmps113
       go_wp2
       go_ret
       exact ⟨by first | rfl | (simp; done) | (simp [*]; done), by repeat (first | exact Drawn0.refl _ | apply Drawn0.step)⟩
     · rw [if_neg c4] at H
       have c4b0 : (a0.toList == ([60] : List UInt8)) = false := beq_eq_false_iff_ne.mpr c4
       have c4b1 : (a0.toList != ([60] : List UInt8)) = true := bne_iff_ne.mpr c4
       by_cases c5 : a0.toList = ([60, 61] : List UInt8)
       · rw [if_pos c5] at H
         have c5b0 : (a0.toList == ([60, 61] : List UInt8)) = true := beq_iff_eq.mpr c5
         have c5b1 : (a0.toList != ([60, 61] : List UInt8)) = false := bne_eq_false_iff_eq.mpr c5
         clear c5
         obtain rfl := Option.some.inj H
         go_enter Tryd.func113, Tryd.ntmps113
         go_wp2
         go_ret
         exact ⟨by first | rfl | (simp; done) | (simp [*]; done), by repeat (first | exact Drawn0.refl _ | apply Drawn0.step)⟩
       · rw [if_neg c5] at H
         have c5b0 : (a0.toList == ([60, 61] : List UInt8)) = false := beq_eq_false_iff_ne.mpr c5
         have c5b1 : (a0.toList != ([60, 61] : List UInt8)) = true := bne_iff_ne.mpr c5
         by_cases c6 : a0.toList = ([62] : List UInt8)
         · rw [if_pos c6] at H
           have c6b0 : (a0.toList == ([62] : List UInt8)) = true := beq_iff_eq.mpr c6
           have c6b1 : (a0.toList != ([62] : List UInt8)) = false := bne_eq_false_iff_eq.mpr c6
           clear c6
           obtain rfl := Option.some.inj H
           go_enter Tryd.func113, Tryd.ntmps113
           go_wp2
           go_ret
           exact ⟨by first | rfl | (simp; done) | (simp [*]; done), by repeat (first | exact Drawn0.refl _ | apply Drawn0.step)⟩
         · rw [if_neg c6] at H
           have c6b0 : (a0.toList == ([62] : List UInt8)) = false := beq_eq_false_iff_ne.mpr c6
           have c6b1 : (a0.toList != ([62] : List UInt8)) = true := bne_iff_ne.mpr c6
           obtain rfl := Option.some.inj H
           go_enter Tryd.func113, Tryd.ntmps113
           go_wp2
           go_ret
           exact ⟨by first | rfl | (simp; done) | (simp [*]; done), by repeat (first | exact Drawn0.refl _ | apply Drawn0.step)⟩
end Go.Proofs.YtmlcaecknocpoaaDoor.Pr
