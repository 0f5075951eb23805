/- Lemmas and walks for the claim below. -/
import Derived.Test.YtmlcaecknocpoaaDoorQuK4
import Derived.ArgAppend
namespace Go.Proofs.YtmlcaecknocpoaaDoor.It
set_option linter.unusedVariables false
open Go Go.RowKit Go.Shelf Go.Proofs.YtmlcaecknocpoaaDoorW.PrintWords Go.Proofs.YtmlcaecknocpoaaDoorW.PrintLast
section
variable {P : Program} {ops : Array Oper} {rest : List Oper} {o : Oper} {a : Act} {Q : Exit → Act → World → Prop} {α : Type} {R : α → List Value → Prop}
def Spared (e : TypeId) (W w1 : World) : Prop := W.heap.size ≤ w1.heap.size ∧ ∀ (g : Nat) (cells : Array Value) (t : TypeId), W.heap[g]? = some (Obj.cells cells t (0, 0)) → e ≠ t → w1.heap[g]? = some (Obj.cells cells t (0, 0))
theorem any_append {w0 W : World} (base : Nat) (hgd : o.guard = none) (s x : Operand) (t e : TypeId) (z : Value) (size bytes : Nat)
    (ho : o.op = .call { callee := .builtin .append, args := #[s, x], argTypes := #[t, t] })
    (ht : P.underlying t = some (.slice e)) (hinfo : (P.info? e).map (fun i => (i.zero, i.size, i.bytes)) = some (some z, size, bytes)) (hz : z.cells.size = size) (hs0 : 0 < size) (hb0 : 0 < bytes)
    (v : Value) (ps : List α) (p : α) (cs : List Value) (hs : a.eval s = v) (hx : a.eval x = .slice (some ⟨W.heap.size, 0, none⟩) 1 1) (hp : R p cs) (hcs : cs.length = size) (h1 : ∀ u ∈ cs, u.oneCell' = true)
    (HO : OwnRow R e size W base v ps ∨ ∃ A, v = .slice A ps.length ps.length ∧ ReadsRow R size W A ps.length ps) (HB : Below base w0 W) (hbase : base ≤ W.heap.size) (hl : (ps.length + 1) * bytes ≤ 140737488355328)
    (h : ∀ v1 w1, OwnRow R e size w1 base v1 (ps ++ [p]) → Below base w0 w1 → Spared e W w1 → wpList P ops Q rest (a.put o.dst v1) w1) :
    wpList P ops Q (o :: rest) a (W.alloc (.cells cs.toArray e)) := by
  rcases HO with HO | ⟨A, rfl, HR⟩
  · refine OwnRow.append base hgd s x t e z size bytes ho ht hinfo hz hs0 hb0 v ps p cs hs hx hp hcs h1 HO HB hbase hl fun v1 w1 h1 h2 h3 _ => h v1 w1 h1 h2 ⟨h3.size, fun g cells t hg hne => ?_⟩
    rw [h3.block g (Array.getElem?_eq_some_iff.1 hg).1 (HO.ne_block hg hne), hg]
  · obtain ⟨i0, hi, hzz⟩ := Option.map_eq_some_iff.1 hinfo
    simp only [Prod.mk.injEq] at hzz
    obtain ⟨hz0, hz1, hz2⟩ := hzz
    have hlen : ps.length + 1 ≤ 140737488355328 := Nat.le_trans (Nat.le_mul_of_pos_right _ hb0) hl
    have hA : Below W.heap.size W (W.alloc (.cells cs.toArray e)) := (Below.refl _ _).alloc (Nat.le_refl _) _
    obtain ⟨olds, hro, hco⟩ : ∃ olds, Reps R size ps olds ∧ ∀ b, A = some b → ∀ j u, olds[j]? = some u → W.cell? (b.add j) = some u := by
      rcases A with _ | ad
      · have h0 : ps.length = 0 := by
          rcases Nat.eq_zero_or_pos ps.length with h0 | h0
          · exact h0
          · obtain ⟨ad, h, _⟩ := HR.2.2 h0
            cases h
        obtain rfl : ps = [] := List.eq_nil_of_length_eq_zero h0
        exact ⟨[], Reps.none _ _, fun b hb => by cases hb⟩
      · obtain ⟨olds, hr, hc⟩ := ReadsRow.inner_ HR
        exact ⟨olds, hr, fun b hb j u hj => by cases hb; exact hc j u hj⟩
    refine wpList_append_grows (W.alloc (.cells cs.toArray e)) hgd s x t ho e i0 z size bytes ht hi hz0 hz1 hz2 hz hs0 A ps.length ps.length olds hs (fun hn => ?_) hro.1 (fun b hb j u hj => up_cell hA (hco b hb j u hj)) ⟨W.heap.size, 0, none⟩ 1 1 cs hx (by rw [hcs]; simp)
      (by simpa using World.news_of_block (cs := cs.toArray) (t := e) (fr := (0, 0)) (heap_alloc_new W (.cells cs.toArray e))) h1 (by omega) (by simp only [maxLen]; omega) hl fun v1 w1 hown hg => ?_
    · subst hn
      rcases Nat.eq_zero_or_pos ps.length with h0 | h0
      · exact ⟨h0, h0⟩
      · obtain ⟨ad, h, _⟩ := HR.2.2 h0
        cases h
    · refine h v1 w1 ⟨olds ++ cs, ?_, hro.snoc hp hcs⟩ ((HB.alloc hbase _).grown hg (by simp; omega) (fun k hk => by cases hk)) ⟨?_, fun g cells t hgc hne => ?_⟩
      · rw [List.length_append, List.length_singleton]
        exact own_weaken hown (by simp; omega)
      · have := hg.size; simp at this; omega
      · have hlt := (Array.getElem?_eq_some_iff.1 hgc).1
        rw [hg.block g (by simp; omega) (by simp), hA.block g hlt, hgc]
end
theorem own_C {α : Type} {d : Kd α} {w0 w : World} {e base : Nat} {v : Value} {xs : List α} (h : OwnRow (d.K w0) e d.sz w base v xs) (hb : Below w0.heap.size w0 w) : ∃ A c, v = .slice A xs.length c ∧ xs.length ≤ c ∧ d.C w A xs.length xs := by
  obtain ⟨A, c, hv, hc, hr⟩ := h.reads
  exact ⟨A, c, hv, hc, hr.imp_ (Below.refl _ _) (fun p cs hp => d.K_below hb hp)⟩
end Go.Proofs.YtmlcaecknocpoaaDoor.It
namespace Go.Proofs.YtmlcaecknocpoaaDoor.It
set_option linter.unusedVariables false
set_option linter.unusedSimpArgs false
open Go Go.RowKit Go.Shelf Go.Proofs.YtmlcaecknocpoaaDoorW.PrintWords Go.Proofs.YtmlcaecknocpoaaDoorW.PrintLast Go.Proofs.YtmlcaecknocpoaaDoor.Pr Go.Proofs.YtmlcaecknocpoaaDoor.Sp
attribute [local go_sem ↓] Go.wp_at_zero Go.wp_at_succ
theorem ne98 (w : World) (n c : Nat) (ad : Addr) : (binOp BinOp.neq 98 (.slice (some ad) n c) (.slice none 0 0)).run Tryd.prog w = .ok (.bool true) w := by kernel_rfl
theorem ne98' (w : World) (n c : Nat) : (binOp BinOp.neq 98 (.slice none n c) (.slice none 0 0)).run Tryd.prog w = .ok (.bool false) w := by kernel_rfl
theorem info3 : (Tryd.prog.info? 3).map (fun i => (i.zero, i.size, i.bytes)) = some (some (.int .i64 0), 1, 8) := by kernel_rfl
theorem und98 : Tryd.prog.underlying 98 = some (.slice 3) := by kernel_rfl
def IntC (x : Int) (cs : List Value) : Prop := cs = [.int .i64 x]
theorem ints2 {w : World} {v : Value} {base : Nat} {a b : Int} (h : OwnRow IntC 3 1 w base v [a, b]) : ∃ ad c, v = .slice (some ad) 2 c ∧ w.cell? ad = some (.int .i64 a) ∧ w.cell? ⟨ad.block, ad.off + 1, none⟩ = some (.int .i64 b) := by
  obtain ⟨A, c, rfl, hc, hr⟩ := h.reads
  obtain ⟨ad, rfl, hk⟩ := hr.2.2 (by simp)
  obtain ⟨c0, _, h0, k0⟩ := hk 0 a rfl
  obtain ⟨c1, _, h1, k1⟩ := hk 1 b rfl
  refine ⟨ad, c, rfl, ?_, ?_⟩
  · have := k0 0 (.int .i64 a) (by rw [h0]; rfl)
    simpa [Addr.add] using this
  · have := k1 0 (.int .i64 b) (by rw [h1]; rfl)
    simpa [Addr.add] using this
attribute [local go_sem] ne98 ne98'
set_option maxRecDepth 100000 in
set_option maxHeartbeats 8000000 in
theorem sortsA_calls (env : List S42) (A : Option Addr) (c : Nat) (t u : S47) (B : Option Addr) (d : Nat) (w : World) (hr : Kd.C k42 w A env.length env) (hts : Kd.C k47 w B 2 [t, u]) (hk : Kinds w) (h1 : TK t) (h2 : TK u) :
    Calls Tryd.prog 102 #[.slice B 2 d, .func (.func 67) #[.slice A env.length c] #[], .slice none 0 0] w fun e w' => Below w.heap.size w w' ∧
      (((sortT env t).2 ≠ 0 ∧ e = .returned (.tuple #[.slice none 0 0, .int .i64 (sortT env t).2])) ∨
       ((sortT env t).2 = 0 ∧ (sortT env u).2 ≠ 0 ∧ e = .returned (.tuple #[.slice none 0 0, .int .i64 (sortT env u).2])) ∨
       ((sortT env t).2 = 0 ∧ (sortT env u).2 = 0 ∧ ∃ ad c', e = .returned (.tuple #[.slice (some ad) 2 c', .int .i64 0]) ∧ w'.cell? ad = some (.int .i64 (sortT env t).1) ∧ w'.cell? ⟨ad.block, ad.off + 1, none⟩ = some (.int .i64 (sortT env u).1))) := by
  have hu47 := Tryd.underlying47
  have eg := enters67
  have C67 := Aside0.mk (fun (W : World) (hW : Below w.heap.size w W) => sort_calls env A c t W (Kd.C_below hr hW) (hk.below hW) h1)
  have D67 := Aside0.mk (fun (W : World) (hW : Below w.heap.size w W) => sort_calls env A c u W (Kd.C_below hr hW) (hk.below hW) h2)
  have HT := Aside0.mk hts
  obtain ⟨⟨st, et⟩, ert⟩ : ∃ r, sortT env t = r := ⟨_, rfl⟩
  obtain ⟨⟨su, eu⟩, eru⟩ : ∃ r, sortT env u = r := ⟨_, rfl⟩
  rw [ert] at C67 ⊢
  rw [eru] at D67 ⊢
  dsimp only at C67 D67 ⊢
  clear hr hts hk h1 h2 ert eru
  go_enter Tryd.func102, Tryd.ntmps102
  go_wp2_with fail
  go_loopg [6, 7, 8, 10, 11, 14] 2 (fun gg s6 s7 _ _ _ s14 wr => ∃ j : Nat, j ≤ 2 ∧ 2 - j ≤ gg ∧ s14 = .int .i64 j ∧ s7 = .int .i64 0 ∧ Aside0 (Below w.heap.size w wr ∧ (1 ≤ j → et = 0) ∧ (2 ≤ j → eu = 0) ∧ OwnRow IntC 3 1 wr w.heap.size s6 ([st, su].take j)))
  case atStart => exact ⟨0, Nat.zero_le _, by omega, rfl, rfl, ⟨Below.refl _ _, fun h => by omega, fun h => by omega, OwnRow.none_ _ _ _ _ _⟩⟩
  case round =>
    obtain ⟨j, hj, hg, rfl, rfl, HJ⟩ := hrel
    by_cases hlt : j < 2
    · have hltz : (j : Int) < 2 := by omega
      by_cases h0 : j = 0
      · subst h0
        obtain ⟨ad, rfl, y0, y1, y2⟩ := termAt (ts := [t, u]) HT.out HJ.out.1 0 (by simp)
        simp [rd_T47, Addr.add] at y0 y1 y2
        have hcall := Aside0.mk (C67.out _ (HJ.out.1.trans ((up1 wr (.cells #[.int .i64 t.f0, .string t.f1, .int .i64 t.f2] 47)).mono HJ.out.1.size)))
        have GB := Aside0.mk (HJ.out.1.trans ((up1 wr (.cells #[.int .i64 t.f0, .string t.f1, .int .i64 t.f2] 47)).mono HJ.out.1.size))
        by_cases he : et = 0
        · subst he
          go_wp2_with (first
            | (go_at_fn 67; (with_reducible refine hcall.out.mono ?_); clear hcall; rintro e w1 ⟨rfl, g⟩; replace GB := Aside0.mk (GB.out.trans (g.mono GB.out.size)); have HO := Aside0.mk (HJ.out.2.2.2.below ((up1 wr _).trans (g.mono (up1 wr _).size))); clear g)
            | ((with_reducible refine gate_builtin (b := .append) (xs := #[.tmp 42, .tmp 44]) rfl ?_); at_builtin; refine OwnRow.append (R := IntC) (w0 := w) w.heap.size rfl (.tmp 42) (.tmp 44) 98 3 (.int .i64 0) 1 8 rfl und98 info3 rfl (by decide) (by decide) _ ([st, su].take 0) st [.int .i64 st] rfl rfl rfl rfl ?a1 ?aO ?aB ?aS ?aL ?_; (case a1 => simp [Value.oneCell']); (case aO => exact HO.out); (case aB => exact GB.out); (case aS => exact GB.out.size); (case aL => simp); intro v2 w2 ho2 hb2 hg2 hat2; replace ho2 := Aside0.mk ho2; replace hb2 := Aside0.mk hb2; clear hg2 hat2))
          go_roundg (1)
          case measure => omega
          case rel => exact ⟨1, by omega, by omega, rfl, rfl, ⟨hb2.out, fun _ => by trivial, fun h => by omega, ho2.out⟩⟩
        · have b1 : (et == 0) = false := by simpa using he
          have b2 : (et != 0) = true := by simpa using he
          have HNE := Aside0.mk he
          clear he
          go_wp2_with (go_at_fn 67; (with_reducible refine hcall.out.mono ?_); clear hcall; rintro e w1 ⟨rfl, g⟩; replace GB := Aside0.mk (GB.out.trans (g.mono GB.out.size)); clear g)
          go_ret2
          exact ⟨GB.out, .inl ⟨HNE.out, rfl⟩⟩
      · obtain rfl : j = 1 := by omega
        obtain ⟨ad, rfl, y0, y1, y2⟩ := termAt (ts := [t, u]) HT.out HJ.out.1 1 (by simp)
        simp [rd_T47, Addr.add] at y0 y1 y2
        have hcall := Aside0.mk (D67.out _ (HJ.out.1.trans ((up1 wr (.cells #[.int .i64 u.f0, .string u.f1, .int .i64 u.f2] 47)).mono HJ.out.1.size)))
        have GB := Aside0.mk (HJ.out.1.trans ((up1 wr (.cells #[.int .i64 u.f0, .string u.f1, .int .i64 u.f2] 47)).mono HJ.out.1.size))
        have HE0 := Aside0.mk (HJ.out.2.1 (by omega))
        by_cases he : eu = 0
        · subst he
          go_wp2_with (first
            | (go_at_fn 67; (with_reducible refine hcall.out.mono ?_); clear hcall; rintro e w1 ⟨rfl, g⟩; replace GB := Aside0.mk (GB.out.trans (g.mono GB.out.size)); have HO := Aside0.mk (HJ.out.2.2.2.below ((up1 wr _).trans (g.mono (up1 wr _).size))); clear g)
            | ((with_reducible refine gate_builtin (b := .append) (xs := #[.tmp 42, .tmp 44]) rfl ?_); at_builtin; refine OwnRow.append (R := IntC) (w0 := w) w.heap.size rfl (.tmp 42) (.tmp 44) 98 3 (.int .i64 0) 1 8 rfl und98 info3 rfl (by decide) (by decide) _ ([st, su].take 1) su [.int .i64 su] rfl rfl rfl rfl ?a1 ?aO ?aB ?aS ?aL ?_; (case a1 => simp [Value.oneCell']); (case aO => exact HO.out); (case aB => exact GB.out); (case aS => exact GB.out.size); (case aL => simp); intro v2 w2 ho2 hb2 hg2 hat2; replace ho2 := Aside0.mk ho2; replace hb2 := Aside0.mk hb2; clear hg2 hat2))
          go_roundg (0)
          case measure => omega
          case rel => exact ⟨2, by omega, by omega, rfl, rfl, ⟨hb2.out, fun _ => HE0.out, fun _ => by trivial, ho2.out⟩⟩
        · have b1 : (eu == 0) = false := by simpa using he
          have b2 : (eu != 0) = true := by simpa using he
          have HNE := Aside0.mk he
          clear he
          go_wp2_with (go_at_fn 67; (with_reducible refine hcall.out.mono ?_); clear hcall; rintro e w1 ⟨rfl, g⟩; replace GB := Aside0.mk (GB.out.trans (g.mono GB.out.size)); clear g)
          go_ret2
          exact ⟨GB.out, .inr (.inl ⟨HE0.out, HNE.out, rfl⟩)⟩
    · have hltz : ¬ (j : Int) < 2 := by omega
      obtain rfl : j = 2 := by omega
      have HR := Aside0.mk (ints2 (a := st) (b := su) HJ.out.2.2.2)
      obtain ⟨ad, c', rfl, z0, z1⟩ := HR.out
      go_wp2_with fail
      go_ret2
      exact ⟨HJ.out.1, .inr (.inr ⟨HJ.out.2.1 (by omega), HJ.out.2.2.1 (by omega), ad, ⟨c', rfl⟩, z0, z1⟩)⟩
set_option maxRecDepth 100000 in
set_option maxHeartbeats 8000000 in
theorem sortsB_calls (env : List S42) (A : Option Addr) (c : Nat) (t u : S47) (B : Option Addr) (d : Nat) (w : World) (hr : Kd.C k42 w A env.length env) (hts : Kd.C k47 w B 2 [t, u]) (wd : Addr) (wc : Nat) (wa wb : Int) (hw0 : w.cell? wd = some (.int .i64 wa)) (hw1 : w.cell? ⟨wd.block, wd.off + 1, none⟩ = some (.int .i64 wb)) (hk : Kinds w) (h1 : TK t) (h2 : TK u) :
    Calls Tryd.prog 102 #[.slice B 2 d, .func (.func 67) #[.slice A env.length c] #[], .slice (some wd) 2 wc] w fun e w' => Below w.heap.size w w' ∧ ∃ v, e = .returned (.tuple #[v, .int .i64 (if ofT env t wa = 0 then ofT env u wb else ofT env t wa)]) := by
  have hu47 := Tryd.underlying47
  have eg := enters67
  have C67 := Aside0.mk (fun (W : World) (hW : Below w.heap.size w W) => sort_calls env A c t W (Kd.C_below hr hW) (hk.below hW) h1)
  have D67 := Aside0.mk (fun (W : World) (hW : Below w.heap.size w W) => sort_calls env A c u W (Kd.C_below hr hW) (hk.below hW) h2)
  have HT := Aside0.mk hts
  have HW := Aside0.mk (And.intro hw0 hw1)
  unfold ofT
  obtain ⟨⟨st, et⟩, ert⟩ : ∃ r, sortT env t = r := ⟨_, rfl⟩
  obtain ⟨⟨su, eu⟩, eru⟩ : ∃ r, sortT env u = r := ⟨_, rfl⟩
  rw [ert] at C67 ⊢
  rw [eru] at D67 ⊢
  dsimp only at C67 D67 ⊢
  clear hr hts hk h1 h2 ert eru hw0 hw1
  obtain ⟨ot, hot⟩ : ∃ v, (if et = 0 then (if st = wa then 0 else 80) else et) = v := ⟨_, rfl⟩
  obtain ⟨ou, hou⟩ : ∃ v, (if eu = 0 then (if su = wb then 0 else 80) else eu) = v := ⟨_, rfl⟩
  rw [hot, hou]
  obtain ⟨r, hr0⟩ : ∃ v, (if ot = 0 then ou else ot) = v := ⟨_, rfl⟩
  rw [hr0]
  have HR0 := Aside0.mk hr0
  have HOT := Aside0.mk hot
  have HOU := Aside0.mk hou
  clear hot hou hr0
  go_enter Tryd.func102, Tryd.ntmps102
  go_wp2_with fail
  go_loopg [6, 7, 8, 10, 11, 14] 2 (fun gg s6 s7 _ _ _ s14 wr => ∃ j : Nat, j ≤ 2 ∧ 2 - j ≤ gg ∧ s14 = .int .i64 j ∧ s7 = .int .i64 0 ∧ Aside0 (Below w.heap.size w wr ∧ (1 ≤ j → ot = 0) ∧ (2 ≤ j → ou = 0) ∧ OwnRow IntC 3 1 wr w.heap.size s6 ([st, su].take j)))
  case atStart => exact ⟨0, Nat.zero_le _, by omega, rfl, rfl, ⟨Below.refl _ _, fun h => by omega, fun h => by omega, OwnRow.none_ _ _ _ _ _⟩⟩
  case round =>
    obtain ⟨j, hj, hg, rfl, rfl, HJ⟩ := hrel
    by_cases hlt : j < 2
    · have hltz : (j : Int) < 2 := by omega
      by_cases h0 : j = 0
      · subst h0
        obtain ⟨ad, rfl, y0, y1, y2⟩ := termAt (ts := [t, u]) HT.out HJ.out.1 0 (by simp)
        simp [rd_T47, Addr.add] at y0 y1 y2
        have hcall := Aside0.mk (C67.out _ (HJ.out.1.trans ((up1 wr (.cells #[.int .i64 t.f0, .string t.f1, .int .i64 t.f2] 47)).mono HJ.out.1.size)))
        have GB := Aside0.mk (HJ.out.1.trans ((up1 wr (.cells #[.int .i64 t.f0, .string t.f1, .int .i64 t.f2] 47)).mono HJ.out.1.size))
        by_cases he : et = 0
        · subst he
          by_cases hs : st = wa
          · have b3 : (wa != st) = false := by simp [hs]
            have HZ := Aside0.mk (show ot = 0 by rw [← HOT.out, if_pos rfl, if_pos hs])
            clear hs
            go_wp2_with (first
              | (go_at_fn 67; (with_reducible refine hcall.out.mono ?_); clear hcall; rintro e w1 ⟨rfl, g⟩; replace GB := Aside0.mk (GB.out.trans (g.mono GB.out.size)); have x0 := up_cell GB.out HW.out.1; have HO := Aside0.mk (HJ.out.2.2.2.below ((up1 wr _).trans (g.mono (up1 wr _).size))); clear g)
              | ((with_reducible refine gate_builtin (b := .append) (xs := #[.tmp 42, .tmp 44]) rfl ?_); at_builtin; refine OwnRow.append (R := IntC) (w0 := w) w.heap.size rfl (.tmp 42) (.tmp 44) 98 3 (.int .i64 0) 1 8 rfl und98 info3 rfl (by decide) (by decide) _ ([st, su].take 0) st [.int .i64 st] rfl rfl rfl rfl ?a1 ?aO ?aB ?aS ?aL ?_; (case a1 => simp [Value.oneCell']); (case aO => exact HO.out); (case aB => exact GB.out); (case aS => exact GB.out.size); (case aL => simp); intro v2 w2 ho2 hb2 hg2 hat2; replace ho2 := Aside0.mk ho2; replace hb2 := Aside0.mk hb2; clear hg2 hat2))
            go_roundg (1)
            case measure => omega
            case rel => exact ⟨1, by omega, by omega, rfl, rfl, ⟨hb2.out, fun _ => HZ.out, fun h => by omega, ho2.out⟩⟩
          · have b3 : (wa != st) = true := by simp; exact fun e => hs e.symm
            have HZ := Aside0.mk (show ot = 80 by rw [← HOT.out, if_pos rfl, if_neg hs])
            clear hs
            go_wp2_with (first
              | (go_at_fn 67; (with_reducible refine hcall.out.mono ?_); clear hcall; rintro e w1 ⟨rfl, g⟩; replace GB := Aside0.mk (GB.out.trans (g.mono GB.out.size)); have x0 := up_cell GB.out HW.out.1; have HO := Aside0.mk (HJ.out.2.2.2.below ((up1 wr _).trans (g.mono (up1 wr _).size))); clear g))
            go_ret2
            exact ⟨GB.out, _, by rw [← HR0.out, HZ.out]; rfl⟩
        · have b1 : (et == 0) = false := by simpa using he
          have b2 : (et != 0) = true := by simpa using he
          have HNE := Aside0.mk he
          have HZ := Aside0.mk (show ot = et by rw [← HOT.out, if_neg he])
          clear he
          go_wp2_with (first
            | (go_at_fn 67; (with_reducible refine hcall.out.mono ?_); clear hcall; rintro e w1 ⟨rfl, g⟩; replace GB := Aside0.mk (GB.out.trans (g.mono GB.out.size)); have x0 := up_cell GB.out HW.out.1; have HO := Aside0.mk (HJ.out.2.2.2.below ((up1 wr _).trans (g.mono (up1 wr _).size))); clear g))
          go_ret2
          exact ⟨GB.out, _, by rw [← HR0.out, HZ.out, if_neg HNE.out]; rfl⟩
      · obtain rfl : j = 1 := by omega
        obtain ⟨ad, rfl, y0, y1, y2⟩ := termAt (ts := [t, u]) HT.out HJ.out.1 1 (by simp)
        simp [rd_T47, Addr.add] at y0 y1 y2
        have hcall := Aside0.mk (D67.out _ (HJ.out.1.trans ((up1 wr (.cells #[.int .i64 u.f0, .string u.f1, .int .i64 u.f2] 47)).mono HJ.out.1.size)))
        have GB := Aside0.mk (HJ.out.1.trans ((up1 wr (.cells #[.int .i64 u.f0, .string u.f1, .int .i64 u.f2] 47)).mono HJ.out.1.size))
        have HE0 := Aside0.mk (HJ.out.2.1 (by omega))
        by_cases he : eu = 0
        · subst he
          by_cases hs : su = wb
          · have b3 : (wb != su) = false := by simp [hs]
            have HZ := Aside0.mk (show ou = 0 by rw [← HOU.out, if_pos rfl, if_pos hs])
            clear hs
            go_wp2_with (first
              | (go_at_fn 67; (with_reducible refine hcall.out.mono ?_); clear hcall; rintro e w1 ⟨rfl, g⟩; replace GB := Aside0.mk (GB.out.trans (g.mono GB.out.size)); have x0 := up_cell GB.out HW.out.2; have HO := Aside0.mk (HJ.out.2.2.2.below ((up1 wr _).trans (g.mono (up1 wr _).size))); clear g)
              | ((with_reducible refine gate_builtin (b := .append) (xs := #[.tmp 42, .tmp 44]) rfl ?_); at_builtin; refine OwnRow.append (R := IntC) (w0 := w) w.heap.size rfl (.tmp 42) (.tmp 44) 98 3 (.int .i64 0) 1 8 rfl und98 info3 rfl (by decide) (by decide) _ ([st, su].take 1) su [.int .i64 su] rfl rfl rfl rfl ?a1 ?aO ?aB ?aS ?aL ?_; (case a1 => simp [Value.oneCell']); (case aO => exact HO.out); (case aB => exact GB.out); (case aS => exact GB.out.size); (case aL => simp); intro v2 w2 ho2 hb2 hg2 hat2; replace ho2 := Aside0.mk ho2; replace hb2 := Aside0.mk hb2; clear hg2 hat2))
            go_roundg (0)
            case measure => omega
            case rel => exact ⟨2, by omega, by omega, rfl, rfl, ⟨hb2.out, fun _ => HE0.out, fun _ => HZ.out, ho2.out⟩⟩
          · have b3 : (wb != su) = true := by simp; exact fun e => hs e.symm
            have HZ := Aside0.mk (show ou = 80 by rw [← HOU.out, if_pos rfl, if_neg hs])
            clear hs
            go_wp2_with (first
              | (go_at_fn 67; (with_reducible refine hcall.out.mono ?_); clear hcall; rintro e w1 ⟨rfl, g⟩; replace GB := Aside0.mk (GB.out.trans (g.mono GB.out.size)); have x0 := up_cell GB.out HW.out.2; have HO := Aside0.mk (HJ.out.2.2.2.below ((up1 wr _).trans (g.mono (up1 wr _).size))); clear g))
            go_ret2
            exact ⟨GB.out, _, by rw [← HR0.out, HE0.out, HZ.out]; rfl⟩
        · have b1 : (eu == 0) = false := by simpa using he
          have b2 : (eu != 0) = true := by simpa using he
          have HNE := Aside0.mk he
          have HZ := Aside0.mk (show ou = eu by rw [← HOU.out, if_neg he])
          clear he
          go_wp2_with (first
            | (go_at_fn 67; (with_reducible refine hcall.out.mono ?_); clear hcall; rintro e w1 ⟨rfl, g⟩; replace GB := Aside0.mk (GB.out.trans (g.mono GB.out.size)); have x0 := up_cell GB.out HW.out.2; have HO := Aside0.mk (HJ.out.2.2.2.below ((up1 wr _).trans (g.mono (up1 wr _).size))); clear g))
          go_ret2
          exact ⟨GB.out, _, by rw [← HR0.out, HE0.out, HZ.out]; rfl⟩
    · have hltz : ¬ (j : Int) < 2 := by omega
      obtain rfl : j = 2 := by omega
      have HZ := Aside0.mk (And.intro (HJ.out.2.1 (by omega)) (HJ.out.2.2.1 (by omega)))
      have HR := Aside0.mk (ints2 (a := st) (b := su) HJ.out.2.2.2)
      obtain ⟨ad, c', rfl, z0, z1⟩ := HR.out
      go_wp2_with fail
      go_ret2
      exact ⟨HJ.out.1, _, by rw [← HR0.out, HZ.out.1, HZ.out.2]; rfl⟩
end Go.Proofs.YtmlcaecknocpoaaDoor.It
namespace Go.Proofs.YtmlcaecknocpoaaDoor.Pr
open Go.RowKit Go.Proofs.YtmlcaecknocpoaaDoorW.PrintWords Go.Proofs.YtmlcaecknocpoaaDoorW.PrintLast Go.Proofs.YtmlcaecknocpoaaDoorW.PrintMore
attribute [local go_sem] max2_int min2_int max_two min_two max_three min_three max_four min_four   
set_option linter.unusedVariables false
set_option linter.unusedSimpArgs false
def slices_Index_int_int.l0 : Nat → List Int → Int → Int → Int → Option (Int)
  | 0, _, _, _, _ => none
  | k + 1, x0, x1, x7, x8 => if x8 < x7 then (if 0 ≤ x8 then (if x8 < (x0.length : Int) then (if x1 = (rd x0 x8) then (some x8) else (slices_Index_int_int.l0 k x0 x1 x7 (wrap64 (x8 + 1)))) else (none)) else (none)) else (some (-1))
def slices_Index_int_int.f (k : Nat) (l0 : List Int) (a1 : Int) : Option (Int) := slices_Index_int_int.l0 k l0 a1 (l0.length : Int) 0
set_option maxHeartbeats 8000000 in
set_option maxRecDepth 100000 in
theorem slices_Index_int_int.calls (k : Nat) (A0 : Option Addr) (c0 : Nat) (l0 : List Int) (a1 : Int) (r : Int) (w : World) (hr0 : Kd.C (Kd.int .i64) w A0 l0.length l0) (hc0 : l0.length ≤ c0) (h : slices_Index_int_int.f k l0 a1 = some r) :
    Calls Tryd.prog 117 #[.slice A0 l0.length c0, .int .i64 a1] w fun e w' => e = .returned (.int .i64 r) ∧ Drawn0 w w' := by
  have HR0 := Aside0.mk hr0
  have HC0 := Aside0.mk hc0
  clear hr0 hc0
  have H : (slices_Index_int_int.l0 k l0 a1 (l0.length : Int) 0) = some r := h
  clear h
  have H' := Aside0.mk H
  clear H
  go_enter Tryd.func117, Tryd.ntmps117
  go_wp2
  go_loopg [8] k (fun kq v8 w' => ∃ (x8_1 : Int), v8 = .int .i64 x8_1 ∧ Aside0 (slices_Index_int_int.l0 kq l0 a1 (l0.length : Int) x8_1 = some r) ∧ Aside0 (kq ≤ k) ∧ Drawn0 w w')
  case atStart => exact ⟨(0), (by first | rfl | (simp; done) | (simp [*]; done)), H', ⟨Nat.le_refl _⟩, by repeat (first | exact Drawn0.refl _ | apply Drawn0.step)⟩
  case round =>
    clear H'
    try clear c1
    try clear p2
    obtain ⟨x8_1, rfl, HA, HK1, ⟨m1, rfl⟩⟩ := hrel
    cases gk with
    | zero => exact absurd HA.out (by simp [slices_Index_int_int.l0])
    | succ k1 =>
      have H := HA.out
      clear HA
      simp only [slices_Index_int_int.l0] at H
      by_cases c3 : x8_1 < (l0.length : Int)
      · rw [if_pos c3] at H
        have c3b0 : decide (x8_1 < (l0.length : Int)) = true := decide_eq_true c3
        clear c3
        by_cases c4 : 0 ≤ x8_1
        · rw [if_pos c4] at H
          have c4b0 : decide (0 ≤ x8_1) = true := decide_eq_true c4
          clear c4
          by_cases c5 : x8_1 < (l0.length : Int)
          · rw [if_pos c5] at H
            have c5b0 : decide (x8_1 < (l0.length : Int)) = true := decide_eq_true c5
            clear c5
            by_cases c6 : a1 = (rd l0 x8_1)
            · rw [if_pos c6] at H
              have c6b0 : (a1 == (rd l0 x8_1)) = true := beq_iff_eq.mpr c6
              have c6b1 : (a1 != (rd l0 x8_1)) = false := bne_eq_false_iff_eq.mpr c6
              clear c6
              obtain rfl := Option.some.inj H
              have p223 : 0 ≤ (x8_1 : Int) := of_decide_eq_true (by first | (with_reducible assumption) | assumption)
              have q223 : x8_1 < (l0.length : Int) := of_decide_eq_true (by first | (with_reducible assumption) | assumption)
              obtain ⟨ad223, e223, hx223_0⟩ := Kd.at_int HR0.out x8_1 p223 q223
              cases e223
              replace p223 := eq_true p223
              replace q223 := eq_true q223
              go_wp2
              go_ret
              exact ⟨by first | rfl | (simp; done) | (simp [*]; done), by repeat (first | exact Drawn0.refl _ | apply Drawn0.step)⟩
            · rw [if_neg c6] at H
              have c6b0 : (a1 == (rd l0 x8_1)) = false := beq_eq_false_iff_ne.mpr c6
              have c6b1 : (a1 != (rd l0 x8_1)) = true := bne_iff_ne.mpr c6
              have H' := Aside0.mk H
              clear H
              have p223 : 0 ≤ (x8_1 : Int) := of_decide_eq_true (by first | (with_reducible assumption) | assumption)
              have q223 : x8_1 < (l0.length : Int) := of_decide_eq_true (by first | (with_reducible assumption) | assumption)
              obtain ⟨ad223, e223, hx223_0⟩ := Kd.at_int HR0.out x8_1 p223 q223
              cases e223
              replace p223 := eq_true p223
              replace q223 := eq_true q223
              go_wp2
              go_roundg k1
              case measure => have := HK1.out; omega
              case rel => exact ⟨(wrap64 (x8_1 + 1)), (by first | rfl | (simp; done) | (simp [*]; done)), H', ⟨by have := HK1.out; omega⟩, by repeat (first | exact Drawn0.refl _ | apply Drawn0.step)⟩
          · rw [if_neg c5] at H
            exact absurd H (by simp)
        · rw [if_neg c4] at H
          exact absurd H (by simp)
      · rw [if_neg c3] at H
        have c3b0 : decide (x8_1 < (l0.length : Int)) = false := decide_eq_false c3
        clear c3
        obtain rfl := Option.some.inj H
        go_wp2
        go_ret
        exact ⟨by first | rfl | (simp; done) | (simp [*]; done), by repeat (first | exact Drawn0.refl _ | apply Drawn0.step)⟩
end Go.Proofs.YtmlcaecknocpoaaDoor.Pr
namespace Go.Proofs.YtmlcaecknocpoaaDoor.Pr
open Go.RowKit Go.Proofs.YtmlcaecknocpoaaDoorW.PrintWords Go.Proofs.YtmlcaecknocpoaaDoorW.PrintLast Go.Proofs.YtmlcaecknocpoaaDoorW.PrintMore
attribute [local go_sem] max2_int min2_int max_two min_two max_three min_three max_four min_four   
set_option linter.unusedVariables false
set_option linter.unusedSimpArgs false
def slices_Contains_int_int.f (k : Nat) (l0 : List Int) (a1 : Int) : Option (Bool) := (slices_Index_int_int.f k l0 a1).bind fun t224 => (some (decide (t224 ≥ 0)))
set_option maxHeartbeats 8000000 in
set_option maxRecDepth 100000 in
theorem slices_Contains_int_int.calls (k : Nat) (A0 : Option Addr) (c0 : Nat) (l0 : List Int) (a1 : Int) (r : Bool) (w : World) (hr0 : Kd.C (Kd.int .i64) w A0 l0.length l0) (hc0 : l0.length ≤ c0) (h : slices_Contains_int_int.f k l0 a1 = some r) :
    Calls Tryd.prog 103 #[.slice A0 l0.length c0, .int .i64 a1] w fun e w' => e = .returned (.bool r) ∧ Drawn0 w w' := by
  have HR0 := Aside0.mk hr0
  have HC0 := Aside0.mk hc0
  clear hr0 hc0
  have H : ((slices_Index_int_int.f k l0 a1).bind fun t224 => (some (decide (t224 ≥ 0)))) = some r := h
  clear h
  replace H := Option.bind_eq_some_iff.mp H
  obtain ⟨t224, A30, H⟩ := H
  replace H : (some (decide (t224 ≥ 0))) = some r := H
  have A3 := Aside0.mk A30
  clear A30
  obtain rfl := Option.some.inj H
  go_enter Tryd.func103, Tryd.ntmps103
  go_wp2_with (first | ((with_reducible refine gate_callee (f := 117) rfl ?_); refine goesL_ (some 7) rfl rfl Tryd.func117 (by kernel_rfl) rfl #[.slice A0 l0.length c0, .int .i64 a1] rfl (by (try simp only [List.map_toArray, List.map_cons, List.map_nil]); first | done | rfl | (simp only [List.length_drop, List.length_take]; rfl)) ?_; (with_reducible refine (slices_Index_int_int.calls k _ _ l0 a1 t224 _ ?side1 ?side2 A3.out).mono ?_); (case side1 => repeat (first | exact HR0.out | (with_reducible refine Kd.C_alloc ?_ _) | (with_reducible refine Kd.C_drewN ?_ _) | (with_reducible refine Kd.C_drew ?_))); (case side2 => exact HC0.out); rintro e w' ⟨rfl, ⟨nd, rfl⟩⟩; refine ⟨_, rfl, ?_⟩))
  go_ret
  exact ⟨by first | rfl | (simp; done) | (simp [*]; done), by repeat (first | exact Drawn0.refl _ | apply Drawn0.step)⟩
end Go.Proofs.YtmlcaecknocpoaaDoor.Pr
namespace Go.Proofs.YtmlcaecknocpoaaDoor.It
set_option linter.unusedVariables false
set_option linter.unusedSimpArgs false
open Go Go.RowKit Go.Shelf Go.Proofs.YtmlcaecknocpoaaDoorW.PrintWords Go.Proofs.YtmlcaecknocpoaaDoorW.PrintLast Go.Proofs.YtmlcaecknocpoaaDoor.Pr Go.Proofs.YtmlcaecknocpoaaDoor.Sp
attribute [local go_sem ↓] Go.wp_at_zero Go.wp_at_succ
theorem und76 : Tryd.prog.underlying 76 = some (.slice 42) := by kernel_rfl
set_option maxRecDepth 100000 in
set_option maxHeartbeats 4000000 in
theorem clip_calls (A : Option Addr) (n c : Nat) (w : World) (hc : n ≤ c) (hA : A = none → n = 0) (hm : n ≤ 9223372036854775807) : Calls Tryd.prog 104 #[.slice A n c] w fun e w' => e = .returned (.slice A n n) ∧ w' = w := by
  have h76 := und76
  have hcz : (n : Int) ≤ (c : Int) := by omega
  have hnz : (0 : Int) ≤ (n : Int) := by omega
  cases A with
  | none =>
    obtain rfl := hA rfl
    go_enter Tryd.func104, Tryd.ntmps104
    go_wp2_with fail
    go_ret
    exact ⟨rfl, rfl⟩
  | some ad =>
    go_enter Tryd.func104, Tryd.ntmps104
    go_wp2_with fail
    go_ret
    exact ⟨by simp, rfl⟩
theorem und103 : Tryd.prog.underlying 103 = some (.array 9 102) := by kernel_rfl
theorem und102 : Tryd.prog.underlying 102 = some (.array 2 3) := by kernel_rfl
set_option maxRecDepth 100000 in
set_option maxHeartbeats 8000000 in
theorem walk_atom (env : List S42) (A : Option Addr) (c : Nat) (k : Int) (t u : S47) (B : Option Addr) (d : Nat) (A4 : Option Addr) (c4 : Nat) (A5 : Option Addr) (c5 : Nat) (w : World) (hr : Kd.C k42 w A env.length env) (hts : Kd.C k47 w B 2 [t, u]) (hk : Kinds w) (h1 : TK t) (h2 : TK u) (h3 : 3 ≤ k) (h8 : k ≤ 8) :
    Calls Tryd.prog 66 #[.slice A env.length c, .agg #[.int .i64 k, .string ⟨#[]⟩, .int .i64 0, .slice B 2 d, .slice A4 0 c4, .slice A5 0 c5]] w fun e w' => e = .returned (.int .i64 (atomT env k t u)) ∧ Below w.heap.size w w' := by
  have hu26 := Tryd.underlying26
  have h103 := und103
  have h102 := und102
  have T1 := Aside0.mk (up1 w (.cells #[.int .i64 k, .string ⟨#[]⟩, .int .i64 0, .slice B 2 d, .slice A4 0 c4, .slice A5 0 c5] 26))
  have HB := Aside0.mk (heap_new w (.cells #[.int .i64 k, .string ⟨#[]⟩, .int .i64 0, .slice B 2 d, .slice A4 0 c4, .slice A5 0 c5] 26))
  have D102 := Aside0.mk (fun (W : World) (hW : Below w.heap.size w W) (wd : Addr) (wa wb : Int) hw0 hw1 => sortsB_calls env A c t u B d W (Kd.C_below hr hW) (Kd.C_below hts hW) wd 2 wa wb hw0 hw1 (hk.below hW) h1 h2)
  have HA := Aside0.mk (fun (j : Nat) hj => up_cell T1.out (hk.asks j hj))
  unfold atomT
  have hkk : (k = 3) ∨ (k = 4) ∨ (k = 5) ∨ (k = 6) ∨ (k = 7) ∨ (k = 8) := by omega
  clear hr hts hk h1 h2 h3 h8
  rcases hkk with rfl | rfl | rfl | rfl | rfl | rfl
  · have x0 := HA.out 6 (by decide)
    have x1 := HA.out 7 (by decide)
    rw [show asksL.getD 6 0 = 1 from rfl] at x0
    rw [show asksL.getD 7 0 = 2 from rfl] at x1
    rw [show asked 3 = (1, 2) from rfl]
    dsimp only
    have DR := Aside0.mk (below_drew (Below.refl (w.alloc (.cells #[.int .i64 3, .string ⟨#[]⟩, .int .i64 0, .slice B 2 d, .slice A4 0 c4, .slice A5 0 c5] 26)).heap.size (w.alloc (.cells #[.int .i64 3, .string ⟨#[]⟩, .int .i64 0, .slice B 2 d, .slice A4 0 c4, .slice A5 0 c5] 26))))
    replace T1 := Aside0.mk (T1.out.trans (DR.out.mono T1.out.size))
    have hcall := Aside0.mk (D102.out _ T1.out ⟨3, 6, none⟩ 1 2 (up_cell DR.out x0) (up_cell DR.out x1))
    obtain ⟨r, hr0⟩ : ∃ v, (if ofT env t 1 = 0 then ofT env u 2 else ofT env t 1) = v := ⟨_, rfl⟩
    rw [hr0] at hcall ⊢
    clear hr0 D102 HA
    have d0 := Aside0.mk (up_cell DR.out ((blk_cell HB.out 0).trans rfl))
    have d3 := Aside0.mk (up_cell DR.out ((blk_cell HB.out 3).trans rfl))
    clear DR
    go_enter Tryd.func66, Tryd.ntmps66
    go_upto_region 10 with fail
    go_region_held3 (fun w' => w'.cell? ⟨w.heap.size, 0, none⟩ = some (.int .i64 3) ∧ w'.cell? ⟨w.heap.size, 3, none⟩ = some (.slice B 2 d)) (go_keep)
      (first
        | (go_at_call 102; (with_reducible refine hcall.out.mono ?_); rintro e w1 ⟨g, v, rfl⟩; have q0 := up_cell g d0.out; have q3 := up_cell g d3.out; replace T1 := Aside0.mk (T1.out.trans (g.mono T1.out.size)); clear g hcall))
    all_goals
      go_wp2_with fail
      go_ret
      exact ⟨rfl, T1.out⟩
  · have x0 := HA.out 8 (by decide)
    have x1 := HA.out 9 (by decide)
    rw [show asksL.getD 8 0 = 1 from rfl] at x0
    rw [show asksL.getD 9 0 = 3 from rfl] at x1
    rw [show asked 4 = (1, 3) from rfl]
    dsimp only
    have DR := Aside0.mk (below_drew (Below.refl (w.alloc (.cells #[.int .i64 4, .string ⟨#[]⟩, .int .i64 0, .slice B 2 d, .slice A4 0 c4, .slice A5 0 c5] 26)).heap.size (w.alloc (.cells #[.int .i64 4, .string ⟨#[]⟩, .int .i64 0, .slice B 2 d, .slice A4 0 c4, .slice A5 0 c5] 26))))
    replace T1 := Aside0.mk (T1.out.trans (DR.out.mono T1.out.size))
    have hcall := Aside0.mk (D102.out _ T1.out ⟨3, 8, none⟩ 1 3 (up_cell DR.out x0) (up_cell DR.out x1))
    obtain ⟨r, hr0⟩ : ∃ v, (if ofT env t 1 = 0 then ofT env u 3 else ofT env t 1) = v := ⟨_, rfl⟩
    rw [hr0] at hcall ⊢
    clear hr0 D102 HA
    have d0 := Aside0.mk (up_cell DR.out ((blk_cell HB.out 0).trans rfl))
    have d3 := Aside0.mk (up_cell DR.out ((blk_cell HB.out 3).trans rfl))
    clear DR
    go_enter Tryd.func66, Tryd.ntmps66
    go_upto_region 10 with fail
    go_region_held3 (fun w' => w'.cell? ⟨w.heap.size, 0, none⟩ = some (.int .i64 4) ∧ w'.cell? ⟨w.heap.size, 3, none⟩ = some (.slice B 2 d)) (go_keep)
      (first
        | (go_at_call 102; (with_reducible refine hcall.out.mono ?_); rintro e w1 ⟨g, v, rfl⟩; have q0 := up_cell g d0.out; have q3 := up_cell g d3.out; replace T1 := Aside0.mk (T1.out.trans (g.mono T1.out.size)); clear g hcall))
    all_goals
      go_wp2_with fail
      go_ret
      exact ⟨rfl, T1.out⟩
  · have x0 := HA.out 10 (by decide)
    have x1 := HA.out 11 (by decide)
    rw [show asksL.getD 10 0 = 4 from rfl] at x0
    rw [show asksL.getD 11 0 = 1 from rfl] at x1
    rw [show asked 5 = (4, 1) from rfl]
    dsimp only
    have DR := Aside0.mk (below_drew (Below.refl (w.alloc (.cells #[.int .i64 5, .string ⟨#[]⟩, .int .i64 0, .slice B 2 d, .slice A4 0 c4, .slice A5 0 c5] 26)).heap.size (w.alloc (.cells #[.int .i64 5, .string ⟨#[]⟩, .int .i64 0, .slice B 2 d, .slice A4 0 c4, .slice A5 0 c5] 26))))
    replace T1 := Aside0.mk (T1.out.trans (DR.out.mono T1.out.size))
    have hcall := Aside0.mk (D102.out _ T1.out ⟨3, 10, none⟩ 4 1 (up_cell DR.out x0) (up_cell DR.out x1))
    obtain ⟨r, hr0⟩ : ∃ v, (if ofT env t 4 = 0 then ofT env u 1 else ofT env t 4) = v := ⟨_, rfl⟩
    rw [hr0] at hcall ⊢
    clear hr0 D102 HA
    have d0 := Aside0.mk (up_cell DR.out ((blk_cell HB.out 0).trans rfl))
    have d3 := Aside0.mk (up_cell DR.out ((blk_cell HB.out 3).trans rfl))
    clear DR
    go_enter Tryd.func66, Tryd.ntmps66
    go_upto_region 10 with fail
    go_region_held3 (fun w' => w'.cell? ⟨w.heap.size, 0, none⟩ = some (.int .i64 5) ∧ w'.cell? ⟨w.heap.size, 3, none⟩ = some (.slice B 2 d)) (go_keep)
      (first
        | (go_at_call 102; (with_reducible refine hcall.out.mono ?_); rintro e w1 ⟨g, v, rfl⟩; have q0 := up_cell g d0.out; have q3 := up_cell g d3.out; replace T1 := Aside0.mk (T1.out.trans (g.mono T1.out.size)); clear g hcall))
    all_goals
      go_wp2_with fail
      go_ret
      exact ⟨rfl, T1.out⟩
  · have x0 := HA.out 12 (by decide)
    have x1 := HA.out 13 (by decide)
    rw [show asksL.getD 12 0 = 5 from rfl] at x0
    rw [show asksL.getD 13 0 = 1 from rfl] at x1
    rw [show asked 6 = (5, 1) from rfl]
    dsimp only
    have DR := Aside0.mk (below_drew (Below.refl (w.alloc (.cells #[.int .i64 6, .string ⟨#[]⟩, .int .i64 0, .slice B 2 d, .slice A4 0 c4, .slice A5 0 c5] 26)).heap.size (w.alloc (.cells #[.int .i64 6, .string ⟨#[]⟩, .int .i64 0, .slice B 2 d, .slice A4 0 c4, .slice A5 0 c5] 26))))
    replace T1 := Aside0.mk (T1.out.trans (DR.out.mono T1.out.size))
    have hcall := Aside0.mk (D102.out _ T1.out ⟨3, 12, none⟩ 5 1 (up_cell DR.out x0) (up_cell DR.out x1))
    obtain ⟨r, hr0⟩ : ∃ v, (if ofT env t 5 = 0 then ofT env u 1 else ofT env t 5) = v := ⟨_, rfl⟩
    rw [hr0] at hcall ⊢
    clear hr0 D102 HA
    have d0 := Aside0.mk (up_cell DR.out ((blk_cell HB.out 0).trans rfl))
    have d3 := Aside0.mk (up_cell DR.out ((blk_cell HB.out 3).trans rfl))
    clear DR
    go_enter Tryd.func66, Tryd.ntmps66
    go_upto_region 10 with fail
    go_region_held3 (fun w' => w'.cell? ⟨w.heap.size, 0, none⟩ = some (.int .i64 6) ∧ w'.cell? ⟨w.heap.size, 3, none⟩ = some (.slice B 2 d)) (go_keep)
      (first
        | (go_at_call 102; (with_reducible refine hcall.out.mono ?_); rintro e w1 ⟨g, v, rfl⟩; have q0 := up_cell g d0.out; have q3 := up_cell g d3.out; replace T1 := Aside0.mk (T1.out.trans (g.mono T1.out.size)); clear g hcall))
    all_goals
      go_wp2_with fail
      go_ret
      exact ⟨rfl, T1.out⟩
  · have x0 := HA.out 14 (by decide)
    have x1 := HA.out 15 (by decide)
    rw [show asksL.getD 14 0 = 4 from rfl] at x0
    rw [show asksL.getD 15 0 = 2 from rfl] at x1
    rw [show asked 7 = (4, 2) from rfl]
    dsimp only
    have DR := Aside0.mk (below_drew (Below.refl (w.alloc (.cells #[.int .i64 7, .string ⟨#[]⟩, .int .i64 0, .slice B 2 d, .slice A4 0 c4, .slice A5 0 c5] 26)).heap.size (w.alloc (.cells #[.int .i64 7, .string ⟨#[]⟩, .int .i64 0, .slice B 2 d, .slice A4 0 c4, .slice A5 0 c5] 26))))
    replace T1 := Aside0.mk (T1.out.trans (DR.out.mono T1.out.size))
    have hcall := Aside0.mk (D102.out _ T1.out ⟨3, 14, none⟩ 4 2 (up_cell DR.out x0) (up_cell DR.out x1))
    obtain ⟨r, hr0⟩ : ∃ v, (if ofT env t 4 = 0 then ofT env u 2 else ofT env t 4) = v := ⟨_, rfl⟩
    rw [hr0] at hcall ⊢
    clear hr0 D102 HA
    have d0 := Aside0.mk (up_cell DR.out ((blk_cell HB.out 0).trans rfl))
    have d3 := Aside0.mk (up_cell DR.out ((blk_cell HB.out 3).trans rfl))
    clear DR
    go_enter Tryd.func66, Tryd.ntmps66
    go_upto_region 10 with fail
    go_region_held3 (fun w' => w'.cell? ⟨w.heap.size, 0, none⟩ = some (.int .i64 7) ∧ w'.cell? ⟨w.heap.size, 3, none⟩ = some (.slice B 2 d)) (go_keep)
      (first
        | (go_at_call 102; (with_reducible refine hcall.out.mono ?_); rintro e w1 ⟨g, v, rfl⟩; have q0 := up_cell g d0.out; have q3 := up_cell g d3.out; replace T1 := Aside0.mk (T1.out.trans (g.mono T1.out.size)); clear g hcall))
    all_goals
      go_wp2_with fail
      go_ret
      exact ⟨rfl, T1.out⟩
  · have x0 := HA.out 16 (by decide)
    have x1 := HA.out 17 (by decide)
    rw [show asksL.getD 16 0 = 3 from rfl] at x0
    rw [show asksL.getD 17 0 = 2 from rfl] at x1
    rw [show asked 8 = (3, 2) from rfl]
    dsimp only
    have DR := Aside0.mk (below_drew (Below.refl (w.alloc (.cells #[.int .i64 8, .string ⟨#[]⟩, .int .i64 0, .slice B 2 d, .slice A4 0 c4, .slice A5 0 c5] 26)).heap.size (w.alloc (.cells #[.int .i64 8, .string ⟨#[]⟩, .int .i64 0, .slice B 2 d, .slice A4 0 c4, .slice A5 0 c5] 26))))
    replace T1 := Aside0.mk (T1.out.trans (DR.out.mono T1.out.size))
    have hcall := Aside0.mk (D102.out _ T1.out ⟨3, 16, none⟩ 3 2 (up_cell DR.out x0) (up_cell DR.out x1))
    obtain ⟨r, hr0⟩ : ∃ v, (if ofT env t 3 = 0 then ofT env u 2 else ofT env t 3) = v := ⟨_, rfl⟩
    rw [hr0] at hcall ⊢
    clear hr0 D102 HA
    have d0 := Aside0.mk (up_cell DR.out ((blk_cell HB.out 0).trans rfl))
    have d3 := Aside0.mk (up_cell DR.out ((blk_cell HB.out 3).trans rfl))
    clear DR
    go_enter Tryd.func66, Tryd.ntmps66
    go_upto_region 10 with fail
    go_region_held3 (fun w' => w'.cell? ⟨w.heap.size, 0, none⟩ = some (.int .i64 8) ∧ w'.cell? ⟨w.heap.size, 3, none⟩ = some (.slice B 2 d)) (go_keep)
      (first
        | (go_at_call 102; (with_reducible refine hcall.out.mono ?_); rintro e w1 ⟨g, v, rfl⟩; have q0 := up_cell g d0.out; have q3 := up_cell g d3.out; replace T1 := Aside0.mk (T1.out.trans (g.mono T1.out.size)); clear g hcall))
    all_goals
      go_wp2_with fail
      go_ret
      exact ⟨rfl, T1.out⟩
end Go.Proofs.YtmlcaecknocpoaaDoor.It
namespace Go.Proofs.YtmlcaecknocpoaaDoor.It
set_option linter.unusedVariables false
set_option linter.unusedSimpArgs false
open Go Go.RowKit Go.Shelf Go.Proofs.YtmlcaecknocpoaaDoorW.PrintWords Go.Proofs.YtmlcaecknocpoaaDoorW.PrintLast Go.Proofs.YtmlcaecknocpoaaDoor.Pr Go.Proofs.YtmlcaecknocpoaaDoor.Sp
attribute [local go_sem ↓] Go.wp_at_zero Go.wp_at_succ
theorem row_ints3 {w : World} {B : Nat} {a b c : Int} (hB : w.heap[B]? = some (.cells #[.int .i64 a, .int .i64 b, .int .i64 c] 3 (0, 0))) : Kd.C (Kd.int .i64) w (some ⟨B, 0, none⟩) 3 [a, b, c] := by
  refine ⟨rfl, by omega, fun _ => ⟨⟨B, 0, none⟩, rfl, fun j p hj => ?_⟩⟩
  have hn := World.news_of_block hB
  match j, hj with
  | 0, hj =>
    obtain rfl : a = p := by simpa using hj
    exact ⟨[.int .i64 a], rfl, rfl, fun i v hv => by match i, hv with | 0, hv => exact hn 0 v hv⟩
  | 1, hj =>
    obtain rfl : b = p := by simpa using hj
    exact ⟨[.int .i64 b], rfl, rfl, fun i v hv => by match i, hv with | 0, hv => exact hn 1 v hv⟩
  | 2, hj =>
    obtain rfl : c = p := by simpa using hj
    exact ⟨[.int .i64 c], rfl, rfl, fun i v hv => by match i, hv with | 0, hv => exact hn 2 v hv⟩
theorem ordered_f (s : Int) : slices_Contains_int_int.f 4 [8, 2, 6] s = some (ordered s) := by
  unfold slices_Contains_int_int.f slices_Index_int_int.f ordered
  have r0 : rd [8, 2, 6] (0 : Int) = 8 := rfl
  have r1 : rd [8, 2, 6] (1 : Int) = 2 := rfl
  have r2 : rd [8, 2, 6] (2 : Int) = 6 := rfl
  have w0 : wrap64 1 = 1 := wrap_in (by omega)
  have w1 : wrap64 2 = 2 := wrap_in (by omega)
  have w2 : wrap64 3 = 3 := wrap_in (by omega)
  by_cases h8 : s = 8
  · subst h8; simp [slices_Index_int_int.l0, r0]
  · by_cases h2 : s = 2
    · subst h2; simp [slices_Index_int_int.l0, r0, w0, r1]
    · by_cases h6 : s = 6
      · subst h6; simp [slices_Index_int_int.l0, r0, w0, r1, w1, r2]
      · simp [slices_Index_int_int.l0, r0, w0, r1, w1, r2, w2, h8, h2, h6]
theorem contains_calls3 (s : Int) (B : Nat) (W : World) (hB : W.heap[B]? = some (.cells #[.int .i64 8, .int .i64 2, .int .i64 6] 3 (0, 0))) : Calls Tryd.prog 103 #[.slice (some ⟨B, 0, none⟩) 3 3, .int .i64 s] W fun e w' => e = .returned (.bool (ordered s)) ∧ Below W.heap.size W w' :=
  (slices_Contains_int_int.calls 4 (some ⟨B, 0, none⟩) 3 [8, 2, 6] s (ordered s) W (row_ints3 hB) (Nat.le_refl _) (ordered_f s)).mono fun e w' ⟨he, n, hw⟩ => ⟨he, by subst hw; exact drewN_b _ _⟩
section
variable (env : List S42) (A : Option Addr) (c : Nat) (nm : ByteArray) (t u : S47) (B : Option Addr) (d : Nat) (A4 : Option Addr) (c4 : Nat) (A5 : Option Addr) (c5 : Nat) (w : World)
set_option maxRecDepth 100000 in
set_option maxHeartbeats 8000000 in
theorem walk_cmp_err (r : Int) (hne : r ≠ 0) (hcall : ∀ W, Below w.heap.size w W → Calls Tryd.prog 102 #[.slice B 2 d, .func (.func 67) #[.slice A env.length c] #[], .slice none 0 0] W fun e w' => Below W.heap.size W w' ∧ e = .returned (.tuple #[.slice none 0 0, .int .i64 r])) :
    Calls Tryd.prog 66 #[.slice A env.length c, .agg #[.int .i64 9, .string nm, .int .i64 0, .slice B 2 d, .slice A4 0 c4, .slice A5 0 c5]] w fun e w' => e = .returned (.int .i64 r) ∧ Below w.heap.size w w' := by
  have hu26 := Tryd.underlying26
  have T1 := Aside0.mk (up1 w (.cells #[.int .i64 9, .string nm, .int .i64 0, .slice B 2 d, .slice A4 0 c4, .slice A5 0 c5] 26))
  have HC := Aside0.mk (hcall _ T1.out)
  have b1 : (r != 0) = true := by simpa using hne
  clear hcall hne
  go_enter Tryd.func66, Tryd.ntmps66
  go_wp2_with (go_at_call 102; (with_reducible refine HC.out.mono ?_); rintro e w1 ⟨g, rfl⟩; replace T1 := Aside0.mk (T1.out.trans (g.mono T1.out.size)); clear g HC)
  go_ret
  exact ⟨rfl, T1.out⟩
set_option maxRecDepth 100000 in
set_option maxHeartbeats 8000000 in
theorem walk_cmp_ok (st su : Int) (hcall : ∀ W, Below w.heap.size w W → Calls Tryd.prog 102 #[.slice B 2 d, .func (.func 67) #[.slice A env.length c] #[], .slice none 0 0] W fun e w' => Below W.heap.size W w' ∧ ∃ ad c', e = .returned (.tuple #[.slice (some ad) 2 c', .int .i64 0]) ∧ w'.cell? ad = some (.int .i64 st) ∧ w'.cell? ⟨ad.block, ad.off + 1, none⟩ = some (.int .i64 su)) :
    Calls Tryd.prog 66 #[.slice A env.length c, .agg #[.int .i64 9, .string nm, .int .i64 0, .slice B 2 d, .slice A4 0 c4, .slice A5 0 c5]] w fun e w' => e = .returned (.int .i64 (if st = su ∧ (eqs nm || ordered st) = true then 0 else 80)) ∧ Below w.heap.size w w' := by
  have hu26 := Tryd.underlying26
  have T1 := Aside0.mk (up1 w (.cells #[.int .i64 9, .string nm, .int .i64 0, .slice B 2 d, .slice A4 0 c4, .slice A5 0 c5] 26))
  have HB := Aside0.mk (heap_new w (.cells #[.int .i64 9, .string nm, .int .i64 0, .slice B 2 d, .slice A4 0 c4, .slice A5 0 c5] 26))
  have HC := Aside0.mk (hcall _ T1.out)
  have C103 := Aside0.mk (fun G W hG => contains_calls3 st G W hG)
  obtain ⟨o, ho⟩ : ∃ v, ordered st = v := ⟨_, rfl⟩
  obtain ⟨b1, hb1⟩ : ∃ v, decide (nm = ⟨#[61]⟩) = v := ⟨_, rfl⟩
  obtain ⟨b2, hb2⟩ : ∃ v, decide (nm = ⟨#[33, 61]⟩) = v := ⟨_, rfl⟩
  unfold eqs
  rw [ho, hb1, hb2]
  rw [ho] at C103
  have s1 := (str_beq nm ⟨#[61]⟩).trans hb1
  have s2 := (str_beq nm ⟨#[33, 61]⟩).trans hb2
  rw [show (⟨#[61]⟩ : ByteArray).toList = [61] by rw [ByteArray.toList_eq]] at s1
  rw [show (⟨#[33, 61]⟩ : ByteArray).toList = [33, 61] by rw [ByteArray.toList_eq]] at s2
  obtain ⟨r, hr0⟩ : ∃ v, (if st = su ∧ (b1 || b2 || o) = true then (0 : Int) else 80) = v := ⟨_, rfl⟩
  rw [hr0]
  obtain ⟨os, hos⟩ : ∃ v, (st != su) = v := ⟨_, rfl⟩
  have HR0 : Aside0 ((if (!os && (b1 || b2 || o)) = true then (0 : Int) else 80) = r) := ⟨by
    rw [← hr0, ← hos]
    by_cases hs : st = su
    · simp [hs]
    · have : (st != su) = true := by simpa using hs
      simp [hs]⟩
  clear hcall ho hb1 hb2 hr0
  cases os <;> cases o <;> cases b1 <;> cases b2
  all_goals
    first | (obtain rfl : (0 : Int) = r := HR0.out) | (obtain rfl : (80 : Int) = r := HR0.out)
    clear HR0
    go_enter Tryd.func66, Tryd.ntmps66
    go_wp2_with (first
      | (go_at_call 102; (with_reducible refine HC.out.mono ?_); rintro e w1 ⟨g, ad, c', rfl, z0, z1⟩; replace T1 := Aside0.mk (T1.out.trans (g.mono T1.out.size)); have u0 := up_cell (up1 w1 (.cells #[.int .i64 8, .int .i64 2, .int .i64 6] 3)) z0; have HN := Aside0.mk (heap_new w1 (.cells #[.int .i64 8, .int .i64 2, .int .i64 6] 3)); have hb := Aside0.mk (blk_below (up1 w1 (.cells #[.int .i64 8, .int .i64 2, .int .i64 6] 3)) (blk_below g HB.out)); have zz := Aside0.mk (And.intro z0 z1); clear g HC z0 z1)
      | (go_at_call 103; (with_reducible refine (C103.out _ _ HN.out).mono ?_); rintro e w2 ⟨rfl, g⟩; have y0 := (blk_cell (blk_below g hb.out) 0).trans rfl; have y1 := (blk_cell (blk_below g hb.out) 1).trans rfl; have z0 := up_cell g (up_cell (up1 _ _) zz.out.1); have z1 := up_cell g (up_cell (up1 _ _) zz.out.2); replace T1 := Aside0.mk (T1.out.trans (((up1 _ _).trans (g.mono (up1 _ _).size)).mono T1.out.size)); clear g u0))
    go_quiet (fail)
    go_wp2_with fail
    go_ret
    exact ⟨rfl, T1.out.trans ((drewN_b _ _).mono T1.out.size)⟩
theorem walk_cmp (hr : Kd.C k42 w A env.length env) (hts : Kd.C k47 w B 2 [t, u]) (hk : Kinds w) (h1 : TK t) (h2 : TK u) :
    Calls Tryd.prog 66 #[.slice A env.length c, .agg #[.int .i64 9, .string nm, .int .i64 0, .slice B 2 d, .slice A4 0 c4, .slice A5 0 c5]] w fun e w' => e = .returned (.int .i64 (cmpT env nm t u)) ∧ Below w.heap.size w w' := by
  have hA := fun W (hW : Below w.heap.size w W) => sortsA_calls env A c t u B d W (Kd.C_below hr hW) (Kd.C_below hts hW) (hk.below hW) h1 h2
  unfold cmpT
  by_cases he : (sortT env t).2 = 0
  · rw [if_pos he]
    by_cases hu : (sortT env u).2 = 0
    · rw [if_pos hu]
      refine walk_cmp_ok env A c nm B d A4 c4 A5 c5 w (sortT env t).1 (sortT env u).1 fun W hW => (hA W hW).mono fun e w' ⟨g, h⟩ => ⟨g, ?_⟩
      rcases h with ⟨h, _⟩ | ⟨_, h, _⟩ | ⟨_, _, h⟩
      · exact absurd he h
      · exact absurd hu h
      · exact h
    · rw [if_neg hu]
      refine walk_cmp_err env A c nm B d A4 c4 A5 c5 w _ hu fun W hW => (hA W hW).mono fun e w' ⟨g, h⟩ => ⟨g, ?_⟩
      rcases h with ⟨h, _⟩ | ⟨_, _, h⟩ | ⟨_, h, _⟩
      · exact absurd he h
      · exact h
      · exact absurd h hu
  · rw [if_neg he]
    refine walk_cmp_err env A c nm B d A4 c4 A5 c5 w _ he fun W hW => (hA W hW).mono fun e w' ⟨g, h⟩ => ⟨g, ?_⟩
    rcases h with ⟨_, h⟩ | ⟨h, _⟩ | ⟨h, _⟩
    · exact h
    · exact absurd h he
    · exact absurd h he
end
end Go.Proofs.YtmlcaecknocpoaaDoor.It
namespace Go.Proofs.YtmlcaecknocpoaaDoor.It
set_option linter.unusedVariables false
set_option linter.unusedSimpArgs false
open Go Go.RowKit Go.Shelf Go.Proofs.YtmlcaecknocpoaaDoorW.PrintWords Go.Proofs.YtmlcaecknocpoaaDoorW.PrintLast Go.Proofs.YtmlcaecknocpoaaDoor.Pr Go.Proofs.YtmlcaecknocpoaaDoor.Sp
attribute [local go_sem ↓] Go.wp_at_zero Go.wp_at_succ
def Env (w0 W : World) (base : Nat) (v : Value) (ps : List S42) : Prop :=
  OwnRow (k42.K w0) 42 2 W base v ps ∨ ∃ A, v = .slice A ps.length ps.length ∧ ReadsRow (k42.K w0) 2 W A ps.length ps
theorem Env.below {w0 W W1 : World} {base : Nat} {v : Value} {ps : List S42} (h : Env w0 W base v ps) (hb : Below W.heap.size W W1) : Env w0 W1 base v ps := by
  rcases h with h | ⟨A, e, h⟩
  · exact .inl (h.below hb)
  · exact .inr ⟨A, e, h.imp_ hb (fun _ _ h => h)⟩
theorem Env.form {w0 W : World} {base : Nat} {v : Value} {ps : List S42} (h : Env w0 W base v ps) (hb : Below w0.heap.size w0 W) : ∃ A c, v = .slice A ps.length c ∧ ps.length ≤ c ∧ Kd.C k42 W A ps.length ps := by
  rcases h with h | ⟨A, e, h⟩
  · obtain ⟨A, c, e, hl, hC⟩ := own_C (d := k42) h hb
    exact ⟨A, c, e, hl, hC⟩
  · exact ⟨A, ps.length, e, Nat.le_refl _, h.imp_ (Below.refl _ _) (fun _ _ hp => k42.K_below hb hp)⟩
theorem row_none {w : World} {A : Option Addr} {ps : List S42} (h : Kd.C k42 w A ps.length ps) (hA : A = none) : ps.length = 0 := by
  rcases Nat.eq_zero_or_pos ps.length with h0 | h0
  · exact h0
  · obtain ⟨ad, ha, _⟩ := h.2.2 h0
    rw [hA] at ha; cases ha
theorem take_snoc42 (bs : List S42) (j : Nat) (hj : j < bs.length) : bs.take (j + 1) = bs.take j ++ [rd_T42 bs j] := by
  rw [List.take_succ_eq_append_getElem hj]
  simp [rd_T42, List.getD, hj]
theorem fresh_take (env bs : List S42) (j : Nat) (hj : j < bs.length) (h : fresh env (bs.take j) = true) (hn : has (env ++ bs.take j) (rd_T42 bs j).f0 = false) : fresh env (bs.take (j + 1)) = true := by
  rw [take_snoc42 bs j hj, fresh_append, h, fresh, hn]; rfl
theorem fresh_not (env bs : List S42) (j : Nat) (hj : j < bs.length) (hn : has (env ++ bs.take j) (rd_T42 bs j).f0 = true) : fresh env bs = false := by
  have e : bs = bs.take j ++ (rd_T42 bs j :: bs.drop (j + 1)) := by
    conv => lhs; rw [← List.take_append_drop j bs]
    congr 1
    rw [List.drop_eq_getElem_cons hj]
    simp [rd_T42, List.getD, hj]
  rw [e, fresh_append, fresh, hn]
  simp
theorem firsts_drop (l : List S26) (E : List S42) (j : Nat) (hj : j < l.length) : firsts (l.drop j) E = if first (rd_T26 l j) E = 0 then firsts (l.drop (j + 1)) E else first (rd_T26 l j) E := by
  rw [drop_rd l j hj, firsts]
set_option maxRecDepth 100000 in
set_option maxHeartbeats 8000000 in
theorem walk_node (x : S26) (A3 : Option Addr) (c3 : Nat) (A4 : Option Addr) (c4 : Nat) (A5 : Option Addr) (c5 : Nat) (env : List S42) (A : Option Addr) (c : Nat) (w : World) (hat : At w x A3 c3 A4 c4 A5 c5) (h3 : x.f3 = []) (k9 : x.f0 ≠ 9)
    (hr : Kd.C k42 w A env.length env) (hc : env.length ≤ c) (hlen : env.length + x.f4.length ≤ 1000000000)
    (hch : ∀ j, j < x.f5.length → ∀ (W : World) (A' : Option Addr) (c' : Nat), Below w.heap.size w W → Kd.C k42 W A' (env ++ x.f4).length (env ++ x.f4) → (env ++ x.f4).length ≤ c' →
      ∀ B3 d3 B4 d4 B5 d5, At w (rd_T26 x.f5 j) B3 d3 B4 d4 B5 d5 → Calls Tryd.prog 66 #[.slice A' (env ++ x.f4).length c', .agg #[.int .i64 (rd_T26 x.f5 j).f0, .string (rd_T26 x.f5 j).f1, .int .i64 (rd_T26 x.f5 j).f2, .slice B3 (rd_T26 x.f5 j).f3.length d3, .slice B4 (rd_T26 x.f5 j).f4.length d4, .slice B5 (rd_T26 x.f5 j).f5.length d5]] W
        fun e w' => e = .returned (.int .i64 (first (rd_T26 x.f5 j) (env ++ x.f4))) ∧ Below W.heap.size W w') :
    Calls Tryd.prog 66 #[.slice A env.length c, .agg #[.int .i64 x.f0, .string x.f1, .int .i64 x.f2, .slice A3 x.f3.length c3, .slice A4 x.f4.length c4, .slice A5 x.f5.length c5]] w
      fun e w' => e = .returned (.int .i64 (if fresh env x.f4 then firsts x.f5 (env ++ x.f4) else 82)) ∧ Below w.heap.size w w' := by
  have hu26 := Tryd.underlying26
  have hu42 := Tryd.underlying42
  have hu76 := und76
  have hb5 := hat.g5.2.1
  have hb4 := hat.g4.2.1
  have T1 := Aside0.mk (up1 w (.cells #[.int .i64 x.f0, .string x.f1, .int .i64 x.f2, .slice A3 x.f3.length c3, .slice A4 x.f4.length c4, .slice A5 x.f5.length c5] 26))
  have HB := Aside0.mk (heap_new w (.cells #[.int .i64 x.f0, .string x.f1, .int .i64 x.f2, .slice A3 x.f3.length c3, .slice A4 x.f4.length c4, .slice A5 x.f5.length c5] 26))
  have HAT := Aside0.mk hat
  have HR := Aside0.mk hr
  have HCH := Aside0.mk hch
  have C104 := Aside0.mk (fun W => clip_calls A env.length c W hc (row_none hr) (by have := hr.2.1; omega))
  have h30 : x.f3.length = 0 := by rw [h3]; rfl
  have h31 : ¬ (x.f3.length : Int) > 0 := by omega
  have k9b : (x.f0 == 9) = false := by simpa using k9
  obtain ⟨r, hr0⟩ : ∃ v, (if fresh env x.f4 then firsts x.f5 (env ++ x.f4) else 82) = v := ⟨_, rfl⟩
  rw [hr0]
  have HR0 := Aside0.mk hr0
  have HL := Aside0.mk hlen
  clear hat hr hch hc hr0 hlen h3 k9 h30
  go_enter Tryd.func66, Tryd.ntmps66
  go_wp2_with (go_at_call 104; (with_reducible refine (C104.out _).mono ?_); rintro e w1 ⟨rfl, rfl⟩; clear C104)
  go_loopg [10, 80] x.f4.length (fun gg s10 s80 wr => ∃ j : Nat, j ≤ x.f4.length ∧ x.f4.length - j ≤ gg ∧ s80 = .int .i64 j ∧ Aside0 (Below w.heap.size w wr ∧ wr.heap[w.heap.size]? = some (.cells #[.int .i64 x.f0, .string x.f1, .int .i64 x.f2, .slice A3 x.f3.length c3, .slice A4 x.f4.length c4, .slice A5 x.f5.length c5] 26 (0, 0)) ∧ fresh env (x.f4.take j) = true ∧ Env w wr w.heap.size s10 (env ++ x.f4.take j)))
  case atStart => exact ⟨0, Nat.zero_le _, by omega, rfl, ⟨T1.out, HB.out, rfl, .inr ⟨A, by rw [List.take_zero, List.append_nil], by rw [List.take_zero, List.append_nil]; exact HR.out.imp_ T1.out (fun _ _ h => h)⟩⟩⟩
  case round =>
    obtain ⟨j, hj, hg, rfl, HJ⟩ := hrel
    clear T1 HB
    obtain ⟨P, hP⟩ : ∃ P, env ++ x.f4.take j = P := ⟨_, rfl⟩
    rw [hP] at HJ
    obtain ⟨A', c', rfl, hle, hC⟩ := HJ.out.2.2.2.form HJ.out.1
    have HPL : Aside0 (P.length ≤ env.length + x.f4.length) := ⟨by rw [← hP, List.length_append, List.length_take]; omega⟩
    by_cases hlt : j < x.f4.length
    · have hltz : (j : Int) < (x.f4.length : Int) := by omega
      obtain ⟨ad, rfl, y0, y1⟩ := bindAt HAT.out.g4 HJ.out.1 j hlt
      have G1 := Aside0.mk (up1 wr (.cells #[.string (rd_T42 x.f4 j).f0, .int .i64 (rd_T42 x.f4 j).f1] 42))
      have HN := Aside0.mk (heap_new wr (.cells #[.string (rd_T42 x.f4 j).f0, .int .i64 (rd_T42 x.f4 j).f1] 42))
      have C101 := Aside0.mk (find_calls P A' c' (rd_T42 x.f4 j).f0 _ (Kd.C_below hC G1.out))
      clear hC hle
      have hnot := fun h => fresh_not env x.f4 j hlt h
      have htk := fun h => fresh_take env x.f4 j hlt HJ.out.2.2.1 h
      have HP2 := Aside0.mk (show env ++ x.f4.take (j + 1) = P ++ [rd_T42 x.f4 j] by rw [take_snoc42 x.f4 j hlt, ← List.append_assoc, hP])
      rw [hP] at hnot htk
      clear hP
      cases hh : has P (rd_T42 x.f4 j).f0 with
      | true =>
        have hsp := spot_iff.2 hh
        have HF := Aside0.mk (hnot hh)
        obtain ⟨sp, e_sp⟩ : ∃ v, spot P (rd_T42 x.f4 j).f0 = v := ⟨_, rfl⟩
        rw [e_sp] at C101 hsp
        clear hh e_sp hnot htk
        go_wp2_with (go_at_call 101; (with_reducible refine C101.out.mono ?_); rintro e w1 ⟨rfl, g⟩; have G2 := Aside0.mk (HJ.out.1.trans ((G1.out.trans (g.mono G1.out.size)).mono HJ.out.1.size)); clear g C101)
        go_ret
        exact ⟨by rw [← HR0.out, HF.out]; rfl, G2.out⟩
      | false =>
        have hsp : ¬ 0 ≤ spot P (rd_T42 x.f4 j).f0 := fun h => by rw [spot_iff.1 h] at hh; cases hh
        have HF := Aside0.mk (htk hh)
        obtain ⟨sp, e_sp⟩ : ∃ v, spot P (rd_T42 x.f4 j).f0 = v := ⟨_, rfl⟩
        rw [e_sp] at C101 hsp
        clear hh e_sp hnot htk
        go_wp2_with (first
          | (go_at_call 101; (with_reducible refine C101.out.mono ?_); rintro e w1 ⟨rfl, g⟩; have q0 := (blk_cell (blk_below g HN.out) 0).trans rfl; have q1 := (blk_cell (blk_below g HN.out) 1).trans rfl; have G2 := Aside0.mk (G1.out.trans (g.mono G1.out.size)); replace HJ := Aside0.mk (And.intro (HJ.out.1.trans (G2.out.mono HJ.out.1.size)) (And.intro (blk_below G2.out HJ.out.2.1) (HJ.out.2.2.2.below G2.out))); clear g C101)
          | ((with_reducible refine gate_builtin (b := .append) (xs := #[.tmp 89, .tmp 91]) rfl ?_); at_builtin; refine any_append (R := k42.K w) (w0 := w) w.heap.size rfl (.tmp 89) (.tmp 91) 76 42 (.agg #[(.string ⟨#[]⟩), (.int .i64 0)]) 2 24 rfl und76 info42 rfl (by decide) (by decide) _ P (rd_T42 x.f4 j) [.string (rd_T42 x.f4 j).f0, .int .i64 (rd_T42 x.f4 j).f1] rfl rfl ?aP rfl ?a1 ?aO ?aB ?aS ?aL ?_; (case aP => exact k42_mk w _); (case a1 => simp [Value.oneCell']); (case aO => exact HJ.out.2.2); (case aB => exact HJ.out.1); (case aS => exact HJ.out.1.size); (case aL => have := HL.out; have := HPL.out; omega); intro v2 w2 ho2 hb2 hs2; replace ho2 := Aside0.mk ho2; replace hb2 := Aside0.mk hb2; replace hs2 := Aside0.mk hs2))
        go_roundg (x.f4.length - (j + 1))
        case measure => omega
        case rel => exact ⟨j + 1, by omega, by omega, by go_num, ⟨hb2.out, hs2.out.2 _ _ _ HJ.out.2.1 (by decide), HF.out, .inl (by rw [HP2.out]; exact ho2.out)⟩⟩
    · have hltz : ¬ (j : Int) < (x.f4.length : Int) := by omega
      obtain rfl : j = x.f4.length := by omega
      have b0 := (blk_cell HJ.out.2.1 5).trans rfl
      rw [List.take_length] at hP
      have hF := HJ.out.2.2.1
      rw [List.take_length] at hF
      have HJ2 := Aside0.mk (And.intro HJ.out.1 hC)
      have HZ := Aside0.mk hle
      rw [hP] at HCH HR0
      rw [hF, if_pos rfl] at HR0
      clear HJ hC hle hF hP
      go_wp2_with fail
      go_loopg [15, 97] x.f5.length (fun gg _ s97 wr => ∃ j : Nat, j ≤ x.f5.length ∧ x.f5.length - j ≤ gg ∧ s97 = .int .i64 j ∧ Aside0 ((Below w.heap.size w wr ∧ Kd.C k42 wr A' P.length P) ∧ firsts (x.f5.drop j) P = r))
      case atStart => exact ⟨0, Nat.zero_le _, by omega, rfl, ⟨HJ2.out, by rw [List.drop_zero]; exact HR0.out⟩⟩
      case round =>
        obtain ⟨i, hi, hgi, rfl, HI⟩ := hrel
        clear HJ2 b0
        by_cases hlti : i < x.f5.length
        · have hltiz : (i : Int) < (x.f5.length : Int) := by omega
          obtain ⟨ad, B3, d3, B4, d4, B5, d5, rfl, hat', z0, z1, z2, z3, z4, z5⟩ := HAT.out.child HI.out.1.1 i hlti
          have hcall := Aside0.mk (HCH.out i hlti (wr.alloc (.cells #[.int .i64 (rd_T26 x.f5 i).f0, .string (rd_T26 x.f5 i).f1, .int .i64 (rd_T26 x.f5 i).f2, .slice B3 (rd_T26 x.f5 i).f3.length d3, .slice B4 (rd_T26 x.f5 i).f4.length d4, .slice B5 (rd_T26 x.f5 i).f5.length d5] 26)) A' c' (HI.out.1.1.trans ((up1 wr _).mono HI.out.1.1.size)) (Kd.C_below HI.out.1.2 (up1 wr _)) HZ.out B3 d3 B4 d4 B5 d5 hat')
          have HS := firsts_drop x.f5 P i hlti
          rw [HI.out.2] at HS
          obtain ⟨v, hv⟩ : ∃ v, first (rd_T26 x.f5 i) P = v := ⟨_, rfl⟩
          rw [hv] at hcall HS
          clear hv hat'
          by_cases h0 : v = 0
          · rw [if_pos h0] at HS
            subst h0
            have HS' := Aside0.mk HS
            clear HS
            go_wp2_with (go_at_call 66; (with_reducible refine hcall.out.mono ?_); rintro e w1 ⟨rfl, g⟩; replace g := Aside0.mk ((up1 wr _).trans (g.mono (up1 wr _).size)); clear hcall)
            go_roundg (x.f5.length - (i + 1))
            case measure => omega
            case rel => exact ⟨i + 1, by omega, by omega, by go_num, ⟨⟨HI.out.1.1.trans (g.out.mono HI.out.1.1.size), Kd.C_below HI.out.1.2 g.out⟩, HS'.out.symm⟩⟩
          · rw [if_neg h0] at HS
            have b1 : (v != 0) = true := by simpa using h0
            have HS' := Aside0.mk HS
            clear HS h0
            go_wp2_with (go_at_call 66; (with_reducible refine hcall.out.mono ?_); rintro e w1 ⟨rfl, g⟩; replace g := Aside0.mk ((up1 wr _).trans (g.mono (up1 wr _).size)); clear hcall)
            go_ret
            exact ⟨by rw [HS'.out]; rfl, HI.out.1.1.trans (g.out.mono HI.out.1.1.size)⟩
        · have hltiz : ¬ (i : Int) < (x.f5.length : Int) := by omega
          obtain rfl : i = x.f5.length := by omega
          have HE : Aside0 (r = 0) := ⟨by rw [← HI.out.2, List.drop_length]; rfl⟩
          go_wp2_with fail
          go_ret
          exact ⟨by rw [HE.out]; rfl, HI.out.1.1⟩
end Go.Proofs.YtmlcaecknocpoaaDoor.It
namespace Go.Proofs.YtmlcaecknocpoaaDoor.It
set_option linter.unusedVariables false
set_option linter.unusedSimpArgs false
open Go Go.RowKit Go.Shelf Go.Proofs.YtmlcaecknocpoaaDoorW.PrintWords Go.Proofs.YtmlcaecknocpoaaDoorW.PrintLast Go.Proofs.YtmlcaecknocpoaaDoor.Pr Go.Proofs.YtmlcaecknocpoaaDoor.Sp
attribute [local go_sem ↓] Go.wp_at_zero Go.wp_at_succ
theorem nbs_rd : ∀ (l : List S26) (j : Nat), j < l.length → nb (rd_T26 l j) ≤ nbs l
  | [], j, hj => by simp at hj
  | x :: l, 0, _ => by simp [nbs, rd_T26]
  | x :: l, j + 1, hj => by
    have := nbs_rd l j (by simpa using hj)
    have e : rd_T26 (x :: l) ((j + 1 : Nat) : Int) = rd_T26 l j := by simp [rd_T26]
    rw [e, nbs]; omega
theorem first_node (x : S26) (env : List S42) (h9 : x.f0 ≠ 9) (ha : Sp.atom x.f0 = false) : first x env = if fresh env x.f4 then firsts x.f5 (env ++ x.f4) else 82 := by
  obtain ⟨k, nm, n, ts, bs, l⟩ := x
  rw [first, if_neg h9, if_neg (by rw [ha]; decide)]
theorem walk_calls (w0 : World) (hk : Kinds w0) (s : Nat) : ∀ x : S26, size x ≤ s → Fm x → ∀ (A3 : Option Addr) (c3 : Nat) (A4 : Option Addr) (c4 : Nat) (A5 : Option Addr) (c5 : Nat) (env : List S42) (A : Option Addr) (c : Nat) (W : World), Below w0.heap.size w0 W → At W x A3 c3 A4 c4 A5 c5 →
    Kd.C k42 W A env.length env → env.length ≤ c → env.length + nb x ≤ 1000000000 →
    Calls Tryd.prog 66 #[.slice A env.length c, .agg #[.int .i64 x.f0, .string x.f1, .int .i64 x.f2, .slice A3 x.f3.length c3, .slice A4 x.f4.length c4, .slice A5 x.f5.length c5]] W
      fun e w' => e = .returned (.int .i64 (first x env)) ∧ Below W.heap.size W w' := by
  induction s with
  | zero => intro x h; rw [size_eq] at h; omega
  | succ s ih =>
    intro x hs hf A3 c3 A4 c4 A5 c5 env A c W hW hat hr hc hlen
    have node : x.f0 ≠ 9 → Sp.atom x.f0 = false → x.f3 = [] → Calls Tryd.prog 66 #[.slice A env.length c, .agg #[.int .i64 x.f0, .string x.f1, .int .i64 x.f2, .slice A3 x.f3.length c3, .slice A4 x.f4.length c4, .slice A5 x.f5.length c5]] W
        fun e w' => e = .returned (.int .i64 (first x env)) ∧ Below W.heap.size W w' := fun h9 ha h3 => by
      have hfo := form_of hf
      have hnb : nb x = x.f4.length + nbs x.f5 := by obtain ⟨k, nm, n, ts, bs, l⟩ := x; simp only [nb]
      have hsz := size_eq x
      have hfl : forms x.f5 = true := by obtain ⟨k, nm, n, ts, bs, l⟩ := x; simp only [form, Bool.and_eq_true] at hfo; exact hfo.2
      rw [first_node x env h9 ha]
      refine walk_node x A3 c3 A4 c4 A5 c5 env A c W hat h3 h9 hr hc (by omega) fun j hj W1 A' c' hb hC hl B3 d3 B4 d4 B5 d5 hat' => ?_
      have h1 := size_child x.f5 j hj
      have h2 := nbs_rd x.f5 j hj
      exact ih (rd_T26 x.f5 j) (by omega) (fm_of (forms_rd x.f5 hfl j hj)) B3 d3 B4 d4 B5 d5 (env ++ x.f4) A' c' W1 (hW.trans (hb.mono hW.size)) (hat'.below hb) hC hl (by rw [List.length_append]; omega)
    cases hf with
    | const hk' => exact node (by simp only; omega) (by simp [Sp.atom]; omega) rfl
    | @atom k ts h1 h2 h3 =>
      have ha : Sp.atom k = true := by simp [Sp.atom]; omega
      obtain ⟨t, u, rfl, ht, hu⟩ := two_of ha h3
      rw [first_atom h1 h2]
      exact walk_atom env A c k t u A3 c3 A4 c4 A5 c5 W hr hat.g3 (hk.below hW) (TK.of ht) (TK.of hu) h1 h2
    | @cmp nm ts h1 h2 =>
      obtain ⟨t, u, rfl, ht, hu⟩ := two_of (by rfl) h2
      rw [first_cmp]
      exact walk_cmp env A c nm t u A3 c3 A4 c4 A5 c5 W hr hat.g3 (hk.below hW) (TK.of ht) (TK.of hu)
    | not h => exact node (by simp only; omega) rfl rfl
    | two hk' _ _ => exact node (by simp only; omega) (by simp [Sp.atom]; omega) rfl
    | imp _ _ => exact node (by simp only; omega) rfl rfl
    | quant hk' _ _ => exact node (by simp only; omega) (by simp [Sp.atom]; omega) rfl
    | count hk' _ _ _ _ => exact node (by simp only; omega) (by simp [Sp.atom]; omega) rfl
structure EnvA (w : World) (env : List S42) (A : Option Addr) (c : Nat) : Prop where
  row : Kd.C k42 w A env.length env
  le : env.length ≤ c
  ok : ∀ b ∈ env, BOk b
theorem EnvA.below {w w1 : World} {env : List S42} {A : Option Addr} {c : Nat} (h : EnvA w env A c) (hb : Below w.heap.size w w1) : EnvA w1 env A c := ⟨Kd.C_below h.row hb, h.le, h.ok⟩
set_option maxRecDepth 100000 in
set_option maxHeartbeats 8000000 in
theorem typ_calls (env : List S42) (A : Option Addr) (c : Nat) (x : S26) (A3 : Option Addr) (c3 : Nat) (A4 : Option Addr) (c4 : Nat) (A5 : Option Addr) (c5 : Nat) (w : World) (hE : EnvA w env A c) (hat : At w x A3 c3 A4 c4 A5 c5) (hs : size x ≤ 4611686018427387904) (hd : Deep x) (ht : Tabs w) (hk : Kinds w) (hlen : env.length + nb x ≤ 1000000000) :
    Calls Tryd.prog 38 #[.slice A env.length c, .agg #[.int .i64 x.f0, .string x.f1, .int .i64 x.f2, .slice A3 x.f3.length c3, .slice A4 x.f4.length c4, .slice A5 x.f5.length c5]] w
      fun e w' => e = .returned (.int .i64 (typ env x)) ∧ Below w.heap.size w w' := by
  have hu26 := Tryd.underlying26
  have T1 := Aside0.mk (up1 w (.cells #[.int .i64 x.f0, .string x.f1, .int .i64 x.f2, .slice A3 x.f3.length c3, .slice A4 x.f4.length c4, .slice A5 x.f5.length c5] 26))
  have HB := Aside0.mk (BoxF.mk (heap_new w (.cells #[.int .i64 x.f0, .string x.f1, .int .i64 x.f2, .slice A3 x.f3.length c3, .slice A4 x.f4.length c4, .slice A5 x.f5.length c5] 26)) (hat.below T1.out))
  have C65 := Aside0.mk (fun (W : World) (hW : Below w.heap.size w W) => may_calls env A c W (Kd.C_below hE.row hW) hE.ok (ht.below hW))
  have C22 := Aside0.mk (fun (W : World) (hW : Below w.heap.size w W) => check_calls x A3 c3 A4 c4 A5 c5 W (hat.below hW) hs hd (ht.below hW))
  unfold typ
  cases he : envOk env with
  | false =>
    rw [he] at C65
    rw [if_neg (by decide)]
    clear hE hat hs hd ht hk hlen he C22
    go_enter Tryd.func38, Tryd.ntmps38
    go_wp2_with (go_at_call 65; (with_reducible refine (C65.out _ T1.out).mono ?_); rintro e w1 ⟨rfl, g⟩; replace T1 := Aside0.mk (T1.out.trans (g.mono T1.out.size)); clear g C65)
    go_ret
    exact ⟨rfl, T1.out⟩
  | true =>
    rw [he] at C65
    rw [if_pos rfl]
    by_cases hc : check x = 0
    · rw [if_pos hc]
      rw [hc] at C22
      have C66 := Aside0.mk (fun (W : World) (hW : Below w.heap.size w W) => walk_calls w hk (size x) x (Nat.le_refl _) (fm_of (check_zero.1 hc).1) A3 c3 A4 c4 A5 c5 env A c W hW (hat.below hW) (Kd.C_below hE.row hW) hE.le hlen)
      obtain ⟨r, hr⟩ : ∃ v, first x env = v := ⟨_, rfl⟩
      rw [hr] at C66 ⊢
      clear hE hat hs hd ht hk hlen he hc hr
      go_enter Tryd.func38, Tryd.ntmps38
      go_wp2_with (first
        | (go_at_call 65; (with_reducible refine (C65.out _ T1.out).mono ?_); rintro e w1 ⟨rfl, g⟩; replace T1 := Aside0.mk (T1.out.trans (g.mono T1.out.size)); replace HB := Aside0.mk (HB.out.below g); clear g C65; obtain ⟨p0, p1, p2, p3, p4, p5⟩ := HB.out.six)
        | (go_at_call 22; (with_reducible refine (C22.out _ T1.out).mono ?_); rintro e w2 ⟨rfl, g⟩; replace T1 := Aside0.mk (T1.out.trans (g.mono T1.out.size)); replace HB := Aside0.mk (HB.out.below g); clear g C22 p0 p1 p2 p3 p4 p5; obtain ⟨p0, p1, p2, p3, p4, p5⟩ := HB.out.six)
        | (go_at_call 66; (with_reducible refine (C66.out _ T1.out).mono ?_); rintro e w3 ⟨rfl, g⟩; replace T1 := Aside0.mk (T1.out.trans (g.mono T1.out.size)); clear g C66 p0 p1 p2 p3 p4 p5))
      go_ret
      exact ⟨rfl, T1.out⟩
    · rw [if_neg hc]
      obtain ⟨r, hr⟩ : ∃ v, check x = v := ⟨_, rfl⟩
      rw [hr] at C22 hc ⊢
      have b1 : (r != 0) = true := by simpa using hc
      clear hE hat hs hd ht hk hlen he hc hr
      go_enter Tryd.func38, Tryd.ntmps38
      go_wp2_with (first
        | (go_at_call 65; (with_reducible refine (C65.out _ T1.out).mono ?_); rintro e w1 ⟨rfl, g⟩; replace T1 := Aside0.mk (T1.out.trans (g.mono T1.out.size)); replace HB := Aside0.mk (HB.out.below g); clear g C65; obtain ⟨p0, p1, p2, p3, p4, p5⟩ := HB.out.six)
        | (go_at_call 22; (with_reducible refine (C22.out _ T1.out).mono ?_); rintro e w2 ⟨rfl, g⟩; replace T1 := Aside0.mk (T1.out.trans (g.mono T1.out.size)); clear g C22 p0 p1 p2 p3 p4 p5))
      go_ret
      exact ⟨rfl, T1.out⟩
def fT (t : S47) : S26 := ⟨9, ⟨#[61]⟩, 0, [t, t], [], []⟩
theorem fT_check (t : S47) : check (fT t) = if term t then 0 else 1 := by
  have e1 : form (fT t) = term t := by
    have h1 : isSign ⟨#[61]⟩ = true := by rfl
    simp [fT, form, here, forms, termsOk, show Sp.atom 9 = true from rfl, h1, bindsOk, show Sp.quant 9 = false from rfl, show arity 9 = some 0 from rfl]
  have e2 : size (fT t) = 1 := by simp [fT, size, sizes]
  have e3 : depth (fT t) = 1 := by simp [fT, depth, depths]
  unfold check
  rw [e1, e2, e3]
  simp
structure TOk (t : S47) : Prop where
  nm : t.f1.size ≤ 9223372036854775807
  k : I64 t.f0
  n : I64 t.f2
theorem fT_deep {t : S47} (h : TOk t) : Deep (fT t) :=
  deep_of ⟨rfl, (by decide : (⟨#[61]⟩ : ByteArray).size ≤ 9223372036854775807), by simp [fT]; exact h.nm, by simp [fT], rfl, by simp [fT]; exact ⟨h.k, h.n⟩, by simp [fT]⟩ (fun y hy => by simp [fT] at hy)
theorem checkT (t : S47) (h : TOk t) (W : World) (G : Nat) (hG : W.heap[G]? = some (.cells #[.int .i64 t.f0, .string t.f1, .int .i64 t.f2, .int .i64 t.f0, .string t.f1, .int .i64 t.f2] 47 (0, 0))) (ht : Tabs W) :
    Calls Tryd.prog 22 #[.agg #[.int .i64 9, .string ⟨#[61]⟩, .int .i64 0, .slice (some ⟨G, 0, none⟩) 2 2, .slice none 0 0, .slice none 0 0]] W fun e w' => e = .returned (.int .i64 (if term t then 0 else 1)) ∧ Below W.heap.size W w' := by
  have hh := check_calls (fT t) (some ⟨G, 0, none⟩) 2 none 0 none 0 W ⟨Nat.le_refl _, row_terms2 hG, Nat.le_refl _, Kd.C_nil _ _, Nat.le_refl _, Kd.C_nil _ _⟩ (by simp [fT, size, sizes]) (fT_deep h) ht
  rw [fT_check] at hh
  exact hh
set_option maxRecDepth 100000 in
set_option maxHeartbeats 8000000 in
theorem typT_calls (env : List S42) (A : Option Addr) (c : Nat) (t : S47) (w : World) (hE : EnvA w env A c) (hT : TOk t) (ht : Tabs w) (hk : Kinds w) :
    Calls Tryd.prog 41 #[.slice A env.length c, .agg #[.int .i64 t.f0, .string t.f1, .int .i64 t.f2]] w
      fun e w' => e = .returned (.tuple #[.int .i64 (typT env t).1, .int .i64 (typT env t).2]) ∧ Below w.heap.size w w' := by
  have hu26 := Tryd.underlying26
  have hu47 := Tryd.underlying47
  have T1 := Aside0.mk (up1 w (.cells #[.int .i64 t.f0, .string t.f1, .int .i64 t.f2] 47))
  have HB := Aside0.mk (heap_new w (.cells #[.int .i64 t.f0, .string t.f1, .int .i64 t.f2] 47))
  have C65 := Aside0.mk (fun (W : World) (hW : Below w.heap.size w W) => may_calls env A c W (Kd.C_below hE.row hW) hE.ok (ht.below hW))
  have C22 := Aside0.mk (fun (W : World) (hW : Below w.heap.size w W) G hG => checkT t hT W G hG (ht.below hW))
  unfold typT
  cases he : envOk env with
  | false =>
    rw [he] at C65
    rw [Bool.false_and, if_neg (by decide)]
    clear hE hT ht hk he C22
    go_enter Tryd.func41, Tryd.ntmps41
    go_wp2_with (go_at_call 65; (with_reducible refine (C65.out _ T1.out).mono ?_); rintro e w1 ⟨rfl, g⟩; replace T1 := Aside0.mk (T1.out.trans (g.mono T1.out.size)); clear g C65)
    go_ret2
    exact ⟨rfl, T1.out⟩
  | true =>
    rw [he] at C65
    rw [Bool.true_and]
    cases htm : term t with
    | false =>
      rw [htm, if_neg (by decide)] at C22
      rw [if_neg (by decide)]
      clear hE hT ht hk he htm
      go_enter Tryd.func41, Tryd.ntmps41
      go_wp2_with (first
        | (go_at_call 65; (with_reducible refine (C65.out _ T1.out).mono ?_); rintro e w1 ⟨rfl, g⟩; replace T1 := Aside0.mk (T1.out.trans (g.mono T1.out.size)); replace HB := Aside0.mk (blk_below g HB.out); clear g C65; have p0 := (blk_cell HB.out 0).trans rfl; have p1 := (blk_cell HB.out 1).trans rfl; have p2 := (blk_cell HB.out 2).trans rfl; have HN := Aside0.mk (heap_new w1 (.cells #[.int .i64 t.f0, .string t.f1, .int .i64 t.f2, .int .i64 t.f0, .string t.f1, .int .i64 t.f2] 47)); have T2 := Aside0.mk (T1.out.trans ((up1 w1 (.cells #[.int .i64 t.f0, .string t.f1, .int .i64 t.f2, .int .i64 t.f0, .string t.f1, .int .i64 t.f2] 47)).mono T1.out.size)))
        | (go_at_call 22; (with_reducible refine (C22.out _ T2.out _ HN.out).mono ?_); rintro e w2 ⟨rfl, g⟩; replace T2 := Aside0.mk (T2.out.trans (g.mono T2.out.size)); clear g C22 p0 p1 p2))
      go_ret2
      exact ⟨rfl, T2.out⟩
    | true =>
      rw [htm, if_pos rfl] at C22
      rw [if_pos rfl]
      have C67 := Aside0.mk (fun (W : World) (hW : Below w.heap.size w W) => sort_calls env A c t W (Kd.C_below hE.row hW) (hk.below hW) (TK.of htm))
      obtain ⟨⟨r1, r2⟩, hr⟩ : ∃ v, sortT env t = v := ⟨_, rfl⟩
      rw [hr] at C67 ⊢
      dsimp only at C67 ⊢
      clear hE hT ht hk he htm hr
      go_enter Tryd.func41, Tryd.ntmps41
      go_wp2_with (first
        | (go_at_call 65; (with_reducible refine (C65.out _ T1.out).mono ?_); rintro e w1 ⟨rfl, g⟩; replace T1 := Aside0.mk (T1.out.trans (g.mono T1.out.size)); replace HB := Aside0.mk (blk_below g HB.out); clear g C65; have p0 := (blk_cell HB.out 0).trans rfl; have p1 := (blk_cell HB.out 1).trans rfl; have p2 := (blk_cell HB.out 2).trans rfl; have HN := Aside0.mk (heap_new w1 (.cells #[.int .i64 t.f0, .string t.f1, .int .i64 t.f2, .int .i64 t.f0, .string t.f1, .int .i64 t.f2] 47)); have T2 := Aside0.mk (T1.out.trans ((up1 w1 (.cells #[.int .i64 t.f0, .string t.f1, .int .i64 t.f2, .int .i64 t.f0, .string t.f1, .int .i64 t.f2] 47)).mono T1.out.size)); replace HB := Aside0.mk (blk_below (up1 w1 (.cells #[.int .i64 t.f0, .string t.f1, .int .i64 t.f2, .int .i64 t.f0, .string t.f1, .int .i64 t.f2] 47)) HB.out))
        | (go_at_call 22; (with_reducible refine (C22.out _ T2.out _ HN.out).mono ?_); rintro e w2 ⟨rfl, g⟩; replace T2 := Aside0.mk (T2.out.trans (g.mono T2.out.size)); replace HB := Aside0.mk (blk_below g HB.out); clear g C22 p0 p1 p2; have p0 := (blk_cell HB.out 0).trans rfl; have p1 := (blk_cell HB.out 1).trans rfl; have p2 := (blk_cell HB.out 2).trans rfl)
        | (go_at_call 67; (with_reducible refine (C67.out _ T2.out).mono ?_); rintro e w3 ⟨rfl, g⟩; replace T2 := Aside0.mk (T2.out.trans (g.mono T2.out.size)); clear g C67 p0 p1 p2))
      go_ret2
      exact ⟨rfl, T2.out⟩
end Go.Proofs.YtmlcaecknocpoaaDoor.It
namespace Go.Proofs.YtmlcaecknocpoaaDoor.It
set_option linter.unusedVariables false
set_option linter.unusedSimpArgs false
open Go Go.RowKit Go.Shelf Go.Proofs.YtmlcaecknocpoaaDoorW.PrintWords Go.Proofs.YtmlcaecknocpoaaDoorW.PrintLast Go.Proofs.YtmlcaecknocpoaaDoor.Pr Go.Proofs.YtmlcaecknocpoaaDoor.Sp
attribute [local go_sem ↓] Go.wp_at_zero Go.wp_at_succ
structure AtR (w : World) (r : S54) (A3 : Option Addr) (c3 : Nat) (A7 : Option Addr) (c7 : Nat) (A8 : Option Addr) (c8 : Nat) (A9 : Option Addr) (c9 : Nat) : Prop where
  le : r.f3.length ≤ c3
  row : Kd.C k42 w A3 r.f3.length r.f3
  body : At w r.f4 A7 c7 A8 c8 A9 c9
theorem AtR.below {w w1 : World} {r : S54} {A3 : Option Addr} {c3 : Nat} {A7 : Option Addr} {c7 : Nat} {A8 : Option Addr} {c8 : Nat} {A9 : Option Addr} {c9 : Nat} (h : AtR w r A3 c3 A7 c7 A8 c8 A9 c9) (hb : Below w.heap.size w w1) : AtR w1 r A3 c3 A7 c7 A8 c8 A9 c9 := ⟨h.le, Kd.C_below h.row hb, h.body.below hb⟩
structure ROk (r : S54) : Prop where
  nm : r.f0.size ≤ 9223372036854775807
  wt : I64 r.f2
  each : ∀ b ∈ r.f3, BOk b
  deep : Deep r.f4
  size : Sp.size r.f4 ≤ 4611686018427387904
  few : r.f3.length + It.nb r.f4 ≤ 1000000000
theorem tenR {W : World} {B : Nat} {r : S54} {q : Bool} {A3 : Option Addr} {c3 : Nat} {A7 : Option Addr} {c7 : Nat} {A8 : Option Addr} {c8 : Nat} {A9 : Option Addr} {c9 : Nat} (h : W.heap[B]? = some (.cells #[.string r.f0, .bool q, .int .i64 r.f2, .slice A3 r.f3.length c3, .int .i64 r.f4.f0, .string r.f4.f1, .int .i64 r.f4.f2, .slice A7 r.f4.f3.length c7, .slice A8 r.f4.f4.length c8, .slice A9 r.f4.f5.length c9] 54 (0, 0))) :
    W.cell? ⟨B, 0, none⟩ = some (.string r.f0) ∧ W.cell? ⟨B, 1, none⟩ = some (.bool q) ∧ W.cell? ⟨B, 2, none⟩ = some (.int .i64 r.f2) ∧ W.cell? ⟨B, 3, none⟩ = some (.slice A3 r.f3.length c3) ∧ W.cell? ⟨B, 4, none⟩ = some (.int .i64 r.f4.f0) ∧ W.cell? ⟨B, 5, none⟩ = some (.string r.f4.f1) ∧ W.cell? ⟨B, 6, none⟩ = some (.int .i64 r.f4.f2) ∧ W.cell? ⟨B, 7, none⟩ = some (.slice A7 r.f4.f3.length c7) ∧ W.cell? ⟨B, 8, none⟩ = some (.slice A8 r.f4.f4.length c8) ∧ W.cell? ⟨B, 9, none⟩ = some (.slice A9 r.f4.f5.length c9) :=
  ⟨(blk_cell h 0).trans rfl, (blk_cell h 1).trans rfl, (blk_cell h 2).trans rfl, (blk_cell h 3).trans rfl, (blk_cell h 4).trans rfl, (blk_cell h 5).trans rfl, (blk_cell h 6).trans rfl, (blk_cell h 7).trans rfl, (blk_cell h 8).trans rfl, (blk_cell h 9).trans rfl⟩
theorem any_not_bind (l : List S42) : (l.any fun b => !Sp.bind b) = !(l.all Sp.bind) := by
  induction l with
  | nil => rfl
  | cons b l ih => rw [List.any_cons, List.all_cons, ih]; cases Sp.bind b <;> rfl
theorem bind_name (nm : ByteArray) : Sp.bind ⟨nm, 1⟩ = name nm := by simp [Sp.bind]
set_option maxRecDepth 100000 in
set_option maxHeartbeats 8000000 in
theorem rule_true (r : S54) (A3 : Option Addr) (c3 : Nat) (A7 : Option Addr) (c7 : Nat) (A8 : Option Addr) (c8 : Nat) (A9 : Option Addr) (c9 : Nat) (w : World) (hat : AtR w r A3 c3 A7 c7 A8 c8 A9 c9) (ho : ROk r) (ht : Tabs w) (hk : Kinds w) (hh : r.f1 = true) : Calls Tryd.prog 46 #[.agg #[.string r.f0, .bool r.f1, .int .i64 r.f2, .slice A3 r.f3.length c3, .int .i64 r.f4.f0, .string r.f4.f1, .int .i64 r.f4.f2, .slice A7 r.f4.f3.length c7, .slice A8 r.f4.f4.length c8, .slice A9 r.f4.f5.length c9]] w fun e w' => e = .returned (.int .i64 (rule r)) ∧ Below w.heap.size w w' := by
  have hu26 := Tryd.underlying26
  have hu54 := Tryd.underlying54
  have T1 := Aside0.mk (up1 w (.cells #[.string r.f0, .bool r.f1, .int .i64 r.f2, .slice A3 r.f3.length c3, .int .i64 r.f4.f0, .string r.f4.f1, .int .i64 r.f4.f2, .slice A7 r.f4.f3.length c7, .slice A8 r.f4.f4.length c8, .slice A9 r.f4.f5.length c9] 54))
  have RB := Aside0.mk (heap_new w (.cells #[.string r.f0, .bool r.f1, .int .i64 r.f2, .slice A3 r.f3.length c3, .int .i64 r.f4.f0, .string r.f4.f1, .int .i64 r.f4.f2, .slice A7 r.f4.f3.length c7, .slice A8 r.f4.f4.length c8, .slice A9 r.f4.f5.length c9] 54))
  have C72 := Aside0.mk (fun (W : World) (hW : Below w.heap.size w W) => formedB_calls ⟨r.f0, 1⟩ ⟨ho.nm, rfl⟩ W (ht.below hW))
  have C73 := Aside0.mk (fun (W : World) (hW : Below w.heap.size w W) => containsB_calls 71 #[] enters71 (fun b => !Sp.bind b) BOk A3 c3 r.f3 W (Kd.C_below hat.row hW) ho.each (fun b hb W1 hW1 => rule1_calls b hb W1 (ht.below (hW.trans (hW1.mono hW.size)))))
  have C22 := Aside0.mk (fun (W : World) (hW : Below w.heap.size w W) => check_calls r.f4 A7 c7 A8 c8 A9 c9 W (hat.body.below hW) ho.size ho.deep (ht.below hW))
  have C65 := Aside0.mk (fun (W : World) (hW : Below w.heap.size w W) => may_calls r.f3 A3 c3 W (Kd.C_below hat.row hW) ho.each (ht.below hW))
  have C66 := Aside0.mk (fun (hF : Fm r.f4) (W : World) (hW : Below w.heap.size w W) => walk_calls w hk (Sp.size r.f4) r.f4 (Nat.le_refl _) hF A7 c7 A8 c8 A9 c9 r.f3 A3 c3 W hW (hat.body.below hW) (Kd.C_below hat.row hW) hat.le ho.few)
  unfold rule
  rw [hh]
  rw [hh] at RB T1
  rw [bind_name] at C72
  rw [any_not_bind] at C73
  unfold bVal at C72
  dsimp only at C72
  clear hat ho ht hk
  cases hn : name r.f0 with
  | false =>
    rw [hn] at C72
    simp only [Bool.false_and, Bool.false_eq_true, if_false]
    clear C73 C22 C65 C66
    go_enter Tryd.func46, Tryd.ntmps46
    go_wp2_with ((go_at_call 72; (with_reducible refine (C72.out _ T1.out).mono ?_); rintro e w1 ⟨rfl, g⟩; replace T1 := Aside0.mk (T1.out.trans (g.mono T1.out.size)); replace RB := Aside0.mk (blk_below g RB.out); clear g C72; skip))
    go_ret
    exact ⟨rfl, T1.out⟩
  | true =>
    rw [hn] at C72
    simp only [Bool.true_and]
    by_cases w1 : r.f2 < 0
    · rw [show (weight true r.f2 && decide (r.f3.length ≤ 6) && r.f3.all Sp.bind) = false by simp [weight]; omega]
      simp only [Bool.false_eq_true, if_false]
      clear C73 C22 C65 C66 hh
      go_enter Tryd.func46, Tryd.ntmps46
      go_wp2_with (first
        | (go_at_call 72; (with_reducible refine (C72.out _ T1.out).mono ?_); rintro e w1 ⟨rfl, g⟩; replace T1 := Aside0.mk (T1.out.trans (g.mono T1.out.size)); replace RB := Aside0.mk (blk_below g RB.out); clear g C72; skip; obtain ⟨b0, b1, b2, b3, b4, b5, b6, b7, b8, b9⟩ := tenR RB.out))
      go_ret
      exact ⟨rfl, T1.out⟩
    · by_cases w2 : r.f2 > 0
      · rw [show (weight true r.f2 && decide (r.f3.length ≤ 6) && r.f3.all Sp.bind) = false by simp [weight]; omega]
        simp only [Bool.false_eq_true, if_false]
        clear C73 C22 C65 C66 hh
        go_enter Tryd.func46, Tryd.ntmps46
        go_wp2_with (first
          | (go_at_call 72; (with_reducible refine (C72.out _ T1.out).mono ?_); rintro e w1 ⟨rfl, g⟩; replace T1 := Aside0.mk (T1.out.trans (g.mono T1.out.size)); replace RB := Aside0.mk (blk_below g RB.out); clear g C72; skip; obtain ⟨b0, b1, b2, b3, b4, b5, b6, b7, b8, b9⟩ := tenR RB.out))
        go_ret
        exact ⟨rfl, T1.out⟩
      · have hw : weight true r.f2 = true := by simp [weight]; omega
        rw [hw, Bool.true_and]
        by_cases h6 : r.f3.length ≤ 6
        · have h6z : ¬ (r.f3.length : Int) > 6 := by omega
          rw [decide_eq_true h6, Bool.true_and]
          cases hb : r.f3.all Sp.bind with
          | false =>
            rw [hb] at C73
            simp only [Bool.false_eq_true, if_false]
            clear C22 C65 C66 hh hw hb hn
            go_enter Tryd.func46, Tryd.ntmps46
            go_wp2_with (first
              | (go_at_call 72; (with_reducible refine (C72.out _ T1.out).mono ?_); rintro e w1 ⟨rfl, g⟩; replace T1 := Aside0.mk (T1.out.trans (g.mono T1.out.size)); replace RB := Aside0.mk (blk_below g RB.out); clear g C72; skip; obtain ⟨b0, b1, b2, b3, b4, b5, b6, b7, b8, b9⟩ := tenR RB.out)
              | (go_at_call 73; (with_reducible refine (C73.out _ T1.out).mono ?_); rintro e w1 ⟨rfl, g⟩; replace T1 := Aside0.mk (T1.out.trans (g.mono T1.out.size)); replace RB := Aside0.mk (blk_below g RB.out); clear g C73; clear b0 b1 b2 b3 b4 b5 b6 b7 b8 b9))
            go_ret
            exact ⟨rfl, T1.out⟩
          | true =>
            rw [hb] at C73
            rw [if_pos rfl]
            by_cases hc : check r.f4 = 0
            · rw [if_pos hc]
              rw [hc] at C22
              have C67 := Aside0.mk (C66.out (fm_of (check_zero.1 hc).1))
              have he : envOk r.f3 = fresh [] r.f3 := by unfold envOk; rw [hb]; rfl
              rw [he] at C65
              cases hf : fresh [] r.f3 with
              | false =>
                rw [hf] at C65
                simp only [Bool.false_eq_true, if_false]
                clear C66 C67 hh hw hb hn hc he hf
                go_enter Tryd.func46, Tryd.ntmps46
                go_wp2_with (first
                  | (go_at_call 72; (with_reducible refine (C72.out _ T1.out).mono ?_); rintro e w1 ⟨rfl, g⟩; replace T1 := Aside0.mk (T1.out.trans (g.mono T1.out.size)); replace RB := Aside0.mk (blk_below g RB.out); clear g C72; skip; obtain ⟨b0, b1, b2, b3, b4, b5, b6, b7, b8, b9⟩ := tenR RB.out)
                  | (go_at_call 73; (with_reducible refine (C73.out _ T1.out).mono ?_); rintro e w1 ⟨rfl, g⟩; replace T1 := Aside0.mk (T1.out.trans (g.mono T1.out.size)); replace RB := Aside0.mk (blk_below g RB.out); clear g C73; clear b0 b1 b2 b3 b4 b5 b6 b7 b8 b9; obtain ⟨b0, b1, b2, b3, b4, b5, b6, b7, b8, b9⟩ := tenR RB.out)
                  | (go_at_call 22; (with_reducible refine (C22.out _ T1.out).mono ?_); rintro e w1 ⟨rfl, g⟩; replace T1 := Aside0.mk (T1.out.trans (g.mono T1.out.size)); replace RB := Aside0.mk (blk_below g RB.out); clear g C22; clear b0 b1 b2 b3 b4 b5 b6 b7 b8 b9; obtain ⟨b0, b1, b2, b3, b4, b5, b6, b7, b8, b9⟩ := tenR RB.out)
                  | (go_at_call 65; (with_reducible refine (C65.out _ T1.out).mono ?_); rintro e w1 ⟨rfl, g⟩; replace T1 := Aside0.mk (T1.out.trans (g.mono T1.out.size)); replace RB := Aside0.mk (blk_below g RB.out); clear g C65; clear b0 b1 b2 b3 b4 b5 b6 b7 b8 b9))
                go_ret
                exact ⟨rfl, T1.out⟩
              | true =>
                rw [hf] at C65
                rw [if_pos rfl]
                obtain ⟨v, hv⟩ : ∃ v, first r.f4 r.f3 = v := ⟨_, rfl⟩
                rw [hv] at C67 ⊢
                clear C66 hh hw hb hn hc he hf hv
                go_enter Tryd.func46, Tryd.ntmps46
                go_wp2_with (first
                  | (go_at_call 72; (with_reducible refine (C72.out _ T1.out).mono ?_); rintro e w1 ⟨rfl, g⟩; replace T1 := Aside0.mk (T1.out.trans (g.mono T1.out.size)); replace RB := Aside0.mk (blk_below g RB.out); clear g C72; skip; obtain ⟨b0, b1, b2, b3, b4, b5, b6, b7, b8, b9⟩ := tenR RB.out)
                  | (go_at_call 73; (with_reducible refine (C73.out _ T1.out).mono ?_); rintro e w1 ⟨rfl, g⟩; replace T1 := Aside0.mk (T1.out.trans (g.mono T1.out.size)); replace RB := Aside0.mk (blk_below g RB.out); clear g C73; clear b0 b1 b2 b3 b4 b5 b6 b7 b8 b9; obtain ⟨b0, b1, b2, b3, b4, b5, b6, b7, b8, b9⟩ := tenR RB.out)
                  | (go_at_call 22; (with_reducible refine (C22.out _ T1.out).mono ?_); rintro e w1 ⟨rfl, g⟩; replace T1 := Aside0.mk (T1.out.trans (g.mono T1.out.size)); replace RB := Aside0.mk (blk_below g RB.out); clear g C22; clear b0 b1 b2 b3 b4 b5 b6 b7 b8 b9; obtain ⟨b0, b1, b2, b3, b4, b5, b6, b7, b8, b9⟩ := tenR RB.out)
                  | (go_at_call 65; (with_reducible refine (C65.out _ T1.out).mono ?_); rintro e w1 ⟨rfl, g⟩; replace T1 := Aside0.mk (T1.out.trans (g.mono T1.out.size)); replace RB := Aside0.mk (blk_below g RB.out); clear g C65; clear b0 b1 b2 b3 b4 b5 b6 b7 b8 b9; obtain ⟨b0, b1, b2, b3, b4, b5, b6, b7, b8, b9⟩ := tenR RB.out)
                  | (go_at_call 66; (with_reducible refine (C67.out _ T1.out).mono ?_); rintro e w1 ⟨rfl, g⟩; replace T1 := Aside0.mk (T1.out.trans (g.mono T1.out.size)); replace RB := Aside0.mk (blk_below g RB.out); clear g C67; clear b0 b1 b2 b3 b4 b5 b6 b7 b8 b9))
                go_ret
                exact ⟨rfl, T1.out⟩
            · rw [if_neg hc]
              obtain ⟨v, hv⟩ : ∃ v, check r.f4 = v := ⟨_, rfl⟩
              rw [hv] at C22 hc ⊢
              have bv : (v != 0) = true := by simpa using hc
              clear C66 C65 hh hw hb hn hc hv
              go_enter Tryd.func46, Tryd.ntmps46
              go_wp2_with (first
                | (go_at_call 72; (with_reducible refine (C72.out _ T1.out).mono ?_); rintro e w1 ⟨rfl, g⟩; replace T1 := Aside0.mk (T1.out.trans (g.mono T1.out.size)); replace RB := Aside0.mk (blk_below g RB.out); clear g C72; skip; obtain ⟨b0, b1, b2, b3, b4, b5, b6, b7, b8, b9⟩ := tenR RB.out)
                | (go_at_call 73; (with_reducible refine (C73.out _ T1.out).mono ?_); rintro e w1 ⟨rfl, g⟩; replace T1 := Aside0.mk (T1.out.trans (g.mono T1.out.size)); replace RB := Aside0.mk (blk_below g RB.out); clear g C73; clear b0 b1 b2 b3 b4 b5 b6 b7 b8 b9; obtain ⟨b0, b1, b2, b3, b4, b5, b6, b7, b8, b9⟩ := tenR RB.out)
                | (go_at_call 22; (with_reducible refine (C22.out _ T1.out).mono ?_); rintro e w1 ⟨rfl, g⟩; replace T1 := Aside0.mk (T1.out.trans (g.mono T1.out.size)); replace RB := Aside0.mk (blk_below g RB.out); clear g C22; clear b0 b1 b2 b3 b4 b5 b6 b7 b8 b9))
              go_ret
              exact ⟨rfl, T1.out⟩
        · have h6z : (r.f3.length : Int) > 6 := by omega
          rw [decide_eq_false h6, Bool.false_and]
          simp only [Bool.false_eq_true, if_false]
          clear C73 C22 C65 C66 hh hw
          go_enter Tryd.func46, Tryd.ntmps46
          go_wp2_with (first
            | (go_at_call 72; (with_reducible refine (C72.out _ T1.out).mono ?_); rintro e w1 ⟨rfl, g⟩; replace T1 := Aside0.mk (T1.out.trans (g.mono T1.out.size)); replace RB := Aside0.mk (blk_below g RB.out); clear g C72; skip; obtain ⟨b0, b1, b2, b3, b4, b5, b6, b7, b8, b9⟩ := tenR RB.out))
          go_ret
          exact ⟨rfl, T1.out⟩
set_option maxRecDepth 100000 in
set_option maxHeartbeats 8000000 in
theorem rule_false (r : S54) (A3 : Option Addr) (c3 : Nat) (A7 : Option Addr) (c7 : Nat) (A8 : Option Addr) (c8 : Nat) (A9 : Option Addr) (c9 : Nat) (w : World) (hat : AtR w r A3 c3 A7 c7 A8 c8 A9 c9) (ho : ROk r) (ht : Tabs w) (hk : Kinds w) (hh : r.f1 = false) : Calls Tryd.prog 46 #[.agg #[.string r.f0, .bool r.f1, .int .i64 r.f2, .slice A3 r.f3.length c3, .int .i64 r.f4.f0, .string r.f4.f1, .int .i64 r.f4.f2, .slice A7 r.f4.f3.length c7, .slice A8 r.f4.f4.length c8, .slice A9 r.f4.f5.length c9]] w fun e w' => e = .returned (.int .i64 (rule r)) ∧ Below w.heap.size w w' := by
  have hu26 := Tryd.underlying26
  have hu54 := Tryd.underlying54
  have T1 := Aside0.mk (up1 w (.cells #[.string r.f0, .bool r.f1, .int .i64 r.f2, .slice A3 r.f3.length c3, .int .i64 r.f4.f0, .string r.f4.f1, .int .i64 r.f4.f2, .slice A7 r.f4.f3.length c7, .slice A8 r.f4.f4.length c8, .slice A9 r.f4.f5.length c9] 54))
  have RB := Aside0.mk (heap_new w (.cells #[.string r.f0, .bool r.f1, .int .i64 r.f2, .slice A3 r.f3.length c3, .int .i64 r.f4.f0, .string r.f4.f1, .int .i64 r.f4.f2, .slice A7 r.f4.f3.length c7, .slice A8 r.f4.f4.length c8, .slice A9 r.f4.f5.length c9] 54))
  have C72 := Aside0.mk (fun (W : World) (hW : Below w.heap.size w W) => formedB_calls ⟨r.f0, 1⟩ ⟨ho.nm, rfl⟩ W (ht.below hW))
  have C73 := Aside0.mk (fun (W : World) (hW : Below w.heap.size w W) => containsB_calls 71 #[] enters71 (fun b => !Sp.bind b) BOk A3 c3 r.f3 W (Kd.C_below hat.row hW) ho.each (fun b hb W1 hW1 => rule1_calls b hb W1 (ht.below (hW.trans (hW1.mono hW.size)))))
  have C22 := Aside0.mk (fun (W : World) (hW : Below w.heap.size w W) => check_calls r.f4 A7 c7 A8 c8 A9 c9 W (hat.body.below hW) ho.size ho.deep (ht.below hW))
  have C65 := Aside0.mk (fun (W : World) (hW : Below w.heap.size w W) => may_calls r.f3 A3 c3 W (Kd.C_below hat.row hW) ho.each (ht.below hW))
  have C66 := Aside0.mk (fun (hF : Fm r.f4) (W : World) (hW : Below w.heap.size w W) => walk_calls w hk (Sp.size r.f4) r.f4 (Nat.le_refl _) hF A7 c7 A8 c8 A9 c9 r.f3 A3 c3 W hW (hat.body.below hW) (Kd.C_below hat.row hW) hat.le ho.few)
  unfold rule
  rw [hh]
  rw [hh] at RB T1
  rw [bind_name] at C72
  rw [any_not_bind] at C73
  unfold bVal at C72
  dsimp only at C72
  clear hat ho ht hk
  cases hn : name r.f0 with
  | false =>
    rw [hn] at C72
    simp only [Bool.false_and, Bool.false_eq_true, if_false]
    clear C73 C22 C65 C66
    go_enter Tryd.func46, Tryd.ntmps46
    go_wp2_with ((go_at_call 72; (with_reducible refine (C72.out _ T1.out).mono ?_); rintro e w1 ⟨rfl, g⟩; replace T1 := Aside0.mk (T1.out.trans (g.mono T1.out.size)); replace RB := Aside0.mk (blk_below g RB.out); clear g C72; skip))
    go_ret
    exact ⟨rfl, T1.out⟩
  | true =>
    rw [hn] at C72
    simp only [Bool.true_and]
    by_cases w1 : r.f2 < 1
    · rw [show (weight false r.f2 && decide (r.f3.length ≤ 6) && r.f3.all Sp.bind) = false by simp [weight]; omega]
      simp only [Bool.false_eq_true, if_false]
      clear C73 C22 C65 C66 hh
      go_enter Tryd.func46, Tryd.ntmps46
      go_wp2_with (first
        | (go_at_call 72; (with_reducible refine (C72.out _ T1.out).mono ?_); rintro e w1 ⟨rfl, g⟩; replace T1 := Aside0.mk (T1.out.trans (g.mono T1.out.size)); replace RB := Aside0.mk (blk_below g RB.out); clear g C72; skip; obtain ⟨b0, b1, b2, b3, b4, b5, b6, b7, b8, b9⟩ := tenR RB.out))
      go_ret
      exact ⟨rfl, T1.out⟩
    · by_cases w2 : r.f2 > 1000
      · rw [show (weight false r.f2 && decide (r.f3.length ≤ 6) && r.f3.all Sp.bind) = false by simp [weight]; omega]
        simp only [Bool.false_eq_true, if_false]
        clear C73 C22 C65 C66 hh
        go_enter Tryd.func46, Tryd.ntmps46
        go_wp2_with (first
          | (go_at_call 72; (with_reducible refine (C72.out _ T1.out).mono ?_); rintro e w1 ⟨rfl, g⟩; replace T1 := Aside0.mk (T1.out.trans (g.mono T1.out.size)); replace RB := Aside0.mk (blk_below g RB.out); clear g C72; skip; obtain ⟨b0, b1, b2, b3, b4, b5, b6, b7, b8, b9⟩ := tenR RB.out))
        go_ret
        exact ⟨rfl, T1.out⟩
      · have hw : weight false r.f2 = true := by simp [weight]; omega
        rw [hw, Bool.true_and]
        by_cases h6 : r.f3.length ≤ 6
        · have h6z : ¬ (r.f3.length : Int) > 6 := by omega
          rw [decide_eq_true h6, Bool.true_and]
          cases hb : r.f3.all Sp.bind with
          | false =>
            rw [hb] at C73
            simp only [Bool.false_eq_true, if_false]
            clear C22 C65 C66 hh hw hb hn
            go_enter Tryd.func46, Tryd.ntmps46
            go_wp2_with (first
              | (go_at_call 72; (with_reducible refine (C72.out _ T1.out).mono ?_); rintro e w1 ⟨rfl, g⟩; replace T1 := Aside0.mk (T1.out.trans (g.mono T1.out.size)); replace RB := Aside0.mk (blk_below g RB.out); clear g C72; skip; obtain ⟨b0, b1, b2, b3, b4, b5, b6, b7, b8, b9⟩ := tenR RB.out)
              | (go_at_call 73; (with_reducible refine (C73.out _ T1.out).mono ?_); rintro e w1 ⟨rfl, g⟩; replace T1 := Aside0.mk (T1.out.trans (g.mono T1.out.size)); replace RB := Aside0.mk (blk_below g RB.out); clear g C73; clear b0 b1 b2 b3 b4 b5 b6 b7 b8 b9))
            go_ret
            exact ⟨rfl, T1.out⟩
          | true =>
            rw [hb] at C73
            rw [if_pos rfl]
            by_cases hc : check r.f4 = 0
            · rw [if_pos hc]
              rw [hc] at C22
              have C67 := Aside0.mk (C66.out (fm_of (check_zero.1 hc).1))
              have he : envOk r.f3 = fresh [] r.f3 := by unfold envOk; rw [hb]; rfl
              rw [he] at C65
              cases hf : fresh [] r.f3 with
              | false =>
                rw [hf] at C65
                simp only [Bool.false_eq_true, if_false]
                clear C66 C67 hh hw hb hn hc he hf
                go_enter Tryd.func46, Tryd.ntmps46
                go_wp2_with (first
                  | (go_at_call 72; (with_reducible refine (C72.out _ T1.out).mono ?_); rintro e w1 ⟨rfl, g⟩; replace T1 := Aside0.mk (T1.out.trans (g.mono T1.out.size)); replace RB := Aside0.mk (blk_below g RB.out); clear g C72; skip; obtain ⟨b0, b1, b2, b3, b4, b5, b6, b7, b8, b9⟩ := tenR RB.out)
                  | (go_at_call 73; (with_reducible refine (C73.out _ T1.out).mono ?_); rintro e w1 ⟨rfl, g⟩; replace T1 := Aside0.mk (T1.out.trans (g.mono T1.out.size)); replace RB := Aside0.mk (blk_below g RB.out); clear g C73; clear b0 b1 b2 b3 b4 b5 b6 b7 b8 b9; obtain ⟨b0, b1, b2, b3, b4, b5, b6, b7, b8, b9⟩ := tenR RB.out)
                  | (go_at_call 22; (with_reducible refine (C22.out _ T1.out).mono ?_); rintro e w1 ⟨rfl, g⟩; replace T1 := Aside0.mk (T1.out.trans (g.mono T1.out.size)); replace RB := Aside0.mk (blk_below g RB.out); clear g C22; clear b0 b1 b2 b3 b4 b5 b6 b7 b8 b9; obtain ⟨b0, b1, b2, b3, b4, b5, b6, b7, b8, b9⟩ := tenR RB.out)
                  | (go_at_call 65; (with_reducible refine (C65.out _ T1.out).mono ?_); rintro e w1 ⟨rfl, g⟩; replace T1 := Aside0.mk (T1.out.trans (g.mono T1.out.size)); replace RB := Aside0.mk (blk_below g RB.out); clear g C65; clear b0 b1 b2 b3 b4 b5 b6 b7 b8 b9))
                go_ret
                exact ⟨rfl, T1.out⟩
              | true =>
                rw [hf] at C65
                rw [if_pos rfl]
                obtain ⟨v, hv⟩ : ∃ v, first r.f4 r.f3 = v := ⟨_, rfl⟩
                rw [hv] at C67 ⊢
                clear C66 hh hw hb hn hc he hf hv
                go_enter Tryd.func46, Tryd.ntmps46
                go_wp2_with (first
                  | (go_at_call 72; (with_reducible refine (C72.out _ T1.out).mono ?_); rintro e w1 ⟨rfl, g⟩; replace T1 := Aside0.mk (T1.out.trans (g.mono T1.out.size)); replace RB := Aside0.mk (blk_below g RB.out); clear g C72; skip; obtain ⟨b0, b1, b2, b3, b4, b5, b6, b7, b8, b9⟩ := tenR RB.out)
                  | (go_at_call 73; (with_reducible refine (C73.out _ T1.out).mono ?_); rintro e w1 ⟨rfl, g⟩; replace T1 := Aside0.mk (T1.out.trans (g.mono T1.out.size)); replace RB := Aside0.mk (blk_below g RB.out); clear g C73; clear b0 b1 b2 b3 b4 b5 b6 b7 b8 b9; obtain ⟨b0, b1, b2, b3, b4, b5, b6, b7, b8, b9⟩ := tenR RB.out)
                  | (go_at_call 22; (with_reducible refine (C22.out _ T1.out).mono ?_); rintro e w1 ⟨rfl, g⟩; replace T1 := Aside0.mk (T1.out.trans (g.mono T1.out.size)); replace RB := Aside0.mk (blk_below g RB.out); clear g C22; clear b0 b1 b2 b3 b4 b5 b6 b7 b8 b9; obtain ⟨b0, b1, b2, b3, b4, b5, b6, b7, b8, b9⟩ := tenR RB.out)
                  | (go_at_call 65; (with_reducible refine (C65.out _ T1.out).mono ?_); rintro e w1 ⟨rfl, g⟩; replace T1 := Aside0.mk (T1.out.trans (g.mono T1.out.size)); replace RB := Aside0.mk (blk_below g RB.out); clear g C65; clear b0 b1 b2 b3 b4 b5 b6 b7 b8 b9; obtain ⟨b0, b1, b2, b3, b4, b5, b6, b7, b8, b9⟩ := tenR RB.out)
                  | (go_at_call 66; (with_reducible refine (C67.out _ T1.out).mono ?_); rintro e w1 ⟨rfl, g⟩; replace T1 := Aside0.mk (T1.out.trans (g.mono T1.out.size)); replace RB := Aside0.mk (blk_below g RB.out); clear g C67; clear b0 b1 b2 b3 b4 b5 b6 b7 b8 b9))
                go_ret
                exact ⟨rfl, T1.out⟩
            · rw [if_neg hc]
              obtain ⟨v, hv⟩ : ∃ v, check r.f4 = v := ⟨_, rfl⟩
              rw [hv] at C22 hc ⊢
              have bv : (v != 0) = true := by simpa using hc
              clear C66 C65 hh hw hb hn hc hv
              go_enter Tryd.func46, Tryd.ntmps46
              go_wp2_with (first
                | (go_at_call 72; (with_reducible refine (C72.out _ T1.out).mono ?_); rintro e w1 ⟨rfl, g⟩; replace T1 := Aside0.mk (T1.out.trans (g.mono T1.out.size)); replace RB := Aside0.mk (blk_below g RB.out); clear g C72; skip; obtain ⟨b0, b1, b2, b3, b4, b5, b6, b7, b8, b9⟩ := tenR RB.out)
                | (go_at_call 73; (with_reducible refine (C73.out _ T1.out).mono ?_); rintro e w1 ⟨rfl, g⟩; replace T1 := Aside0.mk (T1.out.trans (g.mono T1.out.size)); replace RB := Aside0.mk (blk_below g RB.out); clear g C73; clear b0 b1 b2 b3 b4 b5 b6 b7 b8 b9; obtain ⟨b0, b1, b2, b3, b4, b5, b6, b7, b8, b9⟩ := tenR RB.out)
                | (go_at_call 22; (with_reducible refine (C22.out _ T1.out).mono ?_); rintro e w1 ⟨rfl, g⟩; replace T1 := Aside0.mk (T1.out.trans (g.mono T1.out.size)); replace RB := Aside0.mk (blk_below g RB.out); clear g C22; clear b0 b1 b2 b3 b4 b5 b6 b7 b8 b9))
              go_ret
              exact ⟨rfl, T1.out⟩
        · have h6z : (r.f3.length : Int) > 6 := by omega
          rw [decide_eq_false h6, Bool.false_and]
          simp only [Bool.false_eq_true, if_false]
          clear C73 C22 C65 C66 hh hw
          go_enter Tryd.func46, Tryd.ntmps46
          go_wp2_with (first
            | (go_at_call 72; (with_reducible refine (C72.out _ T1.out).mono ?_); rintro e w1 ⟨rfl, g⟩; replace T1 := Aside0.mk (T1.out.trans (g.mono T1.out.size)); replace RB := Aside0.mk (blk_below g RB.out); clear g C72; skip; obtain ⟨b0, b1, b2, b3, b4, b5, b6, b7, b8, b9⟩ := tenR RB.out))
          go_ret
          exact ⟨rfl, T1.out⟩
theorem rule_calls (r : S54) (A3 : Option Addr) (c3 : Nat) (A7 : Option Addr) (c7 : Nat) (A8 : Option Addr) (c8 : Nat) (A9 : Option Addr) (c9 : Nat) (w : World) (hat : AtR w r A3 c3 A7 c7 A8 c8 A9 c9) (ho : ROk r) (ht : Tabs w) (hk : Kinds w) : Calls Tryd.prog 46 #[.agg #[.string r.f0, .bool r.f1, .int .i64 r.f2, .slice A3 r.f3.length c3, .int .i64 r.f4.f0, .string r.f4.f1, .int .i64 r.f4.f2, .slice A7 r.f4.f3.length c7, .slice A8 r.f4.f4.length c8, .slice A9 r.f4.f5.length c9]] w fun e w' => e = .returned (.int .i64 (rule r)) ∧ Below w.heap.size w w' := by
  cases hh : r.f1 with
  | true => rw [← hh]; exact rule_true r A3 c3 A7 c7 A8 c8 A9 c9 w hat ho ht hk hh
  | false => rw [← hh]; exact rule_false r A3 c3 A7 c7 A8 c8 A9 c9 w hat ho ht hk hh
end Go.Proofs.YtmlcaecknocpoaaDoor.It
namespace Go.Proofs.YtmlcaecknocpoaaDoor.It
set_option linter.unusedVariables false
set_option linter.unusedSimpArgs false
open Go Go.RowKit Go.Shelf Go.Proofs.YtmlcaecknocpoaaDoorW.PrintWords Go.Proofs.YtmlcaecknocpoaaDoorW.PrintLast Go.Proofs.YtmlcaecknocpoaaDoor.Pr Go.Proofs.YtmlcaecknocpoaaDoor.Sp
open Go.ChangeMaps Go.MapKept Go.WideShapes
attribute [local go_sem ↓] Go.wp_at_zero Go.wp_at_succ
def SetIs (w : World) (M n : Nat) (l : List ByteArray) : Prop :=
  ∃ D : DataW Unit, w.ownsMap Tryd.prog 9 (plainElem Tryd.prog 4) M n D ∧ ∀ s : ByteArray, D.atKey (.string s.data.toList) (.lit (.bool false)) = .lit (.bool (among l s))
theorem SetIs.below {w w1 : World} {M n : Nat} {l : List ByteArray} (h : SetIs w M n l) (hb : Below w.heap.size w w1) : SetIs w1 M n l := by
  obtain ⟨D, ho, hD⟩ := h
  have hlt := ho.lt
  obtain ⟨es, clock, h1, F, hs, hd⟩ := ho
  exact ⟨D, ⟨es, clock, (hb.block M hlt).trans h1, F, hs, hd⟩, hD⟩
set_option maxRecDepth 100000 in
theorem SetIs.look {w : World} {M n : Nat} {l : List ByteArray} (h : SetIs w M n l) (s : ByteArray) (hs : s.size ≤ maxLen) : (Instr.lookup 79 (.map (some M)) (.string s) false).run Tryd.prog w = .ok (.bool (among l s)) w := by
  obtain ⟨D, ho, hD⟩ := h
  obtain ⟨v, ps, hrun, hv⟩ := ho.lookup keyed9 Tryd.underlying79 (zero4 w) (plainElem_bool Tryd.underlying4 false) (key9 s hs)
  rw [hD s] at hv
  have : v = .bool (among l s) := by
    unfold plainElem at hv
    rw [Tryd.underlying4] at hv
    cases v <;> simp at hv
    rw [hv.1]
  rw [hrun, this]
theorem SetIs.put {w : World} {M n : Nat} {l : List ByteArray} (h : SetIs w M n l) (hn : n < maxLen) (s : ByteArray) (hs : s.size ≤ maxLen) :
    ∃ w1, (Instr.mapUpdate 79 (.map (some M)) (.string s) (.bool true)).run Tryd.prog w = .ok () w1 ∧ SetIs w1 M (n + 1) (l ++ [s]) ∧ w.grownBy w1 (some M) := by
  obtain ⟨D, ho, hD⟩ := h
  obtain ⟨w1, hrun, h1, h2⟩ := ho.update keyed9 Tryd.underlying79 hn (key9 s hs) (plainElem_bool Tryd.underlying4 true)
  have ha : ∀ s', among (l ++ [s]) s' = (among l s' || decide (s = s')) := fun s' => by simp [among]
  refine ⟨w1, hrun, ⟨_, h1, fun s' => ?_⟩, h2⟩
  rw [ha]
  by_cases e : s' = s
  · subst e
    rw [Maps.atKey_put_same ho.isMap (by simp [WideAt.IsKeyLit])]
    simp
  · rw [Maps.atKey_put_other (fun he => e ?_), hD s', decide_eq_false (fun e' => e e'.symm), Bool.or_false]
    have he' := Lit.string.inj he
    cases s'; cases s
    simpa [Array.toList_inj] using he'
theorem SetIs.new (w : World) : SetIs (w.alloc (.map #[] 0)) w.heap.size 0 [] := ⟨.map [], World.ownsMap_made w _ _ _, fun _ => rfl⟩
theorem SetIs.both {w : World} {M n : Nat} {l : List ByteArray} (h : SetIs w M n l) (hn : n ≤ 2000000) (s : ByteArray) (hs : s.size ≤ 9223372036854775807) (b : Bool) (hb : among l s = b) : (Instr.lookup 79 (.map (some M)) (.string s) false).run Tryd.prog w = .ok (.bool b) w ∧
    ∃ w1, (Instr.mapUpdate 79 (.map (some M)) (.string s) (.bool true)).run Tryd.prog w = .ok () w1 ∧ SetIs w1 M (n + 1) (l ++ [s]) ∧ w.grownBy w1 (some M) :=
  ⟨hb ▸ h.look s hs, h.put (by simp [maxLen]; omega) s hs⟩
theorem ruleAt {w W : World} {A : Option Addr} {l : List S54} (h : Kd.C k54 w A l.length l) (hb : Below w.heap.size w W) (j : Nat) (hj : j < l.length) : ∃ ad A3 c3 A7 c7 A8 c8 A9 c9, A = some ad ∧ AtR w (rd_T54 l j) A3 c3 A7 c7 A8 c8 A9 c9 ∧
    W.cell? (ad.add (j * 10)) = some (.string (rd_T54 l j).f0) ∧ W.cell? ⟨(ad.add (j * 10)).block, (ad.add (j * 10)).off + 1, none⟩ = some (.bool (rd_T54 l j).f1) ∧ W.cell? ⟨(ad.add (j * 10)).block, (ad.add (j * 10)).off + 2, none⟩ = some (.int .i64 (rd_T54 l j).f2) ∧
    W.cell? ⟨(ad.add (j * 10)).block, (ad.add (j * 10)).off + 3, none⟩ = some (.slice A3 (rd_T54 l j).f3.length c3) ∧ W.cell? ⟨(ad.add (j * 10)).block, (ad.add (j * 10)).off + 4, none⟩ = some (.int .i64 (rd_T54 l j).f4.f0) ∧ W.cell? ⟨(ad.add (j * 10)).block, (ad.add (j * 10)).off + 5, none⟩ = some (.string (rd_T54 l j).f4.f1) ∧
    W.cell? ⟨(ad.add (j * 10)).block, (ad.add (j * 10)).off + 6, none⟩ = some (.int .i64 (rd_T54 l j).f4.f2) ∧ W.cell? ⟨(ad.add (j * 10)).block, (ad.add (j * 10)).off + 7, none⟩ = some (.slice A7 (rd_T54 l j).f4.f3.length c7) ∧ W.cell? ⟨(ad.add (j * 10)).block, (ad.add (j * 10)).off + 8, none⟩ = some (.slice A8 (rd_T54 l j).f4.f4.length c8) ∧
    W.cell? ⟨(ad.add (j * 10)).block, (ad.add (j * 10)).off + 9, none⟩ = some (.slice A9 (rd_T54 l j).f4.f5.length c9) := by
  obtain ⟨ad, A3, c3, A7, c7, A8, c8, A9, c9, e, h0, h1, h2, h3, h4, h5, h6, h7, h8, h9, l3, g3, l7, g7, l8, g8, l9, g9⟩ := at_T54 h (j : Int) (by omega) (by omega)
  exact ⟨ad, A3, c3, A7, c7, A8, c8, A9, c9, e, ⟨l3, g3, ⟨l7, g7, l8, g8, l9, g9⟩⟩, up_cell hb h0, up_cell hb h1, up_cell hb h2, up_cell hb h3, up_cell hb h4, up_cell hb h5, up_cell hb h6, up_cell hb h7, up_cell hb h8, up_cell hb h9⟩
theorem take_snoc54 (l : List S54) (j : Nat) (hj : j < l.length) : l.take (j + 1) = l.take j ++ [rd_T54 l j] := by
  rw [List.take_succ_eq_append_getElem hj]
  simp [rd_T54, List.getD, hj]
theorem rules_step (l : List S54) (j : Nat) (hj : j < l.length) : rulesFrom (l.take j) (l.drop j) = if rule (rd_T54 l j) = 0 then (if among ((l.take j).map (·.f0)) (rd_T54 l j).f0 then ((j : Int), 82) else rulesFrom (l.take (j + 1)) (l.drop (j + 1))) else ((j : Int), rule (rd_T54 l j)) := by
  have e1 : l.drop j = rd_T54 l j :: l.drop (j + 1) := by
    rw [List.drop_eq_getElem_cons hj]
    simp [rd_T54, List.getD, hj]
  have e2 : l.take (j + 1) = l.take j ++ [rd_T54 l j] := by
    rw [List.take_succ_eq_append_getElem hj]
    simp [rd_T54, List.getD, hj]
  have e3 : (l.take j).length = j := by simp; omega
  rw [e1, rulesFrom, e2, e3]
  congr 1
  rw [among, List.any_map]
  rfl
theorem rd54_mem (l : List S54) (j : Nat) (h : j < l.length) : rd_T54 l j ∈ l := by simp [rd_T54, List.getD, h]
set_option maxRecDepth 100000 in
set_option maxHeartbeats 8000000 in
theorem rules_calls (l : List S54) (A : Option Addr) (c : Nat) (w : World) (hr : Kd.C k54 w A l.length l) (hl : l.length ≤ 1000000) (ho : ∀ r ∈ l, ROk r) (ht : Tabs w) (hk : Kinds w) :
    Calls Tryd.prog 44 #[.slice A l.length c] w fun e w' => e = .returned (.tuple #[.int .i64 (rules l).1, .int .i64 (rules l).2]) ∧ Below w.heap.size w w' := by
  have hu54 := Tryd.underlying54
  have hmm := @run_makeMap Tryd.prog
  have C46 := Aside0.mk (fun (j : Nat) (hj : j < l.length) (W : World) (hW : Below w.heap.size w W) A3 c3 A7 c7 A8 c8 A9 c9 (hat : AtR w (rd_T54 l j) A3 c3 A7 c7 A8 c8 A9 c9) => rule_calls (rd_T54 l j) A3 c3 A7 c7 A8 c8 A9 c9 W (hat.below hW) (ho _ (rd54_mem l j hj)) (ht.below hW) (hk.below hW))
  have HNM := Aside0.mk (fun (j : Nat) (hj : j < l.length) => (ho _ (rd54_mem l j hj)).nm)
  have HR := Aside0.mk hr
  have HS0 := Aside0.mk (SetIs.new w)
  have T1 := Aside0.mk (up1 w (.map #[] 0))
  obtain ⟨⟨r1, r2⟩, hres⟩ : ∃ v, rules l = v := ⟨_, rfl⟩
  rw [hres]
  dsimp only
  have HRES := Aside0.mk (show rulesFrom (l.take 0) (l.drop 0) = (r1, r2) from hres)
  clear hr ho ht hk hres
  go_enter Tryd.func44, Tryd.ntmps44
  go_wp2_with fail
  go_loopg [5, 7, 11] l.length (fun gg _ _ s11 wr => ∃ j : Nat, j ≤ l.length ∧ l.length - j ≤ gg ∧ s11 = .int .i64 j ∧ Aside0 (Below w.heap.size w wr ∧ SetIs wr w.heap.size j ((l.take j).map (·.f0)) ∧ rulesFrom (l.take j) (l.drop j) = (r1, r2)))
  case atStart => exact ⟨0, Nat.zero_le _, by omega, rfl, ⟨T1.out, HS0.out, HRES.out⟩⟩
  case round =>
    obtain ⟨j, hj, hg, rfl, HJ⟩ := hrel
    clear T1 HS0 HRES
    by_cases hlt : j < l.length
    · have hltz : (j : Int) < (l.length : Int) := by omega
      obtain ⟨ad, A3, c3, A7, c7, A8, c8, A9, c9, rfl, hat, y0, y1, y2, y3, y4, y5, y6, y7, y8, y9⟩ := ruleAt HR.out HJ.out.1 j hlt
      have hst := rules_step l j hlt
      rw [HJ.out.2.2] at hst
      have hnm := HNM.out j hlt
      have HTK := Aside0.mk (show (l.take (j + 1)).map (·.f0) = (l.take j).map (·.f0) ++ [(rd_T54 l j).f0] by rw [take_snoc54 l j hlt, List.map_append]; rfl)
      have hcall := fun W hW => C46.out j hlt W hW A3 c3 A7 c7 A8 c8 A9 c9 hat
      clear hat
      obtain ⟨r, hr⟩ : ∃ r, rd_T54 l j = r := ⟨_, rfl⟩
      rw [hr] at hst hnm hcall y0 y1 y2 y3 y4 y5 y6 y7 y8 y9 HTK
      have HN := Aside0.mk (heap_new wr (.cells #[.string r.f0, .bool r.f1, .int .i64 r.f2, .slice A3 r.f3.length c3, .int .i64 r.f4.f0, .string r.f4.f1, .int .i64 r.f4.f2, .slice A7 r.f4.f3.length c7, .slice A8 r.f4.f4.length c8, .slice A9 r.f4.f5.length c9] 54))
      have G1 := Aside0.mk (up1 wr (.cells #[.string r.f0, .bool r.f1, .int .i64 r.f2, .slice A3 r.f3.length c3, .int .i64 r.f4.f0, .string r.f4.f1, .int .i64 r.f4.f2, .slice A7 r.f4.f3.length c7, .slice A8 r.f4.f4.length c8, .slice A9 r.f4.f5.length c9] 54))
      replace hcall := Aside0.mk (hcall _ (HJ.out.1.trans (G1.out.mono HJ.out.1.size)))
      obtain ⟨v, hv⟩ : ∃ v, rule r = v := ⟨_, rfl⟩
      rw [hv] at hst hcall
      obtain ⟨b, hb⟩ : ∃ b, among ((l.take j).map (·.f0)) r.f0 = b := ⟨_, rfl⟩
      rw [hb] at hst
      have HB := Aside0.mk hb
      have HNM1 := Aside0.mk hnm
      clear hr hv hb hnm
      by_cases h0 : v = 0
      · rw [if_pos h0] at hst
        subst h0
        cases b with
        | true =>
          rw [if_pos rfl] at hst
          have HST := Aside0.mk hst
          clear hst
          go_wp2_with (go_at_call 46; (with_reducible refine hcall.out.mono ?_); rintro e w1 ⟨rfl, g⟩; have q0 := (blk_cell (blk_below g HN.out) 0).trans rfl; replace HJ := Aside0.mk (And.intro (HJ.out.1.trans ((G1.out.trans (g.mono G1.out.size)).mono HJ.out.1.size)) (HJ.out.2.1.below (G1.out.trans (g.mono G1.out.size)))); obtain ⟨hlk, -⟩ := HJ.out.2.both (by omega) r.f0 HNM1.out true HB.out; clear g hcall)
          go_ret2
          exact ⟨by injection HST.out with e1 e2; rw [e1, e2]; rfl, HJ.out.1⟩
        | false =>
          rw [if_neg (by decide)] at hst
          have HST := Aside0.mk hst
          clear hst
          go_wp2_with (go_at_call 46; (with_reducible refine hcall.out.mono ?_); rintro e w1 ⟨rfl, g⟩; have q0 := (blk_cell (blk_below g HN.out) 0).trans rfl; replace HJ := Aside0.mk (And.intro (HJ.out.1.trans ((G1.out.trans (g.mono G1.out.size)).mono HJ.out.1.size)) (HJ.out.2.1.below (G1.out.trans (g.mono G1.out.size)))); obtain ⟨hlk, w2, hup, hs2, hg2⟩ := HJ.out.2.both (by omega) r.f0 HNM1.out false HB.out; have H2 := Aside0.mk (And.intro (HJ.out.1.grown hg2 HJ.out.1.size (fun k hk => by injection hk with hk; omega)) hs2); clear g hcall hs2 hg2)
          go_roundg (l.length - (j + 1))
          case measure => omega
          case rel => exact ⟨j + 1, by omega, by omega, by go_num, ⟨H2.out.1, by rw [HTK.out]; exact H2.out.2, HST.out.symm⟩⟩
      · rw [if_neg h0] at hst
        have b1 : (v != 0) = true := by simpa using h0
        have HST := Aside0.mk hst
        clear hst h0
        go_wp2_with (go_at_call 46; (with_reducible refine hcall.out.mono ?_); rintro e w1 ⟨rfl, g⟩; replace g := Aside0.mk (G1.out.trans (g.mono G1.out.size)); clear hcall)
        go_ret2
        exact ⟨by injection HST.out with e1 e2; rw [e1, e2]; rfl, HJ.out.1.trans (g.out.mono HJ.out.1.size)⟩
    · have hltz : ¬ (j : Int) < (l.length : Int) := by omega
      obtain rfl : j = l.length := by omega
      have HST : Aside0 ((0, 0) = (r1, r2)) := ⟨by rw [← HJ.out.2.2, List.drop_length]; rfl⟩
      go_wp2_with fail
      go_ret2
      exact ⟨by injection HST.out with e1 e2; rw [← e1, ← e2]; rfl, HJ.out.1⟩
end Go.Proofs.YtmlcaecknocpoaaDoor.It
namespace Go.Proofs.YtmlcaecknocpoaaDoor.Pr
open Go.RowKit Go.Proofs.YtmlcaecknocpoaaDoorW.PrintWords Go.Proofs.YtmlcaecknocpoaaDoorW.PrintLast Go.Proofs.YtmlcaecknocpoaaDoorW.PrintMore
attribute [local go_sem] max2_int min2_int max_two min_two max_three min_three max_four min_four   
set_option linter.unusedVariables false
set_option linter.unusedSimpArgs false
def chalklinelaw08_v.f (a0 : ByteArray) : Option (Int × ByteArray × Int) := some (2, a0, 0)
set_option maxHeartbeats 8000000 in
set_option maxRecDepth 100000 in
theorem chalklinelaw08_v.calls (a0 : ByteArray) (r1 : Int) (r2 : ByteArray) (r3 : Int) (w : World) (h : chalklinelaw08_v.f a0 = some (r1, r2, r3)) :
    Calls Tryd.prog 100 #[.string a0] w fun e w' => e = .returned (.agg #[.int .i64 r1, .string r2, .int .i64 r3]) ∧ Below w.heap.size w w' := by
  have hu47 := Tryd.underlying47
  have HB := Aside0.mk (Below.refl w.heap.size w)
  have H : (some (2, a0, 0)) = some (r1, r2, r3) := h
  clear h
  simp only [Option.some.injEq, Prod.mk.injEq] at H
  obtain ⟨rfl, rfl, rfl⟩ := H
  go_enter Tryd.func100, Tryd.ntmps100
  go_wp2_with (first | ((with_reducible refine gate_dst (N := 2) rfl ?_); refine box_event ?hg (N := 2) ?hd (cs := #[.int .i64 0, .string (⟨#[]⟩ : ByteArray), .int .i64 0]) (t := 47) ?hr ?_; (case hd => rfl); (case hg => rfl); (case hr => first | (go_simp; done) | (go_simp; rfl)); intro gb196 hg w2 hbox hb; have n0_ := Aside0.mk (below_step (by repeat (first | (with_reducible first | exact HB.out | apply below_alloc | apply pw_below_drewN | apply below_drew1) | exact HB.out)) hb); have n1_ := Aside0.mk (hbox); have n2_ := Aside0.mk ((by rw [hg]; exact (below_size (by repeat (first | (with_reducible first | exact HB.out | apply below_alloc | apply pw_below_drewN | apply below_drew1) | exact HB.out))) : w.heap.size ≤ gb196)); have n3_ := Aside0.mk ((by rw [hg]; exact (below_size (by repeat (first | (with_reducible first | exact HB.out | apply below_alloc | apply pw_below_drewN | apply below_drew1) | exact HB.out))) : w.heap.size ≤ gb196)); clear HB; have HB := n0_; have BK196 := n1_; have GW196 := n2_; have GE196 := n3_; clear n0_ n1_ n2_ n3_; clear hb hbox hg; have hcz3_0 : w2.cell? ⟨gb196, 0, none⟩ = some (.int .i64 0) := (blk_cell BK196.out 0).trans rfl; have hcz3_1 : w2.cell? ⟨gb196, 1, none⟩ = some (.string (⟨#[]⟩ : ByteArray)) := (blk_cell BK196.out 1).trans rfl; have hcz3_2 : w2.cell? ⟨gb196, 2, none⟩ = some (.int .i64 0) := (blk_cell BK196.out 2).trans rfl; have hfz3_0 := blk_frozen BK196.out 0; have hfz3_1 := blk_frozen BK196.out 1; have hfz3_2 := blk_frozen BK196.out 2))
  refine bodyPost_ret (results_cell_row rfl _ _ gb196 47 #[.int .i64 2, .string a0, .int .i64 0] (0, 0) _ rfl (by (with_reducible repeat (first | refine blk_drewN ?_ _ | refine blk_drew ?_ | refine blk_alloc ?_ _)); refine blk_put (cs := #[.int .i64 2, .string a0, .int .i64 0]) ?_ 2 _ rfl; (with_reducible repeat (first | refine blk_drewN ?_ _ | refine blk_drew ?_ | refine blk_alloc ?_ _)); refine blk_put (cs := #[.int .i64 2, .string (⟨#[]⟩ : ByteArray), .int .i64 0]) ?_ 1 _ rfl; (with_reducible repeat (first | refine blk_drewN ?_ _ | refine blk_drew ?_ | refine blk_alloc ?_ _)); refine blk_put (cs := #[.int .i64 0, .string (⟨#[]⟩ : ByteArray), .int .i64 0]) ?_ 0 _ rfl; (with_reducible repeat (first | refine blk_drewN ?_ _ | refine blk_drew ?_ | refine blk_alloc ?_ _)); exact BK196.out) Tryd.underlying47 rfl (by kernel_rfl)) rfl ?_
  exact ⟨by first | rfl | (simp [errW_none, errW_some] <;> rfl) | (simp [*, errW_none, errW_some] <;> rfl), by repeat (first | (with_reducible first | exact HB.out | apply below_alloc | apply pw_below_drewN | apply below_drew1 | refine below_set ?_ GE196.out) | exact HB.out)⟩
end Go.Proofs.YtmlcaecknocpoaaDoor.Pr
namespace Go.Proofs.YtmlcaecknocpoaaDoor.Pr
open Go.RowKit Go.Proofs.YtmlcaecknocpoaaDoorW.PrintWords Go.Proofs.YtmlcaecknocpoaaDoorW.PrintLast Go.Proofs.YtmlcaecknocpoaaDoorW.PrintMore
attribute [local go_sem] max2_int min2_int max_two min_two max_three min_three max_four min_four   
set_option linter.unusedVariables false
set_option linter.unusedSimpArgs false
def chalklinelaw08_at.f (a0 : ByteArray) (a1 : ByteArray) : Option (Int × ByteArray × Int × (List (S47)) × (List (S42)) × (List (S26))) := (chalklinelaw08_v.f a0).bind fun bt198 => ((chalklinelaw08_v.f a1).bind fun bt201 => (some (3, (⟨#[]⟩ : ByteArray), 0, (([(⟨bt198.1, bt198.2.1, bt198.2.2⟩ : S47), (⟨bt201.1, bt201.2.1, bt201.2.2⟩ : S47)] : List (S47))), ([] : List (S42)), ([] : List (S26)))))
set_option maxHeartbeats 8000000 in
set_option maxRecDepth 100000 in
theorem chalklinelaw08_at.calls (a0 : ByteArray) (a1 : ByteArray) (r1 : Int) (r2 : ByteArray) (r3 : Int) (r4 : List (S47)) (r5 : List (S42)) (r6 : List (S26)) (w : World) (h : chalklinelaw08_at.f a0 a1 = some (r1, r2, r3, r4, r5, r6)) :
    Calls Tryd.prog 62 #[.string a0, .string a1] w fun e w' => ∃ v3_ v4_ v5_ : Value, e = .returned (.agg #[.int .i64 r1, .string r2, .int .i64 r3, v3_, v4_, v5_]) ∧ Kd.R k47 47 w' w.heap.size (fun _ => True) v3_ r4 ∧ Kd.R k42 42 w' w.heap.size (fun _ => True) v4_ r5 ∧ Kd.R k26 26 w' w.heap.size (fun k_ => some k_ ≠ (v3_ : Value).ownBlock ∧ some k_ ≠ (v4_ : Value).ownBlock) v5_ r6 ∧ Below w.heap.size w w' := by
  have hu26 := Tryd.underlying26
  have HB := Aside0.mk (Below.refl w.heap.size w)
  have H : ((chalklinelaw08_v.f a0).bind fun bt198 => ((chalklinelaw08_v.f a1).bind fun bt201 => (some (3, (⟨#[]⟩ : ByteArray), 0, (([(⟨bt198.1, bt198.2.1, bt198.2.2⟩ : S47), (⟨bt201.1, bt201.2.1, bt201.2.2⟩ : S47)] : List (S47))), ([] : List (S42)), ([] : List (S26)))))) = some (r1, r2, r3, r4, r5, r6) := h
  clear h
  replace H := Option.bind_eq_some_iff.mp H
  obtain ⟨⟨t198, t199, t200⟩, A30, H⟩ := H
  replace H : ((chalklinelaw08_v.f a1).bind fun bt201 => (some (3, (⟨#[]⟩ : ByteArray), 0, (([(⟨t198, t199, t200⟩ : S47), (⟨bt201.1, bt201.2.1, bt201.2.2⟩ : S47)] : List (S47))), ([] : List (S42)), ([] : List (S26))))) = some (r1, r2, r3, r4, r5, r6) := H
  have A3 := Aside0.mk A30
  clear A30
  replace H := Option.bind_eq_some_iff.mp H
  obtain ⟨⟨t201, t202, t203⟩, A40, H⟩ := H
  replace H : (some (3, (⟨#[]⟩ : ByteArray), 0, (([(⟨t198, t199, t200⟩ : S47), (⟨t201, t202, t203⟩ : S47)] : List (S47))), ([] : List (S42)), ([] : List (S26)))) = some (r1, r2, r3, r4, r5, r6) := H
  have A4 := Aside0.mk A40
  clear A40
  obtain ⟨y204, hy204⟩ : ∃ y_ : List (S47), y_ = (([(⟨t198, t199, t200⟩ : S47), (⟨t201, t202, t203⟩ : S47)] : List (S47))) := ⟨_, rfl⟩
  replace H : (some (3, (⟨#[]⟩ : ByteArray), 0, y204, ([] : List (S42)), ([] : List (S26)))) = some (r1, r2, r3, r4, r5, r6) := by first | (rw [hy204]; with_reducible exact H) | (have H2_ := (Option.bind_some _ _).symm.trans H; rw [hy204]; with_reducible exact H2_) | (have H2_ := (Option.bind_some _ _).symm.trans H; with_reducible exact H2_) | with_reducible exact H | (rw [hy204]; exact H) | exact H
  have Ny204 := Aside0.mk hy204
  clear hy204
  simp only [Option.some.injEq, Prod.mk.injEq] at H
  obtain ⟨rfl, rfl, rfl, rfl, rfl, rfl⟩ := H
  go_enter Tryd.func62, Tryd.ntmps62
  go_wp2_with (first | ((with_reducible refine gate_dst (N := 4) rfl ?_); refine box_event ?hg (N := 4) ?hd (cs := #[.int .i64 0, .string (⟨#[]⟩ : ByteArray), .int .i64 0, .slice none 0 0, .slice none 0 0, .slice none 0 0]) (t := 26) ?hr ?_; (case hd => rfl); (case hg => rfl); (case hr => first | (go_simp; done) | (go_simp; rfl)); intro gb197 hg w5 hbox hb; have n0_ := Aside0.mk (below_step (by repeat (first | (with_reducible first | exact HB.out | apply below_alloc | apply pw_below_drewN | apply below_drew1) | exact HB.out)) hb); have n1_ := Aside0.mk (hbox); have n2_ := Aside0.mk ((by rw [hg]; exact (below_size (by repeat (first | (with_reducible first | exact HB.out | apply below_alloc | apply pw_below_drewN | apply below_drew1) | exact HB.out))) : w.heap.size ≤ gb197)); have n3_ := Aside0.mk ((by rw [hg]; exact (below_size (by repeat (first | (with_reducible first | exact HB.out | apply below_alloc | apply pw_below_drewN | apply below_drew1) | exact HB.out))) : w.heap.size ≤ gb197)); clear HB; have HB := n0_; have BK197 := n1_; have GW197 := n2_; have GE197 := n3_; clear n0_ n1_ n2_ n3_; clear hb hbox hg) | ((with_reducible refine gate_callee (f := 100) rfl ?_); refine goesL_ (some 6) rfl rfl Tryd.func100 (by kernel_rfl) rfl #[.string a0] rfl (by (try simp only [List.map_toArray, List.map_cons, List.map_nil]); first | done | rfl | (simp only [List.length_drop, List.length_take]; rfl)) ?_; (with_reducible refine (chalklinelaw08_v.calls a0 t198 t199 t200 _ A3.out).mono ?_); rintro e w6 ⟨rfl, hb⟩; refine ⟨_, rfl, ?_⟩; have n0_ := Aside0.mk (blk_below (g := gb197) (o := .cells #[.int .i64 0, .string (⟨#[]⟩ : ByteArray), .int .i64 0, .slice none 0 0, .slice none 0 0, .slice none 0 0] 26 (0, 0)) (by (with_reducible repeat (first | refine blk_drewN ?_ _ | refine blk_drew ?_ | refine blk_alloc ?_ _)); exact BK197.out) hb); have n1_ := Aside0.mk (below_step (by repeat (first | (with_reducible first | exact HB.out | apply below_alloc | apply pw_below_drewN | apply below_drew1 | refine below_set ?_ GE197.out) | exact HB.out)) hb); clear BK197; clear HB; have BK197 := n0_; have HB := n1_; clear n0_ n1_; (try clear hb); (try clear hb2); (try clear hk); (try clear hi)) | ((with_reducible refine gate_callee (f := 100) rfl ?_); refine goesL_ (some 8) rfl rfl Tryd.func100 (by kernel_rfl) rfl #[.string a1] rfl (by (try simp only [List.map_toArray, List.map_cons, List.map_nil]); first | done | rfl | (simp only [List.length_drop, List.length_take]; rfl)) ?_; (with_reducible refine (chalklinelaw08_v.calls a1 t201 t202 t203 _ A4.out).mono ?_); rintro e w7 ⟨rfl, hb⟩; refine ⟨_, rfl, ?_⟩; have n0_ := Aside0.mk (blk_below (g := gb197) (o := .cells #[.int .i64 0, .string (⟨#[]⟩ : ByteArray), .int .i64 0, .slice none 0 0, .slice none 0 0, .slice none 0 0] 26 (0, 0)) (by (with_reducible repeat (first | refine blk_drewN ?_ _ | refine blk_drew ?_ | refine blk_alloc ?_ _)); exact BK197.out) hb); have n1_ := Aside0.mk (below_step (by repeat (first | (with_reducible first | exact HB.out | apply below_alloc | apply pw_below_drewN | apply below_drew1 | refine below_set ?_ GE197.out) | exact HB.out)) hb); clear BK197; clear HB; have BK197 := n0_; have HB := n1_; clear n0_ n1_; (try clear hb); (try clear hb2); (try clear hk); (try clear hi)) | ((with_reducible refine gate_dst (N := 9) rfl ?_); refine Kd.R_lit k47 _ 47 ?hg (N := 9) ?hd (xs := ([(⟨t198, t199, t200⟩ : S47), (⟨t201, t202, t203⟩ : S47)] : List (S47))) (inner := [.int .i64 t198, .string t199, .int .i64 t200, .int .i64 t201, .string t202, .int .i64 t203]) (ok := fun _ => True) (okp := fun _ => True) ?hr ?hp (fun _ hk => hk) trivial (Below.refl _ _) (Nat.le_refl _) (by simp) ?_; (case hd => rfl); (case hg => rfl); (case hr => first | (go_simp; done) | (go_simp; rfl)); (case hp => exact (Reps.c3 (show Kd.M k47 _ _ _ (⟨t198, t199, t200⟩ : S47) [.int .i64 t198, .string t199, .int .i64 t200] from (k47_mkM _ _ _ (⟨t198, t199, t200⟩ : S47) )) (Reps.c3 (show Kd.M k47 _ _ _ (⟨t201, t202, t203⟩ : S47) [.int .i64 t201, .string t202, .int .i64 t203] from (k47_mkM _ _ _ (⟨t201, t202, t203⟩ : S47) )) (Reps.none _ _)))); intro v205 w8 ho9 hb hg_ hnew_; clear hg_ hnew_; (first | rw [← Ny204.out] at ho9 | (simp only [Int.reduceToNat] at ho9; rw [← Ny204.out] at ho9)); have n0_ := Aside0.mk (Kd.R_lower ho9 (below_size (by repeat (first | (with_reducible first | exact HB.out | apply below_alloc | apply pw_below_drewN | apply below_drew1 | refine below_set ?_ GE197.out) | exact HB.out)))); have n1_ := Aside0.mk (blk_below (g := gb197) (o := .cells #[.int .i64 0, .string (⟨#[]⟩ : ByteArray), .int .i64 0, .slice none 0 0, .slice none 0 0, .slice none 0 0] 26 (0, 0)) (by (with_reducible repeat (first | refine blk_drewN ?_ _ | refine blk_drew ?_ | refine blk_alloc ?_ _)); exact BK197.out) hb); have n2_ := Aside0.mk (below_step (by repeat (first | (with_reducible first | exact HB.out | apply below_alloc | apply pw_below_drewN | apply below_drew1 | refine below_set ?_ GE197.out) | exact HB.out)) hb); clear BK197; clear HB; have HO206 := n0_; have BK197 := n1_; have HB := n2_; clear n0_ n1_ n2_; clear hb ho9; obtain ⟨Ao10, co10, eo10⟩ := Kd.R_slice HO206.out; subst eo10; have hcz11_0 : w8.cell? ⟨gb197, 0, none⟩ = some (.int .i64 0) := (blk_cell BK197.out 0).trans rfl; have hcz11_1 : w8.cell? ⟨gb197, 1, none⟩ = some (.string (⟨#[]⟩ : ByteArray)) := (blk_cell BK197.out 1).trans rfl; have hcz11_2 : w8.cell? ⟨gb197, 2, none⟩ = some (.int .i64 0) := (blk_cell BK197.out 2).trans rfl; have hcz11_3 : w8.cell? ⟨gb197, 3, none⟩ = some (.slice none 0 0) := (blk_cell BK197.out 3).trans rfl; have hcz11_4 : w8.cell? ⟨gb197, 4, none⟩ = some (.slice none 0 0) := (blk_cell BK197.out 4).trans rfl; have hcz11_5 : w8.cell? ⟨gb197, 5, none⟩ = some (.slice none 0 0) := (blk_cell BK197.out 5).trans rfl; have hfz11_0 := blk_frozen BK197.out 0; have hfz11_1 := blk_frozen BK197.out 1; have hfz11_2 := blk_frozen BK197.out 2; have hfz11_3 := blk_frozen BK197.out 3; have hfz11_4 := blk_frozen BK197.out 4; have hfz11_5 := blk_frozen BK197.out 5))
  refine bodyPost_ret (results_cell_row rfl _ _ gb197 26 #[.int .i64 3, .string (⟨#[]⟩ : ByteArray), .int .i64 0, .slice Ao10 y204.length co10, .slice none 0 0, .slice none 0 0] (0, 0) _ rfl (by (with_reducible repeat (first | refine blk_drewN ?_ _ | refine blk_drew ?_ | refine blk_alloc ?_ _)); refine blk_put (cs := #[.int .i64 3, .string (⟨#[]⟩ : ByteArray), .int .i64 0, .slice Ao10 y204.length co10, .slice none 0 0, .slice none 0 0]) ?_ 5 _ rfl; (with_reducible repeat (first | refine blk_drewN ?_ _ | refine blk_drew ?_ | refine blk_alloc ?_ _)); refine blk_put (cs := #[.int .i64 3, .string (⟨#[]⟩ : ByteArray), .int .i64 0, .slice Ao10 y204.length co10, .slice none 0 0, .slice none 0 0]) ?_ 4 _ rfl; (with_reducible repeat (first | refine blk_drewN ?_ _ | refine blk_drew ?_ | refine blk_alloc ?_ _)); refine blk_put (cs := #[.int .i64 3, .string (⟨#[]⟩ : ByteArray), .int .i64 0, .slice none 0 0, .slice none 0 0, .slice none 0 0]) ?_ 3 _ rfl; (with_reducible repeat (first | refine blk_drewN ?_ _ | refine blk_drew ?_ | refine blk_alloc ?_ _)); refine blk_put (cs := #[.int .i64 3, .string (⟨#[]⟩ : ByteArray), .int .i64 0, .slice none 0 0, .slice none 0 0, .slice none 0 0]) ?_ 2 _ rfl; (with_reducible repeat (first | refine blk_drewN ?_ _ | refine blk_drew ?_ | refine blk_alloc ?_ _)); refine blk_put (cs := #[.int .i64 3, .string (⟨#[]⟩ : ByteArray), .int .i64 0, .slice none 0 0, .slice none 0 0, .slice none 0 0]) ?_ 1 _ rfl; (with_reducible repeat (first | refine blk_drewN ?_ _ | refine blk_drew ?_ | refine blk_alloc ?_ _)); refine blk_put (cs := #[.int .i64 0, .string (⟨#[]⟩ : ByteArray), .int .i64 0, .slice none 0 0, .slice none 0 0, .slice none 0 0]) ?_ 0 _ rfl; (with_reducible repeat (first | refine blk_drewN ?_ _ | refine blk_drew ?_ | refine blk_alloc ?_ _)); exact BK197.out) Tryd.underlying26 rfl (by kernel_rfl)) rfl ?_
  exact ⟨_, _, _, by first | rfl | (simp [errW_none, errW_some] <;> rfl) | (simp [*, errW_none, errW_some] <;> rfl), by (with_reducible repeat (first | apply Kd.R_alloc | apply Kd.R_drewN | apply Kd.R_drew)); exact Kd.R_mono (Kd.R_far (p := ⟨gb197, 5, none⟩) (Kd.R_far (p := ⟨gb197, 4, none⟩) (Kd.R_far (p := ⟨gb197, 3, none⟩) (Kd.R_far (p := ⟨gb197, 2, none⟩) (Kd.R_far (p := ⟨gb197, 1, none⟩) (Kd.R_far (p := ⟨gb197, 0, none⟩) (Kd.R_types HO206.out BK197.out (by decide)) (fun _ hk => hk.2) (.int .i64 3)) (fun _ hk => hk.2) (.string (⟨#[]⟩ : ByteArray))) (fun _ hk => hk.2) (.int .i64 0)) (fun _ hk => hk.2) (.slice Ao10 y204.length co10)) (fun _ hk => hk.2) (.slice none 0 0)) (fun _ hk => hk.2) (.slice none 0 0)) (fun _ hk => trivial), by first | exact Kd.R_nil _ _ _ _ _ | exact Kd.N_nil _ _ _ _ _ | exact Kd.V_nil _ _ _ _ _ | exact Kd.Q_nil _ _ _ _ _ | exact Kd.S_nil _ _ _ _ _, by first | exact Kd.R_nil _ _ _ _ _ | exact Kd.N_nil _ _ _ _ _ | exact Kd.V_nil _ _ _ _ _ | exact Kd.Q_nil _ _ _ _ _ | exact Kd.S_nil _ _ _ _ _, by repeat (first | (with_reducible first | exact HB.out | apply below_alloc | apply pw_below_drewN | apply below_drew1 | refine below_set ?_ GE197.out) | exact HB.out)⟩
end Go.Proofs.YtmlcaecknocpoaaDoor.Pr
