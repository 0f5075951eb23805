/- Lemmas and walks for the claim below. -/
import Derived.Test.YtmlcaecknocpoaaDoorQaK3
import Derived.Laws.EntriesVeiled
namespace Go.Proofs.YtmlcaecknocpoaaDoor.It
open Go Go.RowKit Go.Shelf Go.Proofs.YtmlcaecknocpoaaDoorW.PrintWords Go.Proofs.YtmlcaecknocpoaaDoorW.PrintLast Go.Proofs.YtmlcaecknocpoaaDoor.Pr Go.Proofs.YtmlcaecknocpoaaDoor.Sp
mutual
def nb : S26 → Nat
  | ⟨_, _, _, _, bs, l⟩ => bs.length + nbs l
def nbs : List S26 → Nat
  | [] => 0
  | x :: l => nb x + nbs l
end
mutual
def nt : S26 → Nat
  | ⟨_, _, _, ts, _, l⟩ => ts.length + nts l
def nts : List S26 → Nat
  | [] => 0
  | x :: l => nt x + nts l
end
theorem addAll_length (B out a : List ByteArray) : (addAll B out a).length ≤ out.length + a.length := by
  induction a generalizing out with
  | nil => simp [addAll]
  | cons s a ih =>
    simp only [addAll]
    split
    · have := ih out; simp; omega
    · have := ih (out ++ [s]); simp at this ⊢; omega
theorem names_length (ts : List S47) : (names ts).length ≤ ts.length := by
  unfold names
  rw [List.length_map]
  exact List.length_filter_le _ _
mutual
theorem gath_length (bl out : List ByteArray) : ∀ x : S26, (gath bl out x).length ≤ out.length + nt x
  | ⟨_, _, _, ts, bs, l⟩ => by
    rw [gath, nt]
    have h1 := gaths_length (bl ++ bs.map (·.f0)) (addAll (bl ++ bs.map (·.f0)) out (names ts)) l
    have h2 := addAll_length (bl ++ bs.map (·.f0)) out (names ts)
    have h3 := names_length ts
    omega
theorem gaths_length (bl out : List ByteArray) : ∀ l : List S26, (gaths bl out l).length ≤ out.length + nts l
  | [] => by simp [gaths, nts]
  | x :: l => by
    rw [gaths, nts]
    have h1 := gaths_length bl (gath bl out x) l
    have h2 := gath_length bl out x
    omega
end
structure FS (w0 W : World) (Bm Bo Bl M n : Nat) (bl out : List ByteArray) (v : Value) : Prop where
  bm : W.heap[Bm]? = some (.cells #[.map (some M)] 68 (0, 0))
  bo : W.heap[Bo]? = some (.cells #[v] 32 (0, 0))
  bf : W.heap[Bl]? = some (.cells #[.func (.func 55) #[] #[.pointer (some ⟨Bm, 0, none⟩), .pointer (some ⟨Bo, 0, none⟩), .pointer (some ⟨Bl, 0, none⟩)]] 69 (0, 0))
  map : MapIs W M n bl
  row : Kd.R Kd.string 9 W w0.heap.size (fun _ => True) v out
  h0 : Below w0.heap.size w0 W
  gM : w0.heap.size ≤ M
  gO : w0.heap.size ≤ Bo
theorem MapIs.obj {w : World} {M n : Nat} {bl : List ByteArray} (h : MapIs w M n bl) : ∃ es c, w.heap[M]? = some (.map es c) := by
  obtain ⟨D, ⟨es, c, h, _⟩, _⟩ := h
  exact ⟨es, c, h⟩
theorem MapIs.ne {w : World} {M n : Nat} {bl : List ByteArray} (h : MapIs w M n bl) {B : Nat} {cs : Array Value} {t : TypeId} (hB : w.heap[B]? = some (.cells cs t (0, 0))) : B ≠ M := by
  rintro rfl
  obtain ⟨es, c, h⟩ := h.obj
  rw [h] at hB
  cases hB
theorem own_cells {w : World} {base : Nat} {v : Value} {out : List ByteArray} (h : Kd.R Kd.string 9 w base (fun _ => True) v out) (k : Nat) (hk : v.ownBlock = some k) : base ≤ k ∧ ∃ cs, w.heap[k]? = some (.cells cs 9 (0, 0)) := by
  obtain ⟨inner, ho⟩ := Kd.R_own h
  exact ⟨(own_lt ho k hk).2, own_typed ho k hk⟩
theorem FS.up {w0 W W1 : World} {Bm Bo Bl M n : Nat} {bl out : List ByteArray} {v : Value} (h : FS w0 W Bm Bo Bl M n bl out v) (g : Below W.heap.size W W1) : FS w0 W1 Bm Bo Bl M n bl out v := by
  have hg : W.grownBy W1 none := ⟨g.os, g.tape, g.output, g.size, fun k hk _ => g.block k hk⟩
  exact ⟨blk_below g h.bm, blk_below g h.bo, blk_below g h.bf, h.map.kept hg (by simp), Kd.R_below h.row g, h.h0.trans (g.mono h.h0.size), h.gM, h.gO⟩
theorem FS.mapped {w0 W W1 : World} {Bm Bo Bl M n n' : Nat} {bl bl' out : List ByteArray} {v : Value} (h : FS w0 W Bm Bo Bl M n bl out v) (g : W.grownBy W1 (some M)) (hm : MapIs W1 M n' bl') : FS w0 W1 Bm Bo Bl M n' bl' out v := by
  have keep : ∀ {B : Nat} {cs : Array Value} {t : TypeId}, W.heap[B]? = some (.cells cs t (0, 0)) → W1.heap[B]? = some (.cells cs t (0, 0)) := fun {B cs t} hB =>
    (g.block B (Array.getElem?_eq_some_iff.1 hB).1 (fun e => h.map.ne hB (by injection e))).trans hB
  refine ⟨keep h.bm, keep h.bo, keep h.bf, hm, ?_, ?_, h.gM, h.gO⟩
  · obtain ⟨es, c, hM⟩ := h.map.obj
    refine Kd.R_mono (Kd.R_grown (Kd.R_bound h.row) g (fun k hk e => ?_)) (fun _ _ => trivial)
    obtain ⟨_, _, _, q, _, cells, hc⟩ := hk
    have : k = M := by injection e
    subst this
    rw [hM] at hc
    cases hc
  · refine ⟨g.os.trans h.h0.os, g.tape.trans h.h0.tape, g.output.trans h.h0.output, Nat.le_trans h.h0.size g.size, fun k hk => (g.block k (Nat.lt_of_lt_of_le hk h.h0.size) (fun e => ?_)).trans (h.h0.block k hk)⟩
    have : k = M := by injection e
    have := h.gM
    omega
theorem MapIs.setCell {w : World} {M n : Nat} {bl : List ByteArray} (h : MapIs w M n bl) {a : Addr} (ha : M ≠ a.block) (u : Value) : MapIs (w.setCell a u) M n bl := by
  obtain ⟨D, ho, hD⟩ := h
  exact ⟨D, ho.setCell ha u, hD⟩
theorem FS.gathered {w0 W W1 : World} {Bm Bo Bl M n : Nat} {bl out out' : List ByteArray} {v v1 : Value} (h : FS w0 W Bm Bo Bl M n bl out v) (ho : Kd.R Kd.string 9 W1 w0.heap.size (fun _ => True) v1 out') (hb : Below w0.heap.size W W1) (hg : W.grownBy W1 v.ownBlock) :
    FS w0 (W1.setCell ⟨Bo, 0, none⟩ v1) Bm Bo Bl M n bl out' v1 := by
  have keep : ∀ {B : Nat} {cs : Array Value} {t : TypeId}, 9 ≠ t → W.heap[B]? = some (.cells cs t (0, 0)) → W1.heap[B]? = some (.cells cs t (0, 0)) := fun {B cs t} ht hB =>
    (hg.block B (Array.getElem?_eq_some_iff.1 hB).1 (Kd.R_ne h.row hB ht)).trans hB
  have hM : some M ≠ v.ownBlock := fun e => by
    obtain ⟨es, c, hM⟩ := h.map.obj
    obtain ⟨_, cs, hc⟩ := own_cells h.row M e.symm
    rw [hM] at hc
    cases hc
  have bm := keep (by decide) h.bm
  have bo := keep (by decide) h.bo
  have bf := keep (by decide) h.bf
  have far : ∀ {B : Nat} {cs : Array Value} {t : TypeId}, t ≠ 32 → W1.heap[B]? = some (.cells cs t (0, 0)) → (W1.setCell ⟨Bo, 0, none⟩ v1).heap[B]? = some (.cells cs t (0, 0)) := fun {B cs t} ht hB =>
    (Below.heap_setCell _ _ _ _ (blk_ne hB bo ht)).trans hB
  exact ⟨far (by decide) bm, (set_one bo 0 v1).trans rfl, far (by decide) bf, (h.map.kept hg hM).setCell (h.map.ne h.bo).symm v1, Kd.R_set ho bo (by decide) 0 v1, (h.h0.trans hb).setCell h.gO v1, h.gM, h.gO⟩
end Go.Proofs.YtmlcaecknocpoaaDoor.It
namespace Go.Proofs.YtmlcaecknocpoaaDoor.It
open Go Go.RowKit Go.Shelf Go.Proofs.YtmlcaecknocpoaaDoorW.PrintWords Go.Proofs.YtmlcaecknocpoaaDoorW.PrintLast Go.Proofs.YtmlcaecknocpoaaDoor.Pr Go.Proofs.YtmlcaecknocpoaaDoor.Sp
theorem rdS (l : List ByteArray) (j : Nat) : rdOf ByteArray.empty l (j : Int) = l.getD j ByteArray.empty := by simp [rdOf]
theorem contains_ev (l : List ByteArray) (s : ByteArray) (hl : l.length ≤ 9223372036854775807) : Ev (fun k => slices_Contains_string_string.f k l s) (among l s) := by
  have loop : ∀ d j : Nat, j + d = l.length → ∃ r : Int, Ev (fun k => slices_Index_string_string.l0 k l s (l.length : Int) (j : Int)) r ∧ decide (r ≥ 0) = among (l.drop j) s := by
    intro d
    induction d with
    | zero =>
      intro j hj
      refine ⟨-1, Ev.step (f := fun _ => some (-1)) (fun k => ?_) (Ev.now _), ?_⟩
      · simp only [slices_Index_string_string.l0]
        rw [if_neg (by omega)]
      · rw [List.drop_of_length_le (by omega)]
        rfl
    | succ d ih =>
      intro j hj
      by_cases e : s = l.getD j ByteArray.empty
      · refine ⟨(j : Int), Ev.step (f := fun _ => some (j : Int)) (fun k => ?_) (Ev.now _), ?_⟩
        · simp only [slices_Index_string_string.l0]
          rw [if_pos (by omega), if_pos (by omega), if_pos (by omega), if_pos (by rw [rdS, ← e])]
        · rw [drop_cons l ByteArray.empty j (by omega), ← e]
          simp [among]
      · obtain ⟨r, hr, hd⟩ := ih (j + 1) (by omega)
        refine ⟨r, Ev.step (f := fun k => slices_Index_string_string.l0 k l s (l.length : Int) ((j + 1 : Nat) : Int)) (fun k => ?_) hr, ?_⟩
        · simp only [slices_Index_string_string.l0]
          rw [if_pos (by omega), if_pos (by omega), if_pos (by omega), if_neg (by rw [rdS, toList_inj]; exact e), wrap_up j (by omega)]
        · rw [hd, drop_cons l ByteArray.empty j (by omega)]
          have e' : ¬ l.getD j ByteArray.empty = s := fun h => e h.symm
          simp only [among, List.any_cons, decide_eq_false e', Bool.false_or]
  obtain ⟨r, hr, hd⟩ := loop l.length 0 (by omega)
  refine Ev.bind (f := fun _ t => some (decide (t ≥ 0))) (a := r) hr ?_
  rw [show among l s = decide (r ≥ 0) by rw [hd]; rfl]
  exact Ev.now _
theorem contains_calls (l : List ByteArray) (s : ByteArray) (A : Option Addr) (c : Nat) (w : World) (hr : Kd.C Kd.string w A l.length l) (hc : l.length ≤ c) :
    Calls Tryd.prog 56 #[.slice A l.length c, .string s] w fun e w' => e = .returned (.bool (among l s)) ∧ Below w.heap.size w w' := by
  obtain ⟨k, hk⟩ := (contains_ev l s hr.2.1).rounds
  exact (slices_Contains_string_string.calls k _ _ _ _ _ _ hr hc hk).mono fun e w' h => ⟨h.1, h.2.below⟩
end Go.Proofs.YtmlcaecknocpoaaDoor.It
namespace Go.Proofs.YtmlcaecknocpoaaDoor.It
open Go Go.RowKit Go.Shelf Go.Proofs.YtmlcaecknocpoaaDoorW.PrintWords Go.Proofs.YtmlcaecknocpoaaDoorW.PrintLast Go.Proofs.YtmlcaecknocpoaaDoor.Pr Go.Proofs.YtmlcaecknocpoaaDoor.Sp
def Kept26 (W w : World) : Prop := ∀ (B : Nat) (cs : Array Value), W.heap[B]? = some (.cells cs 26 (0, 0)) → w.heap[B]? = some (.cells cs 26 (0, 0))
theorem Kept26.refl (W : World) : Kept26 W W := fun _ _ h => h
theorem Kept26.below {W w w1 : World} (h : Kept26 W w) (g : Below w.heap.size w w1) : Kept26 W w1 := fun B cs hB => blk_below g (h B cs hB)
theorem Kept26.trans {W w w1 : World} (h : Kept26 W w) (g : Kept26 w w1) : Kept26 W w1 := fun B cs hB => g B cs (h B cs hB)
theorem Kept26.map {W w w1 : World} {M n : Nat} {bl : List ByteArray} (h : Kept26 W w) (hm : MapIs w M n bl) (g : w.grownBy w1 (some M)) : Kept26 W w1 := fun B cs hB =>
  (g.block B (Array.getElem?_eq_some_iff.1 (h B cs hB)).1 (fun e => hm.ne (h B cs hB) (by injection e))).trans (h B cs hB)
theorem Kept26.app {W w w1 : World} {base Bo : Nat} {ok : Nat → Prop} {out : List ByteArray} {v v0 v1 : Value} (h : Kept26 W w) (row : Kd.R Kd.string 9 w base ok v out) (bo : w1.heap[Bo]? = some (.cells #[v0] 32 (0, 0))) (g : w.grownBy w1 v.ownBlock) : Kept26 W (w1.setCell ⟨Bo, 0, none⟩ v1) := fun B cs hB => by
  have h1 : w1.heap[B]? = some (.cells cs 26 (0, 0)) := (g.block B (Array.getElem?_eq_some_iff.1 (h B cs hB)).1 (Kd.R_ne row (h B cs hB) (by decide))).trans (h B cs hB)
  exact (Below.heap_setCell _ _ _ _ (blk_ne h1 bo (by decide))).trans h1
def BoxAt (W w : World) (k : Int) (nm : ByteArray) (nn : Int) (ts : List S47) (bs : List S42) (l : List S26) (A3 : Option Addr) (c3 : Nat) (A4 : Option Addr) (c4 : Nat) (A5 : Option Addr) (c5 : Nat) : Prop :=
  Kept26 (W.alloc (.cells #[.int .i64 k, .string nm, .int .i64 nn, .slice A3 ts.length c3, .slice A4 bs.length c4, .slice A5 l.length c5] 26)) w
theorem BoxAt.box {W w : World} {k : Int} {nm : ByteArray} {nn : Int} {ts : List S47} {bs : List S42} {l : List S26} {A3 : Option Addr} {c3 : Nat} {A4 : Option Addr} {c4 : Nat} {A5 : Option Addr} {c5 : Nat} (h : BoxAt W w k nm nn ts bs l A3 c3 A4 c4 A5 c5) :
    w.heap[W.heap.size]? = some (.cells #[.int .i64 k, .string nm, .int .i64 nn, .slice A3 ts.length c3, .slice A4 bs.length c4, .slice A5 l.length c5] 26 (0, 0)) := h _ _ (heap_new W _)
theorem BoxAt.kept {W w : World} {k : Int} {nm : ByteArray} {nn : Int} {ts : List S47} {bs : List S42} {l : List S26} {A3 : Option Addr} {c3 : Nat} {A4 : Option Addr} {c4 : Nat} {A5 : Option Addr} {c5 : Nat} (h : BoxAt W w k nm nn ts bs l A3 c3 A4 c4 A5 c5) : Kept26 W w :=
  ((Kept26.refl W).below ((Below.refl _ W).alloc (Nat.le_refl _) _)).trans h
theorem take_names (bl : List ByteArray) (bs : List S42) (j : Nat) (hj : j < bs.length) : bl ++ (bs.take (j + 1)).map (·.f0) = (bl ++ (bs.take j).map (·.f0)) ++ [(rd_T42 bs j).f0] := by
  rw [List.take_succ_eq_append_getElem hj, List.map_append, ← List.append_assoc]
  simp [rd_T42, List.getD, hj]
theorem i64_nat (n : Nat) (h : n ≤ 4000000) : I64 (n : Nat) := by
  have h1 : IntKind.i64.min = -9223372036854775808 := rfl
  have h2 : IntKind.i64.max = 9223372036854775807 := rfl
  unfold I64 Lit.wf
  simp [h1, h2]
  omega
theorem FS.bind_up {w0 W : World} {Bm Bo Bl M n : Nat} {bl out : List ByteArray} {v : Value} (h : FS w0 W Bm Bo Bl M n bl out v) (hn : n ≤ 2000000) (hbl : bl.length ≤ 2000000) (s : ByteArray) (hs : s.size ≤ maxLen) :
    (Instr.lookup 68 (.map (some M)) (.string s) false).run Tryd.prog W = .ok (.int .i64 (cnt bl s)) W ∧
    ∃ w1, (Instr.mapUpdate 68 (.map (some M)) (.string s) (.int .i64 ((cnt bl s : Int) + 1))).run Tryd.prog W = .ok () w1 ∧ W.grownBy w1 (some M) ∧ FS w0 w1 Bm Bo Bl M (n + 1) (bl ++ [s]) out v := by
  have hc : cnt (bl ++ [s]) s = cnt bl s + 1 := by rw [cnt_append, cnt_one]
  have hle := cnt_le bl s
  obtain ⟨w1, hrun, hm, hg⟩ := h.map.put (bl' := bl ++ [s]) (by simp [maxLen]; omega) s hs (i64_nat _ (by rw [hc]; omega)) (fun s' he => by rw [cnt_append, cnt_other he]; rfl)
  refine ⟨h.map.look s hs, w1, ?_, hg, h.mapped hg hm⟩
  rw [hc] at hrun
  simpa using hrun
theorem FS.bind_down {w0 W : World} {Bm Bo Bl M n : Nat} {bl bl' out : List ByteArray} {v : Value} (h : FS w0 W Bm Bo Bl M n bl out v) (hn : n ≤ 4000000) (hbl : bl'.length ≤ 2000000) (s : ByteArray) (hs : s.size ≤ maxLen) (hc : cnt bl s = cnt bl' s + 1 ∧ ∀ s', s' ≠ s → cnt bl' s' = cnt bl s') :
    (Instr.lookup 68 (.map (some M)) (.string s) false).run Tryd.prog W = .ok (.int .i64 ((cnt bl' s : Int) + 1)) W ∧
    ∃ w1, (Instr.mapUpdate 68 (.map (some M)) (.string s) (.int .i64 (cnt bl' s : Int))).run Tryd.prog W = .ok () w1 ∧ W.grownBy w1 (some M) ∧ FS w0 w1 Bm Bo Bl M (n + 1) bl' out v := by
  have hle := cnt_le bl' s
  obtain ⟨w1, hrun, hm, hg⟩ := h.map.put (bl' := bl') (by simp [maxLen]; omega) s hs (i64_nat _ (by omega)) hc.2
  have hl := h.map.look s hs
  rw [hc.1] at hl
  exact ⟨by simpa using hl, w1, hrun, hg, h.mapped hg hm⟩
theorem drop_names (bl : List ByteArray) (bs : List S42) (j : Nat) (hj : j < bs.length) : (cnt (bl ++ (bs.drop j).map (·.f0)) (rd_T42 bs j).f0 = cnt (bl ++ (bs.drop (j + 1)).map (·.f0)) (rd_T42 bs j).f0 + 1) ∧ ∀ s', s' ≠ (rd_T42 bs j).f0 → cnt (bl ++ (bs.drop (j + 1)).map (·.f0)) s' = cnt (bl ++ (bs.drop j).map (·.f0)) s' := by
  have e : bs.drop j = rd_T42 bs j :: bs.drop (j + 1) := by
    rw [List.drop_eq_getElem_cons hj]
    simp [rd_T42, List.getD, hj]
  rw [e, List.map_cons]
  have c : ∀ (a : ByteArray) (l : List ByteArray) (s : ByteArray), cnt (a :: l) s = cnt [a] s + cnt l s := fun a l s => cnt_append [a] l s
  refine ⟨?_, fun s' hs' => ?_⟩
  · rw [cnt_append, cnt_append, c, cnt_one]; omega
  · rw [cnt_append, cnt_append, c, cnt_other hs']; omega
theorem names_take (ts : List S47) (j : Nat) (hj : j < ts.length) : names (ts.take (j + 1)) = names (ts.take j) ++ (if (rd_T47 ts j).f0 = 1 then [] else [(rd_T47 ts j).f1]) := by
  rw [List.take_succ_eq_append_getElem hj]
  have e : ts[j] = rd_T47 ts j := by simp [rd_T47, List.getD, hj]
  rw [e]
  unfold names
  rw [List.filter_append, List.map_append]
  congr 1
  by_cases h : (rd_T47 ts j).f0 = 1 <;> simp [h]
theorem gaths_take (BL out : List ByteArray) (l : List S26) (j : Nat) (hj : j < l.length) : gaths BL out (l.take (j + 1)) = gath BL (gaths BL out (l.take j)) (rd_T26 l j) := by
  induction l generalizing j out with
  | nil => simp at hj
  | cons x l ih =>
    cases j with
    | zero => simp [gaths, rd_T26]
    | succ j =>
      have e : rd_T26 (x :: l) ((j + 1 : Nat) : Int) = rd_T26 l j := by simp [rd_T26]
      rw [e]
      simp only [List.take_succ_cons, gaths]
      exact ih _ j (by simpa using hj)
theorem nbs_take (l : List S26) (j : Nat) (hj : j < l.length) : nbs (l.take (j + 1)) = nbs (l.take j) + nb (rd_T26 l j) ∧ nbs (l.take (j + 1)) ≤ nbs l := by
  induction l generalizing j with
  | nil => simp at hj
  | cons x l ih =>
    cases j with
    | zero => simp [nbs, rd_T26]
    | succ j =>
      have e : rd_T26 (x :: l) ((j + 1 : Nat) : Int) = rd_T26 l j := by simp [rd_T26]
      have := ih j (by simpa using hj)
      rw [e]
      simp only [List.take_succ_cons, nbs]
      omega
theorem nts_take (l : List S26) (j : Nat) (hj : j < l.length) : nts (l.take (j + 1)) = nts (l.take j) + nt (rd_T26 l j) ∧ nts (l.take (j + 1)) ≤ nts l := by
  induction l generalizing j with
  | nil => simp at hj
  | cons x l ih =>
    cases j with
    | zero => simp [nts, rd_T26]
    | succ j =>
      have e : rd_T26 (x :: l) ((j + 1 : Nat) : Int) = rd_T26 l j := by simp [rd_T26]
      have := ih j (by simpa using hj)
      rw [e]
      simp only [List.take_succ_cons, nts]
      omega
theorem enters55 : ∀ args w, (callFunc 55 args).run Tryd.prog w = .ok (.enter 55 args) w := enters_of Tryd.func55 (by kernel_rfl) rfl
theorem snoc_len (O : List ByteArray) (s : ByteArray) : (O ++ [s]).length = O.length + 1 := by simp
def FreeOk (s : Nat) : Prop := ∀ (x : S26) (A3 : Option Addr) (c3 : Nat) (A4 : Option Addr) (c4 : Nat) (A5 : Option Addr) (c5 : Nat) (w0 W : World) (Bm Bo Bl M n : Nat) (bl out : List ByteArray) (v : Value),
  size x ≤ s → At w0 x A3 c3 A4 c4 A5 c5 → Deep x → FS w0 W Bm Bo Bl M n bl out v → n + 2 * nb x ≤ 1000000 → bl.length + nb x ≤ 1000000 → out.length + nt x ≤ 1000000 →
  Calls Tryd.prog 55 #[.agg #[.int .i64 x.f0, .string x.f1, .int .i64 x.f2, .slice A3 x.f3.length c3, .slice A4 x.f4.length c4, .slice A5 x.f5.length c5], .pointer (some ⟨Bm, 0, none⟩), .pointer (some ⟨Bo, 0, none⟩), .pointer (some ⟨Bl, 0, none⟩)] W fun e W' =>
    (∃ r, e = .returned r) ∧ Kept26 W W' ∧ ∃ v' n', n' ≤ n + 2 * nb x ∧ FS w0 W' Bm Bo Bl M n' bl (gath bl out x) v'
set_option maxRecDepth 100000 in
set_option maxHeartbeats 8000000 in
theorem free_step (s : Nat) (hS : FreeOk s) : FreeOk (s + 1) := by
  rintro ⟨k, nm, nn, ts, bs, l⟩ A3 c3 A4 c4 A5 c5 w0 W Bm Bo Bl M n bl out v hs hat hdp hF hn hbl hout
  have hu26 := Tryd.underlying26
  have hu42 := Tryd.underlying42
  have hu47 := Tryd.underlying47
  have hl4 : bs.length ≤ 1000000 := by simp only [nb] at hbl; omega
  have hl3 : ts.length ≤ 1000000 := by simp only [nt] at hout; omega
  have hl5 : l.length ≤ 9223372036854775807 := hat.g5.2.1
  have H := Aside0.mk (And.intro hS (And.intro hs (And.intro hat (And.intro hdp (And.intro hF (And.intro hn (And.intro hbl hout)))))))
  clear hS hs hat hdp hF hn hbl hout
  go_enter Tryd.func55, Tryd.ntmps55
  go_wp2_with fail
  have F1 := Aside0.mk (And.intro (H.out.2.2.2.2.1.up ((Below.refl W.heap.size W).alloc (Nat.le_refl _) (.cells #[.int .i64 k, .string nm, .int .i64 nn, .slice A3 ts.length c3, .slice A4 bs.length c4, .slice A5 l.length c5] 26))) (Kept26.refl _ : BoxAt W _ k nm nn ts bs l A3 c3 A4 c4 A5 c5))
  go_loopg [6, 16] bs.length (fun gg _ s16 wr => ∃ j : Nat, j ≤ bs.length ∧ bs.length - j ≤ gg ∧ s16 = .int .i64 j ∧ Aside0 (FS w0 wr Bm Bo Bl M (n + j) (bl ++ (bs.take j).map (·.f0)) out v ∧ BoxAt W wr k nm nn ts bs l A3 c3 A4 c4 A5 c5))
  case atStart => exact ⟨0, Nat.zero_le _, by omega, rfl, ⟨by simpa using F1.out.1, F1.out.2⟩⟩
  case round =>
    obtain ⟨j, hj, hg, rfl, HJ⟩ := hrel
    by_cases hlt : j < bs.length
    · have hltz : (j : Int) < (bs.length : Int) := by omega
      obtain ⟨ad, rfl, x0, x1⟩ := bindAt H.out.2.2.1.g4 HJ.out.1.h0 j hlt
      obtain ⟨b, hb⟩ : ∃ b, rd_T42 bs j = b := ⟨_, rfl⟩
      rw [hb] at x0 x1
      have up := (Below.refl wr.heap.size wr).alloc (Nat.le_refl _) (.cells #[.string b.f0, .int .i64 b.f1] 42)
      have FU := HJ.out.1.up up
      have hbm := (blk_cell FU.bm 0).trans rfl
      have hsz : b.f0.size ≤ maxLen := by rw [← hb]; exact H.out.2.2.2.1.self.bs _ (rd42_mem bs j hlt)
      have hq := H.out
      simp only [nb] at hq
      obtain ⟨hlook, w1, hput, hg1, FN⟩ := FU.bind_up (by omega) (by simp; omega) b.f0 hsz
      obtain ⟨q, hcq⟩ : ∃ q, cnt (bl ++ (bs.take j).map (·.f0)) b.f0 = q := ⟨_, rfl⟩
      have hqle : q ≤ 2000000 := by rw [← hcq]; exact Nat.le_trans (cnt_le _ _) (by simp; omega)
      rw [hcq] at hlook hput
      clear hcq
      have FN' := Aside0.mk FN
      have hg1' := Aside0.mk hg1
      have hbx := Aside0.mk (show BoxAt W w1 k nm nn ts bs l A3 c3 (some ad) c4 A5 c5 from (HJ.out.2.below up).map FU.map hg1)
      replace hb := Aside0.mk hb
      clear hq FN hg1 FU up hsz
      go_wp2_with fail
      go_roundg (bs.length - (j + 1))
      case measure => omega
      case rel => exact ⟨j + 1, by omega, by omega, by go_num, ⟨by rw [take_names bl bs j hlt, hb.out]; exact FN'.out, hbx.out⟩⟩
    · have hltz : ¬ (j : Int) < (bs.length : Int) := by omega
      have he : j = bs.length := by omega
      have HE := Aside0.mk he
      clear he hj
      obtain ⟨q0, q1, q2, q3, q4, q5⟩ := six HJ.out.2.box
      go_wp2_with fail
      have HL := Aside0.mk (And.intro HJ.out.1 HE.out)
      obtain ⟨BL, hBL⟩ : ∃ BL, bl ++ bs.map (·.f0) = BL := ⟨_, rfl⟩
      obtain ⟨n1, hn1⟩ : ∃ n1, n + bs.length = n1 := ⟨_, rfl⟩
      have F2 : FS w0 wr Bm Bo Bl M n1 BL out v := by
        have h := HL.out.1
        rw [HL.out.2, List.take_length, hBL, hn1] at h
        exact h
      have F2' := Aside0.mk (And.intro F2 HJ.out.2)
      replace hBL := Aside0.mk hBL
      replace hn1 := Aside0.mk hn1
      clear HL HE F2
      rename_i wr1
      go_loopg [8, 29] ts.length (fun gg _ s29 wr => ∃ j : Nat, j ≤ ts.length ∧ ts.length - j ≤ gg ∧ s29 = .int .i64 j ∧ Aside0 ((∃ v', FS w0 wr Bm Bo Bl M n1 BL (addAll BL out (names (ts.take j))) v') ∧ BoxAt W wr k nm nn ts bs l A3 c3 A4 c4 A5 c5))
      case atStart => exact ⟨0, Nat.zero_le _, by omega, rfl, ⟨⟨v, by simpa [names, addAll] using F2'.out.1⟩, F2'.out.2⟩⟩
      case round =>
        obtain ⟨j, hj, hg, rfl, HJ⟩ := hrel
        obtain ⟨⟨v', FJ⟩, HB⟩ := HJ.out
        by_cases hlt : j < ts.length
        · have hltz : (j : Int) < (ts.length : Int) := by omega
          obtain ⟨ad, rfl, x0, x1, x2⟩ := termAt H.out.2.2.1.g3 FJ.h0 j hlt
          have hnt := names_take ts j hlt
          obtain ⟨t, ht⟩ : ∃ t, rd_T47 ts j = t := ⟨_, rfl⟩
          rw [ht] at x0 x1 x2 hnt
          replace hnt := Aside0.mk hnt
          by_cases h1 : t.f0 = 1
          · have FJ' := Aside0.mk FJ
            have HB' := Aside0.mk HB
            have hup := Aside0.mk ((Below.refl wr.heap.size wr).alloc (Nat.le_refl _) (.cells #[.int .i64 t.f0, .string t.f1, .int .i64 t.f2] 47))
            clear FJ HB HJ
            go_wp2_with fail
            go_roundg (ts.length - (j + 1))
            case measure => omega
            case rel => exact ⟨j + 1, by omega, by omega, by go_num, ⟨⟨v', by rw [hnt.out, if_pos h1, List.append_nil]; rw [h1] at hup; exact FJ'.out.up hup.out⟩, by rw [h1] at hup; exact HB'.out.below hup.out⟩⟩
          · have up := (Below.refl wr.heap.size wr).alloc (Nat.le_refl _) (.cells #[.int .i64 t.f0, .string t.f1, .int .i64 t.f2] 47)
            have FU := FJ.up up
            have hbm := (blk_cell FU.bm 0).trans rfl
            have hbo := (blk_cell FU.bo 0).trans rfl
            have hsz : t.f1.size ≤ maxLen := by rw [← ht]; exact H.out.2.2.2.1.self.ts _ (rd47_mem ts j hlt)
            have hlook := FU.map.look t.f1 hsz
            have hz := Aside0.mk (cnt_zero BL t.f1)
            obtain ⟨A', c', rfl⟩ := Kd.R_slice FU.row
            have hCt := Aside0.mk (contains_calls (addAll BL out (names (ts.take j))) t.f1 A' c' _ (Kd.R_reads' FU.row).2.2 (Kd.R_reads' FU.row).2.1)
            have hadd : Aside0 (addAll BL out (names (ts.take (j + 1))) = if among BL t.f1 || among (addAll BL out (names (ts.take j))) t.f1 then addAll BL out (names (ts.take j)) else addAll BL out (names (ts.take j)) ++ [t.f1]) := ⟨by rw [hnt.out, if_neg h1, addAll_append]; rfl⟩
            obtain ⟨q, hq⟩ : ∃ q, cnt BL t.f1 = q := ⟨_, rfl⟩
            rw [hq] at hlook hz
            have hOl : Aside0 (((addAll BL out (names (ts.take j))).length + 1) * 16 ≤ 140737488355328) := ⟨by
              have h1 := addAll_length BL out (names (ts.take j))
              have h2 := names_length (ts.take j)
              have h3 : (ts.take j).length ≤ ts.length := by simp; omega
              have h4 := H.out.2.2.2.2.2.2.2
              simp only [nt] at h4
              omega⟩
            obtain ⟨O, hO⟩ : ∃ O, addAll BL out (names (ts.take j)) = O := ⟨_, rfl⟩
            rw [hO] at hadd hCt FU hbo FJ hOl
            have FU' := Aside0.mk FU
            have HB' := Aside0.mk (HB.below up)
            replace up := Aside0.mk up
            clear FU FJ HB HJ hO hq hsz hnt
            by_cases hq0 : q = 0
            · subst hq0
              have hbf : among BL t.f1 = false := hz.out.1 rfl
              replace hbf := Aside0.mk hbf
              have hb47 := Aside0.mk (heap_new wr (.cells #[.int .i64 t.f0, .string t.f1, .int .i64 t.f2] 47))
              cases hO : among O t.f1 with
              | true =>
                rw [hO] at hCt
                replace hO := Aside0.mk hO
                go_wp2_with (go_at_call 56; with_reducible refine hCt.out.mono ?_; rintro e w5 ⟨rfl, g5⟩)
                go_roundg (ts.length - (j + 1))
                case measure => omega
                case rel => exact ⟨j + 1, by omega, by omega, by go_num, ⟨⟨_, by rw [hadd.out, if_pos (by rw [hO.out, Bool.or_true])]; exact FU'.out.up g5⟩, HB'.out.below g5⟩⟩
              | false =>
                rw [hO] at hCt
                replace hO := Aside0.mk hO
                go_wp2_with (first
                  | (go_at_call 56; with_reducible refine hCt.out.mono ?_; rintro e w5 ⟨rfl, g5⟩; have F5 := Aside0.mk (FU'.out.up g5); have B5 := Aside0.mk (HB'.out.below g5); have z5 := blk_below g5 hb47.out; have o1 : w5.cell? ⟨wr.heap.size, 1, none⟩ = some (.string t.f1) := (blk_cell z5 1).trans rfl; have o2 := (blk_cell F5.out.bo 0).trans rfl; replace z5 := Aside0.mk z5; have sz5 : Bo < w5.heap.size := (Array.getElem?_eq_some_iff.1 F5.out.bo).1; have sz6 : wr.heap.size < w5.heap.size := (Array.getElem?_eq_some_iff.1 z5.out).1)
                  | ((with_reducible refine gate_builtin (b := .append) (xs := #[.tmp 50, .tmp 53]) rfl ?_); at_builtin; refine Kd.R_append Kd.string (w0 := w5) w0.heap.size rfl (.tmp 50) (.tmp 53) 32 9 (.string ⟨#[]⟩) 16 rfl Tryd.underlying32 info9 rfl (by decide) (by omega) (.slice A' O.length c') O t.f1 [.string t.f1] (fun _ => True) (fun _ => False) rfl rfl ?hp (fun _ h => h.elim) (fun _ _ => trivial) ?HO (Below.refl _ _) ?hbase ?hl ?_; (case hp => rfl); (case HO => exact F5.out.row); (case hbase => exact F5.out.h0.size); (case hl => exact hOl.out); intro v1 w6 ho6 hb6 hg6 hat6; obtain ⟨A6, c6, rfl⟩ := Kd.R_slice ho6; have e6 := snoc_len O t.f1; rw [e6] at ho6; clear e6; replace ho6 := Aside0.mk ho6; replace hb6 := Aside0.mk hb6; have bo6 := (hg6.block Bo sz5 (Kd.R_ne F5.out.row F5.out.bo (by decide))).trans F5.out.bo; have o6 := (blk_cell bo6 0).trans rfl; have f6 := blk_frozen bo6; have bx6 := Aside0.mk (fun v1 => B5.out.app (v1 := v1) F5.out.row bo6 hg6); replace hg6 := Aside0.mk hg6; replace bo6 := Aside0.mk bo6; clear hat6))
                go_roundg (ts.length - (j + 1))
                case measure => omega
                case rel =>
                  refine ⟨j + 1, by omega, by omega, by go_num, ⟨⟨_, by rw [hadd.out, if_neg (by rw [hbf.out, hO.out]; simp)]; exact F5.out.gathered ho6.out hb6.out hg6.out⟩, bx6.out _⟩⟩
            · have hbt : among BL t.f1 = true := by
                cases h : among BL t.f1 with
                | true => rfl
                | false => exact absurd (hz.out.2 h) hq0
              replace hbt := Aside0.mk hbt
              go_wp2_with fail
              go_roundg (ts.length - (j + 1))
              case measure => omega
              case rel => exact ⟨j + 1, by omega, by omega, by go_num, ⟨⟨_, by rw [hadd.out, if_pos (by rw [hbt.out]; rfl)]; exact FU'.out⟩, HB'.out⟩⟩
        · have hltz : ¬ (j : Int) < (ts.length : Int) := by omega
          have he : j = ts.length := by omega
          have HE := Aside0.mk he
          clear he hj
          obtain ⟨O2, hO2⟩ : ∃ O2, addAll BL out (names ts) = O2 := ⟨_, rfl⟩
          have F3 : FS w0 wr Bm Bo Bl M n1 BL O2 v' := by
            have h := FJ
            rw [HE.out, List.take_length, hO2] at h
            exact h
          have F3' := Aside0.mk (And.intro F3 HB)
          have hO2l : O2.length + nts l ≤ 1000000 := by
            have h1 := addAll_length BL out (names ts)
            have h2 := names_length ts
            have h4 := H.out.2.2.2.2.2.2.2
            simp only [nt] at h4
            rw [hO2] at h1
            omega
          have HN := Aside0.mk (show n1 + 2 * nbs l ≤ 1000000 ∧ BL.length + nbs l ≤ 1000000 ∧ O2.length + nts l ≤ 1000000 from by
            have h1 := H.out.2.2.2.2.2.1
            have h2 := H.out.2.2.2.2.2.2.1
            simp only [nb] at h1 h2
            have h3 := hn1.out
            have h5 : BL.length = bl.length + bs.length := by rw [← hBL.out]; simp
            omega)
          replace hO2 := Aside0.mk hO2
          obtain ⟨q0, q1, q2, q3, q4, q5⟩ := six HB.box
          clear FJ HJ F3 HE hO2l
          go_wp2_with fail
          go_loopg [10, 59] l.length (fun gg _ s59 wr => ∃ j : Nat, j ≤ l.length ∧ l.length - j ≤ gg ∧ s59 = .int .i64 j ∧ Aside0 ((∃ v' n', n' ≤ n1 + 2 * nbs (l.take j) ∧ FS w0 wr Bm Bo Bl M n' BL (gaths BL O2 (l.take j)) v') ∧ BoxAt W wr k nm nn ts bs l A3 c3 A4 c4 A5 c5))
          case atStart => exact ⟨0, Nat.zero_le _, by omega, rfl, ⟨⟨v', n1, by simp [nbs], by simpa [gaths] using F3'.out.1⟩, F3'.out.2⟩⟩
          case round =>
            obtain ⟨j, hj, hg, rfl, HJ⟩ := hrel
            obtain ⟨⟨v2, n2, hn2, FJ⟩, HB3⟩ := HJ.out
            by_cases hlt : j < l.length
            · have hltz : (j : Int) < (l.length : Int) := by omega
              obtain ⟨ad, B3, d3, B4, d4, B5, d5, rfl, hatj, x0, x1, x2, x3, x4, x5⟩ := formAt H.out.2.2.1.g5 FJ.h0 j hlt
              obtain ⟨y, hy⟩ : ∃ y, rd_T26 l j = y := ⟨_, rfl⟩
              rw [hy] at hatj x0 x1 x2 x3 x4 x5
              have up := (Below.refl wr.heap.size wr).alloc (Nat.le_refl _) (.cells #[.int .i64 y.f0, .string y.f1, .int .i64 y.f2, .slice B3 y.f3.length d3, .slice B4 y.f4.length d4, .slice B5 y.f5.length d5] 26)
              have FU := FJ.up up
              have hbf := (blk_cell FU.bf 0).trans rfl
              have hgt := Aside0.mk (gaths_take BL O2 l j hlt)
              have hnb := nbs_take l j hlt
              have hnt := nts_take l j hlt
              have hgl := gaths_length BL O2 (l.take j)
              rw [hy] at hgt hnb hnt
              have hN := HN.out
              have hcall := Aside0.mk (H.out.1 y B3 d3 B4 d4 B5 d5 w0 _ Bm Bo Bl M n2 BL (gaths BL O2 (l.take j)) v2 (by have := H.out.2.1; have h2 := sizes_take l j hlt; rw [hy] at h2; simp only [size] at this; omega) hatj (by rw [← hy]; exact H.out.2.2.2.1.child j hlt) FU (by omega) (by omega) (by omega))
              have HB4 := Aside0.mk (HB3.below up)
              have hn3 := Aside0.mk (show ∀ n', n' ≤ n2 + 2 * nb y → n' ≤ n1 + 2 * nbs (l.take (j + 1)) from fun n' h => by omega)
              have eg := enters55
              replace up := Aside0.mk up
              clear hN hgl hnt hnb FU FJ HJ HB3 hatj hy hn2
              go_wp2_with (go_at_fn 55; with_reducible refine hcall.out.mono ?_; rintro e w5 ⟨⟨r, rfl⟩, k5, v5, n5, hn5, F5⟩; replace k5 := Aside0.mk k5; replace F5 := Aside0.mk F5; replace hn5 := Aside0.mk hn5)
              go_roundg (l.length - (j + 1))
              case measure => omega
              case rel => exact ⟨j + 1, by omega, by omega, by go_num, ⟨⟨v5, n5, hn3.out n5 hn5.out, by rw [hgt.out]; exact F5.out⟩, HB4.out.trans k5.out⟩⟩
            · have hltz : ¬ (j : Int) < (l.length : Int) := by omega
              have he : j = l.length := by omega
              have HE := Aside0.mk he
              clear he hj
              obtain ⟨O3, hO3⟩ : ∃ O3, gaths BL O2 l = O3 := ⟨_, rfl⟩
              have F4 : FS w0 wr Bm Bo Bl M n2 BL O3 v2 := by
                have h := FJ
                rw [HE.out, List.take_length, hO3] at h
                exact h
              have F4' := Aside0.mk (And.intro F4 HB3)
              have hn4 := Aside0.mk (show n2 ≤ n1 + 2 * nbs l by have h := hn2; rw [HE.out, List.take_length] at h; exact h)
              replace hO3 := Aside0.mk hO3
              obtain ⟨q0, q1, q2, q3, q4, q5⟩ := six HB3.box
              clear FJ HJ F4 HE HB3 hn2
              go_wp2_with fail
              go_loopg [12, 70] bs.length (fun gg _ s70 wr => ∃ j : Nat, j ≤ bs.length ∧ bs.length - j ≤ gg ∧ s70 = .int .i64 j ∧ Aside0 (FS w0 wr Bm Bo Bl M (n2 + j) (bl ++ (bs.drop j).map (·.f0)) O3 v2 ∧ BoxAt W wr k nm nn ts bs l A3 c3 A4 c4 A5 c5))
              case atStart => exact ⟨0, Nat.zero_le _, by omega, rfl, ⟨by have h := F4'.out.1; rw [← hBL.out] at h; simpa using h, F4'.out.2⟩⟩
              case round =>
                obtain ⟨j, hj, hg, rfl, HJ⟩ := hrel
                by_cases hlt : j < bs.length
                · have hltz : (j : Int) < (bs.length : Int) := by omega
                  obtain ⟨ad, rfl, x0, x1⟩ := bindAt H.out.2.2.1.g4 HJ.out.1.h0 j hlt
                  have hdn := Aside0.mk (drop_names bl bs j hlt)
                  obtain ⟨b, hb⟩ : ∃ b, rd_T42 bs j = b := ⟨_, rfl⟩
                  rw [hb] at x0 x1 hdn
                  have up := (Below.refl wr.heap.size wr).alloc (Nat.le_refl _) (.cells #[.string b.f0, .int .i64 b.f1] 42)
                  have FU := HJ.out.1.up up
                  have hbm := (blk_cell FU.bm 0).trans rfl
                  have hsz : b.f0.size ≤ maxLen := by rw [← hb]; exact H.out.2.2.2.1.self.bs _ (rd42_mem bs j hlt)
                  have hq := H.out
                  simp only [nb] at hq
                  have h6 := hn4.out
                  have h7 := hn1.out
                  obtain ⟨hlook, w1, hput, hg1, FN⟩ := FU.bind_down (by omega) (by simp; omega) b.f0 hsz hdn.out
                  obtain ⟨q, hcq⟩ : ∃ q, cnt (bl ++ (bs.drop (j + 1)).map (·.f0)) b.f0 = q := ⟨_, rfl⟩
                  have hqle : q ≤ 2000000 := by rw [← hcq]; exact Nat.le_trans (cnt_le _ _) (by simp; omega)
                  rw [hcq] at hlook hput
                  clear hcq
                  have FN' := Aside0.mk FN
                  have hg1' := Aside0.mk hg1
                  have hbx := Aside0.mk (show BoxAt W w1 k nm nn ts bs l A3 c3 (some ad) c4 A5 c5 from (HJ.out.2.below up).map FU.map hg1)
                  replace hb := Aside0.mk hb
                  clear hq FN hg1 FU up hsz hdn h6 h7
                  go_wp2_with fail
                  go_roundg (bs.length - (j + 1))
                  case measure => omega
                  case rel => exact ⟨j + 1, by omega, by omega, by go_num, ⟨by have h := FN'.out; rw [Nat.add_assoc] at h; exact h, hbx.out⟩⟩
                · have hltz : ¬ (j : Int) < (bs.length : Int) := by omega
                  have he : j = bs.length := by omega
                  have HE := Aside0.mk he
                  clear he hj
                  go_wp2_with fail
                  go_end0
                  have h6 := hn4.out
                  have h7 := hn1.out
                  refine ⟨⟨_, rfl⟩, HJ.out.2.kept, v2, n2 + j, ?_, ?_⟩
                  · rw [HE.out, nb]; omega
                  · have h := HJ.out.1
                    rw [HE.out, List.drop_length, List.map_nil, List.append_nil] at h
                    rw [gath, hBL.out, hO2.out, hO3.out, HE.out]
                    exact h
theorem free_ok : ∀ s, FreeOk s
  | 0 => fun x A3 c3 A4 c4 A5 c5 w0 W Bm Bo Bl M n bl out v h => by rw [size_eq] at h; omega
  | s + 1 => free_step s (free_ok s)
end Go.Proofs.YtmlcaecknocpoaaDoor.It
namespace Go.Proofs.YtmlcaecknocpoaaDoor.It
set_option linter.unusedVariables false
set_option linter.unusedSimpArgs false
open Go Go.RowKit Go.Shelf Go.Proofs.YtmlcaecknocpoaaDoorW.PrintWords Go.Proofs.YtmlcaecknocpoaaDoorW.PrintLast Go.Proofs.YtmlcaecknocpoaaDoor.Pr Go.Proofs.YtmlcaecknocpoaaDoor.Sp
theorem MapIs.of_empty {w : World} {M : Nat} (h : w.heap[M]? = some (.map #[] 0)) : MapIs w M 0 [] := ⟨.map [], ⟨#[], 0, h, ⟨by simp, Go.MapKept.stamped_empty 0, by simp⟩, Nat.le_refl _, rfl⟩, fun _ => rfl⟩
theorem five_blocks (W : World) (o1 o2 o3 o4 o5 : Obj) (W5 : World) (h : ((((W.alloc o1).alloc o2).alloc o3).alloc o4).alloc o5 = W5) :
    W5.heap[W.heap.size]? = some o1 ∧ W5.heap[W.heap.size + 1]? = some o2 ∧ W5.heap[W.heap.size + 1 + 1]? = some o3 ∧ W5.heap[W.heap.size + 1 + 1 + 1]? = some o4 ∧ W5.heap[W.heap.size + 1 + 1 + 1 + 1]? = some o5 ∧ Below W.heap.size W W5 ∧ W5.heap.size = W.heap.size + 5 := by
  subst h
  have up : ∀ (w : World) (o : Obj), Below w.heap.size w (w.alloc o) := fun w o => (Below.refl _ _).alloc (Nat.le_refl _) o
  have nw : ∀ (w : World) (o : Obj) (n : Nat), w.heap.size = n → (w.alloc o).heap[n]? = some o := fun w o n e => e ▸ heap_new w o
  refine ⟨?_, ?_, ?_, ?_, ?_, ?_, ?_⟩
  · exact blk_below (up _ _) (blk_below (up _ _) (blk_below (up _ _) (blk_below (up _ _) (heap_new _ _))))
  · exact blk_below (up _ _) (blk_below (up _ _) (blk_below (up _ _) (nw _ _ _ (by simp))))
  · exact blk_below (up _ _) (blk_below (up _ _) (nw _ _ _ (by simp)))
  · exact blk_below (up _ _) (nw _ _ _ (by simp))
  · exact nw _ _ _ (by simp)
  · exact ((((up _ _).alloc (by simp) _).alloc (by simp; omega) _).alloc (by simp; omega) _).alloc (by simp; omega) _
  · simp
set_option maxRecDepth 100000 in
set_option maxHeartbeats 4000000 in
theorem free_calls (x : S26) (A3 : Option Addr) (c3 : Nat) (A4 : Option Addr) (c4 : Nat) (A5 : Option Addr) (c5 : Nat) (W : World) (hat : At W x A3 c3 A4 c4 A5 c5) (hdp : Deep x) (hnb : nb x ≤ 400000) (hnt : nt x ≤ 1000000) :
    Calls Tryd.prog 28 #[.agg #[.int .i64 x.f0, .string x.f1, .int .i64 x.f2, .slice A3 x.f3.length c3, .slice A4 x.f4.length c4, .slice A5 x.f5.length c5]] W fun e W' =>
      ∃ v, e = .returned v ∧ Below W.heap.size W W' ∧ Kd.R Kd.string 9 W' W.heap.size (fun _ => True) v (free x) := by
  have hu26 := Tryd.underlying26
  have eg := enters55
  have hmm := @run_makeMap Tryd.prog
  have H := Aside0.mk (And.intro hat (And.intro hdp (And.intro hnb hnt)))
  clear hat hdp hnb hnt
  go_enter Tryd.func28, Tryd.ntmps28
  obtain ⟨W5, hW5⟩ : ∃ W5, (((((W.alloc (.cells #[.int .i64 x.f0, .string x.f1, .int .i64 x.f2, .slice A3 x.f3.length c3, .slice A4 x.f4.length c4, .slice A5 x.f5.length c5] 26)).alloc (.map #[] 0)).alloc (.cells #[.map (some (W.heap.size + 1))] 68)).alloc (.cells #[.slice none 0 0] 32)).alloc (.cells #[(.func (.func 55) #[] #[.pointer (some ⟨W.heap.size + 1 + 1, 0, none⟩), .pointer (some ⟨W.heap.size + 1 + 1 + 1, 0, none⟩), .pointer (some ⟨W.heap.size + 1 + 1 + 1 + 1, 0, none⟩)])] 69)) = W5 := ⟨_, rfl⟩
  have h5 := five_blocks _ _ _ _ _ _ _ hW5
  obtain ⟨b1, b2, b3, b4, b5, hb, hsz⟩ := h5
  obtain ⟨q0, q1, q2, q3, q4, q5⟩ := six b1
  have q6 := (blk_cell b5 0).trans rfl
  have hF : FS W W5 (W.heap.size + 1 + 1) (W.heap.size + 1 + 1 + 1) (W.heap.size + 1 + 1 + 1 + 1) (W.heap.size + 1) 0 [] [] (.slice none 0 0) := by
    refine ⟨b3, b4, b5, ?_, ?_, hb, by omega, by omega⟩
    · exact MapIs.of_empty b2
    · exact Kd.R_nil _ _ _ _ _
  have hcall := Aside0.mk (free_ok (size x) x A3 c3 A4 c4 A5 c5 W _ _ _ _ _ 0 [] [] _ (Nat.le_refl _) H.out.1 H.out.2.1 hF (by have := H.out.2.2.1; omega) (by have := H.out.2.2.1; simp; omega) (by have := H.out.2.2.2; simp; omega))
  subst hW5
  clear hF b1 b2 b3 b4 b5 hb hsz
  go_wp2_with (go_at_fn 55; with_reducible refine hcall.out.mono ?_; rintro e w6 ⟨⟨r, rfl⟩, k6, v6, n6, hn6, F6⟩; have r6 := (blk_cell F6.bo 0).trans rfl; replace k6 := Aside0.mk k6; replace F6 := Aside0.mk F6; replace hn6 := Aside0.mk hn6)
  go_ret
  exact ⟨v6, rfl, F6.out.h0, by have h := F6.out.row; rw [free_gath] at h; exact h⟩
end Go.Proofs.YtmlcaecknocpoaaDoor.It
namespace Go.Proofs.YtmlcaecknocpoaaDoor.Pr
open Go.RowKit Go.Proofs.YtmlcaecknocpoaaDoorW.PrintWords Go.Proofs.YtmlcaecknocpoaaDoorW.PrintLast Go.Proofs.YtmlcaecknocpoaaDoorW.PrintMore
attribute [local go_sem] max2_int min2_int max_two min_two max_three min_three max_four min_four   
set_option linter.unusedVariables false
set_option linter.unusedSimpArgs false
end Go.Proofs.YtmlcaecknocpoaaDoor.Pr
namespace Go.Proofs.YtmlcaecknocpoaaDoor.Pr
open Go.RowKit Go.Proofs.YtmlcaecknocpoaaDoorW.PrintWords Go.Proofs.YtmlcaecknocpoaaDoorW.PrintLast Go.Proofs.YtmlcaecknocpoaaDoorW.PrintMore
attribute [local go_sem] max2_int min2_int max_two min_two max_three min_three max_four min_four   
set_option linter.unusedVariables false
set_option linter.unusedSimpArgs false
end Go.Proofs.YtmlcaecknocpoaaDoor.Pr
namespace Go.Proofs.YtmlcaecknocpoaaDoor.Pr
open Go.RowKit Go.Proofs.YtmlcaecknocpoaaDoorW.PrintWords Go.Proofs.YtmlcaecknocpoaaDoorW.PrintLast Go.Proofs.YtmlcaecknocpoaaDoorW.PrintMore
attribute [local go_sem] max2_int min2_int max_two min_two max_three min_three max_four min_four   
set_option linter.unusedVariables false
set_option linter.unusedSimpArgs false
attribute [local go_sem high] eqA42 eqA47
end Go.Proofs.YtmlcaecknocpoaaDoor.Pr
namespace Go.Proofs.YtmlcaecknocpoaaDoor.Pr
open Go.RowKit Go.Proofs.YtmlcaecknocpoaaDoorW.PrintWords Go.Proofs.YtmlcaecknocpoaaDoorW.PrintLast Go.Proofs.YtmlcaecknocpoaaDoorW.PrintMore
attribute [local go_sem] max2_int min2_int max_two min_two max_three min_three max_four min_four   
set_option linter.unusedVariables false
set_option linter.unusedSimpArgs false
end Go.Proofs.YtmlcaecknocpoaaDoor.Pr
namespace Go.Proofs.YtmlcaecknocpoaaDoor.Pr
open Go.RowKit Go.Proofs.YtmlcaecknocpoaaDoorW.PrintWords Go.Proofs.YtmlcaecknocpoaaDoorW.PrintLast Go.Proofs.YtmlcaecknocpoaaDoorW.PrintMore
attribute [local go_sem] max2_int min2_int max_two min_two max_three min_three max_four min_four   
set_option linter.unusedVariables false
set_option linter.unusedSimpArgs false
end Go.Proofs.YtmlcaecknocpoaaDoor.Pr
namespace Go.Proofs.YtmlcaecknocpoaaDoor.Pr
open Go.RowKit Go.Proofs.YtmlcaecknocpoaaDoorW.PrintWords Go.Proofs.YtmlcaecknocpoaaDoorW.PrintLast Go.Proofs.YtmlcaecknocpoaaDoorW.PrintMore
attribute [local go_sem] max2_int min2_int max_two min_two max_three min_three max_four min_four   
set_option linter.unusedVariables false
set_option linter.unusedSimpArgs false
mutual
def chalklineref06_Weigh.j1 : Nat → Int → Int → Int → ByteArray → Int → List (S47) → List (S42) → List (S26) → Option (Int)
  | 0, _, _, _, _, _, _, _, _ => none
  | k + 1, x1, x5, x102000, x102001, x102002, x102003, x102004, x102005 => chalklineref06_Weigh.l1 k x1 x5 0 x102000 x102001 x102002 x102003 x102004 x102005
def chalklineref06_Weigh.j3 : Nat → Int → Int → Int → ByteArray → Int → List (S47) → List (S42) → List (S26) → Option (Int)
  | 0, _, _, _, _, _, _, _, _ => none
  | k + 1, x1, x5, x102000, x102001, x102002, x102003, x102004, x102005 => chalklineref06_Weigh.l2 k x1 x5 0 x102000 x102001 x102002 x102003 x102004 x102005
def chalklineref06_Weigh.l2 : Nat → Int → Int → Int → Int → ByteArray → Int → List (S47) → List (S42) → List (S26) → Option (Int)
  | 0, _, _, _, _, _, _, _, _, _ => none
  | k + 1, x1, x5, x8, x102000, x102001, x102002, x102003, x102004, x102005 => if x8 < (x102005.length : Int) then (if x5 ≤ x1 then (if 0 ≤ x8 then ((chalklineref06_Weigh.f k ((rd_T26 x102005 x8).f0) ((rd_T26 x102005 x8).f1) ((rd_T26 x102005 x8).f2) ((rd_T26 x102005 x8).f3) ((rd_T26 x102005 x8).f4) ((rd_T26 x102005 x8).f5) x1).bind fun t105 => (chalklineref06_Weigh.l2 k x1 (wrap64 (x5 + t105)) (wrap64 (x8 + 1)) x102000 x102001 x102002 x102003 x102004 x102005)) else (none)) else (some x5)) else (some x5)
def chalklineref06_Weigh.l1 : Nat → Int → Int → Int → Int → ByteArray → Int → List (S47) → List (S42) → List (S26) → Option (Int)
  | 0, _, _, _, _, _, _, _, _, _ => none
  | k + 1, x1, x5, x7, x102000, x102001, x102002, x102003, x102004, x102005 => if x7 < (x102004.length : Int) then (if x5 ≤ x1 then (if 0 ≤ x7 then (chalklineref06_Weigh.l1 k x1 (wrap64 (x5 + (((rd_T42 x102004 x7).f0).size : Int))) (wrap64 (x7 + 1)) x102000 x102001 x102002 x102003 x102004 x102005) else (none)) else (chalklineref06_Weigh.j3 k x1 x5 x102000 x102001 x102002 x102003 x102004 x102005)) else (chalklineref06_Weigh.j3 k x1 x5 x102000 x102001 x102002 x102003 x102004 x102005)
def chalklineref06_Weigh.l0 : Nat → Int → Int → Int → Int → ByteArray → Int → List (S47) → List (S42) → List (S26) → Option (Int)
  | 0, _, _, _, _, _, _, _, _, _ => none
  | k + 1, x1, x5, x6, x102000, x102001, x102002, x102003, x102004, x102005 => if x6 < (x102003.length : Int) then (if x5 ≤ x1 then (if 0 ≤ x6 then (chalklineref06_Weigh.l0 k x1 (wrap64 (x5 + (((rd_T47 x102003 x6).f1).size : Int))) (wrap64 (x6 + 1)) x102000 x102001 x102002 x102003 x102004 x102005) else (none)) else (chalklineref06_Weigh.j1 k x1 x5 x102000 x102001 x102002 x102003 x102004 x102005)) else (chalklineref06_Weigh.j1 k x1 x5 x102000 x102001 x102002 x102003 x102004 x102005)
def chalklineref06_Weigh.f : Nat → Int → ByteArray → Int → List (S47) → List (S42) → List (S26) → Int → Option (Int)
  | 0, _, _, _, _, _, _, _ => none
  | k + 1, a0_0, a0_1, a0_2, l0_3, l0_4, l0_5, a1 => chalklineref06_Weigh.l0 k a1 (wrap64 ((wrap64 ((wrap64 (1 + (a0_1.size : Int))) + (l0_3.length : Int))) + (l0_4.length : Int))) 0 a0_0 a0_1 a0_2 l0_3 l0_4 l0_5
end
set_option maxHeartbeats 8000000 in
set_option maxRecDepth 100000 in
theorem chalklineref06_Weigh.calls (k : Nat) : ∀ (a0_0 : Int) (a0_1 : ByteArray) (a0_2 : Int) (A0_3 : Option Addr) (c0_3 : Nat) (l0_3 : List (S47)) (A0_4 : Option Addr) (c0_4 : Nat) (l0_4 : List (S42)) (A0_5 : Option Addr) (c0_5 : Nat) (l0_5 : List (S26)) (a1 : Int) (r : Int) (w : World) (hr0_3 : Kd.C k47 w A0_3 l0_3.length l0_3) (hc0_3 : l0_3.length ≤ c0_3) (hr0_4 : Kd.C k42 w A0_4 l0_4.length l0_4) (hc0_4 : l0_4.length ≤ c0_4) (hr0_5 : Kd.C k26 w A0_5 l0_5.length l0_5) (hc0_5 : l0_5.length ≤ c0_5) (h : chalklineref06_Weigh.f k a0_0 a0_1 a0_2 l0_3 l0_4 l0_5 a1 = some r),
    Calls Tryd.prog 51 #[.agg #[.int .i64 a0_0, .string a0_1, .int .i64 a0_2, .slice A0_3 l0_3.length c0_3, .slice A0_4 l0_4.length c0_4, .slice A0_5 l0_5.length c0_5], .int .i64 a1] w fun e w' => e = .returned (.int .i64 r) ∧ Below w.heap.size w w' := by
  induction k using Nat.strongRecOn with
  | _ k ih =>
  intro a0_0 a0_1 a0_2 A0_3 c0_3 l0_3 A0_4 c0_4 l0_4 A0_5 c0_5 l0_5 a1 r w hr0_3 hc0_3 hr0_4 hc0_4 hr0_5 hc0_5 h
  cases k with
  | zero => exact absurd h (by simp [chalklineref06_Weigh.f])
  | succ k =>
  simp only [chalklineref06_Weigh.f] at h
  have hu26 := Tryd.underlying26
  have HR0_3 := Aside0.mk hr0_3
  have HC0_3 := Aside0.mk hc0_3
  clear hr0_3 hc0_3
  have HR0_4 := Aside0.mk hr0_4
  have HC0_4 := Aside0.mk hc0_4
  clear hr0_4 hc0_4
  have HR0_5 := Aside0.mk hr0_5
  have HC0_5 := Aside0.mk hc0_5
  clear hr0_5 hc0_5
  have HB := Aside0.mk (Below.refl w.heap.size w)
  have H : (chalklineref06_Weigh.l0 k a1 (wrap64 ((wrap64 ((wrap64 (1 + (a0_1.size : Int))) + (l0_3.length : Int))) + (l0_4.length : Int))) 0 a0_0 a0_1 a0_2 l0_3 l0_4 l0_5) = some r := h
  clear h
  have HC3 := Aside0.mk H
  clear H
  go_enter Tryd.func51, Tryd.ntmps51
  go_upto_block 0 with (first | ((with_reducible refine gate_dst (N := 2) rfl ?_); refine box_event ?hg (N := 2) ?hd (cs := #[.int .i64 a0_0, .string a0_1, .int .i64 a0_2, .slice A0_3 l0_3.length c0_3, .slice A0_4 l0_4.length c0_4, .slice A0_5 l0_5.length c0_5]) (t := 26) ?hr ?_; (case hd => rfl); (case hg => rfl); (case hr => first | (go_simp; done) | (go_simp; rfl)); intro gb101 hg w4 hbox hb; have n0_ := Aside0.mk (below_step (by repeat (first | (with_reducible first | exact HB.out | apply below_alloc | apply pw_below_drewN | apply below_drew1) | exact HB.out)) hb); have n1_ := Aside0.mk (hbox); have n2_ := Aside0.mk ((by rw [hg]; exact (below_size (by repeat (first | (with_reducible first | exact HB.out | apply below_alloc | apply pw_below_drewN | apply below_drew1) | exact HB.out))) : w.heap.size ≤ gb101)); have n3_ := Aside0.mk ((by rw [hg]; exact (below_size (by repeat (first | (with_reducible first | exact HB.out | apply below_alloc | apply pw_below_drewN | apply below_drew1) | exact HB.out))) : w.heap.size ≤ gb101)); clear HB; have HB := n0_; have BK101 := n1_; have GW101 := n2_; have GE101 := n3_; clear n0_ n1_ n2_ n3_; clear hb hbox hg; have hcz5_0 : w4.cell? ⟨gb101, 0, none⟩ = some (.int .i64 a0_0) := (blk_cell BK101.out 0).trans rfl; have hcz5_1 : w4.cell? ⟨gb101, 1, none⟩ = some (.string a0_1) := (blk_cell BK101.out 1).trans rfl; have hcz5_2 : w4.cell? ⟨gb101, 2, none⟩ = some (.int .i64 a0_2) := (blk_cell BK101.out 2).trans rfl; have hcz5_3 : w4.cell? ⟨gb101, 3, none⟩ = some (.slice A0_3 l0_3.length c0_3) := (blk_cell BK101.out 3).trans rfl; have hcz5_4 : w4.cell? ⟨gb101, 4, none⟩ = some (.slice A0_4 l0_4.length c0_4) := (blk_cell BK101.out 4).trans rfl; have hcz5_5 : w4.cell? ⟨gb101, 5, none⟩ = some (.slice A0_5 l0_5.length c0_5) := (blk_cell BK101.out 5).trans rfl; have hfz5_0 := blk_frozen BK101.out 0; have hfz5_1 := blk_frozen BK101.out 1; have hfz5_2 := blk_frozen BK101.out 2; have hfz5_3 := blk_frozen BK101.out 3; have hfz5_4 := blk_frozen BK101.out 4; have hfz5_5 := blk_frozen BK101.out 5))
  (try simp only [Act.put, List.setIfInBounds_toArray, List.set_cons_zero, List.set_cons_succ])
  go_cut [5] (fun v5 wc => ∃ (kq : Nat) (x5_2 : Int), v5 = .int .i64 x5_2 ∧ Aside0 (chalklineref06_Weigh.j1 kq a1 x5_2 a0_0 a0_1 a0_2 l0_3 l0_4 l0_5 = some r) ∧ Aside0 (kq ≤ k) ∧ Aside0 (wc.heap[gb101]? = some (.cells #[.int .i64 a0_0, .string a0_1, .int .i64 a0_2, (.slice A0_3 l0_3.length c0_3), (.slice A0_4 l0_4.length c0_4), (.slice A0_5 l0_5.length c0_5)] 26 (0, 0))) ∧ Aside0 (Below w.heap.size w wc))
  case first =>
    have H := HC3.out
    clear HC3
    have H' := Aside0.mk H
    clear H
    go_wp2
    go_loopg [5, 6] k (fun kq v5 v6 w' => ∃ (x5_1 : Int) (x6_1 : Int), v5 = .int .i64 x5_1 ∧ v6 = .int .i64 x6_1 ∧ Aside0 (chalklineref06_Weigh.l0 kq a1 x5_1 x6_1 a0_0 a0_1 a0_2 l0_3 l0_4 l0_5 = some r) ∧ Aside0 (kq ≤ k) ∧ Aside0 (w'.heap[gb101]? = some (.cells #[.int .i64 a0_0, .string a0_1, .int .i64 a0_2, (.slice A0_3 l0_3.length c0_3), (.slice A0_4 l0_4.length c0_4), (.slice A0_5 l0_5.length c0_5)] 26 (0, 0))) ∧ Aside0 (Below w.heap.size w w'))
    case atStart => exact ⟨(wrap64 ((wrap64 ((wrap64 (1 + (a0_1.size : Int))) + (l0_3.length : Int))) + (l0_4.length : Int))), (0), (by first | rfl | (simp; done) | (simp [*]; done)), (by first | rfl | (simp; done) | (simp [*]; done)), H', ⟨Nat.le_refl _⟩, ⟨by (with_reducible repeat (first | refine blk_drewN ?_ _ | refine blk_drew ?_ | refine blk_alloc ?_ _)); exact BK101.out⟩, ⟨by repeat (first | (with_reducible first | exact HB.out | apply below_alloc | apply pw_below_drewN | apply below_drew1 | refine below_set ?_ GE101.out) | exact HB.out)⟩⟩
    case round =>
      clear H'
      try clear p2
      try clear c5
      try clear hcz5_0
      try clear hcz5_1
      try clear hcz5_2
      try clear hcz5_3
      try clear hcz5_4
      try clear hcz5_5
      try clear hfz5_0
      try clear hfz5_1
      try clear hfz5_2
      try clear hfz5_3
      try clear hfz5_4
      try clear hfz5_5
      obtain ⟨x5_1, x6_1, rfl, rfl, HA, HK1, BK101, HB⟩ := hrel
      cases gk with
      | zero => exact absurd HA.out (by simp [chalklineref06_Weigh.l0])
      | succ k1 =>
        have H := HA.out
        clear HA
        simp only [chalklineref06_Weigh.l0] at H
        by_cases c6 : x6_1 < (l0_3.length : Int)
        · rw [if_pos c6] at H
          have c6b0 : decide (x6_1 < (l0_3.length : Int)) = true := decide_eq_true c6
          clear c6
          (first | rw [c6b0] | (simp only [i64_w, i32_w]; rw [c6b0]) | skip)
          by_cases c7 : x5_1 ≤ a1
          · rw [if_pos c7] at H
            have c7b0 : decide (x5_1 ≤ a1) = true := decide_eq_true c7
            clear c7
            by_cases c8 : 0 ≤ x6_1
            · rw [if_pos c8] at H
              have c8b0 : decide (0 ≤ x6_1) = true := decide_eq_true c8
              clear c8
              have H' := Aside0.mk H
              clear H
              have hcz9_0 : wr.cell? ⟨gb101, 0, none⟩ = some (.int .i64 a0_0) := (blk_cell BK101.out 0).trans rfl
              have hcz9_1 : wr.cell? ⟨gb101, 1, none⟩ = some (.string a0_1) := (blk_cell BK101.out 1).trans rfl
              have hcz9_2 : wr.cell? ⟨gb101, 2, none⟩ = some (.int .i64 a0_2) := (blk_cell BK101.out 2).trans rfl
              have hcz9_3 : wr.cell? ⟨gb101, 3, none⟩ = some (.slice A0_3 l0_3.length c0_3) := (blk_cell BK101.out 3).trans rfl
              have hcz9_4 : wr.cell? ⟨gb101, 4, none⟩ = some (.slice A0_4 l0_4.length c0_4) := (blk_cell BK101.out 4).trans rfl
              have hcz9_5 : wr.cell? ⟨gb101, 5, none⟩ = some (.slice A0_5 l0_5.length c0_5) := (blk_cell BK101.out 5).trans rfl
              have hfz9_0 := blk_frozen BK101.out 0
              have hfz9_1 := blk_frozen BK101.out 1
              have hfz9_2 := blk_frozen BK101.out 2
              have hfz9_3 := blk_frozen BK101.out 3
              have hfz9_4 := blk_frozen BK101.out 4
              have hfz9_5 := blk_frozen BK101.out 5
              have p102 : 0 ≤ (x6_1 : Int) := of_decide_eq_true (by first | (with_reducible assumption) | assumption)
              have q102 : x6_1 < (l0_3.length : Int) := of_decide_eq_true (by first | (with_reducible assumption) | assumption)
              obtain ⟨ad102, e102, hx102_0, hx102_1, hx102_2⟩ := at_T47 HR0_3.out x6_1 p102 q102
              cases e102
              replace hx102_0 := (HB.out.cell (World.block_lt_of_cell? w _ hx102_0)).trans hx102_0
              replace hx102_1 := (HB.out.cell (World.block_lt_of_cell? w _ hx102_1)).trans hx102_1
              replace hx102_2 := (HB.out.cell (World.block_lt_of_cell? w _ hx102_2)).trans hx102_2
              replace p102 := eq_true p102
              replace q102 := eq_true q102
              go_wp2
              go_roundg k1
              case measure => have := HK1.out; omega
              case rel => exact ⟨(wrap64 (x5_1 + (((rd_T47 l0_3 x6_1).f1).size : Int))), (wrap64 (x6_1 + 1)), (by first | rfl | (simp; done) | (simp [*]; done)), (by first | rfl | (simp; done) | (simp [*]; done)), H', ⟨by have := HK1.out; omega⟩, ⟨by (with_reducible repeat (first | refine blk_drewN ?_ _ | refine blk_drew ?_ | refine blk_alloc ?_ _)); exact BK101.out⟩, ⟨by repeat (first | (with_reducible first | exact HB.out | apply below_alloc | apply pw_below_drewN | apply below_drew1 | refine below_set ?_ GE101.out) | exact HB.out)⟩⟩
            · rw [if_neg c8] at H
              exact absurd H (by simp)
          · rw [if_neg c7] at H
            have c7b0 : decide (x5_1 ≤ a1) = false := decide_eq_false c7
            clear c7
            have H' := Aside0.mk H
            clear H
            have hcz10_0 : wr.cell? ⟨gb101, 0, none⟩ = some (.int .i64 a0_0) := (blk_cell BK101.out 0).trans rfl
            have hcz10_1 : wr.cell? ⟨gb101, 1, none⟩ = some (.string a0_1) := (blk_cell BK101.out 1).trans rfl
            have hcz10_2 : wr.cell? ⟨gb101, 2, none⟩ = some (.int .i64 a0_2) := (blk_cell BK101.out 2).trans rfl
            have hcz10_3 : wr.cell? ⟨gb101, 3, none⟩ = some (.slice A0_3 l0_3.length c0_3) := (blk_cell BK101.out 3).trans rfl
            have hcz10_4 : wr.cell? ⟨gb101, 4, none⟩ = some (.slice A0_4 l0_4.length c0_4) := (blk_cell BK101.out 4).trans rfl
            have hcz10_5 : wr.cell? ⟨gb101, 5, none⟩ = some (.slice A0_5 l0_5.length c0_5) := (blk_cell BK101.out 5).trans rfl
            have hfz10_0 := blk_frozen BK101.out 0
            have hfz10_1 := blk_frozen BK101.out 1
            have hfz10_2 := blk_frozen BK101.out 2
            have hfz10_3 := blk_frozen BK101.out 3
            have hfz10_4 := blk_frozen BK101.out 4
            have hfz10_5 := blk_frozen BK101.out 5
            go_wp2
            go_meet
            case rel => exact ⟨_, (x5_1), (by first | rfl | (simp; done) | (simp [*]; done)), H', ⟨by have := HK1.out; first | omega | exact Nat.le_refl _⟩, ⟨by (with_reducible repeat (first | refine blk_drewN ?_ _ | refine blk_drew ?_ | refine blk_alloc ?_ _)); exact BK101.out⟩, ⟨by repeat (first | (with_reducible first | exact HB.out | apply below_alloc | apply pw_below_drewN | apply below_drew1 | refine below_set ?_ GE101.out) | exact HB.out)⟩⟩
        · rw [if_neg c6] at H
          have c6b0 : decide (x6_1 < (l0_3.length : Int)) = false := decide_eq_false c6
          clear c6
          (first | rw [c6b0] | (simp only [i64_w, i32_w]; rw [c6b0]) | skip)
          have H' := Aside0.mk H
          clear H
          have hcz11_0 : wr.cell? ⟨gb101, 0, none⟩ = some (.int .i64 a0_0) := (blk_cell BK101.out 0).trans rfl
          have hcz11_1 : wr.cell? ⟨gb101, 1, none⟩ = some (.string a0_1) := (blk_cell BK101.out 1).trans rfl
          have hcz11_2 : wr.cell? ⟨gb101, 2, none⟩ = some (.int .i64 a0_2) := (blk_cell BK101.out 2).trans rfl
          have hcz11_3 : wr.cell? ⟨gb101, 3, none⟩ = some (.slice A0_3 l0_3.length c0_3) := (blk_cell BK101.out 3).trans rfl
          have hcz11_4 : wr.cell? ⟨gb101, 4, none⟩ = some (.slice A0_4 l0_4.length c0_4) := (blk_cell BK101.out 4).trans rfl
          have hcz11_5 : wr.cell? ⟨gb101, 5, none⟩ = some (.slice A0_5 l0_5.length c0_5) := (blk_cell BK101.out 5).trans rfl
          have hfz11_0 := blk_frozen BK101.out 0
          have hfz11_1 := blk_frozen BK101.out 1
          have hfz11_2 := blk_frozen BK101.out 2
          have hfz11_3 := blk_frozen BK101.out 3
          have hfz11_4 := blk_frozen BK101.out 4
          have hfz11_5 := blk_frozen BK101.out 5
          go_wp2
          go_meet
          case rel => exact ⟨_, (x5_1), (by first | rfl | (simp; done) | (simp [*]; done)), H', ⟨by have := HK1.out; first | omega | exact Nat.le_refl _⟩, ⟨by (with_reducible repeat (first | refine blk_drewN ?_ _ | refine blk_drew ?_ | refine blk_alloc ?_ _)); exact BK101.out⟩, ⟨by repeat (first | (with_reducible first | exact HB.out | apply below_alloc | apply pw_below_drewN | apply below_drew1 | refine below_set ?_ GE101.out) | exact HB.out)⟩⟩
  case rest =>
    clear HC3
    try clear p1
    try clear q1
    try clear hx1
    try clear p2
    try clear c5
    try clear c6
    try clear c6b0
    try clear p6
    try clear c7
    try clear c7b0
    try clear c8
    try clear c8b0
    try clear p10
    try clear q10
    try clear hx10
    try clear hcz10_0
    try clear hcz10_1
    try clear hcz10_2
    try clear hcz10_3
    try clear hcz10_4
    try clear hcz10_5
    try clear hcz11_0
    try clear hcz11_1
    try clear hcz11_2
    try clear hcz11_3
    try clear hcz11_4
    try clear hcz11_5
    try clear hcz5_0
    try clear hcz5_1
    try clear hcz5_2
    try clear hcz5_3
    try clear hcz5_4
    try clear hcz5_5
    try clear hcz9_0
    try clear hcz9_1
    try clear hcz9_2
    try clear hcz9_3
    try clear hcz9_4
    try clear hcz9_5
    try clear hfz10_0
    try clear hfz10_1
    try clear hfz10_2
    try clear hfz10_3
    try clear hfz10_4
    try clear hfz10_5
    try clear hfz11_0
    try clear hfz11_1
    try clear hfz11_2
    try clear hfz11_3
    try clear hfz11_4
    try clear hfz11_5
    try clear hfz5_0
    try clear hfz5_1
    try clear hfz5_2
    try clear hfz5_3
    try clear hfz5_4
    try clear hfz5_5
    try clear hfz9_0
    try clear hfz9_1
    try clear hfz9_2
    try clear hfz9_3
    try clear hfz9_4
    try clear hfz9_5
    try clear hx102_0
    try clear hx102_1
    try clear hx102_2
    try clear p102
    try clear p2
    try clear q102
    obtain ⟨kq, x5_2, rfl, HA, HJ2, BK101, HB⟩ := hcut
    cases kq with
    | zero => exact absurd HA.out (by simp [chalklineref06_Weigh.j1])
    | succ kj2 =>
      have H := HA.out
      clear HA
      simp only [chalklineref06_Weigh.j1] at H
      have HC12 := Aside0.mk H
      clear H
      go_upto_block 2 with (fail)
      go_cut [5] (fun v5 wc => ∃ (kq : Nat) (x5_11 : Int), v5 = .int .i64 x5_11 ∧ Aside0 (chalklineref06_Weigh.j3 kq a1 x5_11 a0_0 a0_1 a0_2 l0_3 l0_4 l0_5 = some r) ∧ Aside0 (kq ≤ kj2) ∧ Aside0 (wc.heap[gb101]? = some (.cells #[.int .i64 a0_0, .string a0_1, .int .i64 a0_2, (.slice A0_3 l0_3.length c0_3), (.slice A0_4 l0_4.length c0_4), (.slice A0_5 l0_5.length c0_5)] 26 (0, 0))) ∧ Aside0 (Below w.heap.size w wc))
      case first =>
        have H := HC12.out
        clear HC12
        have H' := Aside0.mk H
        clear H
        go_wp2
        go_loopg [5, 7] kj2 (fun kq v5 v7 w' => ∃ (x5_2 : Int) (x7_2 : Int), v5 = .int .i64 x5_2 ∧ v7 = .int .i64 x7_2 ∧ Aside0 (chalklineref06_Weigh.l1 kq a1 x5_2 x7_2 a0_0 a0_1 a0_2 l0_3 l0_4 l0_5 = some r) ∧ Aside0 (kq ≤ kj2) ∧ Aside0 (w'.heap[gb101]? = some (.cells #[.int .i64 a0_0, .string a0_1, .int .i64 a0_2, (.slice A0_3 l0_3.length c0_3), (.slice A0_4 l0_4.length c0_4), (.slice A0_5 l0_5.length c0_5)] 26 (0, 0))) ∧ Aside0 (Below w.heap.size w w'))
        case atStart => exact ⟨(x5_2), (0), (by first | rfl | (simp; done) | (simp [*]; done)), (by first | rfl | (simp; done) | (simp [*]; done)), H', ⟨Nat.le_refl _⟩, ⟨by (with_reducible repeat (first | refine blk_drewN ?_ _ | refine blk_drew ?_ | refine blk_alloc ?_ _)); exact BK101.out⟩, ⟨by repeat (first | (with_reducible first | exact HB.out | apply below_alloc | apply pw_below_drewN | apply below_drew1 | refine below_set ?_ GE101.out) | exact HB.out)⟩⟩
        case round =>
          clear H'
          try clear p1
          try clear q1
          try clear hx1
          try clear p2
          try clear c5
          try clear c6
          try clear c6b0
          try clear p6
          try clear c7
          try clear c7b0
          try clear c8
          try clear c8b0
          try clear p10
          try clear q10
          try clear hx10
          try clear hcz10_0
          try clear hcz10_1
          try clear hcz10_2
          try clear hcz10_3
          try clear hcz10_4
          try clear hcz10_5
          try clear hcz11_0
          try clear hcz11_1
          try clear hcz11_2
          try clear hcz11_3
          try clear hcz11_4
          try clear hcz11_5
          try clear hcz5_0
          try clear hcz5_1
          try clear hcz5_2
          try clear hcz5_3
          try clear hcz5_4
          try clear hcz5_5
          try clear hcz9_0
          try clear hcz9_1
          try clear hcz9_2
          try clear hcz9_3
          try clear hcz9_4
          try clear hcz9_5
          try clear hfz10_0
          try clear hfz10_1
          try clear hfz10_2
          try clear hfz10_3
          try clear hfz10_4
          try clear hfz10_5
          try clear hfz11_0
          try clear hfz11_1
          try clear hfz11_2
          try clear hfz11_3
          try clear hfz11_4
          try clear hfz11_5
          try clear hfz5_0
          try clear hfz5_1
          try clear hfz5_2
          try clear hfz5_3
          try clear hfz5_4
          try clear hfz5_5
          try clear hfz9_0
          try clear hfz9_1
          try clear hfz9_2
          try clear hfz9_3
          try clear hfz9_4
          try clear hfz9_5
          try clear hx102_0
          try clear hx102_1
          try clear hx102_2
          try clear p1
          try clear p10
          try clear p102
          try clear p2
          try clear p6
          try clear q1
          try clear q10
          try clear q102
          obtain ⟨x5_2, x7_2, rfl, rfl, HA, HK2, BK101, HB⟩ := hrel
          cases gk with
          | zero => exact absurd HA.out (by simp [chalklineref06_Weigh.l1])
          | succ k2 =>
            have H := HA.out
            clear HA
            simp only [chalklineref06_Weigh.l1] at H
            by_cases c13 : x7_2 < (l0_4.length : Int)
            · rw [if_pos c13] at H
              have c13b0 : decide (x7_2 < (l0_4.length : Int)) = true := decide_eq_true c13
              clear c13
              (first | rw [c13b0] | (simp only [i64_w, i32_w]; rw [c13b0]) | skip)
              by_cases c14 : x5_2 ≤ a1
              · rw [if_pos c14] at H
                have c14b0 : decide (x5_2 ≤ a1) = true := decide_eq_true c14
                clear c14
                by_cases c15 : 0 ≤ x7_2
                · rw [if_pos c15] at H
                  have c15b0 : decide (0 ≤ x7_2) = true := decide_eq_true c15
                  clear c15
                  have H' := Aside0.mk H
                  clear H
                  have hcz16_0 : wr.cell? ⟨gb101, 0, none⟩ = some (.int .i64 a0_0) := (blk_cell BK101.out 0).trans rfl
                  have hcz16_1 : wr.cell? ⟨gb101, 1, none⟩ = some (.string a0_1) := (blk_cell BK101.out 1).trans rfl
                  have hcz16_2 : wr.cell? ⟨gb101, 2, none⟩ = some (.int .i64 a0_2) := (blk_cell BK101.out 2).trans rfl
                  have hcz16_3 : wr.cell? ⟨gb101, 3, none⟩ = some (.slice A0_3 l0_3.length c0_3) := (blk_cell BK101.out 3).trans rfl
                  have hcz16_4 : wr.cell? ⟨gb101, 4, none⟩ = some (.slice A0_4 l0_4.length c0_4) := (blk_cell BK101.out 4).trans rfl
                  have hcz16_5 : wr.cell? ⟨gb101, 5, none⟩ = some (.slice A0_5 l0_5.length c0_5) := (blk_cell BK101.out 5).trans rfl
                  have hfz16_0 := blk_frozen BK101.out 0
                  have hfz16_1 := blk_frozen BK101.out 1
                  have hfz16_2 := blk_frozen BK101.out 2
                  have hfz16_3 := blk_frozen BK101.out 3
                  have hfz16_4 := blk_frozen BK101.out 4
                  have hfz16_5 := blk_frozen BK101.out 5
                  have p103 : 0 ≤ (x7_2 : Int) := of_decide_eq_true (by first | (with_reducible assumption) | assumption)
                  have q103 : x7_2 < (l0_4.length : Int) := of_decide_eq_true (by first | (with_reducible assumption) | assumption)
                  obtain ⟨ad103, e103, hx103_0, hx103_1⟩ := at_T42 HR0_4.out x7_2 p103 q103
                  cases e103
                  replace hx103_0 := (HB.out.cell (World.block_lt_of_cell? w _ hx103_0)).trans hx103_0
                  replace hx103_1 := (HB.out.cell (World.block_lt_of_cell? w _ hx103_1)).trans hx103_1
                  replace p103 := eq_true p103
                  replace q103 := eq_true q103
                  go_wp2
                  go_roundg k2
                  case measure => have := HJ2.out; have := HK2.out; omega
                  case rel => exact ⟨(wrap64 (x5_2 + (((rd_T42 l0_4 x7_2).f0).size : Int))), (wrap64 (x7_2 + 1)), (by first | rfl | (simp; done) | (simp [*]; done)), (by first | rfl | (simp; done) | (simp [*]; done)), H', ⟨by have := HJ2.out; have := HK2.out; omega⟩, ⟨by (with_reducible repeat (first | refine blk_drewN ?_ _ | refine blk_drew ?_ | refine blk_alloc ?_ _)); exact BK101.out⟩, ⟨by repeat (first | (with_reducible first | exact HB.out | apply below_alloc | apply pw_below_drewN | apply below_drew1 | refine below_set ?_ GE101.out) | exact HB.out)⟩⟩
                · rw [if_neg c15] at H
                  exact absurd H (by simp)
              · rw [if_neg c14] at H
                have c14b0 : decide (x5_2 ≤ a1) = false := decide_eq_false c14
                clear c14
                have H' := Aside0.mk H
                clear H
                have hcz17_0 : wr.cell? ⟨gb101, 0, none⟩ = some (.int .i64 a0_0) := (blk_cell BK101.out 0).trans rfl
                have hcz17_1 : wr.cell? ⟨gb101, 1, none⟩ = some (.string a0_1) := (blk_cell BK101.out 1).trans rfl
                have hcz17_2 : wr.cell? ⟨gb101, 2, none⟩ = some (.int .i64 a0_2) := (blk_cell BK101.out 2).trans rfl
                have hcz17_3 : wr.cell? ⟨gb101, 3, none⟩ = some (.slice A0_3 l0_3.length c0_3) := (blk_cell BK101.out 3).trans rfl
                have hcz17_4 : wr.cell? ⟨gb101, 4, none⟩ = some (.slice A0_4 l0_4.length c0_4) := (blk_cell BK101.out 4).trans rfl
                have hcz17_5 : wr.cell? ⟨gb101, 5, none⟩ = some (.slice A0_5 l0_5.length c0_5) := (blk_cell BK101.out 5).trans rfl
                have hfz17_0 := blk_frozen BK101.out 0
                have hfz17_1 := blk_frozen BK101.out 1
                have hfz17_2 := blk_frozen BK101.out 2
                have hfz17_3 := blk_frozen BK101.out 3
                have hfz17_4 := blk_frozen BK101.out 4
                have hfz17_5 := blk_frozen BK101.out 5
                go_wp2
                go_meet
                case rel => exact ⟨_, (x5_2), (by first | rfl | (simp; done) | (simp [*]; done)), H', ⟨by have := HJ2.out; have := HK2.out; first | omega | exact Nat.le_refl _⟩, ⟨by (with_reducible repeat (first | refine blk_drewN ?_ _ | refine blk_drew ?_ | refine blk_alloc ?_ _)); exact BK101.out⟩, ⟨by repeat (first | (with_reducible first | exact HB.out | apply below_alloc | apply pw_below_drewN | apply below_drew1 | refine below_set ?_ GE101.out) | exact HB.out)⟩⟩
            · rw [if_neg c13] at H
              have c13b0 : decide (x7_2 < (l0_4.length : Int)) = false := decide_eq_false c13
              clear c13
              (first | rw [c13b0] | (simp only [i64_w, i32_w]; rw [c13b0]) | skip)
              have H' := Aside0.mk H
              clear H
              have hcz18_0 : wr.cell? ⟨gb101, 0, none⟩ = some (.int .i64 a0_0) := (blk_cell BK101.out 0).trans rfl
              have hcz18_1 : wr.cell? ⟨gb101, 1, none⟩ = some (.string a0_1) := (blk_cell BK101.out 1).trans rfl
              have hcz18_2 : wr.cell? ⟨gb101, 2, none⟩ = some (.int .i64 a0_2) := (blk_cell BK101.out 2).trans rfl
              have hcz18_3 : wr.cell? ⟨gb101, 3, none⟩ = some (.slice A0_3 l0_3.length c0_3) := (blk_cell BK101.out 3).trans rfl
              have hcz18_4 : wr.cell? ⟨gb101, 4, none⟩ = some (.slice A0_4 l0_4.length c0_4) := (blk_cell BK101.out 4).trans rfl
              have hcz18_5 : wr.cell? ⟨gb101, 5, none⟩ = some (.slice A0_5 l0_5.length c0_5) := (blk_cell BK101.out 5).trans rfl
              have hfz18_0 := blk_frozen BK101.out 0
              have hfz18_1 := blk_frozen BK101.out 1
              have hfz18_2 := blk_frozen BK101.out 2
              have hfz18_3 := blk_frozen BK101.out 3
              have hfz18_4 := blk_frozen BK101.out 4
              have hfz18_5 := blk_frozen BK101.out 5
              go_wp2
              go_meet
              case rel => exact ⟨_, (x5_2), (by first | rfl | (simp; done) | (simp [*]; done)), H', ⟨by have := HJ2.out; have := HK2.out; first | omega | exact Nat.le_refl _⟩, ⟨by (with_reducible repeat (first | refine blk_drewN ?_ _ | refine blk_drew ?_ | refine blk_alloc ?_ _)); exact BK101.out⟩, ⟨by repeat (first | (with_reducible first | exact HB.out | apply below_alloc | apply pw_below_drewN | apply below_drew1 | refine below_set ?_ GE101.out) | exact HB.out)⟩⟩
      case rest =>
        clear HC12
        try clear c1
        try clear p1
        try clear q1
        try clear hx1
        try clear p2
        try clear c5
        try clear c6
        try clear c6b0
        try clear p6
        try clear c7
        try clear c7b0
        try clear c8
        try clear c8b0
        try clear p10
        try clear q10
        try clear hx10
        try clear c13
        try clear c13b0
        try clear c14
        try clear c14b0
        try clear c15
        try clear c15b0
        try clear hcz10_0
        try clear hcz10_1
        try clear hcz10_2
        try clear hcz10_3
        try clear hcz10_4
        try clear hcz10_5
        try clear hcz11_0
        try clear hcz11_1
        try clear hcz11_2
        try clear hcz11_3
        try clear hcz11_4
        try clear hcz11_5
        try clear hcz16_0
        try clear hcz16_1
        try clear hcz16_2
        try clear hcz16_3
        try clear hcz16_4
        try clear hcz16_5
        try clear hcz17_0
        try clear hcz17_1
        try clear hcz17_2
        try clear hcz17_3
        try clear hcz17_4
        try clear hcz17_5
        try clear hcz18_0
        try clear hcz18_1
        try clear hcz18_2
        try clear hcz18_3
        try clear hcz18_4
        try clear hcz18_5
        try clear hcz5_0
        try clear hcz5_1
        try clear hcz5_2
        try clear hcz5_3
        try clear hcz5_4
        try clear hcz5_5
        try clear hcz9_0
        try clear hcz9_1
        try clear hcz9_2
        try clear hcz9_3
        try clear hcz9_4
        try clear hcz9_5
        try clear hfz10_0
        try clear hfz10_1
        try clear hfz10_2
        try clear hfz10_3
        try clear hfz10_4
        try clear hfz10_5
        try clear hfz11_0
        try clear hfz11_1
        try clear hfz11_2
        try clear hfz11_3
        try clear hfz11_4
        try clear hfz11_5
        try clear hfz16_0
        try clear hfz16_1
        try clear hfz16_2
        try clear hfz16_3
        try clear hfz16_4
        try clear hfz16_5
        try clear hfz17_0
        try clear hfz17_1
        try clear hfz17_2
        try clear hfz17_3
        try clear hfz17_4
        try clear hfz17_5
        try clear hfz18_0
        try clear hfz18_1
        try clear hfz18_2
        try clear hfz18_3
        try clear hfz18_4
        try clear hfz18_5
        try clear hfz5_0
        try clear hfz5_1
        try clear hfz5_2
        try clear hfz5_3
        try clear hfz5_4
        try clear hfz5_5
        try clear hfz9_0
        try clear hfz9_1
        try clear hfz9_2
        try clear hfz9_3
        try clear hfz9_4
        try clear hfz9_5
        try clear hx102_0
        try clear hx102_1
        try clear hx102_2
        try clear hx103_0
        try clear hx103_1
        try clear p1
        try clear p10
        try clear p102
        try clear p103
        try clear p2
        try clear p6
        try clear q1
        try clear q10
        try clear q102
        try clear q103
        obtain ⟨kq, x5_11, rfl, HA, HJ11, BK101, HB⟩ := hcut
        cases kq with
        | zero => exact absurd HA.out (by simp [chalklineref06_Weigh.j3])
        | succ kj11 =>
          have H := HA.out
          clear HA
          simp only [chalklineref06_Weigh.j3] at H
          have H' := Aside0.mk H
          clear H
          go_wp2
          go_loopg [5, 8] kj11 (fun kq v5 v8 w' => ∃ (x5_3 : Int) (x8_3 : Int), v5 = .int .i64 x5_3 ∧ v8 = .int .i64 x8_3 ∧ Aside0 (chalklineref06_Weigh.l2 kq a1 x5_3 x8_3 a0_0 a0_1 a0_2 l0_3 l0_4 l0_5 = some r) ∧ Aside0 (kq ≤ kj11) ∧ Aside0 (w'.heap[gb101]? = some (.cells #[.int .i64 a0_0, .string a0_1, .int .i64 a0_2, (.slice A0_3 l0_3.length c0_3), (.slice A0_4 l0_4.length c0_4), (.slice A0_5 l0_5.length c0_5)] 26 (0, 0))) ∧ Aside0 (Below w.heap.size w w'))
          case atStart => exact ⟨(x5_11), (0), (by first | rfl | (simp; done) | (simp [*]; done)), (by first | rfl | (simp; done) | (simp [*]; done)), H', ⟨Nat.le_refl _⟩, ⟨by (with_reducible repeat (first | refine blk_drewN ?_ _ | refine blk_drew ?_ | refine blk_alloc ?_ _)); exact BK101.out⟩, ⟨by repeat (first | (with_reducible first | exact HB.out | apply below_alloc | apply pw_below_drewN | apply below_drew1 | refine below_set ?_ GE101.out) | exact HB.out)⟩⟩
          case round =>
            clear H'
            try clear c1
            try clear p1
            try clear q1
            try clear hx1
            try clear p2
            try clear c5
            try clear c6
            try clear c6b0
            try clear p6
            try clear c7
            try clear c7b0
            try clear c8
            try clear c8b0
            try clear p10
            try clear q10
            try clear hx10
            try clear c13
            try clear c13b0
            try clear c14
            try clear c14b0
            try clear c15
            try clear c15b0
            try clear hcz10_0
            try clear hcz10_1
            try clear hcz10_2
            try clear hcz10_3
            try clear hcz10_4
            try clear hcz10_5
            try clear hcz11_0
            try clear hcz11_1
            try clear hcz11_2
            try clear hcz11_3
            try clear hcz11_4
            try clear hcz11_5
            try clear hcz16_0
            try clear hcz16_1
            try clear hcz16_2
            try clear hcz16_3
            try clear hcz16_4
            try clear hcz16_5
            try clear hcz17_0
            try clear hcz17_1
            try clear hcz17_2
            try clear hcz17_3
            try clear hcz17_4
            try clear hcz17_5
            try clear hcz18_0
            try clear hcz18_1
            try clear hcz18_2
            try clear hcz18_3
            try clear hcz18_4
            try clear hcz18_5
            try clear hcz5_0
            try clear hcz5_1
            try clear hcz5_2
            try clear hcz5_3
            try clear hcz5_4
            try clear hcz5_5
            try clear hcz9_0
            try clear hcz9_1
            try clear hcz9_2
            try clear hcz9_3
            try clear hcz9_4
            try clear hcz9_5
            try clear hfz10_0
            try clear hfz10_1
            try clear hfz10_2
            try clear hfz10_3
            try clear hfz10_4
            try clear hfz10_5
            try clear hfz11_0
            try clear hfz11_1
            try clear hfz11_2
            try clear hfz11_3
            try clear hfz11_4
            try clear hfz11_5
            try clear hfz16_0
            try clear hfz16_1
            try clear hfz16_2
            try clear hfz16_3
            try clear hfz16_4
            try clear hfz16_5
            try clear hfz17_0
            try clear hfz17_1
            try clear hfz17_2
            try clear hfz17_3
            try clear hfz17_4
            try clear hfz17_5
            try clear hfz18_0
            try clear hfz18_1
            try clear hfz18_2
            try clear hfz18_3
            try clear hfz18_4
            try clear hfz18_5
            try clear hfz5_0
            try clear hfz5_1
            try clear hfz5_2
            try clear hfz5_3
            try clear hfz5_4
            try clear hfz5_5
            try clear hfz9_0
            try clear hfz9_1
            try clear hfz9_2
            try clear hfz9_3
            try clear hfz9_4
            try clear hfz9_5
            try clear hx102_0
            try clear hx102_1
            try clear hx102_2
            try clear hx103_0
            try clear hx103_1
            try clear p1
            try clear p10
            try clear p102
            try clear p103
            try clear p2
            try clear p6
            try clear q1
            try clear q10
            try clear q102
            try clear q103
            obtain ⟨x5_3, x8_3, rfl, rfl, HA, HK3, BK101, HB⟩ := hrel
            cases gk with
            | zero => exact absurd HA.out (by simp [chalklineref06_Weigh.l2])
            | succ k3 =>
              have H := HA.out
              clear HA
              simp only [chalklineref06_Weigh.l2] at H
              by_cases c19 : x8_3 < (l0_5.length : Int)
              · rw [if_pos c19] at H
                have c19b0 : decide (x8_3 < (l0_5.length : Int)) = true := decide_eq_true c19
                clear c19
                by_cases c20 : x5_3 ≤ a1
                · rw [if_pos c20] at H
                  have c20b0 : decide (x5_3 ≤ a1) = true := decide_eq_true c20
                  clear c20
                  by_cases c21 : 0 ≤ x8_3
                  · rw [if_pos c21] at H
                    have c21b0 : decide (0 ≤ x8_3) = true := decide_eq_true c21
                    clear c21
                    replace H := Option.bind_eq_some_iff.mp H
                    obtain ⟨t105, A220, H⟩ := H
                    replace H : (chalklineref06_Weigh.l2 k3 a1 (wrap64 (x5_3 + t105)) (wrap64 (x8_3 + 1)) a0_0 a0_1 a0_2 l0_3 l0_4 l0_5) = some r := H
                    have A22 := Aside0.mk A220
                    clear A220
                    have H' := Aside0.mk H
                    clear H
                    have hcz23_0 : wr.cell? ⟨gb101, 0, none⟩ = some (.int .i64 a0_0) := (blk_cell BK101.out 0).trans rfl
                    have hcz23_1 : wr.cell? ⟨gb101, 1, none⟩ = some (.string a0_1) := (blk_cell BK101.out 1).trans rfl
                    have hcz23_2 : wr.cell? ⟨gb101, 2, none⟩ = some (.int .i64 a0_2) := (blk_cell BK101.out 2).trans rfl
                    have hcz23_3 : wr.cell? ⟨gb101, 3, none⟩ = some (.slice A0_3 l0_3.length c0_3) := (blk_cell BK101.out 3).trans rfl
                    have hcz23_4 : wr.cell? ⟨gb101, 4, none⟩ = some (.slice A0_4 l0_4.length c0_4) := (blk_cell BK101.out 4).trans rfl
                    have hcz23_5 : wr.cell? ⟨gb101, 5, none⟩ = some (.slice A0_5 l0_5.length c0_5) := (blk_cell BK101.out 5).trans rfl
                    have hfz23_0 := blk_frozen BK101.out 0
                    have hfz23_1 := blk_frozen BK101.out 1
                    have hfz23_2 := blk_frozen BK101.out 2
                    have hfz23_3 := blk_frozen BK101.out 3
                    have hfz23_4 := blk_frozen BK101.out 4
                    have hfz23_5 := blk_frozen BK101.out 5
                    have p104 : 0 ≤ (x8_3 : Int) := of_decide_eq_true (by first | (with_reducible assumption) | assumption)
                    have q104 : x8_3 < (l0_5.length : Int) := of_decide_eq_true (by first | (with_reducible assumption) | assumption)
                    obtain ⟨ad104, A104_3, c104_3, A104_4, c104_4, A104_5, c104_5, e104, hx104_0, hx104_1, hx104_2, hx104_3, hx104_4, hx104_5, hl104_3, hi104_3, hl104_4, hi104_4, hl104_5, hi104_5⟩ := at_T26 HR0_5.out x8_3 p104 q104
                    cases e104
                    replace hx104_0 := (HB.out.cell (World.block_lt_of_cell? w _ hx104_0)).trans hx104_0
                    replace hx104_1 := (HB.out.cell (World.block_lt_of_cell? w _ hx104_1)).trans hx104_1
                    replace hx104_2 := (HB.out.cell (World.block_lt_of_cell? w _ hx104_2)).trans hx104_2
                    replace hx104_3 := (HB.out.cell (World.block_lt_of_cell? w _ hx104_3)).trans hx104_3
                    replace hx104_4 := (HB.out.cell (World.block_lt_of_cell? w _ hx104_4)).trans hx104_4
                    replace hx104_5 := (HB.out.cell (World.block_lt_of_cell? w _ hx104_5)).trans hx104_5
                    have HR104_3 := Aside0.mk hi104_3
                    have HC104_3 := Aside0.mk hl104_3
                    clear hi104_3 hl104_3
                    have HR104_4 := Aside0.mk hi104_4
                    have HC104_4 := Aside0.mk hl104_4
                    clear hi104_4 hl104_4
                    have HR104_5 := Aside0.mk hi104_5
                    have HC104_5 := Aside0.mk hl104_5
                    clear hi104_5 hl104_5
                    replace p104 := eq_true p104
                    replace q104 := eq_true q104
                    go_wp2_with (first | ((with_reducible refine gate_callee (f := 51) rfl ?_); refine goesL_ (some 82) rfl rfl Tryd.func51 (by kernel_rfl) rfl #[.agg #[.int .i64 ((rd_T26 l0_5 x8_3).f0), .string ((rd_T26 l0_5 x8_3).f1), .int .i64 ((rd_T26 l0_5 x8_3).f2), .slice A104_3 ((rd_T26 l0_5 x8_3).f3).length c104_3, .slice A104_4 ((rd_T26 l0_5 x8_3).f4).length c104_4, .slice A104_5 ((rd_T26 l0_5 x8_3).f5).length c104_5], .int .i64 a1] rfl (by (try simp only [List.map_toArray, List.map_cons, List.map_nil]); first | done | rfl | (simp only [List.length_drop, List.length_take]; rfl)) ?_; (with_reducible refine (ih k3 (by have := HJ2.out; have := HJ11.out; have := HK3.out; omega) ((rd_T26 l0_5 x8_3).f0) ((rd_T26 l0_5 x8_3).f1) ((rd_T26 l0_5 x8_3).f2) _ _ ((rd_T26 l0_5 x8_3).f3) _ _ ((rd_T26 l0_5 x8_3).f4) _ _ ((rd_T26 l0_5 x8_3).f5) a1 t105 _ ?side1 ?side2 ?side3 ?side4 ?side5 ?side6 A22.out).mono ?_); (case side1 => repeat (first | exact (Kd.C_below HR104_3.out HB.out) | (with_reducible refine Kd.C_alloc ?_ _) | (with_reducible refine Kd.C_drewN ?_ _) | (with_reducible refine Kd.C_drew ?_))); (case side2 => exact HC104_3.out); (case side3 => repeat (first | exact (Kd.C_below HR104_4.out HB.out) | (with_reducible refine Kd.C_alloc ?_ _) | (with_reducible refine Kd.C_drewN ?_ _) | (with_reducible refine Kd.C_drew ?_))); (case side4 => exact HC104_4.out); (case side5 => repeat (first | exact (Kd.C_below HR104_5.out HB.out) | (with_reducible refine Kd.C_alloc ?_ _) | (with_reducible refine Kd.C_drewN ?_ _) | (with_reducible refine Kd.C_drew ?_))); (case side6 => exact HC104_5.out); rintro e w24 ⟨rfl, hb⟩; refine ⟨_, rfl, ?_⟩; have n0_ := Aside0.mk (blk_below (g := gb101) (o := .cells #[.int .i64 a0_0, .string a0_1, .int .i64 a0_2, .slice A0_3 l0_3.length c0_3, .slice A0_4 l0_4.length c0_4, .slice (some ad104) l0_5.length c0_5] 26 (0, 0)) (by (with_reducible repeat (first | refine blk_drewN ?_ _ | refine blk_drew ?_ | refine blk_alloc ?_ _)); exact BK101.out) hb); have n1_ := Aside0.mk (below_step (by repeat (first | (with_reducible first | exact HB.out | apply below_alloc | apply pw_below_drewN | apply below_drew1 | refine below_set ?_ GE101.out) | exact HB.out)) hb); clear BK101; clear HB; have BK101 := n0_; have HB := n1_; clear n0_ n1_; (try clear hb); (try clear hb2); (try clear hk); (try clear hi)))
                    go_roundg k3
                    case measure => have := HJ2.out; have := HJ11.out; have := HK3.out; omega
                    case rel => exact ⟨(wrap64 (x5_3 + t105)), (wrap64 (x8_3 + 1)), (by first | rfl | (simp; done) | (simp [*]; done)), (by first | rfl | (simp; done) | (simp [*]; done)), H', ⟨by have := HJ2.out; have := HJ11.out; have := HK3.out; omega⟩, ⟨by (with_reducible repeat (first | refine blk_drewN ?_ _ | refine blk_drew ?_ | refine blk_alloc ?_ _)); exact BK101.out⟩, ⟨by repeat (first | (with_reducible first | exact HB.out | apply below_alloc | apply pw_below_drewN | apply below_drew1 | refine below_set ?_ GE101.out) | exact HB.out)⟩⟩
                  · rw [if_neg c21] at H
                    exact absurd H (by simp)
                · rw [if_neg c20] at H
                  have c20b0 : decide (x5_3 ≤ a1) = false := decide_eq_false c20
                  clear c20
                  obtain rfl := Option.some.inj H
                  have hcz25_0 : wr.cell? ⟨gb101, 0, none⟩ = some (.int .i64 a0_0) := (blk_cell BK101.out 0).trans rfl
                  have hcz25_1 : wr.cell? ⟨gb101, 1, none⟩ = some (.string a0_1) := (blk_cell BK101.out 1).trans rfl
                  have hcz25_2 : wr.cell? ⟨gb101, 2, none⟩ = some (.int .i64 a0_2) := (blk_cell BK101.out 2).trans rfl
                  have hcz25_3 : wr.cell? ⟨gb101, 3, none⟩ = some (.slice A0_3 l0_3.length c0_3) := (blk_cell BK101.out 3).trans rfl
                  have hcz25_4 : wr.cell? ⟨gb101, 4, none⟩ = some (.slice A0_4 l0_4.length c0_4) := (blk_cell BK101.out 4).trans rfl
                  have hcz25_5 : wr.cell? ⟨gb101, 5, none⟩ = some (.slice A0_5 l0_5.length c0_5) := (blk_cell BK101.out 5).trans rfl
                  have hfz25_0 := blk_frozen BK101.out 0
                  have hfz25_1 := blk_frozen BK101.out 1
                  have hfz25_2 := blk_frozen BK101.out 2
                  have hfz25_3 := blk_frozen BK101.out 3
                  have hfz25_4 := blk_frozen BK101.out 4
                  have hfz25_5 := blk_frozen BK101.out 5
                  go_wp2
                  go_ret
                  exact ⟨by first | rfl | (simp [errW_none, errW_some] <;> rfl) | (simp [*, errW_none, errW_some] <;> rfl), by repeat (first | (with_reducible first | exact HB.out | apply below_alloc | apply pw_below_drewN | apply below_drew1 | refine below_set ?_ GE101.out) | exact HB.out)⟩
              · rw [if_neg c19] at H
                have c19b0 : decide (x8_3 < (l0_5.length : Int)) = false := decide_eq_false c19
                clear c19
                obtain rfl := Option.some.inj H
                have hcz26_0 : wr.cell? ⟨gb101, 0, none⟩ = some (.int .i64 a0_0) := (blk_cell BK101.out 0).trans rfl
                have hcz26_1 : wr.cell? ⟨gb101, 1, none⟩ = some (.string a0_1) := (blk_cell BK101.out 1).trans rfl
                have hcz26_2 : wr.cell? ⟨gb101, 2, none⟩ = some (.int .i64 a0_2) := (blk_cell BK101.out 2).trans rfl
                have hcz26_3 : wr.cell? ⟨gb101, 3, none⟩ = some (.slice A0_3 l0_3.length c0_3) := (blk_cell BK101.out 3).trans rfl
                have hcz26_4 : wr.cell? ⟨gb101, 4, none⟩ = some (.slice A0_4 l0_4.length c0_4) := (blk_cell BK101.out 4).trans rfl
                have hcz26_5 : wr.cell? ⟨gb101, 5, none⟩ = some (.slice A0_5 l0_5.length c0_5) := (blk_cell BK101.out 5).trans rfl
                have hfz26_0 := blk_frozen BK101.out 0
                have hfz26_1 := blk_frozen BK101.out 1
                have hfz26_2 := blk_frozen BK101.out 2
                have hfz26_3 := blk_frozen BK101.out 3
                have hfz26_4 := blk_frozen BK101.out 4
                have hfz26_5 := blk_frozen BK101.out 5
                go_wp2
                go_ret
                exact ⟨by first | rfl | (simp [errW_none, errW_some] <;> rfl) | (simp [*, errW_none, errW_some] <;> rfl), by repeat (first | (with_reducible first | exact HB.out | apply below_alloc | apply pw_below_drewN | apply below_drew1 | refine below_set ?_ GE101.out) | exact HB.out)⟩
end Go.Proofs.YtmlcaecknocpoaaDoor.Pr
namespace Go.Proofs.YtmlcaecknocpoaaDoor.Pr
open Go.RowKit Go.Proofs.YtmlcaecknocpoaaDoorW.PrintWords Go.Proofs.YtmlcaecknocpoaaDoorW.PrintLast Go.Proofs.YtmlcaecknocpoaaDoorW.PrintMore
attribute [local go_sem] max2_int min2_int max_two min_two max_three min_three max_four min_four   
set_option linter.unusedVariables false
set_option linter.unusedSimpArgs false
def chalklineref06_Few.f (k : Nat) (a0_0 : Int) (a0_1 : ByteArray) (a0_2 : Int) (l0_3 : List (S47)) (l0_4 : List (S42)) (l0_5 : List (S26)) : Option (Bool) := (chalklineref06_Weigh.f k a0_0 a0_1 a0_2 l0_3 l0_4 l0_5 3000).bind fun t107 => (some (decide (t107 ≤ 3000)))
set_option maxHeartbeats 8000000 in
set_option maxRecDepth 100000 in
theorem chalklineref06_Few.calls (k : Nat) (a0_0 : Int) (a0_1 : ByteArray) (a0_2 : Int) (A0_3 : Option Addr) (c0_3 : Nat) (l0_3 : List (S47)) (A0_4 : Option Addr) (c0_4 : Nat) (l0_4 : List (S42)) (A0_5 : Option Addr) (c0_5 : Nat) (l0_5 : List (S26)) (r : Bool) (w : World) (hr0_3 : Kd.C k47 w A0_3 l0_3.length l0_3) (hc0_3 : l0_3.length ≤ c0_3) (hr0_4 : Kd.C k42 w A0_4 l0_4.length l0_4) (hc0_4 : l0_4.length ≤ c0_4) (hr0_5 : Kd.C k26 w A0_5 l0_5.length l0_5) (hc0_5 : l0_5.length ≤ c0_5) (h : chalklineref06_Few.f k a0_0 a0_1 a0_2 l0_3 l0_4 l0_5 = some r) :
    Calls Tryd.prog 21 #[.agg #[.int .i64 a0_0, .string a0_1, .int .i64 a0_2, .slice A0_3 l0_3.length c0_3, .slice A0_4 l0_4.length c0_4, .slice A0_5 l0_5.length c0_5]] w fun e w' => e = .returned (.bool r) ∧ Below w.heap.size w w' := by
  have hu26 := Tryd.underlying26
  have HR0_3 := Aside0.mk hr0_3
  have HC0_3 := Aside0.mk hc0_3
  clear hr0_3 hc0_3
  have HR0_4 := Aside0.mk hr0_4
  have HC0_4 := Aside0.mk hc0_4
  clear hr0_4 hc0_4
  have HR0_5 := Aside0.mk hr0_5
  have HC0_5 := Aside0.mk hc0_5
  clear hr0_5 hc0_5
  have HB := Aside0.mk (Below.refl w.heap.size w)
  have H : ((chalklineref06_Weigh.f k a0_0 a0_1 a0_2 l0_3 l0_4 l0_5 3000).bind fun t107 => (some (decide (t107 ≤ 3000)))) = some r := h
  clear h
  replace H := Option.bind_eq_some_iff.mp H
  obtain ⟨t107, A20, H⟩ := H
  replace H : (some (decide (t107 ≤ 3000))) = some r := H
  have A2 := Aside0.mk A20
  clear A20
  obtain rfl := Option.some.inj H
  go_enter Tryd.func21, Tryd.ntmps21
  go_wp2_with (first | ((with_reducible refine gate_dst (N := 1) rfl ?_); refine box_event ?hg (N := 1) ?hd (cs := #[.int .i64 a0_0, .string a0_1, .int .i64 a0_2, .slice A0_3 l0_3.length c0_3, .slice A0_4 l0_4.length c0_4, .slice A0_5 l0_5.length c0_5]) (t := 26) ?hr ?_; (case hd => rfl); (case hg => rfl); (case hr => first | (go_simp; done) | (go_simp; rfl)); intro gb106 hg w3 hbox hb; have n0_ := Aside0.mk (below_step (by repeat (first | (with_reducible first | exact HB.out | apply below_alloc | apply pw_below_drewN | apply below_drew1) | exact HB.out)) hb); have n1_ := Aside0.mk (hbox); have n2_ := Aside0.mk ((by rw [hg]; exact (below_size (by repeat (first | (with_reducible first | exact HB.out | apply below_alloc | apply pw_below_drewN | apply below_drew1) | exact HB.out))) : w.heap.size ≤ gb106)); have n3_ := Aside0.mk ((by rw [hg]; exact (below_size (by repeat (first | (with_reducible first | exact HB.out | apply below_alloc | apply pw_below_drewN | apply below_drew1) | exact HB.out))) : w.heap.size ≤ gb106)); clear HB; have HB := n0_; have BK106 := n1_; have GW106 := n2_; have GE106 := n3_; clear n0_ n1_ n2_ n3_; clear hb hbox hg; have hcz4_0 : w3.cell? ⟨gb106, 0, none⟩ = some (.int .i64 a0_0) := (blk_cell BK106.out 0).trans rfl; have hcz4_1 : w3.cell? ⟨gb106, 1, none⟩ = some (.string a0_1) := (blk_cell BK106.out 1).trans rfl; have hcz4_2 : w3.cell? ⟨gb106, 2, none⟩ = some (.int .i64 a0_2) := (blk_cell BK106.out 2).trans rfl; have hcz4_3 : w3.cell? ⟨gb106, 3, none⟩ = some (.slice A0_3 l0_3.length c0_3) := (blk_cell BK106.out 3).trans rfl; have hcz4_4 : w3.cell? ⟨gb106, 4, none⟩ = some (.slice A0_4 l0_4.length c0_4) := (blk_cell BK106.out 4).trans rfl; have hcz4_5 : w3.cell? ⟨gb106, 5, none⟩ = some (.slice A0_5 l0_5.length c0_5) := (blk_cell BK106.out 5).trans rfl; have hfz4_0 := blk_frozen BK106.out 0; have hfz4_1 := blk_frozen BK106.out 1; have hfz4_2 := blk_frozen BK106.out 2; have hfz4_3 := blk_frozen BK106.out 3; have hfz4_4 := blk_frozen BK106.out 4; have hfz4_5 := blk_frozen BK106.out 5) | ((with_reducible refine gate_callee (f := 51) rfl ?_); refine goesL_ (some 4) rfl rfl Tryd.func51 (by kernel_rfl) rfl #[.agg #[.int .i64 a0_0, .string a0_1, .int .i64 a0_2, .slice A0_3 l0_3.length c0_3, .slice A0_4 l0_4.length c0_4, .slice A0_5 l0_5.length c0_5], .int .i64 3000] rfl (by (try simp only [List.map_toArray, List.map_cons, List.map_nil]); first | done | rfl | (simp only [List.length_drop, List.length_take]; rfl)) ?_; (with_reducible refine (chalklineref06_Weigh.calls k a0_0 a0_1 a0_2 _ _ l0_3 _ _ l0_4 _ _ l0_5 3000 t107 _ ?side1 ?side2 ?side3 ?side4 ?side5 ?side6 A2.out).mono ?_); (case side1 => repeat (first | exact (Kd.C_below HR0_3.out HB.out) | (with_reducible refine Kd.C_alloc ?_ _) | (with_reducible refine Kd.C_drewN ?_ _) | (with_reducible refine Kd.C_drew ?_))); (case side2 => exact HC0_3.out); (case side3 => repeat (first | exact (Kd.C_below HR0_4.out HB.out) | (with_reducible refine Kd.C_alloc ?_ _) | (with_reducible refine Kd.C_drewN ?_ _) | (with_reducible refine Kd.C_drew ?_))); (case side4 => exact HC0_4.out); (case side5 => repeat (first | exact (Kd.C_below HR0_5.out HB.out) | (with_reducible refine Kd.C_alloc ?_ _) | (with_reducible refine Kd.C_drewN ?_ _) | (with_reducible refine Kd.C_drew ?_))); (case side6 => exact HC0_5.out); rintro e w5 ⟨rfl, hb⟩; refine ⟨_, rfl, ?_⟩; have n0_ := Aside0.mk (blk_below (g := gb106) (o := .cells #[.int .i64 a0_0, .string a0_1, .int .i64 a0_2, .slice A0_3 l0_3.length c0_3, .slice A0_4 l0_4.length c0_4, .slice A0_5 l0_5.length c0_5] 26 (0, 0)) (by (with_reducible repeat (first | refine blk_drewN ?_ _ | refine blk_drew ?_ | refine blk_alloc ?_ _)); exact BK106.out) hb); have n1_ := Aside0.mk (below_step (by repeat (first | (with_reducible first | exact HB.out | apply below_alloc | apply pw_below_drewN | apply below_drew1 | refine below_set ?_ GE106.out) | exact HB.out)) hb); clear BK106; clear HB; have BK106 := n0_; have HB := n1_; clear n0_ n1_; (try clear hb); (try clear hb2); (try clear hk); (try clear hi)))
  go_ret
  exact ⟨by first | rfl | (simp [errW_none, errW_some] <;> rfl) | (simp [*, errW_none, errW_some] <;> rfl), by repeat (first | (with_reducible first | exact HB.out | apply below_alloc | apply pw_below_drewN | apply below_drew1 | refine below_set ?_ GE106.out) | exact HB.out)⟩
end Go.Proofs.YtmlcaecknocpoaaDoor.Pr
namespace Go.Proofs.YtmlcaecknocpoaaDoor.It
set_option linter.unusedVariables false
set_option linter.unusedSimpArgs false
open Go Go.RowKit Go.Shelf Go.Proofs.YtmlcaecknocpoaaDoorW.PrintWords Go.Proofs.YtmlcaecknocpoaaDoorW.PrintLast Go.Proofs.YtmlcaecknocpoaaDoor.Pr Go.Proofs.YtmlcaecknocpoaaDoor.Sp
theorem free_length (x : S26) : (free x).length ≤ nt x := by
  have h := gath_length [] [] x
  rw [free_gath] at h
  simpa using h
theorem weigh_ev (s : Nat) (b : Int) : ∀ x : S26, size x ≤ s → size x ≤ 4611686018427387904 → NmOk x → ∃ r : Int, Ev (fun k => chalklineref06_Weigh.f k x.f0 x.f1 x.f2 x.f3 x.f4 x.f5 b) r := by
  induction s with
  | zero => intro x h; rw [size_eq] at h; omega
  | succ s ih =>
    rintro ⟨k, nm, n, ts, bs, l⟩ hs hb hn
    simp only [size] at hs hb
    have hlen := len_sizes l
    have hln := hn.self.2.2
    dsimp only at hln
    have l2 : ∀ d j : Nat, j + d = l.length → ∀ a : Int, ∃ r, Ev (fun K => chalklineref06_Weigh.l2 K b a (j : Int) k nm n ts bs l) r := by
      intro d
      induction d with
      | zero =>
        intro j hj a
        refine ⟨a, Ev.step (f := fun _ => some a) (fun K => ?_) (Ev.now _)⟩
        simp only [chalklineref06_Weigh.l2]
        rw [if_neg (by omega)]
      | succ d ihd =>
        intro j hj a
        have hlt : j < l.length := by omega
        have hc := size_child l j hlt
        by_cases hle : a ≤ b
        · obtain ⟨r1, h1⟩ := ih (rd_T26 l j) (by omega) (by omega) (hn.child j hlt)
          obtain ⟨r2, h2⟩ := ihd (j + 1) (by omega) (wrap64 (a + r1))
          refine ⟨r2, Ev.step (f := fun K => (chalklineref06_Weigh.f K (rd_T26 l (j : Int)).f0 (rd_T26 l (j : Int)).f1 (rd_T26 l (j : Int)).f2 (rd_T26 l (j : Int)).f3 (rd_T26 l (j : Int)).f4 (rd_T26 l (j : Int)).f5 b).bind fun t => chalklineref06_Weigh.l2 K b (wrap64 (a + t)) ((j + 1 : Nat) : Int) k nm n ts bs l) (fun K => ?_) (Ev.bind h1 h2)⟩
          simp only [chalklineref06_Weigh.l2]
          rw [if_pos (by omega), if_pos hle, if_pos (by omega), wrap_one j (by omega)]
        · refine ⟨a, Ev.step (f := fun _ => some a) (fun K => ?_) (Ev.now _)⟩
          simp only [chalklineref06_Weigh.l2]
          rw [if_pos (by omega), if_neg hle]
    have j3 : ∀ a : Int, ∃ r, Ev (fun K => chalklineref06_Weigh.j3 K b a k nm n ts bs l) r := fun a => by
      obtain ⟨r, h⟩ := l2 l.length 0 (by omega) a
      exact ⟨r, Ev.step (f := fun K => chalklineref06_Weigh.l2 K b a 0 k nm n ts bs l) (fun K => rfl) h⟩
    have l1 : ∀ d j : Nat, j + d = bs.length → ∀ a : Int, ∃ r, Ev (fun K => chalklineref06_Weigh.l1 K b a (j : Int) k nm n ts bs l) r := by
      intro d
      induction d with
      | zero =>
        intro j hj a
        obtain ⟨r, h⟩ := j3 a
        refine ⟨r, Ev.step (f := fun K => chalklineref06_Weigh.j3 K b a k nm n ts bs l) (fun K => ?_) h⟩
        simp only [chalklineref06_Weigh.l1]
        rw [if_neg (by omega)]
      | succ d ihd =>
        intro j hj a
        by_cases hle : a ≤ b
        · obtain ⟨r, h⟩ := ihd (j + 1) (by omega) (wrap64 (a + ((rd_T42 bs (j : Int)).f0.size : Int)))
          refine ⟨r, Ev.step (f := fun K => chalklineref06_Weigh.l1 K b (wrap64 (a + ((rd_T42 bs (j : Int)).f0.size : Int))) ((j + 1 : Nat) : Int) k nm n ts bs l) (fun K => ?_) h⟩
          simp only [chalklineref06_Weigh.l1]
          rw [if_pos (by omega), if_pos hle, if_pos (by omega), wrap_one j (by omega)]
        · obtain ⟨r, h⟩ := j3 a
          refine ⟨r, Ev.step (f := fun K => chalklineref06_Weigh.j3 K b a k nm n ts bs l) (fun K => ?_) h⟩
          simp only [chalklineref06_Weigh.l1]
          rw [if_pos (by omega), if_neg hle]
    have j1 : ∀ a : Int, ∃ r, Ev (fun K => chalklineref06_Weigh.j1 K b a k nm n ts bs l) r := fun a => by
      obtain ⟨r, h⟩ := l1 bs.length 0 (by omega) a
      exact ⟨r, Ev.step (f := fun K => chalklineref06_Weigh.l1 K b a 0 k nm n ts bs l) (fun K => rfl) h⟩
    have l0 : ∀ d j : Nat, j + d = ts.length → ∀ a : Int, ∃ r, Ev (fun K => chalklineref06_Weigh.l0 K b a (j : Int) k nm n ts bs l) r := by
      intro d
      induction d with
      | zero =>
        intro j hj a
        obtain ⟨r, h⟩ := j1 a
        refine ⟨r, Ev.step (f := fun K => chalklineref06_Weigh.j1 K b a k nm n ts bs l) (fun K => ?_) h⟩
        simp only [chalklineref06_Weigh.l0]
        rw [if_neg (by omega)]
      | succ d ihd =>
        intro j hj a
        by_cases hle : a ≤ b
        · obtain ⟨r, h⟩ := ihd (j + 1) (by omega) (wrap64 (a + ((rd_T47 ts (j : Int)).f1.size : Int)))
          refine ⟨r, Ev.step (f := fun K => chalklineref06_Weigh.l0 K b (wrap64 (a + ((rd_T47 ts (j : Int)).f1.size : Int))) ((j + 1 : Nat) : Int) k nm n ts bs l) (fun K => ?_) h⟩
          simp only [chalklineref06_Weigh.l0]
          rw [if_pos (by omega), if_pos hle, if_pos (by omega), wrap_one j (by omega)]
        · obtain ⟨r, h⟩ := j1 a
          refine ⟨r, Ev.step (f := fun K => chalklineref06_Weigh.j1 K b a k nm n ts bs l) (fun K => ?_) h⟩
          simp only [chalklineref06_Weigh.l0]
          rw [if_pos (by omega), if_neg hle]
    obtain ⟨r, h⟩ := l0 ts.length 0 (by omega) (wrap64 (wrap64 (wrap64 (1 + (nm.size : Int)) + (ts.length : Int)) + (bs.length : Int)))
    exact ⟨r, Ev.step (f := fun K => chalklineref06_Weigh.l0 K b (wrap64 (wrap64 (wrap64 (1 + (nm.size : Int)) + (ts.length : Int)) + (bs.length : Int))) 0 k nm n ts bs l) (fun K => rfl) h⟩
theorem few_ev (x : S26) (hs : size x ≤ 4611686018427387904) (hn : NmOk x) : ∃ r : Bool, Ev (fun k => chalklineref06_Few.f k x.f0 x.f1 x.f2 x.f3 x.f4 x.f5) r := by
  obtain ⟨r, h⟩ := weigh_ev (size x) 3000 x (Nat.le_refl _) hs hn
  exact ⟨decide (r ≤ 3000), Ev.bind h (Ev.now _)⟩
end Go.Proofs.YtmlcaecknocpoaaDoor.It
