/- Lemmas and walks for the claim below. -/
import Derived.Test.YtmlcaecknocpoaaDoorQ4K3
import Derived.Laws.EntriesVeiled
namespace Go.Proofs.YtmlcaecknocpoaaDoor.It
open Go Go.RowKit Go.Shelf Go.Proofs.YtmlcaecknocpoaaDoorW.PrintWords Go.Proofs.YtmlcaecknocpoaaDoorW.PrintLast Go.Proofs.YtmlcaecknocpoaaDoor.Pr Go.Proofs.YtmlcaecknocpoaaDoor.Sp
def Kept26 (W w : World) : Prop := ∀ (B : Nat) (cs : Array Value), W.heap[B]? = some (.cells cs 26 (0, 0)) → w.heap[B]? = some (.cells cs 26 (0, 0))
theorem Kept26.refl (W : World) : Kept26 W W := fun _ _ h => h
theorem Kept26.below {W w w1 : World} (h : Kept26 W w) (g : Below w.heap.size w w1) : Kept26 W w1 := fun B cs hB => blk_below g (h B cs hB)
theorem Kept26.trans {W w w1 : World} (h : Kept26 W w) (g : Kept26 w w1) : Kept26 W w1 := fun B cs hB => g B cs (h B cs hB)
theorem Kept26.map {W w w1 : World} {M n : Nat} {bl : List ByteArray} (h : Kept26 W w) (hm : MapIs w M n bl) (g : w.grownBy w1 (some M)) : Kept26 W w1 := fun B cs hB =>
  (g.block B (Array.getElem?_eq_some_iff.1 (h B cs hB)).1 (fun e => hm.ne (h B cs hB) (by injection e))).trans (h B cs hB)
theorem Kept26.app {W w w1 : World} {base Bo : Nat} {ok : Nat → Prop} {out : List ByteArray} {v v0 v1 : Value} (h : Kept26 W w) (row : Kd.R Kd.string 9 w base ok v out) (bo : w1.heap[Bo]? = some (.cells #[v0] 32 (0, 0))) (g : w.grownBy w1 v.ownBlock) : Kept26 W (w1.setCell ⟨Bo, 0, none⟩ v1) := fun B cs hB => by
  have h1 : w1.heap[B]? = some (.cells cs 26 (0, 0)) := (g.block B (Array.getElem?_eq_some_iff.1 (h B cs hB)).1 (Kd.R_ne row (h B cs hB) (by decide))).trans (h B cs hB)
  exact (Below.heap_setCell _ _ _ _ (blk_ne h1 bo (by decide))).trans h1
def BoxAt (W w : World) (k : Int) (nm : ByteArray) (nn : Int) (ts : List S47) (bs : List S42) (l : List S26) (A3 : Option Addr) (c3 : Nat) (A4 : Option Addr) (c4 : Nat) (A5 : Option Addr) (c5 : Nat) : Prop :=
  Kept26 (W.alloc (.cells #[.int .i64 k, .string nm, .int .i64 nn, .slice A3 ts.length c3, .slice A4 bs.length c4, .slice A5 l.length c5] 26)) w
theorem BoxAt.box {W w : World} {k : Int} {nm : ByteArray} {nn : Int} {ts : List S47} {bs : List S42} {l : List S26} {A3 : Option Addr} {c3 : Nat} {A4 : Option Addr} {c4 : Nat} {A5 : Option Addr} {c5 : Nat} (h : BoxAt W w k nm nn ts bs l A3 c3 A4 c4 A5 c5) :
    w.heap[W.heap.size]? = some (.cells #[.int .i64 k, .string nm, .int .i64 nn, .slice A3 ts.length c3, .slice A4 bs.length c4, .slice A5 l.length c5] 26 (0, 0)) := h _ _ (heap_new W _)
theorem BoxAt.kept {W w : World} {k : Int} {nm : ByteArray} {nn : Int} {ts : List S47} {bs : List S42} {l : List S26} {A3 : Option Addr} {c3 : Nat} {A4 : Option Addr} {c4 : Nat} {A5 : Option Addr} {c5 : Nat} (h : BoxAt W w k nm nn ts bs l A3 c3 A4 c4 A5 c5) : Kept26 W w :=
  ((Kept26.refl W).below ((Below.refl _ W).alloc (Nat.le_refl _) _)).trans h
theorem take_names (bl : List ByteArray) (bs : List S42) (j : Nat) (hj : j < bs.length) : bl ++ (bs.take (j + 1)).map (·.f0) = (bl ++ (bs.take j).map (·.f0)) ++ [(rd_T42 bs j).f0] := by
  rw [List.take_succ_eq_append_getElem hj, List.map_append, ← List.append_assoc]
  simp [rd_T42, List.getD, hj]
theorem i64_nat (n : Nat) (h : n ≤ 4000000) : I64 (n : Nat) := by
  have h1 : IntKind.i64.min = -9223372036854775808 := rfl
  have h2 : IntKind.i64.max = 9223372036854775807 := rfl
  unfold I64 Lit.wf
  simp [h1, h2]
  omega
theorem FS.bind_up {w0 W : World} {Bm Bo Bl M n : Nat} {bl out : List ByteArray} {v : Value} (h : FS w0 W Bm Bo Bl M n bl out v) (hn : n ≤ 2000000) (hbl : bl.length ≤ 2000000) (s : ByteArray) (hs : s.size ≤ maxLen) :
    (Instr.lookup 68 (.map (some M)) (.string s) false).run Tryd.prog W = .ok (.int .i64 (cnt bl s)) W ∧
    ∃ w1, (Instr.mapUpdate 68 (.map (some M)) (.string s) (.int .i64 ((cnt bl s : Int) + 1))).run Tryd.prog W = .ok () w1 ∧ W.grownBy w1 (some M) ∧ FS w0 w1 Bm Bo Bl M (n + 1) (bl ++ [s]) out v := by
  have hc : cnt (bl ++ [s]) s = cnt bl s + 1 := by rw [cnt_append, cnt_one]
  have hle := cnt_le bl s
  obtain ⟨w1, hrun, hm, hg⟩ := h.map.put (bl' := bl ++ [s]) (by simp [maxLen]; omega) s hs (i64_nat _ (by rw [hc]; omega)) (fun s' he => by rw [cnt_append, cnt_other he]; rfl)
  refine ⟨h.map.look s hs, w1, ?_, hg, h.mapped hg hm⟩
  rw [hc] at hrun
  simpa using hrun
theorem FS.bind_down {w0 W : World} {Bm Bo Bl M n : Nat} {bl bl' out : List ByteArray} {v : Value} (h : FS w0 W Bm Bo Bl M n bl out v) (hn : n ≤ 4000000) (hbl : bl'.length ≤ 2000000) (s : ByteArray) (hs : s.size ≤ maxLen) (hc : cnt bl s = cnt bl' s + 1 ∧ ∀ s', s' ≠ s → cnt bl' s' = cnt bl s') :
    (Instr.lookup 68 (.map (some M)) (.string s) false).run Tryd.prog W = .ok (.int .i64 ((cnt bl' s : Int) + 1)) W ∧
    ∃ w1, (Instr.mapUpdate 68 (.map (some M)) (.string s) (.int .i64 (cnt bl' s : Int))).run Tryd.prog W = .ok () w1 ∧ W.grownBy w1 (some M) ∧ FS w0 w1 Bm Bo Bl M (n + 1) bl' out v := by
  have hle := cnt_le bl' s
  obtain ⟨w1, hrun, hm, hg⟩ := h.map.put (bl' := bl') (by simp [maxLen]; omega) s hs (i64_nat _ (by omega)) hc.2
  have hl := h.map.look s hs
  rw [hc.1] at hl
  exact ⟨by simpa using hl, w1, hrun, hg, h.mapped hg hm⟩
theorem drop_names (bl : List ByteArray) (bs : List S42) (j : Nat) (hj : j < bs.length) : (cnt (bl ++ (bs.drop j).map (·.f0)) (rd_T42 bs j).f0 = cnt (bl ++ (bs.drop (j + 1)).map (·.f0)) (rd_T42 bs j).f0 + 1) ∧ ∀ s', s' ≠ (rd_T42 bs j).f0 → cnt (bl ++ (bs.drop (j + 1)).map (·.f0)) s' = cnt (bl ++ (bs.drop j).map (·.f0)) s' := by
  have e : bs.drop j = rd_T42 bs j :: bs.drop (j + 1) := by
    rw [List.drop_eq_getElem_cons hj]
    simp [rd_T42, List.getD, hj]
  rw [e, List.map_cons]
  have c : ∀ (a : ByteArray) (l : List ByteArray) (s : ByteArray), cnt (a :: l) s = cnt [a] s + cnt l s := fun a l s => cnt_append [a] l s
  refine ⟨?_, fun s' hs' => ?_⟩
  · rw [cnt_append, cnt_append, c, cnt_one]; omega
  · rw [cnt_append, cnt_append, c, cnt_other hs']; omega
theorem names_take (ts : List S47) (j : Nat) (hj : j < ts.length) : names (ts.take (j + 1)) = names (ts.take j) ++ (if (rd_T47 ts j).f0 = 1 then [] else [(rd_T47 ts j).f1]) := by
  rw [List.take_succ_eq_append_getElem hj]
  have e : ts[j] = rd_T47 ts j := by simp [rd_T47, List.getD, hj]
  rw [e]
  unfold names
  rw [List.filter_append, List.map_append]
  congr 1
  by_cases h : (rd_T47 ts j).f0 = 1 <;> simp [h]
theorem gaths_take (BL out : List ByteArray) (l : List S26) (j : Nat) (hj : j < l.length) : gaths BL out (l.take (j + 1)) = gath BL (gaths BL out (l.take j)) (rd_T26 l j) := by
  induction l generalizing j out with
  | nil => simp at hj
  | cons x l ih =>
    cases j with
    | zero => simp [gaths, rd_T26]
    | succ j =>
      have e : rd_T26 (x :: l) ((j + 1 : Nat) : Int) = rd_T26 l j := by simp [rd_T26]
      rw [e]
      simp only [List.take_succ_cons, gaths]
      exact ih _ j (by simpa using hj)
theorem nbs_take (l : List S26) (j : Nat) (hj : j < l.length) : nbs (l.take (j + 1)) = nbs (l.take j) + nb (rd_T26 l j) ∧ nbs (l.take (j + 1)) ≤ nbs l := by
  induction l generalizing j with
  | nil => simp at hj
  | cons x l ih =>
    cases j with
    | zero => simp [nbs, rd_T26]
    | succ j =>
      have e : rd_T26 (x :: l) ((j + 1 : Nat) : Int) = rd_T26 l j := by simp [rd_T26]
      have := ih j (by simpa using hj)
      rw [e]
      simp only [List.take_succ_cons, nbs]
      omega
theorem nts_take (l : List S26) (j : Nat) (hj : j < l.length) : nts (l.take (j + 1)) = nts (l.take j) + nt (rd_T26 l j) ∧ nts (l.take (j + 1)) ≤ nts l := by
  induction l generalizing j with
  | nil => simp at hj
  | cons x l ih =>
    cases j with
    | zero => simp [nts, rd_T26]
    | succ j =>
      have e : rd_T26 (x :: l) ((j + 1 : Nat) : Int) = rd_T26 l j := by simp [rd_T26]
      have := ih j (by simpa using hj)
      rw [e]
      simp only [List.take_succ_cons, nts]
      omega
theorem enters55 : ∀ args w, (callFunc 55 args).run Tryd.prog w = .ok (.enter 55 args) w := enters_of Tryd.func55 (by kernel_rfl) rfl
theorem snoc_len (O : List ByteArray) (s : ByteArray) : (O ++ [s]).length = O.length + 1 := by simp
def FreeOk (s : Nat) : Prop := ∀ (x : S26) (A3 : Option Addr) (c3 : Nat) (A4 : Option Addr) (c4 : Nat) (A5 : Option Addr) (c5 : Nat) (w0 W : World) (Bm Bo Bl M n : Nat) (bl out : List ByteArray) (v : Value),
  size x ≤ s → At w0 x A3 c3 A4 c4 A5 c5 → Deep x → FS w0 W Bm Bo Bl M n bl out v → n + 2 * nb x ≤ 1000000 → bl.length + nb x ≤ 1000000 → out.length + nt x ≤ 1000000 →
  Calls Tryd.prog 55 #[.agg #[.int .i64 x.f0, .string x.f1, .int .i64 x.f2, .slice A3 x.f3.length c3, .slice A4 x.f4.length c4, .slice A5 x.f5.length c5], .pointer (some ⟨Bm, 0, none⟩), .pointer (some ⟨Bo, 0, none⟩), .pointer (some ⟨Bl, 0, none⟩)] W fun e W' =>
    (∃ r, e = .returned r) ∧ Kept26 W W' ∧ ∃ v' n', n' ≤ n + 2 * nb x ∧ FS w0 W' Bm Bo Bl M n' bl (gath bl out x) v'
set_option maxRecDepth 100000 in
set_option maxHeartbeats 8000000 in
theorem free_step (s : Nat) (hS : FreeOk s) : FreeOk (s + 1) := by
  rintro ⟨k, nm, nn, ts, bs, l⟩ A3 c3 A4 c4 A5 c5 w0 W Bm Bo Bl M n bl out v hs hat hdp hF hn hbl hout
  have hu26 := Tryd.underlying26
  have hu42 := Tryd.underlying42
  have hu47 := Tryd.underlying47
  have hl4 : bs.length ≤ 1000000 := by simp only [nb] at hbl; omega
  have hl3 : ts.length ≤ 1000000 := by simp only [nt] at hout; omega
  have hl5 : l.length ≤ 9223372036854775807 := hat.g5.2.1
  have H := Aside0.mk (And.intro hS (And.intro hs (And.intro hat (And.intro hdp (And.intro hF (And.intro hn (And.intro hbl hout)))))))
  clear hS hs hat hdp hF hn hbl hout
  go_enter Tryd.func55, Tryd.ntmps55
  go_wp2_with fail
  have F1 := Aside0.mk (And.intro (H.out.2.2.2.2.1.up ((Below.refl W.heap.size W).alloc (Nat.le_refl _) (.cells #[.int .i64 k, .string nm, .int .i64 nn, .slice A3 ts.length c3, .slice A4 bs.length c4, .slice A5 l.length c5] 26))) (Kept26.refl _ : BoxAt W _ k nm nn ts bs l A3 c3 A4 c4 A5 c5))
  go_loopg [6, 16] bs.length (fun gg _ s16 wr => ∃ j : Nat, j ≤ bs.length ∧ bs.length - j ≤ gg ∧ s16 = .int .i64 j ∧ Aside0 (FS w0 wr Bm Bo Bl M (n + j) (bl ++ (bs.take j).map (·.f0)) out v ∧ BoxAt W wr k nm nn ts bs l A3 c3 A4 c4 A5 c5))
  case atStart => exact ⟨0, Nat.zero_le _, by omega, rfl, ⟨by simpa using F1.out.1, F1.out.2⟩⟩
  case round =>
    obtain ⟨j, hj, hg, rfl, HJ⟩ := hrel
    by_cases hlt : j < bs.length
    · have hltz : (j : Int) < (bs.length : Int) := by omega
      obtain ⟨ad, rfl, x0, x1⟩ := bindAt H.out.2.2.1.g4 HJ.out.1.h0 j hlt
      obtain ⟨b, hb⟩ : ∃ b, rd_T42 bs j = b := ⟨_, rfl⟩
      rw [hb] at x0 x1
      have up := (Below.refl wr.heap.size wr).alloc (Nat.le_refl _) (.cells #[.string b.f0, .int .i64 b.f1] 42)
      have FU := HJ.out.1.up up
      have hbm := (blk_cell FU.bm 0).trans rfl
      have hsz : b.f0.size ≤ maxLen := by rw [← hb]; exact H.out.2.2.2.1.self.bs _ (rd42_mem bs j hlt)
      have hq := H.out
      simp only [nb] at hq
      obtain ⟨hlook, w1, hput, hg1, FN⟩ := FU.bind_up (by omega) (by simp; omega) b.f0 hsz
      obtain ⟨q, hcq⟩ : ∃ q, cnt (bl ++ (bs.take j).map (·.f0)) b.f0 = q := ⟨_, rfl⟩
      have hqle : q ≤ 2000000 := by rw [← hcq]; exact Nat.le_trans (cnt_le _ _) (by simp; omega)
      rw [hcq] at hlook hput
      clear hcq
      have FN' := Aside0.mk FN
      have hg1' := Aside0.mk hg1
      have hbx := Aside0.mk (show BoxAt W w1 k nm nn ts bs l A3 c3 (some ad) c4 A5 c5 from (HJ.out.2.below up).map FU.map hg1)
      replace hb := Aside0.mk hb
      clear hq FN hg1 FU up hsz
      go_wp2_with fail
      go_roundg (bs.length - (j + 1))
      case measure => omega
      case rel => exact ⟨j + 1, by omega, by omega, by go_num, ⟨by rw [take_names bl bs j hlt, hb.out]; exact FN'.out, hbx.out⟩⟩
    · have hltz : ¬ (j : Int) < (bs.length : Int) := by omega
      have he : j = bs.length := by omega
      have HE := Aside0.mk he
      clear he hj
      obtain ⟨q0, q1, q2, q3, q4, q5⟩ := six HJ.out.2.box
      go_wp2_with fail
      have HL := Aside0.mk (And.intro HJ.out.1 HE.out)
      obtain ⟨BL, hBL⟩ : ∃ BL, bl ++ bs.map (·.f0) = BL := ⟨_, rfl⟩
      obtain ⟨n1, hn1⟩ : ∃ n1, n + bs.length = n1 := ⟨_, rfl⟩
      have F2 : FS w0 wr Bm Bo Bl M n1 BL out v := by
        have h := HL.out.1
        rw [HL.out.2, List.take_length, hBL, hn1] at h
        exact h
      have F2' := Aside0.mk (And.intro F2 HJ.out.2)
      replace hBL := Aside0.mk hBL
      replace hn1 := Aside0.mk hn1
      clear HL HE F2
      rename_i wr1
      go_loopg [8, 29] ts.length (fun gg _ s29 wr => ∃ j : Nat, j ≤ ts.length ∧ ts.length - j ≤ gg ∧ s29 = .int .i64 j ∧ Aside0 ((∃ v', FS w0 wr Bm Bo Bl M n1 BL (addAll BL out (names (ts.take j))) v') ∧ BoxAt W wr k nm nn ts bs l A3 c3 A4 c4 A5 c5))
      case atStart => exact ⟨0, Nat.zero_le _, by omega, rfl, ⟨⟨v, by simpa [names, addAll] using F2'.out.1⟩, F2'.out.2⟩⟩
      case round =>
        obtain ⟨j, hj, hg, rfl, HJ⟩ := hrel
        obtain ⟨⟨v', FJ⟩, HB⟩ := HJ.out
        by_cases hlt : j < ts.length
        · have hltz : (j : Int) < (ts.length : Int) := by omega
          obtain ⟨ad, rfl, x0, x1, x2⟩ := termAt H.out.2.2.1.g3 FJ.h0 j hlt
          have hnt := names_take ts j hlt
          obtain ⟨t, ht⟩ : ∃ t, rd_T47 ts j = t := ⟨_, rfl⟩
          rw [ht] at x0 x1 x2 hnt
          replace hnt := Aside0.mk hnt
          by_cases h1 : t.f0 = 1
          · have FJ' := Aside0.mk FJ
            have HB' := Aside0.mk HB
            have hup := Aside0.mk ((Below.refl wr.heap.size wr).alloc (Nat.le_refl _) (.cells #[.int .i64 t.f0, .string t.f1, .int .i64 t.f2] 47))
            clear FJ HB HJ
            go_wp2_with fail
            go_roundg (ts.length - (j + 1))
            case measure => omega
            case rel => exact ⟨j + 1, by omega, by omega, by go_num, ⟨⟨v', by rw [hnt.out, if_pos h1, List.append_nil]; rw [h1] at hup; exact FJ'.out.up hup.out⟩, by rw [h1] at hup; exact HB'.out.below hup.out⟩⟩
          · have up := (Below.refl wr.heap.size wr).alloc (Nat.le_refl _) (.cells #[.int .i64 t.f0, .string t.f1, .int .i64 t.f2] 47)
            have FU := FJ.up up
            have hbm := (blk_cell FU.bm 0).trans rfl
            have hbo := (blk_cell FU.bo 0).trans rfl
            have hsz : t.f1.size ≤ maxLen := by rw [← ht]; exact H.out.2.2.2.1.self.ts _ (rd47_mem ts j hlt)
            have hlook := FU.map.look t.f1 hsz
            have hz := Aside0.mk (cnt_zero BL t.f1)
            obtain ⟨A', c', rfl⟩ := Kd.R_slice FU.row
            have hCt := Aside0.mk (contains_calls (addAll BL out (names (ts.take j))) t.f1 A' c' _ (Kd.R_reads' FU.row).2.2 (Kd.R_reads' FU.row).2.1)
            have hadd : Aside0 (addAll BL out (names (ts.take (j + 1))) = if among BL t.f1 || among (addAll BL out (names (ts.take j))) t.f1 then addAll BL out (names (ts.take j)) else addAll BL out (names (ts.take j)) ++ [t.f1]) := ⟨by rw [hnt.out, if_neg h1, addAll_append]; rfl⟩
            obtain ⟨q, hq⟩ : ∃ q, cnt BL t.f1 = q := ⟨_, rfl⟩
            rw [hq] at hlook hz
            have hOl : Aside0 (((addAll BL out (names (ts.take j))).length + 1) * 16 ≤ 140737488355328) := ⟨by
              have h1 := addAll_length BL out (names (ts.take j))
              have h2 := names_length (ts.take j)
              have h3 : (ts.take j).length ≤ ts.length := by simp; omega
              have h4 := H.out.2.2.2.2.2.2.2
              simp only [nt] at h4
              omega⟩
            obtain ⟨O, hO⟩ : ∃ O, addAll BL out (names (ts.take j)) = O := ⟨_, rfl⟩
            rw [hO] at hadd hCt FU hbo FJ hOl
            have FU' := Aside0.mk FU
            have HB' := Aside0.mk (HB.below up)
            replace up := Aside0.mk up
            clear FU FJ HB HJ hO hq hsz hnt
            by_cases hq0 : q = 0
            · subst hq0
              have hbf : among BL t.f1 = false := hz.out.1 rfl
              replace hbf := Aside0.mk hbf
              have hb47 := Aside0.mk (heap_new wr (.cells #[.int .i64 t.f0, .string t.f1, .int .i64 t.f2] 47))
              cases hO : among O t.f1 with
              | true =>
                rw [hO] at hCt
                replace hO := Aside0.mk hO
                go_wp2_with (go_at_call 56; with_reducible refine hCt.out.mono ?_; rintro e w5 ⟨rfl, g5⟩)
                go_roundg (ts.length - (j + 1))
                case measure => omega
                case rel => exact ⟨j + 1, by omega, by omega, by go_num, ⟨⟨_, by rw [hadd.out, if_pos (by rw [hO.out, Bool.or_true])]; exact FU'.out.up g5⟩, HB'.out.below g5⟩⟩
              | false =>
                rw [hO] at hCt
                replace hO := Aside0.mk hO
                go_wp2_with (first
                  | (go_at_call 56; with_reducible refine hCt.out.mono ?_; rintro e w5 ⟨rfl, g5⟩; have F5 := Aside0.mk (FU'.out.up g5); have B5 := Aside0.mk (HB'.out.below g5); have z5 := blk_below g5 hb47.out; have o1 : w5.cell? ⟨wr.heap.size, 1, none⟩ = some (.string t.f1) := (blk_cell z5 1).trans rfl; have o2 := (blk_cell F5.out.bo 0).trans rfl; replace z5 := Aside0.mk z5; have sz5 : Bo < w5.heap.size := (Array.getElem?_eq_some_iff.1 F5.out.bo).1; have sz6 : wr.heap.size < w5.heap.size := (Array.getElem?_eq_some_iff.1 z5.out).1)
                  | ((with_reducible refine gate_builtin (b := .append) (xs := #[.tmp 50, .tmp 53]) rfl ?_); at_builtin; refine Kd.R_append Kd.string (w0 := w5) w0.heap.size rfl (.tmp 50) (.tmp 53) 32 9 (.string ⟨#[]⟩) 16 rfl Tryd.underlying32 info9 rfl (by decide) (by omega) (.slice A' O.length c') O t.f1 [.string t.f1] (fun _ => True) (fun _ => False) rfl rfl ?hp (fun _ h => h.elim) (fun _ _ => trivial) ?HO (Below.refl _ _) ?hbase ?hl ?_; (case hp => rfl); (case HO => exact F5.out.row); (case hbase => exact F5.out.h0.size); (case hl => exact hOl.out); intro v1 w6 ho6 hb6 hg6 hat6; obtain ⟨A6, c6, rfl⟩ := Kd.R_slice ho6; have e6 := snoc_len O t.f1; rw [e6] at ho6; clear e6; replace ho6 := Aside0.mk ho6; replace hb6 := Aside0.mk hb6; have bo6 := (hg6.block Bo sz5 (Kd.R_ne F5.out.row F5.out.bo (by decide))).trans F5.out.bo; have o6 := (blk_cell bo6 0).trans rfl; have f6 := blk_frozen bo6; have bx6 := Aside0.mk (fun v1 => B5.out.app (v1 := v1) F5.out.row bo6 hg6); replace hg6 := Aside0.mk hg6; replace bo6 := Aside0.mk bo6; clear hat6))
                go_roundg (ts.length - (j + 1))
                case measure => omega
                case rel =>
                  refine ⟨j + 1, by omega, by omega, by go_num, ⟨⟨_, by rw [hadd.out, if_neg (by rw [hbf.out, hO.out]; simp)]; exact F5.out.gathered ho6.out hb6.out hg6.out⟩, bx6.out _⟩⟩
            · have hbt : among BL t.f1 = true := by
                cases h : among BL t.f1 with
                | true => rfl
                | false => exact absurd (hz.out.2 h) hq0
              replace hbt := Aside0.mk hbt
              go_wp2_with fail
              go_roundg (ts.length - (j + 1))
              case measure => omega
              case rel => exact ⟨j + 1, by omega, by omega, by go_num, ⟨⟨_, by rw [hadd.out, if_pos (by rw [hbt.out]; rfl)]; exact FU'.out⟩, HB'.out⟩⟩
        · have hltz : ¬ (j : Int) < (ts.length : Int) := by omega
          have he : j = ts.length := by omega
          have HE := Aside0.mk he
          clear he hj
          obtain ⟨O2, hO2⟩ : ∃ O2, addAll BL out (names ts) = O2 := ⟨_, rfl⟩
          have F3 : FS w0 wr Bm Bo Bl M n1 BL O2 v' := by
            have h := FJ
            rw [HE.out, List.take_length, hO2] at h
            exact h
          have F3' := Aside0.mk (And.intro F3 HB)
          have hO2l : O2.length + nts l ≤ 1000000 := by
            have h1 := addAll_length BL out (names ts)
            have h2 := names_length ts
            have h4 := H.out.2.2.2.2.2.2.2
            simp only [nt] at h4
            rw [hO2] at h1
            omega
          have HN := Aside0.mk (show n1 + 2 * nbs l ≤ 1000000 ∧ BL.length + nbs l ≤ 1000000 ∧ O2.length + nts l ≤ 1000000 from by
            have h1 := H.out.2.2.2.2.2.1
            have h2 := H.out.2.2.2.2.2.2.1
            simp only [nb] at h1 h2
            have h3 := hn1.out
            have h5 : BL.length = bl.length + bs.length := by rw [← hBL.out]; simp
            omega)
          replace hO2 := Aside0.mk hO2
          obtain ⟨q0, q1, q2, q3, q4, q5⟩ := six HB.box
          clear FJ HJ F3 HE hO2l
          go_wp2_with fail
          go_loopg [10, 59] l.length (fun gg _ s59 wr => ∃ j : Nat, j ≤ l.length ∧ l.length - j ≤ gg ∧ s59 = .int .i64 j ∧ Aside0 ((∃ v' n', n' ≤ n1 + 2 * nbs (l.take j) ∧ FS w0 wr Bm Bo Bl M n' BL (gaths BL O2 (l.take j)) v') ∧ BoxAt W wr k nm nn ts bs l A3 c3 A4 c4 A5 c5))
          case atStart => exact ⟨0, Nat.zero_le _, by omega, rfl, ⟨⟨v', n1, by simp [nbs], by simpa [gaths] using F3'.out.1⟩, F3'.out.2⟩⟩
          case round =>
            obtain ⟨j, hj, hg, rfl, HJ⟩ := hrel
            obtain ⟨⟨v2, n2, hn2, FJ⟩, HB3⟩ := HJ.out
            by_cases hlt : j < l.length
            · have hltz : (j : Int) < (l.length : Int) := by omega
              obtain ⟨ad, B3, d3, B4, d4, B5, d5, rfl, hatj, x0, x1, x2, x3, x4, x5⟩ := formAt H.out.2.2.1.g5 FJ.h0 j hlt
              obtain ⟨y, hy⟩ : ∃ y, rd_T26 l j = y := ⟨_, rfl⟩
              rw [hy] at hatj x0 x1 x2 x3 x4 x5
              have up := (Below.refl wr.heap.size wr).alloc (Nat.le_refl _) (.cells #[.int .i64 y.f0, .string y.f1, .int .i64 y.f2, .slice B3 y.f3.length d3, .slice B4 y.f4.length d4, .slice B5 y.f5.length d5] 26)
              have FU := FJ.up up
              have hbf := (blk_cell FU.bf 0).trans rfl
              have hgt := Aside0.mk (gaths_take BL O2 l j hlt)
              have hnb := nbs_take l j hlt
              have hnt := nts_take l j hlt
              have hgl := gaths_length BL O2 (l.take j)
              rw [hy] at hgt hnb hnt
              have hN := HN.out
              have hcall := Aside0.mk (H.out.1 y B3 d3 B4 d4 B5 d5 w0 _ Bm Bo Bl M n2 BL (gaths BL O2 (l.take j)) v2 (by have := H.out.2.1; have h2 := sizes_take l j hlt; rw [hy] at h2; simp only [size] at this; omega) hatj (by rw [← hy]; exact H.out.2.2.2.1.child j hlt) FU (by omega) (by omega) (by omega))
              have HB4 := Aside0.mk (HB3.below up)
              have hn3 := Aside0.mk (show ∀ n', n' ≤ n2 + 2 * nb y → n' ≤ n1 + 2 * nbs (l.take (j + 1)) from fun n' h => by omega)
              have eg := enters55
              replace up := Aside0.mk up
              clear hN hgl hnt hnb FU FJ HJ HB3 hatj hy hn2
              go_wp2_with (go_at_fn 55; with_reducible refine hcall.out.mono ?_; rintro e w5 ⟨⟨r, rfl⟩, k5, v5, n5, hn5, F5⟩; replace k5 := Aside0.mk k5; replace F5 := Aside0.mk F5; replace hn5 := Aside0.mk hn5)
              go_roundg (l.length - (j + 1))
              case measure => omega
              case rel => exact ⟨j + 1, by omega, by omega, by go_num, ⟨⟨v5, n5, hn3.out n5 hn5.out, by rw [hgt.out]; exact F5.out⟩, HB4.out.trans k5.out⟩⟩
            · have hltz : ¬ (j : Int) < (l.length : Int) := by omega
              have he : j = l.length := by omega
              have HE := Aside0.mk he
              clear he hj
              obtain ⟨O3, hO3⟩ : ∃ O3, gaths BL O2 l = O3 := ⟨_, rfl⟩
              have F4 : FS w0 wr Bm Bo Bl M n2 BL O3 v2 := by
                have h := FJ
                rw [HE.out, List.take_length, hO3] at h
                exact h
              have F4' := Aside0.mk (And.intro F4 HB3)
              have hn4 := Aside0.mk (show n2 ≤ n1 + 2 * nbs l by have h := hn2; rw [HE.out, List.take_length] at h; exact h)
              replace hO3 := Aside0.mk hO3
              obtain ⟨q0, q1, q2, q3, q4, q5⟩ := six HB3.box
              clear FJ HJ F4 HE HB3 hn2
              go_wp2_with fail
              go_loopg [12, 70] bs.length (fun gg _ s70 wr => ∃ j : Nat, j ≤ bs.length ∧ bs.length - j ≤ gg ∧ s70 = .int .i64 j ∧ Aside0 (FS w0 wr Bm Bo Bl M (n2 + j) (bl ++ (bs.drop j).map (·.f0)) O3 v2 ∧ BoxAt W wr k nm nn ts bs l A3 c3 A4 c4 A5 c5))
              case atStart => exact ⟨0, Nat.zero_le _, by omega, rfl, ⟨by have h := F4'.out.1; rw [← hBL.out] at h; simpa using h, F4'.out.2⟩⟩
              case round =>
                obtain ⟨j, hj, hg, rfl, HJ⟩ := hrel
                by_cases hlt : j < bs.length
                · have hltz : (j : Int) < (bs.length : Int) := by omega
                  obtain ⟨ad, rfl, x0, x1⟩ := bindAt H.out.2.2.1.g4 HJ.out.1.h0 j hlt
                  have hdn := Aside0.mk (drop_names bl bs j hlt)
                  obtain ⟨b, hb⟩ : ∃ b, rd_T42 bs j = b := ⟨_, rfl⟩
                  rw [hb] at x0 x1 hdn
                  have up := (Below.refl wr.heap.size wr).alloc (Nat.le_refl _) (.cells #[.string b.f0, .int .i64 b.f1] 42)
                  have FU := HJ.out.1.up up
                  have hbm := (blk_cell FU.bm 0).trans rfl
                  have hsz : b.f0.size ≤ maxLen := by rw [← hb]; exact H.out.2.2.2.1.self.bs _ (rd42_mem bs j hlt)
                  have hq := H.out
                  simp only [nb] at hq
                  have h6 := hn4.out
                  have h7 := hn1.out
                  obtain ⟨hlook, w1, hput, hg1, FN⟩ := FU.bind_down (by omega) (by simp; omega) b.f0 hsz hdn.out
                  obtain ⟨q, hcq⟩ : ∃ q, cnt (bl ++ (bs.drop (j + 1)).map (·.f0)) b.f0 = q := ⟨_, rfl⟩
                  have hqle : q ≤ 2000000 := by rw [← hcq]; exact Nat.le_trans (cnt_le _ _) (by simp; omega)
                  rw [hcq] at hlook hput
                  clear hcq
                  have FN' := Aside0.mk FN
                  have hg1' := Aside0.mk hg1
                  have hbx := Aside0.mk (show BoxAt W w1 k nm nn ts bs l A3 c3 (some ad) c4 A5 c5 from (HJ.out.2.below up).map FU.map hg1)
                  replace hb := Aside0.mk hb
                  clear hq FN hg1 FU up hsz hdn h6 h7
                  go_wp2_with fail
                  go_roundg (bs.length - (j + 1))
                  case measure => omega
                  case rel => exact ⟨j + 1, by omega, by omega, by go_num, ⟨by have h := FN'.out; rw [Nat.add_assoc] at h; exact h, hbx.out⟩⟩
                · have hltz : ¬ (j : Int) < (bs.length : Int) := by omega
                  have he : j = bs.length := by omega
                  have HE := Aside0.mk he
                  clear he hj
                  go_wp2_with fail
                  go_end0
                  have h6 := hn4.out
                  have h7 := hn1.out
                  refine ⟨⟨_, rfl⟩, HJ.out.2.kept, v2, n2 + j, ?_, ?_⟩
                  · rw [HE.out, nb]; omega
                  · have h := HJ.out.1
                    rw [HE.out, List.drop_length, List.map_nil, List.append_nil] at h
                    rw [gath, hBL.out, hO2.out, hO3.out, HE.out]
                    exact h
theorem free_ok : ∀ s, FreeOk s
  | 0 => fun x A3 c3 A4 c4 A5 c5 w0 W Bm Bo Bl M n bl out v h => by rw [size_eq] at h; omega
  | s + 1 => free_step s (free_ok s)
end Go.Proofs.YtmlcaecknocpoaaDoor.It
namespace Go.Proofs.YtmlcaecknocpoaaDoor.It
set_option linter.unusedVariables false
set_option linter.unusedSimpArgs false
open Go Go.RowKit Go.Shelf Go.Proofs.YtmlcaecknocpoaaDoorW.PrintWords Go.Proofs.YtmlcaecknocpoaaDoorW.PrintLast Go.Proofs.YtmlcaecknocpoaaDoor.Pr Go.Proofs.YtmlcaecknocpoaaDoor.Sp
theorem MapIs.of_empty {w : World} {M : Nat} (h : w.heap[M]? = some (.map #[] 0)) : MapIs w M 0 [] := ⟨.map [], ⟨#[], 0, h, ⟨by simp, Go.MapKept.stamped_empty 0, by simp⟩, Nat.le_refl _, rfl⟩, fun _ => rfl⟩
theorem five_blocks (W : World) (o1 o2 o3 o4 o5 : Obj) (W5 : World) (h : ((((W.alloc o1).alloc o2).alloc o3).alloc o4).alloc o5 = W5) :
    W5.heap[W.heap.size]? = some o1 ∧ W5.heap[W.heap.size + 1]? = some o2 ∧ W5.heap[W.heap.size + 1 + 1]? = some o3 ∧ W5.heap[W.heap.size + 1 + 1 + 1]? = some o4 ∧ W5.heap[W.heap.size + 1 + 1 + 1 + 1]? = some o5 ∧ Below W.heap.size W W5 ∧ W5.heap.size = W.heap.size + 5 := by
  subst h
  have up : ∀ (w : World) (o : Obj), Below w.heap.size w (w.alloc o) := fun w o => (Below.refl _ _).alloc (Nat.le_refl _) o
  have nw : ∀ (w : World) (o : Obj) (n : Nat), w.heap.size = n → (w.alloc o).heap[n]? = some o := fun w o n e => e ▸ heap_new w o
  refine ⟨?_, ?_, ?_, ?_, ?_, ?_, ?_⟩
  · exact blk_below (up _ _) (blk_below (up _ _) (blk_below (up _ _) (blk_below (up _ _) (heap_new _ _))))
  · exact blk_below (up _ _) (blk_below (up _ _) (blk_below (up _ _) (nw _ _ _ (by simp))))
  · exact blk_below (up _ _) (blk_below (up _ _) (nw _ _ _ (by simp)))
  · exact blk_below (up _ _) (nw _ _ _ (by simp))
  · exact nw _ _ _ (by simp)
  · exact ((((up _ _).alloc (by simp) _).alloc (by simp; omega) _).alloc (by simp; omega) _).alloc (by simp; omega) _
  · simp
set_option maxRecDepth 100000 in
set_option maxHeartbeats 4000000 in
theorem free_calls (x : S26) (A3 : Option Addr) (c3 : Nat) (A4 : Option Addr) (c4 : Nat) (A5 : Option Addr) (c5 : Nat) (W : World) (hat : At W x A3 c3 A4 c4 A5 c5) (hdp : Deep x) (hnb : nb x ≤ 400000) (hnt : nt x ≤ 1000000) :
    Calls Tryd.prog 28 #[.agg #[.int .i64 x.f0, .string x.f1, .int .i64 x.f2, .slice A3 x.f3.length c3, .slice A4 x.f4.length c4, .slice A5 x.f5.length c5]] W fun e W' =>
      ∃ v, e = .returned v ∧ Below W.heap.size W W' ∧ Kd.R Kd.string 9 W' W.heap.size (fun _ => True) v (free x) := by
  have hu26 := Tryd.underlying26
  have eg := enters55
  have hmm := @run_makeMap Tryd.prog
  have H := Aside0.mk (And.intro hat (And.intro hdp (And.intro hnb hnt)))
  clear hat hdp hnb hnt
  go_enter Tryd.func28, Tryd.ntmps28
  obtain ⟨W5, hW5⟩ : ∃ W5, (((((W.alloc (.cells #[.int .i64 x.f0, .string x.f1, .int .i64 x.f2, .slice A3 x.f3.length c3, .slice A4 x.f4.length c4, .slice A5 x.f5.length c5] 26)).alloc (.map #[] 0)).alloc (.cells #[.map (some (W.heap.size + 1))] 68)).alloc (.cells #[.slice none 0 0] 32)).alloc (.cells #[(.func (.func 55) #[] #[.pointer (some ⟨W.heap.size + 1 + 1, 0, none⟩), .pointer (some ⟨W.heap.size + 1 + 1 + 1, 0, none⟩), .pointer (some ⟨W.heap.size + 1 + 1 + 1 + 1, 0, none⟩)])] 69)) = W5 := ⟨_, rfl⟩
  have h5 := five_blocks _ _ _ _ _ _ _ hW5
  obtain ⟨b1, b2, b3, b4, b5, hb, hsz⟩ := h5
  obtain ⟨q0, q1, q2, q3, q4, q5⟩ := six b1
  have q6 := (blk_cell b5 0).trans rfl
  have hF : FS W W5 (W.heap.size + 1 + 1) (W.heap.size + 1 + 1 + 1) (W.heap.size + 1 + 1 + 1 + 1) (W.heap.size + 1) 0 [] [] (.slice none 0 0) := by
    refine ⟨b3, b4, b5, ?_, ?_, hb, by omega, by omega⟩
    · exact MapIs.of_empty b2
    · exact Kd.R_nil _ _ _ _ _
  have hcall := Aside0.mk (free_ok (size x) x A3 c3 A4 c4 A5 c5 W _ _ _ _ _ 0 [] [] _ (Nat.le_refl _) H.out.1 H.out.2.1 hF (by have := H.out.2.2.1; omega) (by have := H.out.2.2.1; simp; omega) (by have := H.out.2.2.2; simp; omega))
  subst hW5
  clear hF b1 b2 b3 b4 b5 hb hsz
  go_wp2_with (go_at_fn 55; with_reducible refine hcall.out.mono ?_; rintro e w6 ⟨⟨r, rfl⟩, k6, v6, n6, hn6, F6⟩; have r6 := (blk_cell F6.bo 0).trans rfl; replace k6 := Aside0.mk k6; replace F6 := Aside0.mk F6; replace hn6 := Aside0.mk hn6)
  go_ret
  exact ⟨v6, rfl, F6.out.h0, by have h := F6.out.row; rw [free_gath] at h; exact h⟩
end Go.Proofs.YtmlcaecknocpoaaDoor.It
namespace Go.Proofs.YtmlcaecknocpoaaDoor.Pr
open Go.RowKit Go.Proofs.YtmlcaecknocpoaaDoorW.PrintWords Go.Proofs.YtmlcaecknocpoaaDoorW.PrintLast Go.Proofs.YtmlcaecknocpoaaDoorW.PrintMore
attribute [local go_sem] max2_int min2_int max_two min_two max_three min_three max_four min_four   
set_option linter.unusedVariables false
set_option linter.unusedSimpArgs false
def chalklineref06_Among.l0 : Nat → List ByteArray → ByteArray → Int → Option (Bool)
  | 0, _, _, _ => none
  | k + 1, x0, x1, x5 => if x5 < (x0.length : Int) then (if 0 ≤ x5 then (if (rdOf ByteArray.empty x0 x5).toList = x1.toList then (some true) else (chalklineref06_Among.l0 k x0 x1 (wrap64 (x5 + 1)))) else (none)) else (some false)
def chalklineref06_Among.f (k : Nat) (l0 : List ByteArray) (a1 : ByteArray) : Option (Bool) := chalklineref06_Among.l0 k l0 a1 0
set_option maxHeartbeats 8000000 in
set_option maxRecDepth 100000 in
theorem chalklineref06_Among.calls (k : Nat) (A0 : Option Addr) (c0 : Nat) (l0 : List ByteArray) (a1 : ByteArray) (r : Bool) (w : World) (hr0 : Kd.C Kd.string w A0 l0.length l0) (hc0 : l0.length ≤ c0) (h : chalklineref06_Among.f k l0 a1 = some r) :
    Calls Tryd.prog 34 #[.slice A0 l0.length c0, .string a1] w fun e w' => e = .returned (.bool r) ∧ Drawn0 w w' := by
  have HR0 := Aside0.mk hr0
  have HC0 := Aside0.mk hc0
  clear hr0 hc0
  have H : (chalklineref06_Among.l0 k l0 a1 0) = some r := h
  clear h
  have H' := Aside0.mk H
  clear H
  go_enter Tryd.func34, Tryd.ntmps34
  go_wp2
  go_loopg [5] k (fun kq v5 w' => ∃ (x5_1 : Int), v5 = .int .i64 x5_1 ∧ Aside0 (chalklineref06_Among.l0 kq l0 a1 x5_1 = some r) ∧ Aside0 (kq ≤ k) ∧ Drawn0 w w')
  case atStart => exact ⟨(0), (by first | rfl | (simp; done) | (simp [*]; done)), H', ⟨Nat.le_refl _⟩, by repeat (first | exact Drawn0.refl _ | apply Drawn0.step)⟩
  case round =>
    clear H'
    try clear p2
    obtain ⟨x5_1, rfl, HA, HK1, ⟨m1, rfl⟩⟩ := hrel
    cases gk with
    | zero => exact absurd HA.out (by simp [chalklineref06_Among.l0])
    | succ k1 =>
      have H := HA.out
      clear HA
      simp only [chalklineref06_Among.l0] at H
      by_cases c3 : x5_1 < (l0.length : Int)
      · rw [if_pos c3] at H
        have c3b0 : decide (x5_1 < (l0.length : Int)) = true := decide_eq_true c3
        clear c3
        by_cases c4 : 0 ≤ x5_1
        · rw [if_pos c4] at H
          have c4b0 : decide (0 ≤ x5_1) = true := decide_eq_true c4
          clear c4
          by_cases c5 : (rdOf ByteArray.empty l0 x5_1).toList = a1.toList
          · rw [if_pos c5] at H
            have c5b0 : ((rdOf ByteArray.empty l0 x5_1).toList == a1.toList) = true := beq_iff_eq.mpr c5
            have c5b1 : ((rdOf ByteArray.empty l0 x5_1).toList != a1.toList) = false := bne_eq_false_iff_eq.mpr c5
            clear c5
            obtain rfl := Option.some.inj H
            have p144 : 0 ≤ (x5_1 : Int) := of_decide_eq_true (by first | (with_reducible assumption) | assumption)
            have q144 : x5_1 < (l0.length : Int) := of_decide_eq_true (by first | (with_reducible assumption) | assumption)
            obtain ⟨ad144, e144, hx144_0⟩ := Kd.at_string HR0.out x5_1 p144 q144
            cases e144
            replace p144 := eq_true p144
            replace q144 := eq_true q144
            go_wp2
            go_ret
            exact ⟨by first | rfl | (simp; done) | (simp [*]; done), by repeat (first | exact Drawn0.refl _ | apply Drawn0.step)⟩
          · rw [if_neg c5] at H
            have c5b0 : ((rdOf ByteArray.empty l0 x5_1).toList == a1.toList) = false := beq_eq_false_iff_ne.mpr c5
            have c5b1 : ((rdOf ByteArray.empty l0 x5_1).toList != a1.toList) = true := bne_iff_ne.mpr c5
            have H' := Aside0.mk H
            clear H
            have p144 : 0 ≤ (x5_1 : Int) := of_decide_eq_true (by first | (with_reducible assumption) | assumption)
            have q144 : x5_1 < (l0.length : Int) := of_decide_eq_true (by first | (with_reducible assumption) | assumption)
            obtain ⟨ad144, e144, hx144_0⟩ := Kd.at_string HR0.out x5_1 p144 q144
            cases e144
            replace p144 := eq_true p144
            replace q144 := eq_true q144
            go_wp2
            go_roundg k1
            case measure => have := HK1.out; omega
            case rel => exact ⟨(wrap64 (x5_1 + 1)), (by first | rfl | (simp; done) | (simp [*]; done)), H', ⟨by have := HK1.out; omega⟩, by repeat (first | exact Drawn0.refl _ | apply Drawn0.step)⟩
        · rw [if_neg c4] at H
          exact absurd H (by simp)
      · rw [if_neg c3] at H
        have c3b0 : decide (x5_1 < (l0.length : Int)) = false := decide_eq_false c3
        clear c3
        obtain rfl := Option.some.inj H
        go_wp2
        go_ret
        exact ⟨by first | rfl | (simp; done) | (simp [*]; done), by repeat (first | exact Drawn0.refl _ | apply Drawn0.step)⟩
end Go.Proofs.YtmlcaecknocpoaaDoor.Pr
namespace Go.Proofs.YtmlcaecknocpoaaDoor.Pr
open Go.RowKit Go.Proofs.YtmlcaecknocpoaaDoorW.PrintWords Go.Proofs.YtmlcaecknocpoaaDoorW.PrintLast Go.Proofs.YtmlcaecknocpoaaDoorW.PrintMore
attribute [local go_sem] max2_int min2_int max_two min_two max_three min_three max_four min_four   
set_option linter.unusedVariables false
set_option linter.unusedSimpArgs false
mutual
def chalklineref06_Free.l0 : Nat → List ByteArray → Int → Int → ByteArray → Int → List (S47) → List (S42) → List (S26) → Option (List ByteArray)
  | 0, _, _, _, _, _, _, _, _ => none
  | k + 1, x3, x4, x146000, x146001, x146002, x146003, x146004, x146005 => if x4 < (x146003.length : Int) then (if 0 ≤ x4 then (if ((rd_T47 x146003 x4).f0) = 1 then (chalklineref06_Free.l0 k x3 (wrap64 (x4 + 1)) x146000 x146001 x146002 x146003 x146004 x146005) else (if x3.length < 8796093022208 then (chalklineref06_Free.l0 k (x3 ++ [(rd_T47 x146003 x4).f1]) (wrap64 (x4 + 1)) x146000 x146001 x146002 x146003 x146004 x146005) else (none))) else (none)) else (chalklineref06_Free.l1 k x3 0 x146000 x146001 x146002 x146003 x146004 x146005)
def chalklineref06_Free.l1 : Nat → List ByteArray → Int → Int → ByteArray → Int → List (S47) → List (S42) → List (S26) → Option (List ByteArray)
  | 0, _, _, _, _, _, _, _, _ => none
  | k + 1, x3, x5, x146000, x146001, x146002, x146003, x146004, x146005 => if x5 < (x146005.length : Int) then (if 0 ≤ x5 then ((chalklineref06_Free.f k ((rd_T26 x146005 x5).f0) ((rd_T26 x146005 x5).f1) ((rd_T26 x146005 x5).f2) ((rd_T26 x146005 x5).f3) ((rd_T26 x146005 x5).f4) ((rd_T26 x146005 x5).f5)).bind fun t152 => (if x3.length + t152.length < 8796093022208 then (chalklineref06_Free.l1 k (x3 ++ t152) (wrap64 (x5 + 1)) x146000 x146001 x146002 x146003 x146004 x146005) else (none))) else (none)) else (chalklineref06_Free.l2 k x3 ([] : List ByteArray) 0 x146000 x146001 x146002 x146003 x146004 x146005)
def chalklineref06_Free.l2 : Nat → List ByteArray → List ByteArray → Int → Int → ByteArray → Int → List (S47) → List (S42) → List (S26) → Option (List ByteArray)
  | 0, _, _, _, _, _, _, _, _, _ => none
  | k + 1, x3, x6, x7, x146000, x146001, x146002, x146003, x146004, x146005 => if x7 < (x146004.length : Int) then (if 0 ≤ x7 then (if x6.length < 8796093022208 then (chalklineref06_Free.l2 k x3 (x6 ++ [(rd_T42 x146004 x7).f0]) (wrap64 (x7 + 1)) x146000 x146001 x146002 x146003 x146004 x146005) else (none)) else (none)) else (chalklineref06_Free.l3 k x3 x6 ([] : List ByteArray) 0)
def chalklineref06_Free.l3 : Nat → List ByteArray → List ByteArray → List ByteArray → Int → Option (List ByteArray)
  | 0, _, _, _, _ => none
  | k + 1, x3, x6, x8, x9 => if x9 < (x3.length : Int) then (if 0 ≤ x9 then ((chalklineref06_Among.f k x6 (rdOf ByteArray.empty x3 x9)).bind fun t163 => (if t163 = true then (chalklineref06_Free.l3 k x3 x6 x8 (wrap64 (x9 + 1))) else ((chalklineref06_Among.f k x8 (rdOf ByteArray.empty x3 x9)).bind fun t165 => (if t165 = true then (chalklineref06_Free.l3 k x3 x6 x8 (wrap64 (x9 + 1))) else (if x8.length < 8796093022208 then (chalklineref06_Free.l3 k x3 x6 (x8 ++ [rdOf ByteArray.empty x3 x9]) (wrap64 (x9 + 1))) else (none)))))) else (none)) else (some x8)
def chalklineref06_Free.f : Nat → Int → ByteArray → Int → List (S47) → List (S42) → List (S26) → Option (List ByteArray)
  | 0, _, _, _, _, _, _ => none
  | k + 1, a0_0, a0_1, a0_2, l0_3, l0_4, l0_5 => chalklineref06_Free.l0 k ([] : List ByteArray) 0 a0_0 a0_1 a0_2 l0_3 l0_4 l0_5
end
set_option maxHeartbeats 8000000 in
set_option maxRecDepth 100000 in
theorem chalklineref06_Free.calls (k : Nat) : ∀ (a0_0 : Int) (a0_1 : ByteArray) (a0_2 : Int) (A0_3 : Option Addr) (c0_3 : Nat) (l0_3 : List (S47)) (A0_4 : Option Addr) (c0_4 : Nat) (l0_4 : List (S42)) (A0_5 : Option Addr) (c0_5 : Nat) (l0_5 : List (S26)) (r : List ByteArray) (w : World) (hr0_3 : Kd.C k47 w A0_3 l0_3.length l0_3) (hc0_3 : l0_3.length ≤ c0_3) (hr0_4 : Kd.C k42 w A0_4 l0_4.length l0_4) (hc0_4 : l0_4.length ≤ c0_4) (hr0_5 : Kd.C k26 w A0_5 l0_5.length l0_5) (hc0_5 : l0_5.length ≤ c0_5) (h : chalklineref06_Free.f k a0_0 a0_1 a0_2 l0_3 l0_4 l0_5 = some r),
    Calls Tryd.prog 29 #[.agg #[.int .i64 a0_0, .string a0_1, .int .i64 a0_2, .slice A0_3 l0_3.length c0_3, .slice A0_4 l0_4.length c0_4, .slice A0_5 l0_5.length c0_5]] w fun e w' => ∃ v0_ : Value, e = .returned (v0_) ∧ Kd.R Kd.string 9 w' w.heap.size (fun _ => True) v0_ r ∧ Below w.heap.size w w' := by
  induction k using Nat.strongRecOn with
  | _ k ih =>
  intro a0_0 a0_1 a0_2 A0_3 c0_3 l0_3 A0_4 c0_4 l0_4 A0_5 c0_5 l0_5 r w hr0_3 hc0_3 hr0_4 hc0_4 hr0_5 hc0_5 h
  cases k with
  | zero => exact absurd h (by simp [chalklineref06_Free.f])
  | succ k =>
  simp only [chalklineref06_Free.f] at h
  have hu26 := Tryd.underlying26
  have HR0_3 := Aside0.mk hr0_3
  have HC0_3 := Aside0.mk hc0_3
  clear hr0_3 hc0_3
  have HR0_4 := Aside0.mk hr0_4
  have HC0_4 := Aside0.mk hc0_4
  clear hr0_4 hc0_4
  have HR0_5 := Aside0.mk hr0_5
  have HC0_5 := Aside0.mk hc0_5
  clear hr0_5 hc0_5
  have HB := Aside0.mk (Below.refl w.heap.size w)
  have H : (chalklineref06_Free.l0 k ([] : List ByteArray) 0 a0_0 a0_1 a0_2 l0_3 l0_4 l0_5) = some r := h
  clear h
  have H' := Aside0.mk H
  clear H
  go_enter Tryd.func29, Tryd.ntmps29
  go_wp2_with (first | ((with_reducible refine gate_dst (N := 1) rfl ?_); refine box_event ?hg (N := 1) ?hd (cs := #[.int .i64 a0_0, .string a0_1, .int .i64 a0_2, .slice A0_3 l0_3.length c0_3, .slice A0_4 l0_4.length c0_4, .slice A0_5 l0_5.length c0_5]) (t := 26) ?hr ?_; (case hd => rfl); (case hg => rfl); (case hr => first | (go_simp; done) | (go_simp; rfl)); intro gb145 hg w2 hbox hb; have n0_ := Aside0.mk (below_step (by repeat (first | (with_reducible first | exact HB.out | apply below_alloc | apply pw_below_drewN | apply below_drew1) | exact HB.out)) hb); have n1_ := Aside0.mk (hbox); have n2_ := Aside0.mk ((by rw [hg]; exact (below_size (by repeat (first | (with_reducible first | exact HB.out | apply below_alloc | apply pw_below_drewN | apply below_drew1) | exact HB.out))) : w.heap.size ≤ gb145)); have n3_ := Aside0.mk ((by rw [hg]; exact (below_size (by repeat (first | (with_reducible first | exact HB.out | apply below_alloc | apply pw_below_drewN | apply below_drew1) | exact HB.out))) : w.heap.size ≤ gb145)); clear HB; have HB := n0_; have BK145 := n1_; have GW145 := n2_; have GE145 := n3_; clear n0_ n1_ n2_ n3_; clear hb hbox hg))
  go_loopg [3, 4] k (fun kq v3 v4 w' => ∃ (x3_1 : List ByteArray) (x4_1 : Int), v4 = .int .i64 x4_1 ∧ Aside0 (chalklineref06_Free.l0 kq x3_1 x4_1 a0_0 a0_1 a0_2 l0_3 l0_4 l0_5 = some r) ∧ Aside0 (kq ≤ k) ∧ Aside0 (Kd.R Kd.string 9 w' w.heap.size (fun _ => True) v3 x3_1) ∧ Aside0 (w'.heap[gb145]? = some (.cells #[.int .i64 a0_0, .string a0_1, .int .i64 a0_2, (.slice A0_3 l0_3.length c0_3), (.slice A0_4 l0_4.length c0_4), (.slice A0_5 l0_5.length c0_5)] 26 (0, 0))) ∧ Aside0 (Below w.heap.size w w'))
  case atStart => exact ⟨(([] : List ByteArray)), (0), (by first | rfl | (simp; done) | (simp [*]; done)), H', ⟨Nat.le_refl _⟩, ⟨by first | exact Kd.R_nil _ _ _ _ _ | exact Kd.N_nil _ _ _ _ _ | exact Kd.V_nil _ _ _ _ _ | exact Kd.Q_nil _ _ _ _ _ | exact Kd.S_nil _ _ _ _ _⟩, ⟨by (with_reducible repeat (first | refine blk_drewN ?_ _ | refine blk_drew ?_ | refine blk_alloc ?_ _)); exact BK145.out⟩, ⟨by repeat (first | (with_reducible first | exact HB.out | apply below_alloc | apply pw_below_drewN | apply below_drew1 | refine below_set ?_ GE145.out) | exact HB.out)⟩⟩
  case round =>
    clear H'
    try clear c2
    try clear p2
    obtain ⟨x3_1, x4_1, rfl, HA, HK1, HO_3, BK145, HB⟩ := hrel
    cases gk with
    | zero => exact absurd HA.out (by simp [chalklineref06_Free.l0])
    | succ k1 =>
      have H := HA.out
      clear HA
      simp only [chalklineref06_Free.l0] at H
      by_cases c3 : x4_1 < (l0_3.length : Int)
      · rw [if_pos c3] at H
        have c3b0 : decide (x4_1 < (l0_3.length : Int)) = true := decide_eq_true c3
        clear c3
        by_cases c4 : 0 ≤ x4_1
        · rw [if_pos c4] at H
          have c4b0 : decide (0 ≤ x4_1) = true := decide_eq_true c4
          clear c4
          by_cases c5 : ((rd_T47 l0_3 x4_1).f0) = 1
          · rw [if_pos c5] at H
            have c5b0 : (((rd_T47 l0_3 x4_1).f0) == 1) = true := beq_iff_eq.mpr c5
            have c5b1 : (((rd_T47 l0_3 x4_1).f0) != 1) = false := bne_eq_false_iff_eq.mpr c5
            clear c5
            have H' := Aside0.mk H
            clear H
            have hcz6_0 : wr.cell? ⟨gb145, 0, none⟩ = some (.int .i64 a0_0) := (blk_cell BK145.out 0).trans rfl
            have hcz6_1 : wr.cell? ⟨gb145, 1, none⟩ = some (.string a0_1) := (blk_cell BK145.out 1).trans rfl
            have hcz6_2 : wr.cell? ⟨gb145, 2, none⟩ = some (.int .i64 a0_2) := (blk_cell BK145.out 2).trans rfl
            have hcz6_3 : wr.cell? ⟨gb145, 3, none⟩ = some (.slice A0_3 l0_3.length c0_3) := (blk_cell BK145.out 3).trans rfl
            have hcz6_4 : wr.cell? ⟨gb145, 4, none⟩ = some (.slice A0_4 l0_4.length c0_4) := (blk_cell BK145.out 4).trans rfl
            have hcz6_5 : wr.cell? ⟨gb145, 5, none⟩ = some (.slice A0_5 l0_5.length c0_5) := (blk_cell BK145.out 5).trans rfl
            have hfz6_0 := blk_frozen BK145.out 0
            have hfz6_1 := blk_frozen BK145.out 1
            have hfz6_2 := blk_frozen BK145.out 2
            have hfz6_3 := blk_frozen BK145.out 3
            have hfz6_4 := blk_frozen BK145.out 4
            have hfz6_5 := blk_frozen BK145.out 5
            have p146 : 0 ≤ (x4_1 : Int) := of_decide_eq_true (by first | (with_reducible assumption) | assumption)
            have q146 : x4_1 < (l0_3.length : Int) := of_decide_eq_true (by first | (with_reducible assumption) | assumption)
            obtain ⟨ad146, e146, hx146_0, hx146_1, hx146_2⟩ := at_T47 HR0_3.out x4_1 p146 q146
            cases e146
            replace hx146_0 := (HB.out.cell (World.block_lt_of_cell? w _ hx146_0)).trans hx146_0
            replace hx146_1 := (HB.out.cell (World.block_lt_of_cell? w _ hx146_1)).trans hx146_1
            replace hx146_2 := (HB.out.cell (World.block_lt_of_cell? w _ hx146_2)).trans hx146_2
            replace p146 := eq_true p146
            replace q146 := eq_true q146
            go_wp2
            go_roundg k1
            case measure => have := HK1.out; omega
            case rel => exact ⟨(x3_1), (wrap64 (x4_1 + 1)), (by first | rfl | (simp; done) | (simp [*]; done)), H', ⟨by have := HK1.out; omega⟩, ⟨by (with_reducible repeat (first | apply Kd.R_alloc | apply Kd.R_drewN | apply Kd.R_drew)); exact HO_3.out⟩, ⟨by (with_reducible repeat (first | refine blk_drewN ?_ _ | refine blk_drew ?_ | refine blk_alloc ?_ _)); exact BK145.out⟩, ⟨by repeat (first | (with_reducible first | exact HB.out | apply below_alloc | apply pw_below_drewN | apply below_drew1 | refine below_set ?_ GE145.out) | exact HB.out)⟩⟩
          · rw [if_neg c5] at H
            have c5b0 : (((rd_T47 l0_3 x4_1).f0) == 1) = false := beq_eq_false_iff_ne.mpr c5
            have c5b1 : (((rd_T47 l0_3 x4_1).f0) != 1) = true := bne_iff_ne.mpr c5
            by_cases c7 : x3_1.length < 8796093022208
            · rw [if_pos c7] at H
              have LMc7 := Aside0.mk c7
              clear c7
              obtain ⟨y148, hy148⟩ : ∃ y_ : List ByteArray, y_ = (x3_1 ++ [(rd_T47 l0_3 x4_1).f1]) := ⟨_, rfl⟩
              replace H : (chalklineref06_Free.l0 k1 y148 (wrap64 (x4_1 + 1)) a0_0 a0_1 a0_2 l0_3 l0_4 l0_5) = some r := by first | (rw [hy148]; with_reducible exact H) | (have H2_ := (Option.bind_some _ _).symm.trans H; rw [hy148]; with_reducible exact H2_) | (have H2_ := (Option.bind_some _ _).symm.trans H; with_reducible exact H2_) | with_reducible exact H | (rw [hy148]; exact H) | exact H
              have Ny148 := Aside0.mk hy148
              clear hy148
              have H' := Aside0.mk H
              clear H
              have hcz8_0 : wr.cell? ⟨gb145, 0, none⟩ = some (.int .i64 a0_0) := (blk_cell BK145.out 0).trans rfl
              have hcz8_1 : wr.cell? ⟨gb145, 1, none⟩ = some (.string a0_1) := (blk_cell BK145.out 1).trans rfl
              have hcz8_2 : wr.cell? ⟨gb145, 2, none⟩ = some (.int .i64 a0_2) := (blk_cell BK145.out 2).trans rfl
              have hcz8_3 : wr.cell? ⟨gb145, 3, none⟩ = some (.slice A0_3 l0_3.length c0_3) := (blk_cell BK145.out 3).trans rfl
              have hcz8_4 : wr.cell? ⟨gb145, 4, none⟩ = some (.slice A0_4 l0_4.length c0_4) := (blk_cell BK145.out 4).trans rfl
              have hcz8_5 : wr.cell? ⟨gb145, 5, none⟩ = some (.slice A0_5 l0_5.length c0_5) := (blk_cell BK145.out 5).trans rfl
              have hfz8_0 := blk_frozen BK145.out 0
              have hfz8_1 := blk_frozen BK145.out 1
              have hfz8_2 := blk_frozen BK145.out 2
              have hfz8_3 := blk_frozen BK145.out 3
              have hfz8_4 := blk_frozen BK145.out 4
              have hfz8_5 := blk_frozen BK145.out 5
              have p146 : 0 ≤ (x4_1 : Int) := of_decide_eq_true (by first | (with_reducible assumption) | assumption)
              have q146 : x4_1 < (l0_3.length : Int) := of_decide_eq_true (by first | (with_reducible assumption) | assumption)
              obtain ⟨ad146, e146, hx146_0, hx146_1, hx146_2⟩ := at_T47 HR0_3.out x4_1 p146 q146
              cases e146
              replace hx146_0 := (HB.out.cell (World.block_lt_of_cell? w _ hx146_0)).trans hx146_0
              replace hx146_1 := (HB.out.cell (World.block_lt_of_cell? w _ hx146_1)).trans hx146_1
              replace hx146_2 := (HB.out.cell (World.block_lt_of_cell? w _ hx146_2)).trans hx146_2
              replace p146 := eq_true p146
              replace q146 := eq_true q146
              have p147 : 0 ≤ (x4_1 : Int) := of_decide_eq_true (by first | (with_reducible assumption) | assumption)
              have q147 : x4_1 < (l0_3.length : Int) := of_decide_eq_true (by first | (with_reducible assumption) | assumption)
              obtain ⟨ad147, e147, hx147_0, hx147_1, hx147_2⟩ := at_T47 HR0_3.out x4_1 p147 q147
              obtain rfl : ad146 = ad147 := (by injection e147)
              replace hx147_0 := (HB.out.cell (World.block_lt_of_cell? w _ hx147_0)).trans hx147_0
              replace hx147_1 := (HB.out.cell (World.block_lt_of_cell? w _ hx147_1)).trans hx147_1
              replace hx147_2 := (HB.out.cell (World.block_lt_of_cell? w _ hx147_2)).trans hx147_2
              replace p147 := eq_true p147
              replace q147 := eq_true q147
              go_wp2_with (first | ((with_reducible refine gate_builtin (b := .append) (xs := #[.tmp 24, .tmp 31]) rfl ?_); at_builtin; refine Kd.R_append Kd.string (w0 := w) w.heap.size rfl (.tmp 24) (.tmp 31) 32 9 (.string ⟨#[]⟩) 16 rfl Tryd.underlying32 info9 rfl (by decide) (by omega) u3 x3_1 ((rd_T47 l0_3 x4_1).f1) [.string ((rd_T47 l0_3 x4_1).f1)] (fun _ => True) (fun _ => False) rfl rfl ?aP (fun _ hk => hk.elim) ?aF ?aO ?aB ?aS ?aL ?_; (case aP => exact rfl); (case aB => exact (by repeat (first | (with_reducible first | exact HB.out | apply below_alloc | apply pw_below_drewN | apply below_drew1 | refine below_set ?_ GE145.out) | exact HB.out))); (case aF => exact (fun _ _ => trivial)); (case aO => exact (by (with_reducible repeat (first | apply Kd.R_alloc | apply Kd.R_drewN | apply Kd.R_drew)); exact HO_3.out)); (case aS => exact (below_size (by repeat (first | (with_reducible first | exact HB.out | apply below_alloc | apply pw_below_drewN | apply below_drew1 | refine below_set ?_ GE145.out) | exact HB.out)))); (case aL => have := LMc7.out; omega); intro v149 w9 ho hb hg hat; rw [← Ny148.out] at ho; have n0_ := Aside0.mk (blk_grown (g := gb145) (o := .cells #[.int .i64 a0_0, .string a0_1, .int .i64 a0_2, .slice (some ad146) l0_3.length c0_3, .slice A0_4 l0_4.length c0_4, .slice A0_5 l0_5.length c0_5] 26 (0, 0)) (by (with_reducible repeat (first | refine blk_drewN ?_ _ | refine blk_drew ?_ | refine blk_alloc ?_ _)); exact BK145.out) hg (Kd.R_ne HO_3.out BK145.out (by decide))); have n1_ := Aside0.mk (hb); have n2_ := Aside0.mk (ho); clear BK145; clear HB; clear HO_3; have BK145 := n0_; have HB := n1_; have HO150 := n2_; clear n0_ n1_ n2_; clear ho hb hg hat))
              go_roundg k1
              case measure => have := HK1.out; omega
              case rel => exact ⟨(y148), (wrap64 (x4_1 + 1)), (by first | rfl | (simp; done) | (simp [*]; done)), H', ⟨by have := HK1.out; omega⟩, ⟨by (with_reducible repeat (first | apply Kd.R_alloc | apply Kd.R_drewN | apply Kd.R_drew)); exact HO150.out⟩, ⟨by (with_reducible repeat (first | refine blk_drewN ?_ _ | refine blk_drew ?_ | refine blk_alloc ?_ _)); exact BK145.out⟩, ⟨by repeat (first | (with_reducible first | exact HB.out | apply below_alloc | apply pw_below_drewN | apply below_drew1 | refine below_set ?_ GE145.out) | exact HB.out)⟩⟩
            · rw [if_neg c7] at H
              exact absurd H (by simp)
        · rw [if_neg c4] at H
          exact absurd H (by simp)
      · rw [if_neg c3] at H
        have c3b0 : decide (x4_1 < (l0_3.length : Int)) = false := decide_eq_false c3
        clear c3
        have H' := Aside0.mk H
        clear H
        have hcz10_0 : wr.cell? ⟨gb145, 0, none⟩ = some (.int .i64 a0_0) := (blk_cell BK145.out 0).trans rfl
        have hcz10_1 : wr.cell? ⟨gb145, 1, none⟩ = some (.string a0_1) := (blk_cell BK145.out 1).trans rfl
        have hcz10_2 : wr.cell? ⟨gb145, 2, none⟩ = some (.int .i64 a0_2) := (blk_cell BK145.out 2).trans rfl
        have hcz10_3 : wr.cell? ⟨gb145, 3, none⟩ = some (.slice A0_3 l0_3.length c0_3) := (blk_cell BK145.out 3).trans rfl
        have hcz10_4 : wr.cell? ⟨gb145, 4, none⟩ = some (.slice A0_4 l0_4.length c0_4) := (blk_cell BK145.out 4).trans rfl
        have hcz10_5 : wr.cell? ⟨gb145, 5, none⟩ = some (.slice A0_5 l0_5.length c0_5) := (blk_cell BK145.out 5).trans rfl
        have hfz10_0 := blk_frozen BK145.out 0
        have hfz10_1 := blk_frozen BK145.out 1
        have hfz10_2 := blk_frozen BK145.out 2
        have hfz10_3 := blk_frozen BK145.out 3
        have hfz10_4 := blk_frozen BK145.out 4
        have hfz10_5 := blk_frozen BK145.out 5
        go_wp2
        go_loopg [3, 5] k1 (fun kq v3 v5 w' => ∃ (x3_2 : List ByteArray) (x5_2 : Int), v5 = .int .i64 x5_2 ∧ Aside0 (chalklineref06_Free.l1 kq x3_2 x5_2 a0_0 a0_1 a0_2 l0_3 l0_4 l0_5 = some r) ∧ Aside0 (kq ≤ k1) ∧ Aside0 (Kd.R Kd.string 9 w' w.heap.size (fun _ => True) v3 x3_2) ∧ Aside0 (w'.heap[gb145]? = some (.cells #[.int .i64 a0_0, .string a0_1, .int .i64 a0_2, (.slice A0_3 l0_3.length c0_3), (.slice A0_4 l0_4.length c0_4), (.slice A0_5 l0_5.length c0_5)] 26 (0, 0))) ∧ Aside0 (Below w.heap.size w w'))
        case atStart => exact ⟨(x3_1), (0), (by first | rfl | (simp; done) | (simp [*]; done)), H', ⟨Nat.le_refl _⟩, ⟨by (with_reducible repeat (first | apply Kd.R_alloc | apply Kd.R_drewN | apply Kd.R_drew)); exact HO_3.out⟩, ⟨by (with_reducible repeat (first | refine blk_drewN ?_ _ | refine blk_drew ?_ | refine blk_alloc ?_ _)); exact BK145.out⟩, ⟨by repeat (first | (with_reducible first | exact HB.out | apply below_alloc | apply pw_below_drewN | apply below_drew1 | refine below_set ?_ GE145.out) | exact HB.out)⟩⟩
        case round =>
          clear H'
          try clear p1
          try clear q1
          try clear hx1
          try clear c2
          try clear p2
          try clear c3
          try clear c3b0
          try clear c4
          try clear c4b0
          try clear c5
          try clear c5b0
          try clear c5b1
          try clear p6
          try clear c7
          try clear hcz10_0
          try clear hcz10_1
          try clear hcz10_2
          try clear hcz10_3
          try clear hcz10_4
          try clear hcz10_5
          try clear hcz6_0
          try clear hcz6_1
          try clear hcz6_2
          try clear hcz6_3
          try clear hcz6_4
          try clear hcz6_5
          try clear hcz8_0
          try clear hcz8_1
          try clear hcz8_2
          try clear hcz8_3
          try clear hcz8_4
          try clear hcz8_5
          try clear hfz10_0
          try clear hfz10_1
          try clear hfz10_2
          try clear hfz10_3
          try clear hfz10_4
          try clear hfz10_5
          try clear hfz6_0
          try clear hfz6_1
          try clear hfz6_2
          try clear hfz6_3
          try clear hfz6_4
          try clear hfz6_5
          try clear hfz8_0
          try clear hfz8_1
          try clear hfz8_2
          try clear hfz8_3
          try clear hfz8_4
          try clear hfz8_5
          try clear hx146_0
          try clear hx146_1
          try clear hx146_2
          try clear hx147_0
          try clear hx147_1
          try clear hx147_2
          try clear p146
          try clear p147
          try clear p2
          try clear q146
          try clear q147
          obtain ⟨x3_2, x5_2, rfl, HA, HK2, HO_3, BK145, HB⟩ := hrel
          cases gk with
          | zero => exact absurd HA.out (by simp [chalklineref06_Free.l1])
          | succ k2 =>
            have H := HA.out
            clear HA
            simp only [chalklineref06_Free.l1] at H
            by_cases c11 : x5_2 < (l0_5.length : Int)
            · rw [if_pos c11] at H
              have c11b0 : decide (x5_2 < (l0_5.length : Int)) = true := decide_eq_true c11
              clear c11
              by_cases c12 : 0 ≤ x5_2
              · rw [if_pos c12] at H
                have c12b0 : decide (0 ≤ x5_2) = true := decide_eq_true c12
                clear c12
                replace H := Option.bind_eq_some_iff.mp H
                obtain ⟨t152, A130, H⟩ := H
                replace H : (if x3_2.length + t152.length < 8796093022208 then (chalklineref06_Free.l1 k2 (x3_2 ++ t152) (wrap64 (x5_2 + 1)) a0_0 a0_1 a0_2 l0_3 l0_4 l0_5) else (none)) = some r := H
                have A13 := Aside0.mk A130
                clear A130
                by_cases c14 : x3_2.length + t152.length < 8796093022208
                · rw [if_pos c14] at H
                  have LMc14 := Aside0.mk c14
                  clear c14
                  obtain ⟨y155, hy155⟩ : ∃ y_ : List ByteArray, y_ = (x3_2 ++ t152) := ⟨_, rfl⟩
                  replace H : (chalklineref06_Free.l1 k2 y155 (wrap64 (x5_2 + 1)) a0_0 a0_1 a0_2 l0_3 l0_4 l0_5) = some r := by first | (rw [hy155]; with_reducible exact H) | (have H2_ := (Option.bind_some _ _).symm.trans H; rw [hy155]; with_reducible exact H2_) | (have H2_ := (Option.bind_some _ _).symm.trans H; with_reducible exact H2_) | with_reducible exact H | (rw [hy155]; exact H) | exact H
                  have Ny155 := Aside0.mk hy155
                  clear hy155
                  have H' := Aside0.mk H
                  clear H
                  have hcz15_0 : wr.cell? ⟨gb145, 0, none⟩ = some (.int .i64 a0_0) := (blk_cell BK145.out 0).trans rfl
                  have hcz15_1 : wr.cell? ⟨gb145, 1, none⟩ = some (.string a0_1) := (blk_cell BK145.out 1).trans rfl
                  have hcz15_2 : wr.cell? ⟨gb145, 2, none⟩ = some (.int .i64 a0_2) := (blk_cell BK145.out 2).trans rfl
                  have hcz15_3 : wr.cell? ⟨gb145, 3, none⟩ = some (.slice A0_3 l0_3.length c0_3) := (blk_cell BK145.out 3).trans rfl
                  have hcz15_4 : wr.cell? ⟨gb145, 4, none⟩ = some (.slice A0_4 l0_4.length c0_4) := (blk_cell BK145.out 4).trans rfl
                  have hcz15_5 : wr.cell? ⟨gb145, 5, none⟩ = some (.slice A0_5 l0_5.length c0_5) := (blk_cell BK145.out 5).trans rfl
                  have hfz15_0 := blk_frozen BK145.out 0
                  have hfz15_1 := blk_frozen BK145.out 1
                  have hfz15_2 := blk_frozen BK145.out 2
                  have hfz15_3 := blk_frozen BK145.out 3
                  have hfz15_4 := blk_frozen BK145.out 4
                  have hfz15_5 := blk_frozen BK145.out 5
                  have p151 : 0 ≤ (x5_2 : Int) := of_decide_eq_true (by first | (with_reducible assumption) | assumption)
                  have q151 : x5_2 < (l0_5.length : Int) := of_decide_eq_true (by first | (with_reducible assumption) | assumption)
                  obtain ⟨ad151, A151_3, c151_3, A151_4, c151_4, A151_5, c151_5, e151, hx151_0, hx151_1, hx151_2, hx151_3, hx151_4, hx151_5, hl151_3, hi151_3, hl151_4, hi151_4, hl151_5, hi151_5⟩ := at_T26 HR0_5.out x5_2 p151 q151
                  cases e151
                  replace hx151_0 := (HB.out.cell (World.block_lt_of_cell? w _ hx151_0)).trans hx151_0
                  replace hx151_1 := (HB.out.cell (World.block_lt_of_cell? w _ hx151_1)).trans hx151_1
                  replace hx151_2 := (HB.out.cell (World.block_lt_of_cell? w _ hx151_2)).trans hx151_2
                  replace hx151_3 := (HB.out.cell (World.block_lt_of_cell? w _ hx151_3)).trans hx151_3
                  replace hx151_4 := (HB.out.cell (World.block_lt_of_cell? w _ hx151_4)).trans hx151_4
                  replace hx151_5 := (HB.out.cell (World.block_lt_of_cell? w _ hx151_5)).trans hx151_5
                  have HR151_3 := Aside0.mk hi151_3
                  have HC151_3 := Aside0.mk hl151_3
                  clear hi151_3 hl151_3
                  have HR151_4 := Aside0.mk hi151_4
                  have HC151_4 := Aside0.mk hl151_4
                  clear hi151_4 hl151_4
                  have HR151_5 := Aside0.mk hi151_5
                  have HC151_5 := Aside0.mk hl151_5
                  clear hi151_5 hl151_5
                  replace p151 := eq_true p151
                  replace q151 := eq_true q151
                  go_wp2_with (first | ((with_reducible refine gate_callee (f := 29) rfl ?_); refine goesL_ (some 46) rfl rfl Tryd.func29 (by kernel_rfl) rfl #[.agg #[.int .i64 ((rd_T26 l0_5 x5_2).f0), .string ((rd_T26 l0_5 x5_2).f1), .int .i64 ((rd_T26 l0_5 x5_2).f2), .slice A151_3 ((rd_T26 l0_5 x5_2).f3).length c151_3, .slice A151_4 ((rd_T26 l0_5 x5_2).f4).length c151_4, .slice A151_5 ((rd_T26 l0_5 x5_2).f5).length c151_5]] rfl (by (try simp only [List.map_toArray, List.map_cons, List.map_nil]); first | done | rfl | (simp only [List.length_drop, List.length_take]; rfl)) ?_; (with_reducible refine (ih k2 (by have := HK1.out; have := HK2.out; omega) ((rd_T26 l0_5 x5_2).f0) ((rd_T26 l0_5 x5_2).f1) ((rd_T26 l0_5 x5_2).f2) _ _ ((rd_T26 l0_5 x5_2).f3) _ _ ((rd_T26 l0_5 x5_2).f4) _ _ ((rd_T26 l0_5 x5_2).f5) t152 _ ?side1 ?side2 ?side3 ?side4 ?side5 ?side6 A13.out).mono ?_); (case side1 => repeat (first | exact (Kd.C_below HR151_3.out HB.out) | (with_reducible refine Kd.C_alloc ?_ _) | (with_reducible refine Kd.C_drewN ?_ _) | (with_reducible refine Kd.C_drew ?_))); (case side2 => exact HC151_3.out); (case side3 => repeat (first | exact (Kd.C_below HR151_4.out HB.out) | (with_reducible refine Kd.C_alloc ?_ _) | (with_reducible refine Kd.C_drewN ?_ _) | (with_reducible refine Kd.C_drew ?_))); (case side4 => exact HC151_4.out); (case side5 => repeat (first | exact (Kd.C_below HR151_5.out HB.out) | (with_reducible refine Kd.C_alloc ?_ _) | (with_reducible refine Kd.C_drewN ?_ _) | (with_reducible refine Kd.C_drew ?_))); (case side6 => exact HC151_5.out); rintro e w16 ⟨v153, rfl, ho0, hb⟩; refine ⟨_, rfl, ?_⟩; have n0_ := Aside0.mk (Kd.R_elder' (by (with_reducible repeat (first | apply Kd.R_alloc | apply Kd.R_drewN | apply Kd.R_drew)); exact HO_3.out) (Kd.R_base ho0) hb); have n1_ := Aside0.mk (Kd.R_lower (Kd.R_new' ho0 (Kd.R_lt (by (with_reducible repeat (first | apply Kd.R_alloc | apply Kd.R_drewN | apply Kd.R_drew)); exact HO_3.out))) (below_size (by repeat (first | (with_reducible first | exact HB.out | apply below_alloc | apply pw_below_drewN | apply below_drew1 | refine below_set ?_ GE145.out) | exact HB.out)))); have n2_ := Aside0.mk (blk_below (g := gb145) (o := .cells #[.int .i64 a0_0, .string a0_1, .int .i64 a0_2, .slice A0_3 l0_3.length c0_3, .slice A0_4 l0_4.length c0_4, .slice (some ad151) l0_5.length c0_5] 26 (0, 0)) (by (with_reducible repeat (first | refine blk_drewN ?_ _ | refine blk_drew ?_ | refine blk_alloc ?_ _)); exact BK145.out) hb); have n3_ := Aside0.mk (below_step (by repeat (first | (with_reducible first | exact HB.out | apply below_alloc | apply pw_below_drewN | apply below_drew1 | refine below_set ?_ GE145.out) | exact HB.out)) hb); clear HO_3; clear BK145; clear HB; have HO_3 := n0_; have HO154 := n1_; have BK145 := n2_; have HB := n3_; clear n0_ n1_ n2_ n3_; (try clear hb); (try clear hb2); (try clear hk); (try clear hi); (try clear ho0); obtain ⟨Ao18, co18, eo18⟩ := Kd.R_slice HO154.out; subst eo18) | ((with_reducible refine gate_builtin (b := .append) (xs := #[.tmp 40, .tmp 46]) rfl ?_); at_builtin; refine Kd.R_append_rows Kd.string (w0 := w) w.heap.size rfl (.tmp 40) (.tmp 46) 32 9 (.string ⟨#[]⟩) 16 rfl Tryd.underlying32 info9 rfl (by decide) (by omega) u3 x3_2 t152 _ _ _ (fun k_ => some k_ ≠ (.slice Ao18 t152.length co18 : Value).ownBlock) (fun _ => False) rfl rfl ?aO ?aR (fun _ _ h => h) (fun _ h => h.elim) ?aF ?aB ?aS ?aL ?_; (case aR => repeat (first | exact (Kd.R_reads' HO154.out).2.2 | (with_reducible refine Kd.C_alloc ?_ _) | (with_reducible refine Kd.C_drewN ?_ _) | (with_reducible refine Kd.C_drew ?_))); (case aB => exact (by repeat (first | (with_reducible first | exact HB.out | apply below_alloc | apply pw_below_drewN | apply below_drew1 | refine below_set ?_ GE145.out) | exact HB.out))); (case aF => exact (fun k_ hk => Kd.fresh' (Kd.R_lt (by (with_reducible repeat (first | apply Kd.R_alloc | apply Kd.R_drewN | apply Kd.R_drew)); exact HO154.out)) k_ hk)); (case aO => exact (by (with_reducible repeat (first | apply Kd.R_alloc | apply Kd.R_drewN | apply Kd.R_drew)); exact Kd.R_mono HO_3.out (fun _ hk => hk.2))); (case aS => exact (below_size (by repeat (first | (with_reducible first | exact HB.out | apply below_alloc | apply pw_below_drewN | apply below_drew1 | refine below_set ?_ GE145.out) | exact HB.out)))); (case aL => have := LMc14.out; omega); intro v156 w17 ho hb hg hat; rw [← Ny155.out] at ho; have n0_ := Aside0.mk (blk_grown (g := gb145) (o := .cells #[.int .i64 a0_0, .string a0_1, .int .i64 a0_2, .slice A0_3 l0_3.length c0_3, .slice A0_4 l0_4.length c0_4, .slice (some ad151) l0_5.length c0_5] 26 (0, 0)) (by (with_reducible repeat (first | refine blk_drewN ?_ _ | refine blk_drew ?_ | refine blk_alloc ?_ _)); exact BK145.out) hg (Kd.R_ne HO_3.out BK145.out (by decide))); have n1_ := Aside0.mk (Kd.R_after (ok := (fun _ => True)) (by (with_reducible repeat (first | apply Kd.R_alloc | apply Kd.R_drewN | apply Kd.R_drew)); exact HO154.out) hg hat); have n2_ := Aside0.mk (hb); have n3_ := Aside0.mk (ho); clear BK145; clear HO154; clear HB; clear HO_3; have BK145 := n0_; have HO154 := n1_; have HB := n2_; have HO157 := n3_; clear n0_ n1_ n2_ n3_; clear ho hb hg hat))
                  go_roundg k2
                  case measure => have := HK1.out; have := HK2.out; omega
                  case rel => exact ⟨(y155), (wrap64 (x5_2 + 1)), (by first | rfl | (simp; done) | (simp [*]; done)), H', ⟨by have := HK1.out; have := HK2.out; omega⟩, ⟨by (with_reducible repeat (first | apply Kd.R_alloc | apply Kd.R_drewN | apply Kd.R_drew)); exact Kd.R_mono HO157.out (fun _ hk => trivial)⟩, ⟨by (with_reducible repeat (first | refine blk_drewN ?_ _ | refine blk_drew ?_ | refine blk_alloc ?_ _)); exact BK145.out⟩, ⟨by repeat (first | (with_reducible first | exact HB.out | apply below_alloc | apply pw_below_drewN | apply below_drew1 | refine below_set ?_ GE145.out) | exact HB.out)⟩⟩
                · rw [if_neg c14] at H
                  exact absurd H (by simp)
              · rw [if_neg c12] at H
                exact absurd H (by simp)
            · rw [if_neg c11] at H
              have c11b0 : decide (x5_2 < (l0_5.length : Int)) = false := decide_eq_false c11
              clear c11
              have H' := Aside0.mk H
              clear H
              have hcz19_0 : wr.cell? ⟨gb145, 0, none⟩ = some (.int .i64 a0_0) := (blk_cell BK145.out 0).trans rfl
              have hcz19_1 : wr.cell? ⟨gb145, 1, none⟩ = some (.string a0_1) := (blk_cell BK145.out 1).trans rfl
              have hcz19_2 : wr.cell? ⟨gb145, 2, none⟩ = some (.int .i64 a0_2) := (blk_cell BK145.out 2).trans rfl
              have hcz19_3 : wr.cell? ⟨gb145, 3, none⟩ = some (.slice A0_3 l0_3.length c0_3) := (blk_cell BK145.out 3).trans rfl
              have hcz19_4 : wr.cell? ⟨gb145, 4, none⟩ = some (.slice A0_4 l0_4.length c0_4) := (blk_cell BK145.out 4).trans rfl
              have hcz19_5 : wr.cell? ⟨gb145, 5, none⟩ = some (.slice A0_5 l0_5.length c0_5) := (blk_cell BK145.out 5).trans rfl
              have hfz19_0 := blk_frozen BK145.out 0
              have hfz19_1 := blk_frozen BK145.out 1
              have hfz19_2 := blk_frozen BK145.out 2
              have hfz19_3 := blk_frozen BK145.out 3
              have hfz19_4 := blk_frozen BK145.out 4
              have hfz19_5 := blk_frozen BK145.out 5
              go_wp2
              go_loopg [6, 7] k2 (fun kq v6 v7 w' => ∃ (x6_3 : List ByteArray) (x7_3 : Int), v7 = .int .i64 x7_3 ∧ Aside0 (chalklineref06_Free.l2 kq x3_2 x6_3 x7_3 a0_0 a0_1 a0_2 l0_3 l0_4 l0_5 = some r) ∧ Aside0 (kq ≤ k2) ∧ Aside0 (Kd.R Kd.string 9 w' w.heap.size (fun k_ => some k_ ≠ (v6 : Value).ownBlock) u3 x3_2) ∧ Aside0 (Kd.R Kd.string 9 w' w.heap.size (fun k_ => some k_ ≠ (u3 : Value).ownBlock) v6 x6_3) ∧ Aside0 (w'.heap[gb145]? = some (.cells #[.int .i64 a0_0, .string a0_1, .int .i64 a0_2, (.slice A0_3 l0_3.length c0_3), (.slice A0_4 l0_4.length c0_4), (.slice A0_5 l0_5.length c0_5)] 26 (0, 0))) ∧ Aside0 (Below w.heap.size w w'))
              case atStart => exact ⟨(([] : List ByteArray)), (0), (by first | rfl | (simp; done) | (simp [*]; done)), H', ⟨Nat.le_refl _⟩, ⟨by (with_reducible repeat (first | apply Kd.R_alloc | apply Kd.R_drewN | apply Kd.R_drew)); exact Kd.R_mono HO_3.out (fun _ hk => (by simp [Value.ownBlock]))⟩, ⟨by first | exact Kd.R_nil _ _ _ _ _ | exact Kd.N_nil _ _ _ _ _ | exact Kd.V_nil _ _ _ _ _ | exact Kd.Q_nil _ _ _ _ _ | exact Kd.S_nil _ _ _ _ _⟩, ⟨by (with_reducible repeat (first | refine blk_drewN ?_ _ | refine blk_drew ?_ | refine blk_alloc ?_ _)); exact BK145.out⟩, ⟨by repeat (first | (with_reducible first | exact HB.out | apply below_alloc | apply pw_below_drewN | apply below_drew1 | refine below_set ?_ GE145.out) | exact HB.out)⟩⟩
              case round =>
                clear H'
                try clear c1
                try clear p1
                try clear q1
                try clear hx1
                try clear c2
                try clear p2
                try clear c3
                try clear c3b0
                try clear c4
                try clear c4b0
                try clear c5
                try clear c5b0
                try clear c5b1
                try clear p6
                try clear c7
                try clear c11
                try clear c11b0
                try clear c12
                try clear c12b0
                try clear c14
                try clear p14
                try clear q14
                try clear hx14
                try clear c15
                try clear p15
                try clear q15
                try clear hx15
                try clear hcz10_0
                try clear hcz10_1
                try clear hcz10_2
                try clear hcz10_3
                try clear hcz10_4
                try clear hcz10_5
                try clear hcz15_0
                try clear hcz15_1
                try clear hcz15_2
                try clear hcz15_3
                try clear hcz15_4
                try clear hcz15_5
                try clear hcz19_0
                try clear hcz19_1
                try clear hcz19_2
                try clear hcz19_3
                try clear hcz19_4
                try clear hcz19_5
                try clear hcz6_0
                try clear hcz6_1
                try clear hcz6_2
                try clear hcz6_3
                try clear hcz6_4
                try clear hcz6_5
                try clear hcz8_0
                try clear hcz8_1
                try clear hcz8_2
                try clear hcz8_3
                try clear hcz8_4
                try clear hcz8_5
                try clear hfz10_0
                try clear hfz10_1
                try clear hfz10_2
                try clear hfz10_3
                try clear hfz10_4
                try clear hfz10_5
                try clear hfz15_0
                try clear hfz15_1
                try clear hfz15_2
                try clear hfz15_3
                try clear hfz15_4
                try clear hfz15_5
                try clear hfz19_0
                try clear hfz19_1
                try clear hfz19_2
                try clear hfz19_3
                try clear hfz19_4
                try clear hfz19_5
                try clear hfz6_0
                try clear hfz6_1
                try clear hfz6_2
                try clear hfz6_3
                try clear hfz6_4
                try clear hfz6_5
                try clear hfz8_0
                try clear hfz8_1
                try clear hfz8_2
                try clear hfz8_3
                try clear hfz8_4
                try clear hfz8_5
                try clear hx146_0
                try clear hx146_1
                try clear hx146_2
                try clear hx147_0
                try clear hx147_1
                try clear hx147_2
                try clear hx151_0
                try clear hx151_1
                try clear hx151_2
                try clear hx151_3
                try clear hx151_4
                try clear hx151_5
                try clear p1
                try clear p146
                try clear p147
                try clear p151
                try clear p2
                try clear p6
                try clear q1
                try clear q146
                try clear q147
                try clear q151
                obtain ⟨x6_3, x7_3, rfl, HA, HK3, HO_3, HO_6, BK145, HB⟩ := hrel
                cases gk with
                | zero => exact absurd HA.out (by simp [chalklineref06_Free.l2])
                | succ k3 =>
                  have H := HA.out
                  clear HA
                  simp only [chalklineref06_Free.l2] at H
                  by_cases c20 : x7_3 < (l0_4.length : Int)
                  · rw [if_pos c20] at H
                    have c20b0 : decide (x7_3 < (l0_4.length : Int)) = true := decide_eq_true c20
                    clear c20
                    by_cases c21 : 0 ≤ x7_3
                    · rw [if_pos c21] at H
                      have c21b0 : decide (0 ≤ x7_3) = true := decide_eq_true c21
                      clear c21
                      by_cases c22 : x6_3.length < 8796093022208
                      · rw [if_pos c22] at H
                        have LMc22 := Aside0.mk c22
                        clear c22
                        obtain ⟨y159, hy159⟩ : ∃ y_ : List ByteArray, y_ = (x6_3 ++ [(rd_T42 l0_4 x7_3).f0]) := ⟨_, rfl⟩
                        replace H : (chalklineref06_Free.l2 k3 x3_2 y159 (wrap64 (x7_3 + 1)) a0_0 a0_1 a0_2 l0_3 l0_4 l0_5) = some r := by first | (rw [hy159]; with_reducible exact H) | (have H2_ := (Option.bind_some _ _).symm.trans H; rw [hy159]; with_reducible exact H2_) | (have H2_ := (Option.bind_some _ _).symm.trans H; with_reducible exact H2_) | with_reducible exact H | (rw [hy159]; exact H) | exact H
                        have Ny159 := Aside0.mk hy159
                        clear hy159
                        have H' := Aside0.mk H
                        clear H
                        have hcz23_0 : wr.cell? ⟨gb145, 0, none⟩ = some (.int .i64 a0_0) := (blk_cell BK145.out 0).trans rfl
                        have hcz23_1 : wr.cell? ⟨gb145, 1, none⟩ = some (.string a0_1) := (blk_cell BK145.out 1).trans rfl
                        have hcz23_2 : wr.cell? ⟨gb145, 2, none⟩ = some (.int .i64 a0_2) := (blk_cell BK145.out 2).trans rfl
                        have hcz23_3 : wr.cell? ⟨gb145, 3, none⟩ = some (.slice A0_3 l0_3.length c0_3) := (blk_cell BK145.out 3).trans rfl
                        have hcz23_4 : wr.cell? ⟨gb145, 4, none⟩ = some (.slice A0_4 l0_4.length c0_4) := (blk_cell BK145.out 4).trans rfl
                        have hcz23_5 : wr.cell? ⟨gb145, 5, none⟩ = some (.slice A0_5 l0_5.length c0_5) := (blk_cell BK145.out 5).trans rfl
                        have hfz23_0 := blk_frozen BK145.out 0
                        have hfz23_1 := blk_frozen BK145.out 1
                        have hfz23_2 := blk_frozen BK145.out 2
                        have hfz23_3 := blk_frozen BK145.out 3
                        have hfz23_4 := blk_frozen BK145.out 4
                        have hfz23_5 := blk_frozen BK145.out 5
                        have p158 : 0 ≤ (x7_3 : Int) := of_decide_eq_true (by first | (with_reducible assumption) | assumption)
                        have q158 : x7_3 < (l0_4.length : Int) := of_decide_eq_true (by first | (with_reducible assumption) | assumption)
                        obtain ⟨ad158, e158, hx158_0, hx158_1⟩ := at_T42 HR0_4.out x7_3 p158 q158
                        cases e158
                        replace hx158_0 := (HB.out.cell (World.block_lt_of_cell? w _ hx158_0)).trans hx158_0
                        replace hx158_1 := (HB.out.cell (World.block_lt_of_cell? w _ hx158_1)).trans hx158_1
                        replace p158 := eq_true p158
                        replace q158 := eq_true q158
                        go_wp2_with (first | ((with_reducible refine gate_builtin (b := .append) (xs := #[.tmp 55, .tmp 62]) rfl ?_); at_builtin; refine Kd.R_append Kd.string (w0 := w) w.heap.size rfl (.tmp 55) (.tmp 62) 32 9 (.string ⟨#[]⟩) 16 rfl Tryd.underlying32 info9 rfl (by decide) (by omega) u6 x6_3 ((rd_T42 l0_4 x7_3).f0) [.string ((rd_T42 l0_4 x7_3).f0)] (fun k_ => some k_ ≠ (u3 : Value).ownBlock) (fun _ => False) rfl rfl ?aP (fun _ hk => hk.elim) ?aF ?aO ?aB ?aS ?aL ?_; (case aP => exact rfl); (case aB => exact (by repeat (first | (with_reducible first | exact HB.out | apply below_alloc | apply pw_below_drewN | apply below_drew1 | refine below_set ?_ GE145.out) | exact HB.out))); (case aF => exact (fun k_ hk => Kd.fresh' (Kd.R_lt (by (with_reducible repeat (first | apply Kd.R_alloc | apply Kd.R_drewN | apply Kd.R_drew)); exact HO_3.out)) k_ hk)); (case aO => exact (by (with_reducible repeat (first | apply Kd.R_alloc | apply Kd.R_drewN | apply Kd.R_drew)); exact HO_6.out)); (case aS => exact (below_size (by repeat (first | (with_reducible first | exact HB.out | apply below_alloc | apply pw_below_drewN | apply below_drew1 | refine below_set ?_ GE145.out) | exact HB.out)))); (case aL => have := LMc22.out; omega); intro v160 w24 ho hb hg hat; rw [← Ny159.out] at ho; have n0_ := Aside0.mk (Kd.R_after (ok := (fun _ => True)) (by (with_reducible repeat (first | apply Kd.R_alloc | apply Kd.R_drewN | apply Kd.R_drew)); exact Kd.R_mono HO_3.out (fun _ hk => ⟨trivial, hk⟩)) hg hat); have n1_ := Aside0.mk (blk_grown (g := gb145) (o := .cells #[.int .i64 a0_0, .string a0_1, .int .i64 a0_2, .slice A0_3 l0_3.length c0_3, .slice (some ad158) l0_4.length c0_4, .slice A0_5 l0_5.length c0_5] 26 (0, 0)) (by (with_reducible repeat (first | refine blk_drewN ?_ _ | refine blk_drew ?_ | refine blk_alloc ?_ _)); exact BK145.out) hg (Kd.R_ne HO_6.out BK145.out (by decide))); have n2_ := Aside0.mk (hb); have n3_ := Aside0.mk (ho); clear HO_3; clear BK145; clear HB; clear HO_6; have HO_3 := n0_; have BK145 := n1_; have HB := n2_; have HO161 := n3_; clear n0_ n1_ n2_ n3_; clear ho hb hg hat))
                        go_roundg k3
                        case measure => have := HK1.out; have := HK2.out; have := HK3.out; omega
                        case rel => exact ⟨(y159), (wrap64 (x7_3 + 1)), (by first | rfl | (simp; done) | (simp [*]; done)), H', ⟨by have := HK1.out; have := HK2.out; have := HK3.out; omega⟩, ⟨by (with_reducible repeat (first | apply Kd.R_alloc | apply Kd.R_drewN | apply Kd.R_drew)); exact Kd.R_mono HO_3.out (fun _ hk => hk.2)⟩, ⟨by (with_reducible repeat (first | apply Kd.R_alloc | apply Kd.R_drewN | apply Kd.R_drew)); exact HO161.out⟩, ⟨by (with_reducible repeat (first | refine blk_drewN ?_ _ | refine blk_drew ?_ | refine blk_alloc ?_ _)); exact BK145.out⟩, ⟨by repeat (first | (with_reducible first | exact HB.out | apply below_alloc | apply pw_below_drewN | apply below_drew1 | refine below_set ?_ GE145.out) | exact HB.out)⟩⟩
                      · rw [if_neg c22] at H
                        exact absurd H (by simp)
                    · rw [if_neg c21] at H
                      exact absurd H (by simp)
                  · rw [if_neg c20] at H
                    have c20b0 : decide (x7_3 < (l0_4.length : Int)) = false := decide_eq_false c20
                    clear c20
                    have H' := Aside0.mk H
                    clear H
                    have hcz25_0 : wr.cell? ⟨gb145, 0, none⟩ = some (.int .i64 a0_0) := (blk_cell BK145.out 0).trans rfl
                    have hcz25_1 : wr.cell? ⟨gb145, 1, none⟩ = some (.string a0_1) := (blk_cell BK145.out 1).trans rfl
                    have hcz25_2 : wr.cell? ⟨gb145, 2, none⟩ = some (.int .i64 a0_2) := (blk_cell BK145.out 2).trans rfl
                    have hcz25_3 : wr.cell? ⟨gb145, 3, none⟩ = some (.slice A0_3 l0_3.length c0_3) := (blk_cell BK145.out 3).trans rfl
                    have hcz25_4 : wr.cell? ⟨gb145, 4, none⟩ = some (.slice A0_4 l0_4.length c0_4) := (blk_cell BK145.out 4).trans rfl
                    have hcz25_5 : wr.cell? ⟨gb145, 5, none⟩ = some (.slice A0_5 l0_5.length c0_5) := (blk_cell BK145.out 5).trans rfl
                    have hfz25_0 := blk_frozen BK145.out 0
                    have hfz25_1 := blk_frozen BK145.out 1
                    have hfz25_2 := blk_frozen BK145.out 2
                    have hfz25_3 := blk_frozen BK145.out 3
                    have hfz25_4 := blk_frozen BK145.out 4
                    have hfz25_5 := blk_frozen BK145.out 5
                    go_wp2
                    go_loopg [8, 9] k3 (fun kq v8 v9 w' => ∃ (x8_4 : List ByteArray) (x9_4 : Int), v9 = .int .i64 x9_4 ∧ Aside0 (chalklineref06_Free.l3 kq x3_2 x6_3 x8_4 x9_4 = some r) ∧ Aside0 (kq ≤ k3) ∧ Aside0 (Kd.R Kd.string 9 w' w.heap.size (fun k_ => some k_ ≠ (u6 : Value).ownBlock ∧ some k_ ≠ (v8 : Value).ownBlock) u3 x3_2) ∧ Aside0 (Kd.R Kd.string 9 w' w.heap.size (fun k_ => some k_ ≠ (u3 : Value).ownBlock ∧ some k_ ≠ (v8 : Value).ownBlock) u6 x6_3) ∧ Aside0 (Kd.R Kd.string 9 w' w.heap.size (fun k_ => some k_ ≠ (u3 : Value).ownBlock ∧ some k_ ≠ (u6 : Value).ownBlock) v8 x8_4) ∧ Aside0 (w'.heap[gb145]? = some (.cells #[.int .i64 a0_0, .string a0_1, .int .i64 a0_2, (.slice A0_3 l0_3.length c0_3), (.slice A0_4 l0_4.length c0_4), (.slice A0_5 l0_5.length c0_5)] 26 (0, 0))) ∧ Aside0 (Below w.heap.size w w'))
                    case atStart => exact ⟨(([] : List ByteArray)), (0), (by first | rfl | (simp; done) | (simp [*]; done)), H', ⟨Nat.le_refl _⟩, ⟨by (with_reducible repeat (first | apply Kd.R_alloc | apply Kd.R_drewN | apply Kd.R_drew)); exact Kd.R_mono HO_3.out (fun _ hk => ⟨hk, (by simp [Value.ownBlock])⟩)⟩, ⟨by (with_reducible repeat (first | apply Kd.R_alloc | apply Kd.R_drewN | apply Kd.R_drew)); exact Kd.R_mono HO_6.out (fun _ hk => ⟨hk, (by simp [Value.ownBlock])⟩)⟩, ⟨by first | exact Kd.R_nil _ _ _ _ _ | exact Kd.N_nil _ _ _ _ _ | exact Kd.V_nil _ _ _ _ _ | exact Kd.Q_nil _ _ _ _ _ | exact Kd.S_nil _ _ _ _ _⟩, ⟨by (with_reducible repeat (first | refine blk_drewN ?_ _ | refine blk_drew ?_ | refine blk_alloc ?_ _)); exact BK145.out⟩, ⟨by repeat (first | (with_reducible first | exact HB.out | apply below_alloc | apply pw_below_drewN | apply below_drew1 | refine below_set ?_ GE145.out) | exact HB.out)⟩⟩
                    case round =>
                      clear H'
                      try clear c1
                      try clear p1
                      try clear q1
                      try clear hx1
                      try clear c2
                      try clear p2
                      try clear c3
                      try clear c3b0
                      try clear c4
                      try clear c4b0
                      try clear c5
                      try clear c5b0
                      try clear c5b1
                      try clear p6
                      try clear c7
                      try clear c11
                      try clear c11b0
                      try clear c12
                      try clear c12b0
                      try clear c14
                      try clear p14
                      try clear q14
                      try clear hx14
                      try clear c15
                      try clear p15
                      try clear q15
                      try clear hx15
                      try clear c20
                      try clear c20b0
                      try clear c21
                      try clear c21b0
                      try clear c22
                      try clear hcz10_0
                      try clear hcz10_1
                      try clear hcz10_2
                      try clear hcz10_3
                      try clear hcz10_4
                      try clear hcz10_5
                      try clear hcz15_0
                      try clear hcz15_1
                      try clear hcz15_2
                      try clear hcz15_3
                      try clear hcz15_4
                      try clear hcz15_5
                      try clear hcz19_0
                      try clear hcz19_1
                      try clear hcz19_2
                      try clear hcz19_3
                      try clear hcz19_4
                      try clear hcz19_5
                      try clear hcz23_0
                      try clear hcz23_1
                      try clear hcz23_2
                      try clear hcz23_3
                      try clear hcz23_4
                      try clear hcz23_5
                      try clear hcz25_0
                      try clear hcz25_1
                      try clear hcz25_2
                      try clear hcz25_3
                      try clear hcz25_4
                      try clear hcz25_5
                      try clear hcz6_0
                      try clear hcz6_1
                      try clear hcz6_2
                      try clear hcz6_3
                      try clear hcz6_4
                      try clear hcz6_5
                      try clear hcz8_0
                      try clear hcz8_1
                      try clear hcz8_2
                      try clear hcz8_3
                      try clear hcz8_4
                      try clear hcz8_5
                      try clear hfz10_0
                      try clear hfz10_1
                      try clear hfz10_2
                      try clear hfz10_3
                      try clear hfz10_4
                      try clear hfz10_5
                      try clear hfz15_0
                      try clear hfz15_1
                      try clear hfz15_2
                      try clear hfz15_3
                      try clear hfz15_4
                      try clear hfz15_5
                      try clear hfz19_0
                      try clear hfz19_1
                      try clear hfz19_2
                      try clear hfz19_3
                      try clear hfz19_4
                      try clear hfz19_5
                      try clear hfz23_0
                      try clear hfz23_1
                      try clear hfz23_2
                      try clear hfz23_3
                      try clear hfz23_4
                      try clear hfz23_5
                      try clear hfz25_0
                      try clear hfz25_1
                      try clear hfz25_2
                      try clear hfz25_3
                      try clear hfz25_4
                      try clear hfz25_5
                      try clear hfz6_0
                      try clear hfz6_1
                      try clear hfz6_2
                      try clear hfz6_3
                      try clear hfz6_4
                      try clear hfz6_5
                      try clear hfz8_0
                      try clear hfz8_1
                      try clear hfz8_2
                      try clear hfz8_3
                      try clear hfz8_4
                      try clear hfz8_5
                      try clear hx146_0
                      try clear hx146_1
                      try clear hx146_2
                      try clear hx147_0
                      try clear hx147_1
                      try clear hx147_2
                      try clear hx151_0
                      try clear hx151_1
                      try clear hx151_2
                      try clear hx151_3
                      try clear hx151_4
                      try clear hx151_5
                      try clear hx158_0
                      try clear hx158_1
                      try clear p1
                      try clear p14
                      try clear p146
                      try clear p147
                      try clear p15
                      try clear p151
                      try clear p158
                      try clear p2
                      try clear p6
                      try clear q1
                      try clear q14
                      try clear q146
                      try clear q147
                      try clear q15
                      try clear q151
                      try clear q158
                      obtain ⟨x8_4, x9_4, rfl, HA, HK4, HO_3, HO_6, HO_8, BK145, HB⟩ := hrel
                      cases gk with
                      | zero => exact absurd HA.out (by simp [chalklineref06_Free.l3])
                      | succ k4 =>
                        have H := HA.out
                        clear HA
                        simp only [chalklineref06_Free.l3] at H
                        by_cases c26 : x9_4 < (x3_2.length : Int)
                        · rw [if_pos c26] at H
                          have c26b0 : decide (x9_4 < (x3_2.length : Int)) = true := decide_eq_true c26
                          clear c26
                          by_cases c27 : 0 ≤ x9_4
                          · rw [if_pos c27] at H
                            have c27b0 : decide (0 ≤ x9_4) = true := decide_eq_true c27
                            clear c27
                            replace H := Option.bind_eq_some_iff.mp H
                            obtain ⟨t163, A280, H⟩ := H
                            replace H : (if t163 = true then (chalklineref06_Free.l3 k4 x3_2 x6_3 x8_4 (wrap64 (x9_4 + 1))) else ((chalklineref06_Among.f k4 x8_4 (rdOf ByteArray.empty x3_2 x9_4)).bind fun t165 => (if t165 = true then (chalklineref06_Free.l3 k4 x3_2 x6_3 x8_4 (wrap64 (x9_4 + 1))) else (if x8_4.length < 8796093022208 then (chalklineref06_Free.l3 k4 x3_2 x6_3 (x8_4 ++ [rdOf ByteArray.empty x3_2 x9_4]) (wrap64 (x9_4 + 1))) else (none))))) = some r := H
                            have A28 := Aside0.mk A280
                            clear A280
                            by_cases c29 : t163 = true
                            · subst c29
                              have H1 : (chalklineref06_Free.l3 k4 x3_2 x6_3 x8_4 (wrap64 (x9_4 + 1))) = some r := by rw [if_pos rfl] at H; exact H
                              clear H
                              have H := H1
                              clear H1
                              have H' := Aside0.mk H
                              clear H
                              obtain ⟨Ao30, co30, eo30⟩ := Kd.R_slice HO_3.out
                              subst eo30
                              have p162 : 0 ≤ (x9_4 : Int) := of_decide_eq_true (by first | (with_reducible assumption) | assumption)
                              have q162 : x9_4 < (x3_2.length : Int) := of_decide_eq_true (by first | (with_reducible assumption) | assumption)
                              obtain ⟨ad162, e162, hx162_0⟩ := Kd.at_string (Kd.R_reads' HO_3.out).2.2 x9_4 p162 q162
                              cases e162
                              replace p162 := eq_true p162
                              replace q162 := eq_true q162
                              obtain ⟨Ao31, co31, eo31⟩ := Kd.R_slice HO_6.out
                              subst eo31
                              go_wp2_with (first | ((with_reducible refine gate_callee (f := 34) rfl ?_); refine goesL_ (some 75) rfl rfl Tryd.func34 (by kernel_rfl) rfl #[.slice Ao31 x6_3.length co31, .string (rdOf ByteArray.empty x3_2 x9_4)] rfl (by (try simp only [List.map_toArray, List.map_cons, List.map_nil]); first | done | rfl | (simp only [List.length_drop, List.length_take]; rfl)) ?_; (with_reducible refine (chalklineref06_Among.calls k4 _ _ x6_3 (rdOf ByteArray.empty x3_2 x9_4) true _ ?side1 ?side2 A28.out).mono ?_); (case side1 => repeat (first | exact (Kd.R_reads' HO_6.out).2.2 | (with_reducible refine Kd.C_alloc ?_ _) | (with_reducible refine Kd.C_drewN ?_ _) | (with_reducible refine Kd.C_drew ?_))); (case side2 => exact (Kd.R_reads' HO_6.out).2.1); rintro e w' ⟨rfl, ⟨nd, rfl⟩⟩; refine ⟨_, rfl, ?_⟩))
                              go_roundg k4
                              case measure => have := HK1.out; have := HK2.out; have := HK3.out; have := HK4.out; omega
                              case rel => exact ⟨(x8_4), (wrap64 (x9_4 + 1)), (by first | rfl | (simp; done) | (simp [*]; done)), H', ⟨by have := HK1.out; have := HK2.out; have := HK3.out; have := HK4.out; omega⟩, ⟨by (with_reducible repeat (first | apply Kd.R_alloc | apply Kd.R_drewN | apply Kd.R_drew)); exact HO_3.out⟩, ⟨by (with_reducible repeat (first | apply Kd.R_alloc | apply Kd.R_drewN | apply Kd.R_drew)); exact HO_6.out⟩, ⟨by (with_reducible repeat (first | apply Kd.R_alloc | apply Kd.R_drewN | apply Kd.R_drew)); exact HO_8.out⟩, ⟨by (with_reducible repeat (first | refine blk_drewN ?_ _ | refine blk_drew ?_ | refine blk_alloc ?_ _)); exact BK145.out⟩, ⟨by repeat (first | (with_reducible first | exact HB.out | apply below_alloc | apply pw_below_drewN | apply below_drew1 | refine below_set ?_ GE145.out) | exact HB.out)⟩⟩
                            · replace c29 := Bool.eq_false_iff.mpr c29
                              subst c29
                              have H1 : ((chalklineref06_Among.f k4 x8_4 (rdOf ByteArray.empty x3_2 x9_4)).bind fun t165 => (if t165 = true then (chalklineref06_Free.l3 k4 x3_2 x6_3 x8_4 (wrap64 (x9_4 + 1))) else (if x8_4.length < 8796093022208 then (chalklineref06_Free.l3 k4 x3_2 x6_3 (x8_4 ++ [rdOf ByteArray.empty x3_2 x9_4]) (wrap64 (x9_4 + 1))) else (none)))) = some r := by rw [if_neg (show ¬ (false = true) by decide)] at H; exact H
                              clear H
                              have H := H1
                              clear H1
                              replace H := Option.bind_eq_some_iff.mp H
                              obtain ⟨t165, A320, H⟩ := H
                              replace H : (if t165 = true then (chalklineref06_Free.l3 k4 x3_2 x6_3 x8_4 (wrap64 (x9_4 + 1))) else (if x8_4.length < 8796093022208 then (chalklineref06_Free.l3 k4 x3_2 x6_3 (x8_4 ++ [rdOf ByteArray.empty x3_2 x9_4]) (wrap64 (x9_4 + 1))) else (none))) = some r := H
                              have A32 := Aside0.mk A320
                              clear A320
                              by_cases c33 : t165 = true
                              · subst c33
                                have H1 : (chalklineref06_Free.l3 k4 x3_2 x6_3 x8_4 (wrap64 (x9_4 + 1))) = some r := by rw [if_pos rfl] at H; exact H
                                clear H
                                have H := H1
                                clear H1
                                have H' := Aside0.mk H
                                clear H
                                obtain ⟨Ao34, co34, eo34⟩ := Kd.R_slice HO_3.out
                                subst eo34
                                have p162 : 0 ≤ (x9_4 : Int) := of_decide_eq_true (by first | (with_reducible assumption) | assumption)
                                have q162 : x9_4 < (x3_2.length : Int) := of_decide_eq_true (by first | (with_reducible assumption) | assumption)
                                obtain ⟨ad162, e162, hx162_0⟩ := Kd.at_string (Kd.R_reads' HO_3.out).2.2 x9_4 p162 q162
                                cases e162
                                replace p162 := eq_true p162
                                replace q162 := eq_true q162
                                obtain ⟨Ao35, co35, eo35⟩ := Kd.R_slice HO_6.out
                                subst eo35
                                go_wp2_with (first | ((with_reducible refine gate_callee (f := 34) rfl ?_); refine goesL_ (some 75) rfl rfl Tryd.func34 (by kernel_rfl) rfl #[.slice Ao35 x6_3.length co35, .string (rdOf ByteArray.empty x3_2 x9_4)] rfl (by (try simp only [List.map_toArray, List.map_cons, List.map_nil]); first | done | rfl | (simp only [List.length_drop, List.length_take]; rfl)) ?_; (with_reducible refine (chalklineref06_Among.calls k4 _ _ x6_3 (rdOf ByteArray.empty x3_2 x9_4) false _ ?side1 ?side2 A28.out).mono ?_); (case side1 => repeat (first | exact (Kd.R_reads' HO_6.out).2.2 | (with_reducible refine Kd.C_alloc ?_ _) | (with_reducible refine Kd.C_drewN ?_ _) | (with_reducible refine Kd.C_drew ?_))); (case side2 => exact (Kd.R_reads' HO_6.out).2.1); rintro e w' ⟨rfl, ⟨nd, rfl⟩⟩; refine ⟨_, rfl, ?_⟩; have p164 : 0 ≤ (x9_4 : Int) := of_decide_eq_true (by first | (with_reducible assumption) | assumption); have q164 : x9_4 < (x3_2.length : Int) := of_decide_eq_true (by first | (with_reducible assumption) | assumption); obtain ⟨ad164, e164, hx164_0⟩ := Kd.at_string (Kd.R_reads' HO_3.out).2.2 x9_4 p164 q164; obtain rfl : ad162 = ad164 := (by injection e164); replace p164 := eq_true p164; replace q164 := eq_true q164; obtain ⟨Ao36, co36, eo36⟩ := Kd.R_slice HO_8.out; subst eo36) | (go_at_call 34; (with_reducible refine (chalklineref06_Among.calls k4 _ _ x8_4 (rdOf ByteArray.empty x3_2 x9_4) true _ ?side1 ?side2 A32.out).mono ?_); (case side1 => repeat (first | exact (Kd.R_reads' HO_8.out).2.2 | (with_reducible refine Kd.C_alloc ?_ _) | (with_reducible refine Kd.C_drewN ?_ _) | (with_reducible refine Kd.C_drew ?_))); (case side2 => exact (Kd.R_reads' HO_8.out).2.1); rintro e w' ⟨rfl, ⟨nd, rfl⟩⟩))
                                go_roundg k4
                                case measure => have := HK1.out; have := HK2.out; have := HK3.out; have := HK4.out; omega
                                case rel => exact ⟨(x8_4), (wrap64 (x9_4 + 1)), (by first | rfl | (simp; done) | (simp [*]; done)), H', ⟨by have := HK1.out; have := HK2.out; have := HK3.out; have := HK4.out; omega⟩, ⟨by (with_reducible repeat (first | apply Kd.R_alloc | apply Kd.R_drewN | apply Kd.R_drew)); exact HO_3.out⟩, ⟨by (with_reducible repeat (first | apply Kd.R_alloc | apply Kd.R_drewN | apply Kd.R_drew)); exact HO_6.out⟩, ⟨by (with_reducible repeat (first | apply Kd.R_alloc | apply Kd.R_drewN | apply Kd.R_drew)); exact HO_8.out⟩, ⟨by (with_reducible repeat (first | refine blk_drewN ?_ _ | refine blk_drew ?_ | refine blk_alloc ?_ _)); exact BK145.out⟩, ⟨by repeat (first | (with_reducible first | exact HB.out | apply below_alloc | apply pw_below_drewN | apply below_drew1 | refine below_set ?_ GE145.out) | exact HB.out)⟩⟩
                              · replace c33 := Bool.eq_false_iff.mpr c33
                                subst c33
                                have H1 : (if x8_4.length < 8796093022208 then (chalklineref06_Free.l3 k4 x3_2 x6_3 (x8_4 ++ [rdOf ByteArray.empty x3_2 x9_4]) (wrap64 (x9_4 + 1))) else (none)) = some r := by rw [if_neg (show ¬ (false = true) by decide)] at H; exact H
                                clear H
                                have H := H1
                                clear H1
                                by_cases c37 : x8_4.length < 8796093022208
                                · rw [if_pos c37] at H
                                  have LMc37 := Aside0.mk c37
                                  clear c37
                                  obtain ⟨y167, hy167⟩ : ∃ y_ : List ByteArray, y_ = (x8_4 ++ [rdOf ByteArray.empty x3_2 x9_4]) := ⟨_, rfl⟩
                                  replace H : (chalklineref06_Free.l3 k4 x3_2 x6_3 y167 (wrap64 (x9_4 + 1))) = some r := by first | (rw [hy167]; with_reducible exact H) | (have H2_ := (Option.bind_some _ _).symm.trans H; rw [hy167]; with_reducible exact H2_) | (have H2_ := (Option.bind_some _ _).symm.trans H; with_reducible exact H2_) | with_reducible exact H | (rw [hy167]; exact H) | exact H
                                  have Ny167 := Aside0.mk hy167
                                  clear hy167
                                  have H' := Aside0.mk H
                                  clear H
                                  obtain ⟨Ao38, co38, eo38⟩ := Kd.R_slice HO_3.out
                                  subst eo38
                                  have p162 : 0 ≤ (x9_4 : Int) := of_decide_eq_true (by first | (with_reducible assumption) | assumption)
                                  have q162 : x9_4 < (x3_2.length : Int) := of_decide_eq_true (by first | (with_reducible assumption) | assumption)
                                  obtain ⟨ad162, e162, hx162_0⟩ := Kd.at_string (Kd.R_reads' HO_3.out).2.2 x9_4 p162 q162
                                  cases e162
                                  replace p162 := eq_true p162
                                  replace q162 := eq_true q162
                                  obtain ⟨Ao39, co39, eo39⟩ := Kd.R_slice HO_6.out
                                  subst eo39
                                  go_wp2_with (first | ((with_reducible refine gate_callee (f := 34) rfl ?_); refine goesL_ (some 75) rfl rfl Tryd.func34 (by kernel_rfl) rfl #[.slice Ao39 x6_3.length co39, .string (rdOf ByteArray.empty x3_2 x9_4)] rfl (by (try simp only [List.map_toArray, List.map_cons, List.map_nil]); first | done | rfl | (simp only [List.length_drop, List.length_take]; rfl)) ?_; (with_reducible refine (chalklineref06_Among.calls k4 _ _ x6_3 (rdOf ByteArray.empty x3_2 x9_4) false _ ?side1 ?side2 A28.out).mono ?_); (case side1 => repeat (first | exact (Kd.R_reads' HO_6.out).2.2 | (with_reducible refine Kd.C_alloc ?_ _) | (with_reducible refine Kd.C_drewN ?_ _) | (with_reducible refine Kd.C_drew ?_))); (case side2 => exact (Kd.R_reads' HO_6.out).2.1); rintro e w' ⟨rfl, ⟨nd, rfl⟩⟩; refine ⟨_, rfl, ?_⟩; have p164 : 0 ≤ (x9_4 : Int) := of_decide_eq_true (by first | (with_reducible assumption) | assumption); have q164 : x9_4 < (x3_2.length : Int) := of_decide_eq_true (by first | (with_reducible assumption) | assumption); obtain ⟨ad164, e164, hx164_0⟩ := Kd.at_string (Kd.R_reads' HO_3.out).2.2 x9_4 p164 q164; obtain rfl : ad162 = ad164 := (by injection e164); replace p164 := eq_true p164; replace q164 := eq_true q164; obtain ⟨Ao40, co40, eo40⟩ := Kd.R_slice HO_8.out; subst eo40) | (go_at_call 34; (with_reducible refine (chalklineref06_Among.calls k4 _ _ x8_4 (rdOf ByteArray.empty x3_2 x9_4) false _ ?side1 ?side2 A32.out).mono ?_); (case side1 => repeat (first | exact (Kd.R_reads' HO_8.out).2.2 | (with_reducible refine Kd.C_alloc ?_ _) | (with_reducible refine Kd.C_drewN ?_ _) | (with_reducible refine Kd.C_drew ?_))); (case side2 => exact (Kd.R_reads' HO_8.out).2.1); rintro e w' ⟨rfl, ⟨nd, rfl⟩⟩; have p166 : 0 ≤ (x9_4 : Int) := of_decide_eq_true (by first | (with_reducible assumption) | assumption); have q166 : x9_4 < (x3_2.length : Int) := of_decide_eq_true (by first | (with_reducible assumption) | assumption); obtain ⟨ad166, e166, hx166_0⟩ := Kd.at_string (Kd.R_reads' HO_3.out).2.2 x9_4 p166 q166; obtain rfl : ad162 = ad166 := (by injection e166); replace p166 := eq_true p166; replace q166 := eq_true q166) | ((with_reducible refine gate_builtin (b := .append) (xs := #[.tmp 86, .tmp 91]) rfl ?_); at_builtin; refine Kd.R_append Kd.string (w0 := w) w.heap.size rfl (.tmp 86) (.tmp 91) 32 9 (.string ⟨#[]⟩) 16 rfl Tryd.underlying32 info9 rfl (by decide) (by omega) (.slice Ao40 x8_4.length co40) x8_4 (rdOf ByteArray.empty x3_2 x9_4) [.string (rdOf ByteArray.empty x3_2 x9_4)] (fun k_ => some k_ ≠ (.slice (some ad162) x3_2.length co38 : Value).ownBlock ∧ some k_ ≠ (.slice Ao39 x6_3.length co39 : Value).ownBlock) (fun _ => False) rfl rfl ?aP (fun _ hk => hk.elim) ?aF ?aO ?aB ?aS ?aL ?_; (case aP => exact rfl); (case aB => exact (by repeat (first | (with_reducible first | exact HB.out | apply below_alloc | apply pw_below_drewN | apply below_drew1 | refine below_set ?_ GE145.out) | exact HB.out))); (case aF => exact (fun k_ hk => ⟨Kd.fresh' (Kd.R_lt (by (with_reducible repeat (first | apply Kd.R_alloc | apply Kd.R_drewN | apply Kd.R_drew)); exact HO_3.out)) k_ hk, Kd.fresh' (Kd.R_lt (by (with_reducible repeat (first | apply Kd.R_alloc | apply Kd.R_drewN | apply Kd.R_drew)); exact HO_6.out)) k_ hk⟩)); (case aO => exact (by (with_reducible repeat (first | apply Kd.R_alloc | apply Kd.R_drewN | apply Kd.R_drew)); exact HO_8.out)); (case aS => exact (below_size (by repeat (first | (with_reducible first | exact HB.out | apply below_alloc | apply pw_below_drewN | apply below_drew1 | refine below_set ?_ GE145.out) | exact HB.out)))); (case aL => have := LMc37.out; omega); intro v168 w41 ho hb hg hat; rw [← Ny167.out] at ho; have n0_ := Aside0.mk (Kd.R_after (ok := (fun k_ => some k_ ≠ (.slice Ao39 x6_3.length co39 : Value).ownBlock)) (by (with_reducible repeat (first | apply Kd.R_alloc | apply Kd.R_drewN | apply Kd.R_drew)); exact HO_3.out) hg hat); have n1_ := Aside0.mk (Kd.R_after (ok := (fun k_ => some k_ ≠ (.slice (some ad162) x3_2.length co38 : Value).ownBlock)) (by (with_reducible repeat (first | apply Kd.R_alloc | apply Kd.R_drewN | apply Kd.R_drew)); exact HO_6.out) hg hat); have n2_ := Aside0.mk (blk_grown (g := gb145) (o := .cells #[.int .i64 a0_0, .string a0_1, .int .i64 a0_2, .slice A0_3 l0_3.length c0_3, .slice A0_4 l0_4.length c0_4, .slice A0_5 l0_5.length c0_5] 26 (0, 0)) (by (with_reducible repeat (first | refine blk_drewN ?_ _ | refine blk_drew ?_ | refine blk_alloc ?_ _)); exact BK145.out) hg (Kd.R_ne HO_8.out BK145.out (by decide))); have n3_ := Aside0.mk (hb); have n4_ := Aside0.mk (ho); clear HO_3; clear HO_6; clear BK145; clear HB; clear HO_8; have HO_3 := n0_; have HO_6 := n1_; have BK145 := n2_; have HB := n3_; have HO169 := n4_; clear n0_ n1_ n2_ n3_ n4_; clear ho hb hg hat))
                                  go_roundg k4
                                  case measure => have := HK1.out; have := HK2.out; have := HK3.out; have := HK4.out; omega
                                  case rel => exact ⟨(y167), (wrap64 (x9_4 + 1)), (by first | rfl | (simp; done) | (simp [*]; done)), H', ⟨by have := HK1.out; have := HK2.out; have := HK3.out; have := HK4.out; omega⟩, ⟨by (with_reducible repeat (first | apply Kd.R_alloc | apply Kd.R_drewN | apply Kd.R_drew)); exact HO_3.out⟩, ⟨by (with_reducible repeat (first | apply Kd.R_alloc | apply Kd.R_drewN | apply Kd.R_drew)); exact HO_6.out⟩, ⟨by (with_reducible repeat (first | apply Kd.R_alloc | apply Kd.R_drewN | apply Kd.R_drew)); exact HO169.out⟩, ⟨by (with_reducible repeat (first | refine blk_drewN ?_ _ | refine blk_drew ?_ | refine blk_alloc ?_ _)); exact BK145.out⟩, ⟨by repeat (first | (with_reducible first | exact HB.out | apply below_alloc | apply pw_below_drewN | apply below_drew1 | refine below_set ?_ GE145.out) | exact HB.out)⟩⟩
                                · rw [if_neg c37] at H
                                  exact absurd H (by simp)
                          · rw [if_neg c27] at H
                            exact absurd H (by simp)
                        · rw [if_neg c26] at H
                          have c26b0 : decide (x9_4 < (x3_2.length : Int)) = false := decide_eq_false c26
                          clear c26
                          obtain rfl := Option.some.inj H
                          obtain ⟨Ao42, co42, eo42⟩ := Kd.R_slice HO_3.out
                          subst eo42
                          go_wp2
                          go_ret
                          exact ⟨_, by first | rfl | (simp [errW_none, errW_some] <;> rfl) | (simp [*, errW_none, errW_some] <;> rfl), by (with_reducible repeat (first | apply Kd.R_alloc | apply Kd.R_drewN | apply Kd.R_drew)); exact Kd.R_mono HO_8.out (fun _ hk => trivial), by repeat (first | (with_reducible first | exact HB.out | apply below_alloc | apply pw_below_drewN | apply below_drew1 | refine below_set ?_ GE145.out) | exact HB.out)⟩
end Go.Proofs.YtmlcaecknocpoaaDoor.Pr
