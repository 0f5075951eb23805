/- Lemmas and walks for the claim below. -/
import Derived.Test.YtmlcaecknocpoaaDoorQrK7
import Derived.Deep.RegionHeld3
import Derived.Deep.RegionWith
namespace Go.Proofs.YtmlcaecknocpoaaDoor.It
set_option linter.unusedVariables false
set_option linter.unusedSimpArgs false
open Go Go.RowKit Go.Shelf Go.Proofs.YtmlcaecknocpoaaDoorW.PrintWords Go.Proofs.YtmlcaecknocpoaaDoorW.PrintLast Go.Proofs.YtmlcaecknocpoaaDoor.Pr Go.Proofs.YtmlcaecknocpoaaDoor.Sp
open Go.ChangeMaps Go.MapKept Go.WideShapes
attribute [local go_sem ↓] Go.wp_at_zero Go.wp_at_succ
def SetIs (w : World) (M n : Nat) (l : List ByteArray) : Prop :=
 ∃ D : DataW Unit, w.ownsMap Tryd.prog 9 (plainElem Tryd.prog 4) M n D ∧ ∀ s : ByteArray, D.atKey (.string s.data.toList) (.lit (.bool false)) = .lit (.bool (among l s))
theorem SetIs.below {w w1 : World} {M n : Nat} {l : List ByteArray} (h : SetIs w M n l) (hb : Below w.heap.size w w1) : SetIs w1 M n l := by
 obtain ⟨D, ho, hD⟩ := h
 have hlt := ho.lt
 obtain ⟨es, clock, h1, F, hs, hd⟩ := ho
 exact ⟨D, ⟨es, clock, (hb.block M hlt).trans h1, F, hs, hd⟩, hD⟩
set_option maxRecDepth 100000 in
theorem SetIs.look {w : World} {M n : Nat} {l : List ByteArray} (h : SetIs w M n l) (s : ByteArray) (hs : s.size ≤ maxLen) : (Instr.lookup 79 (.map (some M)) (.string s) false).run Tryd.prog w = .ok (.bool (among l s)) w := by
 obtain ⟨D, ho, hD⟩ := h
 obtain ⟨v, ps, hrun, hv⟩ := ho.lookup keyed9 Tryd.underlying79 (zero4 w) (plainElem_bool Tryd.underlying4 false) (key9 s hs)
 rw [hD s] at hv
 have : v = .bool (among l s) := by
   unfold plainElem at hv
   rw [Tryd.underlying4] at hv
   cases v <;> simp at hv
   rw [hv.1]
 rw [hrun, this]
theorem SetIs.put {w : World} {M n : Nat} {l : List ByteArray} (h : SetIs w M n l) (hn : n < maxLen) (s : ByteArray) (hs : s.size ≤ maxLen) :
   ∃ w1, (Instr.mapUpdate 79 (.map (some M)) (.string s) (.bool true)).run Tryd.prog w = .ok () w1 ∧ SetIs w1 M (n + 1) (l ++ [s]) ∧ w.grownBy w1 (some M) := by
 obtain ⟨D, ho, hD⟩ := h
 obtain ⟨w1, hrun, h1, h2⟩ := ho.update keyed9 Tryd.underlying79 hn (key9 s hs) (plainElem_bool Tryd.underlying4 true)
 have ha : ∀ s', among (l ++ [s]) s' = (among l s' || decide (s = s')) := fun s' => by simp [among]
 refine ⟨w1, hrun, ⟨_, h1, fun s' => ?_⟩, h2⟩
 rw [ha]
 by_cases e : s' = s
 · subst e
   rw [Maps.atKey_put_same ho.isMap (by simp [WideAt.IsKeyLit])]
   simp
 · rw [Maps.atKey_put_other (fun he => e ?_), hD s', decide_eq_false (fun e' => e e'.symm), Bool.or_false]
   have he' := Lit.string.inj he
   cases s'; cases s
   simpa [Array.toList_inj] using he'
theorem SetIs.new (w : World) : SetIs (w.alloc (.map #[] 0)) w.heap.size 0 [] := ⟨.map [], World.ownsMap_made w _ _ _, fun _ => rfl⟩
theorem SetIs.both {w : World} {M n : Nat} {l : List ByteArray} (h : SetIs w M n l) (hn : n ≤ 2000000) (s : ByteArray) (hs : s.size ≤ 9223372036854775807) (b : Bool) (hb : among l s = b) : (Instr.lookup 79 (.map (some M)) (.string s) false).run Tryd.prog w = .ok (.bool b) w ∧
   ∃ w1, (Instr.mapUpdate 79 (.map (some M)) (.string s) (.bool true)).run Tryd.prog w = .ok () w1 ∧ SetIs w1 M (n + 1) (l ++ [s]) ∧ w.grownBy w1 (some M) :=
 ⟨hb ▸ h.look s hs, h.put (by simp [maxLen]; omega) s hs⟩
theorem ruleAt {w W : World} {A : Option Addr} {l : List S54} (h : Kd.C k54 w A l.length l) (hb : Below w.heap.size w W) (j : Nat) (hj : j < l.length) : ∃ ad A3 c3 A7 c7 A8 c8 A9 c9, A = some ad ∧ AtR w (rd_T54 l j) A3 c3 A7 c7 A8 c8 A9 c9 ∧
   W.cell? (ad.add (j * 10)) = some (.string (rd_T54 l j).f0) ∧ W.cell? ⟨(ad.add (j * 10)).block, (ad.add (j * 10)).off + 1, none⟩ = some (.bool (rd_T54 l j).f1) ∧ W.cell? ⟨(ad.add (j * 10)).block, (ad.add (j * 10)).off + 2, none⟩ = some (.int .i64 (rd_T54 l j).f2) ∧
   W.cell? ⟨(ad.add (j * 10)).block, (ad.add (j * 10)).off + 3, none⟩ = some (.slice A3 (rd_T54 l j).f3.length c3) ∧ W.cell? ⟨(ad.add (j * 10)).block, (ad.add (j * 10)).off + 4, none⟩ = some (.int .i64 (rd_T54 l j).f4.f0) ∧ W.cell? ⟨(ad.add (j * 10)).block, (ad.add (j * 10)).off + 5, none⟩ = some (.string (rd_T54 l j).f4.f1) ∧
   W.cell? ⟨(ad.add (j * 10)).block, (ad.add (j * 10)).off + 6, none⟩ = some (.int .i64 (rd_T54 l j).f4.f2) ∧ W.cell? ⟨(ad.add (j * 10)).block, (ad.add (j * 10)).off + 7, none⟩ = some (.slice A7 (rd_T54 l j).f4.f3.length c7) ∧ W.cell? ⟨(ad.add (j * 10)).block, (ad.add (j * 10)).off + 8, none⟩ = some (.slice A8 (rd_T54 l j).f4.f4.length c8) ∧
   W.cell? ⟨(ad.add (j * 10)).block, (ad.add (j * 10)).off + 9, none⟩ = some (.slice A9 (rd_T54 l j).f4.f5.length c9) := by
 obtain ⟨ad, A3, c3, A7, c7, A8, c8, A9, c9, e, h0, h1, h2, h3, h4, h5, h6, h7, h8, h9, l3, g3, l7, g7, l8, g8, l9, g9⟩ := at_T54 h (j : Int) (by omega) (by omega)
 exact ⟨ad, A3, c3, A7, c7, A8, c8, A9, c9, e, ⟨l3, g3, ⟨l7, g7, l8, g8, l9, g9⟩⟩, up_cell hb h0, up_cell hb h1, up_cell hb h2, up_cell hb h3, up_cell hb h4, up_cell hb h5, up_cell hb h6, up_cell hb h7, up_cell hb h8, up_cell hb h9⟩
theorem take_snoc54 (l : List S54) (j : Nat) (hj : j < l.length) : l.take (j + 1) = l.take j ++ [rd_T54 l j] := by
 rw [List.take_succ_eq_append_getElem hj]
 simp [rd_T54, List.getD, hj]
theorem rules_step (l : List S54) (j : Nat) (hj : j < l.length) : rulesFrom (l.take j) (l.drop j) = if rule (rd_T54 l j) = 0 then (if among ((l.take j).map (·.f0)) (rd_T54 l j).f0 then ((j : Int), 82) else rulesFrom (l.take (j + 1)) (l.drop (j + 1))) else ((j : Int), rule (rd_T54 l j)) := by
 have e1 : l.drop j = rd_T54 l j :: l.drop (j + 1) := by
   rw [List.drop_eq_getElem_cons hj]
   simp [rd_T54, List.getD, hj]
 have e2 : l.take (j + 1) = l.take j ++ [rd_T54 l j] := by
   rw [List.take_succ_eq_append_getElem hj]
   simp [rd_T54, List.getD, hj]
 have e3 : (l.take j).length = j := by simp; omega
 rw [e1, rulesFrom, e2, e3]
 congr 1
 rw [among, List.any_map]
 rfl
theorem rd54_mem (l : List S54) (j : Nat) (h : j < l.length) : rd_T54 l j ∈ l := by simp [rd_T54, List.getD, h]
set_option maxRecDepth 100000 in
set_option maxHeartbeats 8000000 in
theorem rules_calls (l : List S54) (A : Option Addr) (c : Nat) (w : World) (hr : Kd.C k54 w A l.length l) (hl : l.length ≤ 1000000) (ho : ∀ r ∈ l, ROk r) (ht : Tabs w) (hk : Kinds w) :
   Calls Tryd.prog 44 #[.slice A l.length c] w fun e w' => e = .returned (.tuple #[.int .i64 (rules l).1, .int .i64 (rules l).2]) ∧ Below w.heap.size w w' := by
 have hu54 := Tryd.underlying54
 have hmm := @run_makeMap Tryd.prog
 have C46 := Aside0.mk (fun (j : Nat) (hj : j < l.length) (W : World) (hW : Below w.heap.size w W) A3 c3 A7 c7 A8 c8 A9 c9 (hat : AtR w (rd_T54 l j) A3 c3 A7 c7 A8 c8 A9 c9) => rule_calls (rd_T54 l j) A3 c3 A7 c7 A8 c8 A9 c9 W (hat.below hW) (ho _ (rd54_mem l j hj)) (ht.below hW) (hk.below hW))
 have HNM := Aside0.mk (fun (j : Nat) (hj : j < l.length) => (ho _ (rd54_mem l j hj)).nm)
 have HR := Aside0.mk hr
 have HS0 := Aside0.mk (SetIs.new w)
 have T1 := Aside0.mk (up1 w (.map #[] 0))
 obtain ⟨⟨r1, r2⟩, hres⟩ : ∃ v, rules l = v := ⟨_, rfl⟩
 rw [hres]
 dsimp only
 have HRES := Aside0.mk (show rulesFrom (l.take 0) (l.drop 0) = (r1, r2) from hres)
 clear hr ho ht hk hres
 go_enter Tryd.func44, Tryd.ntmps44
 go_wp2_with fail
 go_loopg [5, 7, 11] l.length (fun gg _ _ s11 wr => ∃ j : Nat, j ≤ l.length ∧ l.length - j ≤ gg ∧ s11 = .int .i64 j ∧ Aside0 (Below w.heap.size w wr ∧ SetIs wr w.heap.size j ((l.take j).map (·.f0)) ∧ rulesFrom (l.take j) (l.drop j) = (r1, r2)))
 case atStart => exact ⟨0, Nat.zero_le _, by omega, rfl, ⟨T1.out, HS0.out, HRES.out⟩⟩
 case round =>
   obtain ⟨j, hj, hg, rfl, HJ⟩ := hrel
   clear T1 HS0 HRES
   by_cases hlt : j < l.length
   · have hltz : (j : Int) < (l.length : Int) := by omega
     obtain ⟨ad, A3, c3, A7, c7, A8, c8, A9, c9, rfl, hat, y0, y1, y2, y3, y4, y5, y6, y7, y8, y9⟩ := ruleAt HR.out HJ.out.1 j hlt
     have hst := rules_step l j hlt
     rw [HJ.out.2.2] at hst
     have hnm := HNM.out j hlt
     have HTK := Aside0.mk (show (l.take (j + 1)).map (·.f0) = (l.take j).map (·.f0) ++ [(rd_T54 l j).f0] by rw [take_snoc54 l j hlt, List.map_append]; rfl)
     have hcall := fun W hW => C46.out j hlt W hW A3 c3 A7 c7 A8 c8 A9 c9 hat
     clear hat
     obtain ⟨r, hr⟩ : ∃ r, rd_T54 l j = r := ⟨_, rfl⟩
     rw [hr] at hst hnm hcall y0 y1 y2 y3 y4 y5 y6 y7 y8 y9 HTK
     have HN := Aside0.mk (heap_new wr (.cells #[.string r.f0, .bool r.f1, .int .i64 r.f2, .slice A3 r.f3.length c3, .int .i64 r.f4.f0, .string r.f4.f1, .int .i64 r.f4.f2, .slice A7 r.f4.f3.length c7, .slice A8 r.f4.f4.length c8, .slice A9 r.f4.f5.length c9] 54))
     have G1 := Aside0.mk (up1 wr (.cells #[.string r.f0, .bool r.f1, .int .i64 r.f2, .slice A3 r.f3.length c3, .int .i64 r.f4.f0, .string r.f4.f1, .int .i64 r.f4.f2, .slice A7 r.f4.f3.length c7, .slice A8 r.f4.f4.length c8, .slice A9 r.f4.f5.length c9] 54))
     replace hcall := Aside0.mk (hcall _ (HJ.out.1.trans (G1.out.mono HJ.out.1.size)))
     obtain ⟨v, hv⟩ : ∃ v, rule r = v := ⟨_, rfl⟩
     rw [hv] at hst hcall
     obtain ⟨b, hb⟩ : ∃ b, among ((l.take j).map (·.f0)) r.f0 = b := ⟨_, rfl⟩
     rw [hb] at hst
     have HB := Aside0.mk hb
     have HNM1 := Aside0.mk hnm
     clear hr hv hb hnm
     by_cases h0 : v = 0
     · rw [if_pos h0] at hst
       subst h0
       cases b with
       | true =>
         rw [if_pos rfl] at hst
         have HST := Aside0.mk hst
         clear hst
         go_wp2_with (go_at_call 46; (with_reducible refine hcall.out.mono ?_); rintro e w1 ⟨rfl, g⟩; have q0 := (bCl (blk_below g HN.out) 0).trans rfl; replace HJ := Aside0.mk (And.intro (HJ.out.1.trans ((G1.out.trans (g.mono G1.out.size)).mono HJ.out.1.size)) (HJ.out.2.1.below (G1.out.trans (g.mono G1.out.size)))); obtain ⟨hlk, -⟩ := HJ.out.2.both (by omega) r.f0 HNM1.out true HB.out; clear g hcall)
         go_ret2
         exact ⟨by injection HST.out with e1 e2; rw [e1, e2]; rfl, HJ.out.1⟩
       | false =>
         rw [if_neg (by decide)] at hst
         have HST := Aside0.mk hst
         clear hst
         go_wp2_with (go_at_call 46; (with_reducible refine hcall.out.mono ?_); rintro e w1 ⟨rfl, g⟩; have q0 := (bCl (blk_below g HN.out) 0).trans rfl; replace HJ := Aside0.mk (And.intro (HJ.out.1.trans ((G1.out.trans (g.mono G1.out.size)).mono HJ.out.1.size)) (HJ.out.2.1.below (G1.out.trans (g.mono G1.out.size)))); obtain ⟨hlk, w2, hup, hs2, hg2⟩ := HJ.out.2.both (by omega) r.f0 HNM1.out false HB.out; have H2 := Aside0.mk (And.intro (HJ.out.1.grown hg2 HJ.out.1.size (fun k hk => by injection hk with hk; omega)) hs2); clear g hcall hs2 hg2)
         go_roundg (l.length - (j + 1))
         case measure => omega
         case rel => exact ⟨j + 1, by omega, by omega, by go_num, ⟨H2.out.1, by rw [HTK.out]; exact H2.out.2, HST.out.symm⟩⟩
     · rw [if_neg h0] at hst
       have b1 : (v != 0) = true := by simpa using h0
       have HST := Aside0.mk hst
       clear hst h0
       go_wp2_with (go_at_call 46; (with_reducible refine hcall.out.mono ?_); rintro e w1 ⟨rfl, g⟩; replace g := Aside0.mk (G1.out.trans (g.mono G1.out.size)); clear hcall)
       go_ret2
       exact ⟨by injection HST.out with e1 e2; rw [e1, e2]; rfl, HJ.out.1.trans (g.out.mono HJ.out.1.size)⟩
   · have hltz : ¬ (j : Int) < (l.length : Int) := by omega
     obtain rfl : j = l.length := by omega
     have HST : Aside0 ((0, 0) = (r1, r2)) := ⟨by rw [← HJ.out.2.2, List.drop_length]; rfl⟩
     go_wp2_with fail
     go_ret2
     exact ⟨by injection HST.out with e1 e2; rw [← e1, ← e2]; rfl, HJ.out.1⟩
end Go.Proofs.YtmlcaecknocpoaaDoor.It
namespace Go.Proofs.YtmlcaecknocpoaaDoor.Pr
open Go.RowKit Go.Proofs.YtmlcaecknocpoaaDoorW.PrintWords Go.Proofs.YtmlcaecknocpoaaDoorW.PrintLast Go.Proofs.YtmlcaecknocpoaaDoorW.PrintMore
attribute [local go_sem] max2_int min2_int max_two min_two max_three min_three max_four min_four   
set_option linter.unusedVariables false
set_option linter.unusedSimpArgs false
def lw8v.f (a0 : ByteArray) : Option (Int × ByteArray × Int) := some (2, a0, 0)
set_option maxHeartbeats 8000000 in
set_option maxRecDepth 100000 in
theorem lw8v.calls (a0 : ByteArray) (r1 : Int) (r2 : ByteArray) (r3 : Int) (w : World) (h : lw8v.f a0 = some (r1, r2, r3)) :
   Calls Tryd.prog 100 #[.string a0] w fun e w' => e = .returned (.agg #[.int .i64 r1, .string r2, .int .i64 r3]) ∧ Below w.heap.size w w' := by
 have hu47 := Tryd.underlying47
 have HB := Aside0.mk (Below.refl w.heap.size w)
 have H : (some (2, a0, 0)) = some (r1, r2, r3) := h
 clear h
 simp only [Option.some.injEq, Prod.mk.injEq] at H
 obtain ⟨rfl, rfl, rfl⟩ := H
 go_enter Tryd.func100, Tryd.ntmps100
 go_wp2_with (first | ((with_reducible refine gate_dst (N := 2) rfl ?_); refine box_event ?hg (N := 2) ?hd (cs := #[.int .i64 0, .string (⟨#[]⟩ : ByteArray), .int .i64 0]) (t := 47) ?hr ?_; (case hd => rfl); (case hg => rfl); (case hr => first | (go_simp; done) | (go_simp; rfl)); intro gb196 hg w2 hbox hb; have n0_ := Aside0.mk (below_step (by repeat (first | (with_reducible first | exact HB.out | apply bAl | apply pwDN | apply bD1) | exact HB.out)) hb); have n1_ := Aside0.mk (hbox); have n2_ := Aside0.mk ((by rw [hg]; exact (below_size (by repeat (first | (with_reducible first | exact HB.out | apply bAl | apply pwDN | apply bD1) | exact HB.out))) : w.heap.size ≤ gb196)); have n3_ := Aside0.mk ((by rw [hg]; exact (below_size (by repeat (first | (with_reducible first | exact HB.out | apply bAl | apply pwDN | apply bD1) | exact HB.out))) : w.heap.size ≤ gb196)); clear HB; have HB := n0_; have BK196 := n1_; have GW196 := n2_; have GE196 := n3_; clear n0_ n1_ n2_ n3_; clear hb hbox hg; have hcz3_0 : w2.cell? ⟨gb196, 0, none⟩ = some (.int .i64 0) := (bCl BK196.out 0).trans rfl; have hcz3_1 : w2.cell? ⟨gb196, 1, none⟩ = some (.string (⟨#[]⟩ : ByteArray)) := (bCl BK196.out 1).trans rfl; have hcz3_2 : w2.cell? ⟨gb196, 2, none⟩ = some (.int .i64 0) := (bCl BK196.out 2).trans rfl; have hfz3_0 := bFz BK196.out 0; have hfz3_1 := bFz BK196.out 1; have hfz3_2 := bFz BK196.out 2))
 refine bodyPost_ret (results_cell_row rfl _ _ gb196 47 #[.int .i64 2, .string a0, .int .i64 0] (0, 0) _ rfl (by (with_reducible repeat (first | refine blk_drewN ?_ _ | refine blk_drew ?_ | refine blk_alloc ?_ _)); refine blk_put (cs := #[.int .i64 2, .string a0, .int .i64 0]) ?_ 2 _ rfl; (with_reducible repeat (first | refine blk_drewN ?_ _ | refine blk_drew ?_ | refine blk_alloc ?_ _)); refine blk_put (cs := #[.int .i64 2, .string (⟨#[]⟩ : ByteArray), .int .i64 0]) ?_ 1 _ rfl; (with_reducible repeat (first | refine blk_drewN ?_ _ | refine blk_drew ?_ | refine blk_alloc ?_ _)); refine blk_put (cs := #[.int .i64 0, .string (⟨#[]⟩ : ByteArray), .int .i64 0]) ?_ 0 _ rfl; (with_reducible repeat (first | refine blk_drewN ?_ _ | refine blk_drew ?_ | refine blk_alloc ?_ _)); exact BK196.out) Tryd.underlying47 rfl (by kernel_rfl)) rfl ?_
 exact ⟨by first | rfl | (simp [errW_none, errW_some] <;> rfl) | (simp [*, errW_none, errW_some] <;> rfl), by repeat (first | (with_reducible first | exact HB.out | apply bAl | apply pwDN | apply bD1 | refine bSt ?_ GE196.out) | exact HB.out)⟩
def lw8at.f (a0 : ByteArray) (a1 : ByteArray) : Option (Int × ByteArray × Int × (List (S47)) × (List (S42)) × (List (S26))) := (lw8v.f a0).bind fun bt198 => ((lw8v.f a1).bind fun bt201 => (some (3, (⟨#[]⟩ : ByteArray), 0, (([(⟨bt198.1, bt198.2.1, bt198.2.2⟩ : S47), (⟨bt201.1, bt201.2.1, bt201.2.2⟩ : S47)] : List (S47))), ([] : List (S42)), ([] : List (S26)))))
set_option maxHeartbeats 8000000 in
set_option maxRecDepth 100000 in
theorem lw8at.calls (a0 : ByteArray) (a1 : ByteArray) (r1 : Int) (r2 : ByteArray) (r3 : Int) (r4 : List (S47)) (r5 : List (S42)) (r6 : List (S26)) (w : World) (h : lw8at.f a0 a1 = some (r1, r2, r3, r4, r5, r6)) :
   Calls Tryd.prog 62 #[.string a0, .string a1] w fun e w' => ∃ v3_ v4_ v5_ : Value, e = .returned (.agg #[.int .i64 r1, .string r2, .int .i64 r3, v3_, v4_, v5_]) ∧ Kd.R k47 47 w' w.heap.size (fun _ => True) v3_ r4 ∧ Kd.R k42 42 w' w.heap.size (fun _ => True) v4_ r5 ∧ Kd.R k26 26 w' w.heap.size (fun k_ => some k_ ≠ (v3_ : Value).ownBlock ∧ some k_ ≠ (v4_ : Value).ownBlock) v5_ r6 ∧ Below w.heap.size w w' := by
 have hu26 := Tryd.underlying26
 have HB := Aside0.mk (Below.refl w.heap.size w)
 have H : ((lw8v.f a0).bind fun bt198 => ((lw8v.f a1).bind fun bt201 => (some (3, (⟨#[]⟩ : ByteArray), 0, (([(⟨bt198.1, bt198.2.1, bt198.2.2⟩ : S47), (⟨bt201.1, bt201.2.1, bt201.2.2⟩ : S47)] : List (S47))), ([] : List (S42)), ([] : List (S26)))))) = some (r1, r2, r3, r4, r5, r6) := h
 clear h
 replace H := Option.bind_eq_some_iff.mp H
 obtain ⟨⟨t198, t199, t200⟩, A30, H⟩ := H
 replace H : ((lw8v.f a1).bind fun bt201 => (some (3, (⟨#[]⟩ : ByteArray), 0, (([(⟨t198, t199, t200⟩ : S47), (⟨bt201.1, bt201.2.1, bt201.2.2⟩ : S47)] : List (S47))), ([] : List (S42)), ([] : List (S26))))) = some (r1, r2, r3, r4, r5, r6) := H
 have A3 := Aside0.mk A30
 clear A30
 replace H := Option.bind_eq_some_iff.mp H
 obtain ⟨⟨t201, t202, t203⟩, A40, H⟩ := H
 replace H : (some (3, (⟨#[]⟩ : ByteArray), 0, (([(⟨t198, t199, t200⟩ : S47), (⟨t201, t202, t203⟩ : S47)] : List (S47))), ([] : List (S42)), ([] : List (S26)))) = some (r1, r2, r3, r4, r5, r6) := H
 have A4 := Aside0.mk A40
 clear A40
 obtain ⟨y204, hy204⟩ : ∃ y_ : List (S47), y_ = (([(⟨t198, t199, t200⟩ : S47), (⟨t201, t202, t203⟩ : S47)] : List (S47))) := ⟨_, rfl⟩
 replace H : (some (3, (⟨#[]⟩ : ByteArray), 0, y204, ([] : List (S42)), ([] : List (S26)))) = some (r1, r2, r3, r4, r5, r6) := by first | (rw [hy204]; with_reducible exact H) | (have H2_ := (Option.bind_some _ _).symm.trans H; rw [hy204]; with_reducible exact H2_) | (have H2_ := (Option.bind_some _ _).symm.trans H; with_reducible exact H2_) | with_reducible exact H | (rw [hy204]; exact H) | exact H
 have Ny204 := Aside0.mk hy204
 clear hy204
 simp only [Option.some.injEq, Prod.mk.injEq] at H
 obtain ⟨rfl, rfl, rfl, rfl, rfl, rfl⟩ := H
 go_enter Tryd.func62, Tryd.ntmps62
 go_wp2_with (first | ((with_reducible refine gate_dst (N := 4) rfl ?_); refine box_event ?hg (N := 4) ?hd (cs := #[.int .i64 0, .string (⟨#[]⟩ : ByteArray), .int .i64 0, .slice none 0 0, .slice none 0 0, .slice none 0 0]) (t := 26) ?hr ?_; (case hd => rfl); (case hg => rfl); (case hr => first | (go_simp; done) | (go_simp; rfl)); intro gb197 hg w5 hbox hb; have n0_ := Aside0.mk (below_step (by repeat (first | (with_reducible first | exact HB.out | apply bAl | apply pwDN | apply bD1) | exact HB.out)) hb); have n1_ := Aside0.mk (hbox); have n2_ := Aside0.mk ((by rw [hg]; exact (below_size (by repeat (first | (with_reducible first | exact HB.out | apply bAl | apply pwDN | apply bD1) | exact HB.out))) : w.heap.size ≤ gb197)); have n3_ := Aside0.mk ((by rw [hg]; exact (below_size (by repeat (first | (with_reducible first | exact HB.out | apply bAl | apply pwDN | apply bD1) | exact HB.out))) : w.heap.size ≤ gb197)); clear HB; have HB := n0_; have BK197 := n1_; have GW197 := n2_; have GE197 := n3_; clear n0_ n1_ n2_ n3_; clear hb hbox hg) | ((with_reducible refine gate_callee (f := 100) rfl ?_); refine goesL_ (some 6) rfl rfl Tryd.func100 (by kernel_rfl) rfl #[.string a0] rfl (by (try simp only [List.map_toArray, List.map_cons, List.map_nil]); first | done | rfl | (simp only [List.length_drop, List.length_take]; rfl)) ?_; (with_reducible refine (lw8v.calls a0 t198 t199 t200 _ A3.out).mono ?_); rintro e w6 ⟨rfl, hb⟩; refine ⟨_, rfl, ?_⟩; have n0_ := Aside0.mk (blk_below (g := gb197) (o := .cells #[.int .i64 0, .string (⟨#[]⟩ : ByteArray), .int .i64 0, .slice none 0 0, .slice none 0 0, .slice none 0 0] 26 (0, 0)) (by (with_reducible repeat (first | refine blk_drewN ?_ _ | refine blk_drew ?_ | refine blk_alloc ?_ _)); exact BK197.out) hb); have n1_ := Aside0.mk (below_step (by repeat (first | (with_reducible first | exact HB.out | apply bAl | apply pwDN | apply bD1 | refine bSt ?_ GE197.out) | exact HB.out)) hb); clear BK197; clear HB; have BK197 := n0_; have HB := n1_; clear n0_ n1_; (try clear hb); (try clear hb2); (try clear hk); (try clear hi)) | ((with_reducible refine gate_callee (f := 100) rfl ?_); refine goesL_ (some 8) rfl rfl Tryd.func100 (by kernel_rfl) rfl #[.string a1] rfl (by (try simp only [List.map_toArray, List.map_cons, List.map_nil]); first | done | rfl | (simp only [List.length_drop, List.length_take]; rfl)) ?_; (with_reducible refine (lw8v.calls a1 t201 t202 t203 _ A4.out).mono ?_); rintro e w7 ⟨rfl, hb⟩; refine ⟨_, rfl, ?_⟩; have n0_ := Aside0.mk (blk_below (g := gb197) (o := .cells #[.int .i64 0, .string (⟨#[]⟩ : ByteArray), .int .i64 0, .slice none 0 0, .slice none 0 0, .slice none 0 0] 26 (0, 0)) (by (with_reducible repeat (first | refine blk_drewN ?_ _ | refine blk_drew ?_ | refine blk_alloc ?_ _)); exact BK197.out) hb); have n1_ := Aside0.mk (below_step (by repeat (first | (with_reducible first | exact HB.out | apply bAl | apply pwDN | apply bD1 | refine bSt ?_ GE197.out) | exact HB.out)) hb); clear BK197; clear HB; have BK197 := n0_; have HB := n1_; clear n0_ n1_; (try clear hb); (try clear hb2); (try clear hk); (try clear hi)) | ((with_reducible refine gate_dst (N := 9) rfl ?_); refine Kd.R_lit k47 _ 47 ?hg (N := 9) ?hd (xs := ([(⟨t198, t199, t200⟩ : S47), (⟨t201, t202, t203⟩ : S47)] : List (S47))) (inner := [.int .i64 t198, .string t199, .int .i64 t200, .int .i64 t201, .string t202, .int .i64 t203]) (ok := fun _ => True) (okp := fun _ => True) ?hr ?hp (fun _ hk => hk) trivial (Below.refl _ _) (Nat.le_refl _) (by simp) ?_; (case hd => rfl); (case hg => rfl); (case hr => first | (go_simp; done) | (go_simp; rfl)); (case hp => exact (Reps.c3 (show Kd.M k47 _ _ _ (⟨t198, t199, t200⟩ : S47) [.int .i64 t198, .string t199, .int .i64 t200] from (k47_mkM _ _ _ (⟨t198, t199, t200⟩ : S47) )) (Reps.c3 (show Kd.M k47 _ _ _ (⟨t201, t202, t203⟩ : S47) [.int .i64 t201, .string t202, .int .i64 t203] from (k47_mkM _ _ _ (⟨t201, t202, t203⟩ : S47) )) (Reps.none _ _)))); intro v205 w8 ho9 hb hg_ hnew_; clear hg_ hnew_; (first | rw [← Ny204.out] at ho9 | (simp only [Int.reduceToNat] at ho9; rw [← Ny204.out] at ho9)); have n0_ := Aside0.mk (Kd.R_lower ho9 (below_size (by repeat (first | (with_reducible first | exact HB.out | apply bAl | apply pwDN | apply bD1 | refine bSt ?_ GE197.out) | exact HB.out)))); have n1_ := Aside0.mk (blk_below (g := gb197) (o := .cells #[.int .i64 0, .string (⟨#[]⟩ : ByteArray), .int .i64 0, .slice none 0 0, .slice none 0 0, .slice none 0 0] 26 (0, 0)) (by (with_reducible repeat (first | refine blk_drewN ?_ _ | refine blk_drew ?_ | refine blk_alloc ?_ _)); exact BK197.out) hb); have n2_ := Aside0.mk (below_step (by repeat (first | (with_reducible first | exact HB.out | apply bAl | apply pwDN | apply bD1 | refine bSt ?_ GE197.out) | exact HB.out)) hb); clear BK197; clear HB; have HO206 := n0_; have BK197 := n1_; have HB := n2_; clear n0_ n1_ n2_; clear hb ho9; obtain ⟨Ao10, co10, eo10⟩ := Kd.R_slice HO206.out; subst eo10; have hcz11_0 : w8.cell? ⟨gb197, 0, none⟩ = some (.int .i64 0) := (bCl BK197.out 0).trans rfl; have hcz11_1 : w8.cell? ⟨gb197, 1, none⟩ = some (.string (⟨#[]⟩ : ByteArray)) := (bCl BK197.out 1).trans rfl; have hcz11_2 : w8.cell? ⟨gb197, 2, none⟩ = some (.int .i64 0) := (bCl BK197.out 2).trans rfl; have hcz11_3 : w8.cell? ⟨gb197, 3, none⟩ = some (.slice none 0 0) := (bCl BK197.out 3).trans rfl; have hcz11_4 : w8.cell? ⟨gb197, 4, none⟩ = some (.slice none 0 0) := (bCl BK197.out 4).trans rfl; have hcz11_5 : w8.cell? ⟨gb197, 5, none⟩ = some (.slice none 0 0) := (bCl BK197.out 5).trans rfl; have hfz11_0 := bFz BK197.out 0; have hfz11_1 := bFz BK197.out 1; have hfz11_2 := bFz BK197.out 2; have hfz11_3 := bFz BK197.out 3; have hfz11_4 := bFz BK197.out 4; have hfz11_5 := bFz BK197.out 5))
 refine bodyPost_ret (results_cell_row rfl _ _ gb197 26 #[.int .i64 3, .string (⟨#[]⟩ : ByteArray), .int .i64 0, .slice Ao10 y204.length co10, .slice none 0 0, .slice none 0 0] (0, 0) _ rfl (by (with_reducible repeat (first | refine blk_drewN ?_ _ | refine blk_drew ?_ | refine blk_alloc ?_ _)); refine blk_put (cs := #[.int .i64 3, .string (⟨#[]⟩ : ByteArray), .int .i64 0, .slice Ao10 y204.length co10, .slice none 0 0, .slice none 0 0]) ?_ 5 _ rfl; (with_reducible repeat (first | refine blk_drewN ?_ _ | refine blk_drew ?_ | refine blk_alloc ?_ _)); refine blk_put (cs := #[.int .i64 3, .string (⟨#[]⟩ : ByteArray), .int .i64 0, .slice Ao10 y204.length co10, .slice none 0 0, .slice none 0 0]) ?_ 4 _ rfl; (with_reducible repeat (first | refine blk_drewN ?_ _ | refine blk_drew ?_ | refine blk_alloc ?_ _)); refine blk_put (cs := #[.int .i64 3, .string (⟨#[]⟩ : ByteArray), .int .i64 0, .slice none 0 0, .slice none 0 0, .slice none 0 0]) ?_ 3 _ rfl; (with_reducible repeat (first | refine blk_drewN ?_ _ | refine blk_drew ?_ | refine blk_alloc ?_ _)); refine blk_put (cs := #[.int .i64 3, .string (⟨#[]⟩ : ByteArray), .int .i64 0, .slice none 0 0, .slice none 0 0, .slice none 0 0]) ?_ 2 _ rfl; (with_reducible repeat (first | refine blk_drewN ?_ _ | refine blk_drew ?_ | refine blk_alloc ?_ _)); refine blk_put (cs := #[.int .i64 3, .string (⟨#[]⟩ : ByteArray), .int .i64 0, .slice none 0 0, .slice none 0 0, .slice none 0 0]) ?_ 1 _ rfl; (with_reducible repeat (first | refine blk_drewN ?_ _ | refine blk_drew ?_ | refine blk_alloc ?_ _)); refine blk_put (cs := #[.int .i64 0, .string (⟨#[]⟩ : ByteArray), .int .i64 0, .slice none 0 0, .slice none 0 0, .slice none 0 0]) ?_ 0 _ rfl; (with_reducible repeat (first | refine blk_drewN ?_ _ | refine blk_drew ?_ | refine blk_alloc ?_ _)); exact BK197.out) Tryd.underlying26 rfl (by kernel_rfl)) rfl ?_
 exact ⟨_, _, _, by first | rfl | (simp [errW_none, errW_some] <;> rfl) | (simp [*, errW_none, errW_some] <;> rfl), by (with_reducible repeat (first | apply Kd.R_alloc | apply Kd.R_drewN | apply Kd.R_drew)); exact Kd.R_mono (Kd.R_far (p := ⟨gb197, 5, none⟩) (Kd.R_far (p := ⟨gb197, 4, none⟩) (Kd.R_far (p := ⟨gb197, 3, none⟩) (Kd.R_far (p := ⟨gb197, 2, none⟩) (Kd.R_far (p := ⟨gb197, 1, none⟩) (Kd.R_far (p := ⟨gb197, 0, none⟩) (Kd.R_types HO206.out BK197.out (by decide)) (fun _ hk => hk.2) (.int .i64 3)) (fun _ hk => hk.2) (.string (⟨#[]⟩ : ByteArray))) (fun _ hk => hk.2) (.int .i64 0)) (fun _ hk => hk.2) (.slice Ao10 y204.length co10)) (fun _ hk => hk.2) (.slice none 0 0)) (fun _ hk => hk.2) (.slice none 0 0)) (fun _ hk => trivial), by first | exact Kd.R_nil _ _ _ _ _ | exact Kd.N_nil _ _ _ _ _ | exact Kd.V_nil _ _ _ _ _ | exact Kd.Q_nil _ _ _ _ _ | exact Kd.S_nil _ _ _ _ _, by first | exact Kd.R_nil _ _ _ _ _ | exact Kd.N_nil _ _ _ _ _ | exact Kd.V_nil _ _ _ _ _ | exact Kd.Q_nil _ _ _ _ _ | exact Kd.S_nil _ _ _ _ _, by repeat (first | (with_reducible first | exact HB.out | apply bAl | apply pwDN | apply bD1 | refine bSt ?_ GE197.out) | exact HB.out)⟩
def lw8cmp.f (a0 : Int) (a1 : ByteArray) (a2 : ByteArray) (a3 : Int) : Option (Int × ByteArray × Int × (List (S47)) × (List (S42)) × (List (S26))) := some (9, a2, 0, (([(⟨a0, a1, 0⟩ : S47), (⟨1, (⟨#[]⟩ : ByteArray), a3⟩ : S47)] : List (S47))), ([] : List (S42)), ([] : List (S26)))
set_option maxHeartbeats 8000000 in
set_option maxRecDepth 100000 in
theorem lw8cmp.calls (a0 : Int) (a1 : ByteArray) (a2 : ByteArray) (a3 : Int) (r1 : Int) (r2 : ByteArray) (r3 : Int) (r4 : List (S47)) (r5 : List (S42)) (r6 : List (S26)) (w : World) (h : lw8cmp.f a0 a1 a2 a3 = some (r1, r2, r3, r4, r5, r6)) :
   Calls Tryd.prog 63 #[.int .i64 a0, .string a1, .string a2, .int .i64 a3] w fun e w' => ∃ v3_ v4_ v5_ : Value, e = .returned (.agg #[.int .i64 r1, .string r2, .int .i64 r3, v3_, v4_, v5_]) ∧ Kd.R k47 47 w' w.heap.size (fun _ => True) v3_ r4 ∧ Kd.R k42 42 w' w.heap.size (fun _ => True) v4_ r5 ∧ Kd.R k26 26 w' w.heap.size (fun k_ => some k_ ≠ (v3_ : Value).ownBlock ∧ some k_ ≠ (v4_ : Value).ownBlock) v5_ r6 ∧ Below w.heap.size w w' := by
 have hu26 := Tryd.underlying26
 have hu47 := Tryd.underlying47
 have HB := Aside0.mk (Below.refl w.heap.size w)
 have H : (some (9, a2, 0, (([(⟨a0, a1, 0⟩ : S47), (⟨1, (⟨#[]⟩ : ByteArray), a3⟩ : S47)] : List (S47))), ([] : List (S42)), ([] : List (S26)))) = some (r1, r2, r3, r4, r5, r6) := h
 clear h
 obtain ⟨y208, hy208⟩ : ∃ y_ : List (S47), y_ = (([(⟨a0, a1, 0⟩ : S47), (⟨1, (⟨#[]⟩ : ByteArray), a3⟩ : S47)] : List (S47))) := ⟨_, rfl⟩
 replace H : (some (9, a2, 0, y208, ([] : List (S42)), ([] : List (S26)))) = some (r1, r2, r3, r4, r5, r6) := by first | (rw [hy208]; with_reducible exact H) | (have H2_ := (Option.bind_some _ _).symm.trans H; rw [hy208]; with_reducible exact H2_) | (have H2_ := (Option.bind_some _ _).symm.trans H; with_reducible exact H2_) | with_reducible exact H | (rw [hy208]; exact H) | exact H
 have Ny208 := Aside0.mk hy208
 clear hy208
 simp only [Option.some.injEq, Prod.mk.injEq] at H
 obtain ⟨rfl, rfl, rfl, rfl, rfl, rfl⟩ := H
 go_enter Tryd.func63, Tryd.ntmps63
 go_wp2_with (first | ((with_reducible refine gate_dst (N := 8) rfl ?_); refine box_event ?hg (N := 8) ?hd (cs := #[.int .i64 0, .string (⟨#[]⟩ : ByteArray), .int .i64 0, .slice none 0 0, .slice none 0 0, .slice none 0 0]) (t := 26) ?hr ?_; (case hd => rfl); (case hg => rfl); (case hr => first | (go_simp; done) | (go_simp; rfl)); intro gb207 hg w5 hbox hb; have n0_ := Aside0.mk (below_step (by repeat (first | (with_reducible first | exact HB.out | apply bAl | apply pwDN | apply bD1) | exact HB.out)) hb); have n1_ := Aside0.mk (hbox); have n2_ := Aside0.mk ((by rw [hg]; exact (below_size (by repeat (first | (with_reducible first | exact HB.out | apply bAl | apply pwDN | apply bD1) | exact HB.out))) : w.heap.size ≤ gb207)); have n3_ := Aside0.mk ((by rw [hg]; exact (below_size (by repeat (first | (with_reducible first | exact HB.out | apply bAl | apply pwDN | apply bD1) | exact HB.out))) : w.heap.size ≤ gb207)); clear HB; have HB := n0_; have BK207 := n1_; have GW207 := n2_; have GE207 := n3_; clear n0_ n1_ n2_ n3_; clear hb hbox hg) | ((with_reducible refine gate_dst (N := 15) rfl ?_); refine Kd.R_lit k47 _ 47 ?hg (N := 15) ?hd (xs := ([(⟨a0, a1, 0⟩ : S47), (⟨1, (⟨#[]⟩ : ByteArray), a3⟩ : S47)] : List (S47))) (inner := [.int .i64 a0, .string a1, .int .i64 0, .int .i64 1, .string (⟨#[]⟩ : ByteArray), .int .i64 a3]) (ok := fun _ => True) (okp := fun _ => True) ?hr ?hp (fun _ hk => hk) trivial (Below.refl _ _) (Nat.le_refl _) (by simp) ?_; (case hd => rfl); (case hg => rfl); (case hr => first | (go_simp; done) | (go_simp; rfl)); (case hp => exact (Reps.c3 (show Kd.M k47 _ _ _ (⟨a0, a1, 0⟩ : S47) [.int .i64 a0, .string a1, .int .i64 0] from (k47_mkM _ _ _ (⟨a0, a1, 0⟩ : S47) )) (Reps.c3 (show Kd.M k47 _ _ _ (⟨1, (⟨#[]⟩ : ByteArray), a3⟩ : S47) [.int .i64 1, .string (⟨#[]⟩ : ByteArray), .int .i64 a3] from (k47_mkM _ _ _ (⟨1, (⟨#[]⟩ : ByteArray), a3⟩ : S47) )) (Reps.none _ _)))); intro v209 w6 ho7 hb hg_ hnew_; clear hg_ hnew_; (first | rw [← Ny208.out] at ho7 | (simp only [Int.reduceToNat] at ho7; rw [← Ny208.out] at ho7)); have n0_ := Aside0.mk (Kd.R_lower ho7 (below_size (by repeat (first | (with_reducible first | exact HB.out | apply bAl | apply pwDN | apply bD1 | refine bSt ?_ GE207.out) | exact HB.out)))); have n1_ := Aside0.mk (blk_below (g := gb207) (o := .cells #[.int .i64 0, .string (⟨#[]⟩ : ByteArray), .int .i64 0, .slice none 0 0, .slice none 0 0, .slice none 0 0] 26 (0, 0)) (by (with_reducible repeat (first | refine blk_drewN ?_ _ | refine blk_drew ?_ | refine blk_alloc ?_ _)); exact BK207.out) hb); have n2_ := Aside0.mk (below_step (by repeat (first | (with_reducible first | exact HB.out | apply bAl | apply pwDN | apply bD1 | refine bSt ?_ GE207.out) | exact HB.out)) hb); clear BK207; clear HB; have HO210 := n0_; have BK207 := n1_; have HB := n2_; clear n0_ n1_ n2_; clear hb ho7; obtain ⟨Ao8, co8, eo8⟩ := Kd.R_slice HO210.out; subst eo8; have hcz9_0 : w6.cell? ⟨gb207, 0, none⟩ = some (.int .i64 0) := (bCl BK207.out 0).trans rfl; have hcz9_1 : w6.cell? ⟨gb207, 1, none⟩ = some (.string (⟨#[]⟩ : ByteArray)) := (bCl BK207.out 1).trans rfl; have hcz9_2 : w6.cell? ⟨gb207, 2, none⟩ = some (.int .i64 0) := (bCl BK207.out 2).trans rfl; have hcz9_3 : w6.cell? ⟨gb207, 3, none⟩ = some (.slice none 0 0) := (bCl BK207.out 3).trans rfl; have hcz9_4 : w6.cell? ⟨gb207, 4, none⟩ = some (.slice none 0 0) := (bCl BK207.out 4).trans rfl; have hcz9_5 : w6.cell? ⟨gb207, 5, none⟩ = some (.slice none 0 0) := (bCl BK207.out 5).trans rfl; have hfz9_0 := bFz BK207.out 0; have hfz9_1 := bFz BK207.out 1; have hfz9_2 := bFz BK207.out 2; have hfz9_3 := bFz BK207.out 3; have hfz9_4 := bFz BK207.out 4; have hfz9_5 := bFz BK207.out 5))
 refine bodyPost_ret (results_cell_row rfl _ _ gb207 26 #[.int .i64 9, .string a2, .int .i64 0, .slice Ao8 y208.length co8, .slice none 0 0, .slice none 0 0] (0, 0) _ rfl (by (with_reducible repeat (first | refine blk_drewN ?_ _ | refine blk_drew ?_ | refine blk_alloc ?_ _)); refine blk_put (cs := #[.int .i64 9, .string a2, .int .i64 0, .slice Ao8 y208.length co8, .slice none 0 0, .slice none 0 0]) ?_ 5 _ rfl; (with_reducible repeat (first | refine blk_drewN ?_ _ | refine blk_drew ?_ | refine blk_alloc ?_ _)); refine blk_put (cs := #[.int .i64 9, .string a2, .int .i64 0, .slice Ao8 y208.length co8, .slice none 0 0, .slice none 0 0]) ?_ 4 _ rfl; (with_reducible repeat (first | refine blk_drewN ?_ _ | refine blk_drew ?_ | refine blk_alloc ?_ _)); refine blk_put (cs := #[.int .i64 9, .string a2, .int .i64 0, .slice none 0 0, .slice none 0 0, .slice none 0 0]) ?_ 3 _ rfl; (with_reducible repeat (first | refine blk_drewN ?_ _ | refine blk_drew ?_ | refine blk_alloc ?_ _)); refine blk_put (cs := #[.int .i64 9, .string a2, .int .i64 0, .slice none 0 0, .slice none 0 0, .slice none 0 0]) ?_ 2 _ rfl; (with_reducible repeat (first | refine blk_drewN ?_ _ | refine blk_drew ?_ | refine blk_alloc ?_ _)); refine blk_put (cs := #[.int .i64 9, .string (⟨#[]⟩ : ByteArray), .int .i64 0, .slice none 0 0, .slice none 0 0, .slice none 0 0]) ?_ 1 _ rfl; (with_reducible repeat (first | refine blk_drewN ?_ _ | refine blk_drew ?_ | refine blk_alloc ?_ _)); refine blk_put (cs := #[.int .i64 0, .string (⟨#[]⟩ : ByteArray), .int .i64 0, .slice none 0 0, .slice none 0 0, .slice none 0 0]) ?_ 0 _ rfl; (with_reducible repeat (first | refine blk_drewN ?_ _ | refine blk_drew ?_ | refine blk_alloc ?_ _)); exact BK207.out) Tryd.underlying26 rfl (by kernel_rfl)) rfl ?_
 exact ⟨_, _, _, by first | rfl | (simp [errW_none, errW_some] <;> rfl) | (simp [*, errW_none, errW_some] <;> rfl), by (with_reducible repeat (first | apply Kd.R_alloc | apply Kd.R_drewN | apply Kd.R_drew)); exact Kd.R_mono (Kd.R_far (p := ⟨gb207, 5, none⟩) (Kd.R_far (p := ⟨gb207, 4, none⟩) (Kd.R_far (p := ⟨gb207, 3, none⟩) (Kd.R_far (p := ⟨gb207, 2, none⟩) (Kd.R_far (p := ⟨gb207, 1, none⟩) (Kd.R_far (p := ⟨gb207, 0, none⟩) (Kd.R_types HO210.out BK207.out (by decide)) (fun _ hk => hk.2) (.int .i64 9)) (fun _ hk => hk.2) (.string a2)) (fun _ hk => hk.2) (.int .i64 0)) (fun _ hk => hk.2) (.slice Ao8 y208.length co8)) (fun _ hk => hk.2) (.slice none 0 0)) (fun _ hk => hk.2) (.slice none 0 0)) (fun _ hk => trivial), by first | exact Kd.R_nil _ _ _ _ _ | exact Kd.N_nil _ _ _ _ _ | exact Kd.V_nil _ _ _ _ _ | exact Kd.Q_nil _ _ _ _ _ | exact Kd.S_nil _ _ _ _ _, by first | exact Kd.R_nil _ _ _ _ _ | exact Kd.N_nil _ _ _ _ _ | exact Kd.V_nil _ _ _ _ _ | exact Kd.Q_nil _ _ _ _ _ | exact Kd.S_nil _ _ _ _ _, by repeat (first | (with_reducible first | exact HB.out | apply bAl | apply pwDN | apply bD1 | refine bSt ?_ GE207.out) | exact HB.out)⟩
end Go.Proofs.YtmlcaecknocpoaaDoor.Pr
namespace Go.Proofs.YtmlcaecknocpoaaDoor.It
set_option linter.unusedVariables false
set_option linter.unusedSimpArgs false
open Go Go.RowKit Go.Shelf Go.Proofs.YtmlcaecknocpoaaDoorW.PrintWords Go.Proofs.YtmlcaecknocpoaaDoorW.PrintLast Go.Proofs.YtmlcaecknocpoaaDoor.Pr Go.Proofs.YtmlcaecknocpoaaDoor.Sp
attribute [local go_sem ↓] Go.wp_at_zero Go.wp_at_succ
def gAt (a b : ByteArray) : S26 := ⟨3, e0, 0, [⟨2, a, 0⟩, ⟨2, b, 0⟩], [], []⟩
def gCmp (k : Int) (a op : ByteArray) (n : Int) : S26 := ⟨9, op, 0, [⟨k, a, 0⟩, ⟨1, e0, n⟩], [], []⟩
theorem rowC {α : Type} {d : Kd α} {e : Nat} {w : World} {base : Nat} {ok : Nat → Prop} {v : Value} {xs : List α} (h : d.R e w base ok v xs) : ∃ A c, v = .slice A xs.length c ∧ xs.length ≤ c ∧ d.C w A xs.length xs := by
 obtain ⟨A, c, rfl⟩ := Kd.R_slice h
 exact ⟨A, c, rfl, (Kd.R_reads' h).2.1, (Kd.R_reads' h).2.2⟩
theorem gAt_calls (a b : ByteArray) (w : World) : Calls Tryd.prog 62 #[.string a, .string b] w fun e w' => ∃ A3 c3 A4 c4 A5 c5, e = .returned (.agg #[.int .i64 3, .string ⟨#[]⟩, .int .i64 0, .slice A3 2 c3, .slice A4 0 c4, .slice A5 0 c5]) ∧ Below w.heap.size w w' ∧ At w' (gAt a b) A3 c3 A4 c4 A5 c5 :=
 (lw8at.calls a b 3 ⟨#[]⟩ 0 [⟨2, a, 0⟩, ⟨2, b, 0⟩] [] [] w rfl).mono fun e w' ⟨v3, v4, v5, he, h3, h4, h5, hb⟩ => by
   obtain ⟨A3, c3, rfl, l3, g3⟩ := rowC h3
   obtain ⟨A4, c4, rfl, l4, g4⟩ := rowC h4
   obtain ⟨A5, c5, rfl, l5, g5⟩ := rowC h5
   exact ⟨A3, c3, A4, c4, A5, c5, he, hb, l3, g3, l4, g4, l5, g5⟩
theorem R_set {α : Type} {d : Kd α} {e base : Nat} {w : World} {v : Value} {xs : List α} (h : d.R e w base (fun _ => True) v xs) {B : Nat} (hB : B < base) (j : Nat) (u : Value) : d.R e (w.setCell ⟨B, j, none⟩ u) base (fun _ => True) v xs :=
 Kd.R_mono (Kd.R_far (Kd.R_bound h) (p := ⟨B, j, none⟩) (fun k hk e => by have := hk.2.1; simp only at e; omega) u) (fun _ _ => trivial)
theorem gAtR_calls (a b : ByteArray) (w : World) : Calls Tryd.prog 62 #[.string a, .string b] w fun e w' => ∃ A3 c3 A4 c4 A5 c5, e = .returned (.agg #[.int .i64 3, .string ⟨#[]⟩, .int .i64 0, .slice A3 2 c3, .slice A4 0 c4, .slice A5 0 c5]) ∧ Below w.heap.size w w' ∧ k47.R 47 w' w.heap.size (fun _ => True) (.slice A3 2 c3) [⟨2, a, 0⟩, ⟨2, b, 0⟩] :=
 (lw8at.calls a b 3 ⟨#[]⟩ 0 [⟨2, a, 0⟩, ⟨2, b, 0⟩] [] [] w rfl).mono fun e w' ⟨v3, v4, v5, he, h3, h4, h5, hb⟩ => by
   obtain ⟨A3, c3, rfl, l3, g3⟩ := rowC h3
   obtain ⟨A4, c4, rfl, l4, g4⟩ := rowC h4
   obtain ⟨A5, c5, rfl, l5, g5⟩ := rowC h5
   exact ⟨A3, c3, A4, c4, A5, c5, he, hb, Kd.R_mono h3 (fun _ _ => trivial)⟩
theorem gAt_of {w : World} {base : Nat} {A3 : Option Addr} {c3 : Nat} {a b : ByteArray} (A4 : Option Addr) (c4 : Nat) (A5 : Option Addr) (c5 : Nat) (h : k47.R 47 w base (fun _ => True) (.slice A3 2 c3) [⟨2, a, 0⟩, ⟨2, b, 0⟩]) : At w (gAt a b) A3 c3 A4 c4 A5 c5 := by
 obtain ⟨A, c, e, hl, hC⟩ := rowC h
 injection e with e1 e2 e3
 subst e1 e3
 exact ⟨hl, hC, Nat.zero_le _, ⟨rfl, Nat.zero_le _, fun h => absurd h (Nat.lt_irrefl 0)⟩, Nat.zero_le _, ⟨rfl, Nat.zero_le _, fun h => absurd h (Nat.lt_irrefl 0)⟩⟩
theorem gCmp_calls (k : Int) (a op : ByteArray) (n : Int) (w : World) : Calls Tryd.prog 63 #[.int .i64 k, .string a, .string op, .int .i64 n] w fun e w' => ∃ A3 c3 A4 c4 A5 c5, e = .returned (.agg #[.int .i64 9, .string op, .int .i64 0, .slice A3 2 c3, .slice A4 0 c4, .slice A5 0 c5]) ∧ Below w.heap.size w w' ∧ At w' (gCmp k a op n) A3 c3 A4 c4 A5 c5 :=
 (lw8cmp.calls k a op n 9 op 0 [⟨k, a, 0⟩, ⟨1, ⟨#[]⟩, n⟩] [] [] w rfl).mono fun e w' ⟨v3, v4, v5, he, h3, h4, h5, hb⟩ => by
   obtain ⟨A3, c3, rfl, l3, g3⟩ := rowC h3
   obtain ⟨A4, c4, rfl, l4, g4⟩ := rowC h4
   obtain ⟨A5, c5, rfl, l5, g5⟩ := rowC h5
   exact ⟨A3, c3, A4, c4, A5, c5, he, hb, l3, g3, l4, g4, l5, g5⟩
def sT : ByteArray := ⟨#[116]⟩
def gEnv : List S42 := [⟨sL, 1⟩, ⟨sS, 2⟩]
def gAll : S26 := ⟨14, e0, 0, [], [⟨sS, 2⟩], [gAt sL sS]⟩
def gRule : S54 := ⟨sR, true, 0, [⟨sL, 1⟩], gAll⟩
theorem g_term : typT gEnv ⟨3, sS, 0⟩ = (6, 0) := by decide +kernel
theorem g_ls : typ gEnv (gAt sL sS) = 0 := by decide +kernel
theorem g_sl : typ gEnv (gAt sS sL) = 80 := by decide +kernel
theorem g_lt : typ gEnv (gAt sL sT) = 81 := by decide +kernel
theorem g_day : typ gEnv (gCmp 3 sS ⟨#[61]⟩ 1) = 80 := by decide +kernel
theorem g_hour : typ gEnv (gCmp 4 sS ⟨#[60]⟩ 3) = 0 := by decide +kernel
theorem g_all : typ gEnv gAll = 82 := by decide +kernel
theorem g_one : typ [⟨sL, 1⟩] gAll = 0 := by decide +kernel
theorem g_rule : rule gRule = 0 := by decide +kernel
theorem g_rules : rules [gRule, gRule] = (1, 82) := by decide +kernel
theorem g_zero : rule z54 = 1 := by decide +kernel
theorem row_binds2 {w : World} {B : Nat} {t u : S42} (hB : w.heap[B]? = some (.cells #[.string t.f0, .int .i64 t.f1, .string u.f0, .int .i64 u.f1] 42 (0, 0))) : Kd.C k42 w (some ⟨B, 0, none⟩) 2 [t, u] ∧ Kd.C k42 w (some ⟨B, 2, none⟩) 1 [u] ∧ Kd.C k42 w (some ⟨B, 0, none⟩) 1 [t] := by
 have hn := World.news_of_block hB
 refine ⟨⟨rfl, by omega, fun _ => ⟨⟨B, 0, none⟩, rfl, fun j p hj => ?_⟩⟩, ⟨rfl, by omega, fun _ => ⟨⟨B, 2, none⟩, rfl, fun j p hj => ?_⟩⟩, ⟨rfl, by omega, fun _ => ⟨⟨B, 0, none⟩, rfl, fun j p hj => ?_⟩⟩⟩
 · match j, hj with
   | 0, hj =>
     obtain rfl : t = p := by simpa using hj
     refine ⟨_, rfl, k42_mk w t, fun i v hv => ?_⟩
     rw [Nat.zero_mul, Nat.zero_add]
     refine hn i v ?_
     match i, hv with
     | 0, hv => exact hv
     | 1, hv => exact hv
     | i + 2, hv => simp at hv
   | 1, hj =>
     obtain rfl : u = p := by simpa using hj
     refine ⟨_, rfl, k42_mk w u, fun i v hv => ?_⟩
     refine hn (1 * 2 + i) v ?_
     match i, hv with
     | 0, hv => exact hv
     | 1, hv => exact hv
     | i + 2, hv => simp at hv
   | j + 2, hj => simp at hj
 · match j, hj with
   | 0, hj =>
     obtain rfl : u = p := by simpa using hj
     refine ⟨_, rfl, k42_mk w u, fun i v hv => ?_⟩
     rw [Nat.zero_mul, Nat.zero_add]
     have : w.cell? ((⟨B, 0, none⟩ : Addr).add (2 + i)) = some v := by
       refine hn (2 + i) v ?_
       match i, hv with
       | 0, hv => exact hv
       | 1, hv => exact hv
       | i + 2, hv => simp at hv
     cases i <;> simpa [Addr.add] using this
   | j + 1, hj => simp at hj
 · match j, hj with
   | 0, hj =>
     obtain rfl : t = p := by simpa using hj
     refine ⟨_, rfl, k42_mk w t, fun i v hv => ?_⟩
     rw [Nat.zero_mul, Nat.zero_add]
     refine hn i v ?_
     match i, hv with
     | 0, hv => exact hv
     | 1, hv => exact hv
     | i + 2, hv => simp at hv
   | j + 1, hj => simp at hj
theorem all_box {wx : World} {B G E : Nat} {A3 : Option Addr} {c3 : Nat} {A4 : Option Addr} {c4 : Nat} {A5 : Option Addr} {c5 : Nat} (hB : wx.heap[B]? = some (.cells #[.int .i64 14, .string ⟨#[]⟩, .int .i64 0, .slice none 0 0, .slice (some ⟨E, 2, none⟩) 1 1, .slice (some ⟨G, 0, none⟩) 1 1] 26 (0, 0)))
   (hG : wx.heap[G]? = some (.cells #[.int .i64 3, .string ⟨#[]⟩, .int .i64 0, .slice A3 2 c3, .slice A4 0 c4, .slice A5 0 c5] 26 (0, 0))) (hE : wx.heap[E]? = some (.cells #[.string ⟨#[108]⟩, .int .i64 1, .string ⟨#[115]⟩, .int .i64 2] 42 (0, 0))) (hat : At wx (gAt sL sS) A3 c3 A4 c4 A5 c5) :
   BoxF wx B gAll none 0 (some ⟨E, 2, none⟩) 1 (some ⟨G, 0, none⟩) 1 :=
 ⟨hB, ⟨Nat.le_refl _, Kd.C_nil _ _, Nat.le_refl _, (row_binds2 (t := ⟨sL, 1⟩) (u := ⟨sS, 2⟩) hE).2.1, Nat.le_refl _, row_one (y := gAt sL sS) hG hat⟩⟩
theorem zero_box {X w1 : World} (g : Below (X.alloc (.cells #[.int .i64 0, .string ⟨#[]⟩, .int .i64 0, .slice none 0 0, .slice none 0 0, .slice none 0 0] 26)).drew.heap.size (X.alloc (.cells #[.int .i64 0, .string ⟨#[]⟩, .int .i64 0, .slice none 0 0, .slice none 0 0, .slice none 0 0] 26)).drew w1) :
   w1.heap[X.heap.size]? = some (.cells #[.int .i64 0, .string ⟨#[]⟩, .int .i64 0, .slice none 0 0, .slice none 0 0, .slice none 0 0] 26 (0, 0)) := blk_below g (heap_new X (.cells #[.int .i64 0, .string ⟨#[]⟩, .int .i64 0, .slice none 0 0, .slice none 0 0, .slice none 0 0] 26))
theorem zero_cells {W : World} {B : Nat} (h : W.heap[B]? = some (.cells #[.int .i64 0, .string ⟨#[]⟩, .int .i64 0, .slice none 0 0, .slice none 0 0, .slice none 0 0] 26 (0, 0))) :
   W.cell? ⟨B, 0, none⟩ = some (.int .i64 0) ∧ W.cell? ⟨B, 1, none⟩ = some (.string ⟨#[]⟩) ∧ W.cell? ⟨B, 2, none⟩ = some (.int .i64 0) ∧ W.cell? ⟨B, 3, none⟩ = some (.slice none 0 0) ∧ W.cell? ⟨B, 4, none⟩ = some (.slice none 0 0) ∧ W.cell? ⟨B, 5, none⟩ = some (.slice none 0 0) ∧
     W.frozen? ⟨B, 0, none⟩ = false ∧ W.frozen? ⟨B, 1, none⟩ = false ∧ W.frozen? ⟨B, 2, none⟩ = false ∧ W.frozen? ⟨B, 3, none⟩ = false ∧ W.frozen? ⟨B, 4, none⟩ = false ∧ W.frozen? ⟨B, 5, none⟩ = false :=
 ⟨(bCl h 0).trans rfl, (bCl h 1).trans rfl, (bCl h 2).trans rfl, (bCl h 3).trans rfl, (bCl h 4).trans rfl, (bCl h 5).trans rfl, bFz h 0, bFz h 1, bFz h 2, bFz h 3, bFz h 4, bFz h 5⟩
theorem gAt_deep {a b : ByteArray} (ha : a.size ≤ 9223372036854775807) (hb : b.size ≤ 9223372036854775807) : Deep (gAt a b) :=
 deep_of ⟨rfl, (by decide : e0.size ≤ 9223372036854775807), by simp [gAt]; exact ⟨ha, hb⟩, by simp [gAt], rfl, by simp [gAt]; exact ⟨rfl, rfl⟩, by simp [gAt]⟩ (fun y hy => by simp [gAt] at hy)
theorem gCmp_deep {k n : Int} {a op : ByteArray} (hk : I64 k) (hn : I64 n) (ha : a.size ≤ 9223372036854775807) (hop : op.size ≤ 9223372036854775807) : Deep (gCmp k a op n) :=
 deep_of ⟨rfl, hop, by simp [gCmp]; exact ⟨ha, by decide⟩, by simp [gCmp], rfl, by simp [gCmp]; exact ⟨⟨hk, rfl⟩, rfl, hn⟩, by simp [gCmp]⟩ (fun y hy => by simp [gCmp] at hy)
theorem gAll_deep : Deep gAll :=
 deep_of (own_bare [⟨sS, 2⟩] _ rfl rfl (by simp; decide) (by simp; exact rfl)) (fun y hy => by obtain rfl := List.mem_singleton.1 hy; exact gAt_deep (by decide) (by decide))
theorem gAt_small (a b : ByteArray) : size (gAt a b) = 1 ∧ nb (gAt a b) = 0 := by simp [gAt, size, sizes, nb, nbs]
theorem gCmp_small (k n : Int) (a op : ByteArray) : size (gCmp k a op n) = 1 ∧ nb (gCmp k a op n) = 0 := by simp [gCmp, size, sizes, nb, nbs]
theorem gAll_small : size gAll = 2 ∧ nb gAll = 1 := by decide +kernel
theorem gRule_ok : ROk gRule := ⟨by decide, rfl, by simp [gRule]; exact ⟨by decide, rfl⟩, gAll_deep, by show size gAll ≤ _; rw [gAll_small.1]; decide, by show 1 + nb gAll ≤ _; rw [gAll_small.2]; decide⟩
theorem z26_deep : Deep z26 := bare_deep (k := 0) rfl
theorem zRule_ok : ROk z54 := ⟨by decide, rfl, by simp [z54], z26_deep, by decide +kernel, by decide +kernel⟩
structure SL (w wx : World) (B : Nat) (a : Addr) : Prop where
 b : Below w.heap.size w wx
 env : wx.heap[w.heap.size]? = some (.cells #[.string ⟨#[108]⟩, .int .i64 1, .string ⟨#[115]⟩, .int .i64 2] 42 (0, 0))
 all : BoxF wx B gAll none 0 (some ⟨w.heap.size, 2, none⟩) 1 (some a) 1
section
variable {w wx : World} {B : Nat} {a : Addr}
theorem SL.below (h : SL w wx B a) {w1 : World} (g : Below wx.heap.size wx w1) : SL w w1 B a := ⟨h.b.trans (g.mono h.b.size), blk_below g h.env, h.all.below g⟩
theorem SL.drew (h : SL w wx B a) : SL w wx.drew B a := h.below (below_drew (Below.refl _ _))
theorem SL.envA (h : SL w wx B a) : EnvA wx gEnv (some ⟨w.heap.size, 0, none⟩) 2 := ⟨(row_binds2 (t := ⟨sL, 1⟩) (u := ⟨sS, 2⟩) h.env).1, by decide, by simp [gEnv]; exact ⟨⟨by decide, rfl⟩, by decide, rfl⟩⟩
theorem SL.env1 (h : SL w wx B a) : EnvA wx [⟨sL, 1⟩] (some ⟨w.heap.size, 0, none⟩) 2 := ⟨(row_binds2 (t := ⟨sL, 1⟩) (u := ⟨sS, 2⟩) h.env).2.2, by decide, by simp; exact ⟨by decide, rfl⟩⟩
theorem SL.six (h : SL w wx B a) : wx.cell? ⟨B, 0, none⟩ = some (.int .i64 14) ∧ wx.cell? ⟨B, 1, none⟩ = some (.string ⟨#[]⟩) ∧ wx.cell? ⟨B, 2, none⟩ = some (.int .i64 0) ∧ wx.cell? ⟨B, 3, none⟩ = some (.slice none 0 0) ∧ wx.cell? ⟨B, 4, none⟩ = some (.slice (some ⟨w.heap.size, 2, none⟩) 1 1) ∧ wx.cell? ⟨B, 5, none⟩ = some (.slice (some a) 1 1) := h.all.six
theorem SL.term (h : SL w wx B a) (ht : Tabs wx) (hk : Kinds wx) : Calls Tryd.prog 41 #[.slice (some ⟨w.heap.size, 0, none⟩) 2 2, .agg #[.int .i64 3, .string ⟨#[115]⟩, .int .i64 0]] wx fun e w' => e = .returned (.tuple #[.int .i64 6, .int .i64 0]) ∧ Below wx.heap.size wx w' := by
 have hh := typT_calls gEnv (some ⟨w.heap.size, 0, none⟩) 2 ⟨3, sS, 0⟩ wx h.envA ⟨by decide, rfl, rfl⟩ ht hk
 rw [g_term] at hh
 exact hh
theorem SL.atF (h : SL w wx B a) (ht : Tabs wx) (hk : Kinds wx) (x y : ByteArray) (hx : x.size ≤ 9223372036854775807) (hy : y.size ≤ 9223372036854775807) (r : Int) (hr : typ gEnv (gAt x y) = r) {A3 : Option Addr} {c3 : Nat} {A4 : Option Addr} {c4 : Nat} {A5 : Option Addr} {c5 : Nat} (hat : At wx (gAt x y) A3 c3 A4 c4 A5 c5) :
   Calls Tryd.prog 38 #[.slice (some ⟨w.heap.size, 0, none⟩) 2 2, .agg #[.int .i64 3, .string ⟨#[]⟩, .int .i64 0, .slice A3 2 c3, .slice A4 0 c4, .slice A5 0 c5]] wx fun e w' => e = .returned (.int .i64 r) ∧ Below wx.heap.size wx w' := by
 have hh := typ_calls gEnv (some ⟨w.heap.size, 0, none⟩) 2 (gAt x y) A3 c3 A4 c4 A5 c5 wx h.envA hat (by rw [(gAt_small x y).1]; decide) (gAt_deep hx hy) ht hk (by rw [(gAt_small x y).2]; decide)
 rw [hr] at hh
 exact hh
theorem SL.cmpF (h : SL w wx B a) (ht : Tabs wx) (hk : Kinds wx) (k n : Int) (x op : ByteArray) (hkk : I64 k) (hn : I64 n) (hx : x.size ≤ 9223372036854775807) (hop : op.size ≤ 9223372036854775807) (r : Int) (hr : typ gEnv (gCmp k x op n) = r) {A3 : Option Addr} {c3 : Nat} {A4 : Option Addr} {c4 : Nat} {A5 : Option Addr} {c5 : Nat} (hat : At wx (gCmp k x op n) A3 c3 A4 c4 A5 c5) :
   Calls Tryd.prog 38 #[.slice (some ⟨w.heap.size, 0, none⟩) 2 2, .agg #[.int .i64 9, .string op, .int .i64 0, .slice A3 2 c3, .slice A4 0 c4, .slice A5 0 c5]] wx fun e w' => e = .returned (.int .i64 r) ∧ Below wx.heap.size wx w' := by
 have hh := typ_calls gEnv (some ⟨w.heap.size, 0, none⟩) 2 (gCmp k x op n) A3 c3 A4 c4 A5 c5 wx h.envA hat (by rw [(gCmp_small k n x op).1]; decide) (gCmp_deep hkk hn hx hop) ht hk (by rw [(gCmp_small k n x op).2]; decide)
 rw [hr] at hh
 exact hh
theorem SL.allF (h : SL w wx B a) (ht : Tabs wx) (hk : Kinds wx) : Calls Tryd.prog 38 #[.slice (some ⟨w.heap.size, 0, none⟩) 2 2, .agg #[.int .i64 14, .string ⟨#[]⟩, .int .i64 0, .slice none 0 0, .slice (some ⟨w.heap.size, 2, none⟩) 1 1, .slice (some a) 1 1]] wx fun e w' => e = .returned (.int .i64 82) ∧ Below wx.heap.size wx w' := by
 have hh := typ_calls gEnv (some ⟨w.heap.size, 0, none⟩) 2 gAll none 0 (some ⟨w.heap.size, 2, none⟩) 1 (some a) 1 wx h.envA h.all.at_ (by rw [gAll_small.1]; decide) gAll_deep ht hk (by rw [gAll_small.2]; decide)
 rw [g_all] at hh
 exact hh
theorem SL.oneF (h : SL w wx B a) (ht : Tabs wx) (hk : Kinds wx) : Calls Tryd.prog 38 #[.slice (some ⟨w.heap.size, 0, none⟩) 1 2, .agg #[.int .i64 14, .string ⟨#[]⟩, .int .i64 0, .slice none 0 0, .slice (some ⟨w.heap.size, 2, none⟩) 1 1, .slice (some a) 1 1]] wx fun e w' => e = .returned (.int .i64 0) ∧ Below wx.heap.size wx w' := by
 have hh := typ_calls [⟨sL, 1⟩] (some ⟨w.heap.size, 0, none⟩) 2 gAll none 0 (some ⟨w.heap.size, 2, none⟩) 1 (some a) 1 wx h.env1 h.all.at_ (by rw [gAll_small.1]; decide) gAll_deep ht hk (by rw [gAll_small.2]; decide)
 rw [g_one] at hh
 exact hh
theorem SL.atR (h : SL w wx B a) : AtR wx gRule (some ⟨w.heap.size, 0, none⟩) 2 none 0 (some ⟨w.heap.size, 2, none⟩) 1 (some a) 1 := ⟨by decide, h.env1.row, h.all.at_⟩
theorem SL.ruleF (h : SL w wx B a) (ht : Tabs wx) (hk : Kinds wx) : Calls Tryd.prog 46 #[.agg #[.string ⟨#[114]⟩, .bool true, .int .i64 0, .slice (some ⟨w.heap.size, 0, none⟩) 1 2, .int .i64 14, .string ⟨#[]⟩, .int .i64 0, .slice none 0 0, .slice (some ⟨w.heap.size, 2, none⟩) 1 1, .slice (some a) 1 1]] wx fun e w' => e = .returned (.int .i64 0) ∧ Below wx.heap.size wx w' := by
 have hh := rule_calls gRule (some ⟨w.heap.size, 0, none⟩) 2 none 0 (some ⟨w.heap.size, 2, none⟩) 1 (some a) 1 wx h.atR gRule_ok ht hk
 rw [g_rule] at hh
 exact hh
theorem zero_rule (ht : Tabs wx) (hk : Kinds wx) : Calls Tryd.prog 46 #[.agg #[.string ⟨#[]⟩, .bool false, .int .i64 0, .slice none 0 0, .int .i64 0, .string ⟨#[]⟩, .int .i64 0, .slice none 0 0, .slice none 0 0, .slice none 0 0]] wx fun e w' => e = .returned (.int .i64 1) ∧ Below wx.heap.size wx w' := by
 have hh := rule_calls z54 none 0 none 0 none 0 none 0 wx ⟨Nat.le_refl _, Kd.C_nil _ _, bare_at wx 0⟩ zRule_ok ht hk
 rw [g_zero] at hh
 exact hh
theorem row_rules2 {w : World} {G : Nat} {t u : S54} {A3 : Option Addr} {c3 : Nat} {A7 : Option Addr} {c7 : Nat} {A8 : Option Addr} {c8 : Nat} {A9 : Option Addr} {c9 : Nat} {B3 : Option Addr} {d3 : Nat} {B7 : Option Addr} {d7 : Nat} {B8 : Option Addr} {d8 : Nat} {B9 : Option Addr} {d9 : Nat} (h1 : AtR w t A3 c3 A7 c7 A8 c8 A9 c9) (h2 : AtR w u B3 d3 B7 d7 B8 d8 B9 d9)
   (hB : w.heap[G]? = some (.cells #[.string t.f0, .bool t.f1, .int .i64 t.f2, .slice A3 t.f3.length c3, .int .i64 t.f4.f0, .string t.f4.f1, .int .i64 t.f4.f2, .slice A7 t.f4.f3.length c7, .slice A8 t.f4.f4.length c8, .slice A9 t.f4.f5.length c9, .string u.f0, .bool u.f1, .int .i64 u.f2, .slice B3 u.f3.length d3, .int .i64 u.f4.f0, .string u.f4.f1, .int .i64 u.f4.f2, .slice B7 u.f4.f3.length d7, .slice B8 u.f4.f4.length d8, .slice B9 u.f4.f5.length d9] 54 (0, 0))) : Kd.C k54 w (some ⟨G, 0, none⟩) 2 [t, u] := by
 have hn := World.news_of_block hB
 refine ⟨rfl, by omega, fun _ => ⟨⟨G, 0, none⟩, rfl, fun j p hj => ?_⟩⟩
 match j, hj with
 | 0, hj =>
   obtain rfl : t = p := by simpa using hj
   refine ⟨_, rfl, k54_mk w t h1.le h1.row h1.body.l3 h1.body.g3 h1.body.l4 h1.body.g4 h1.body.l5 h1.body.g5, fun i v hv => ?_⟩
   rw [Nat.zero_mul, Nat.zero_add]
   refine hn i v ?_
   match i, hv with
   | 0, hv => exact hv
   | 1, hv => exact hv
   | 2, hv => exact hv
   | 3, hv => exact hv
   | 4, hv => exact hv
   | 5, hv => exact hv
   | 6, hv => exact hv
   | 7, hv => exact hv
   | 8, hv => exact hv
   | 9, hv => exact hv
   | i + 10, hv => simp at hv
 | 1, hj =>
   obtain rfl : u = p := by simpa using hj
   refine ⟨_, rfl, k54_mk w u h2.le h2.row h2.body.l3 h2.body.g3 h2.body.l4 h2.body.g4 h2.body.l5 h2.body.g5, fun i v hv => ?_⟩
   refine hn (1 * 10 + i) v ?_
   match i, hv with
   | 0, hv => exact hv
   | 1, hv => exact hv
   | 2, hv => exact hv
   | 3, hv => exact hv
   | 4, hv => exact hv
   | 5, hv => exact hv
   | 6, hv => exact hv
   | 7, hv => exact hv
   | 8, hv => exact hv
   | 9, hv => exact hv
   | i + 10, hv => simp at hv
 | j + 2, hj => simp at hj
theorem SL.rulesF (h : SL w wx B a) (ht : Tabs wx) (hk : Kinds wx) {G : Nat} (hG : wx.heap[G]? = some (.cells #[.string ⟨#[114]⟩, .bool true, .int .i64 0, .slice (some ⟨w.heap.size, 0, none⟩) 1 2, .int .i64 14, .string ⟨#[]⟩, .int .i64 0, .slice none 0 0, .slice (some ⟨w.heap.size, 2, none⟩) 1 1, .slice (some a) 1 1, .string ⟨#[114]⟩, .bool true, .int .i64 0, .slice (some ⟨w.heap.size, 0, none⟩) 1 2, .int .i64 14, .string ⟨#[]⟩, .int .i64 0, .slice none 0 0, .slice (some ⟨w.heap.size, 2, none⟩) 1 1, .slice (some a) 1 1] 54 (0, 0))) :
   Calls Tryd.prog 44 #[.slice (some ⟨G, 0, none⟩) 2 2] wx fun e w' => e = .returned (.tuple #[.int .i64 1, .int .i64 82]) ∧ Below wx.heap.size wx w' := by
 have hh := rules_calls [gRule, gRule] (some ⟨G, 0, none⟩) 2 wx (row_rules2 (t := gRule) (u := gRule) h.atR h.atR hG) (by decide) (by simp; exact gRule_ok) ht hk
 rw [g_rules] at hh
 exact hh
end
set_option maxRecDepth 100000 in
set_option maxHeartbeats 8000000 in
theorem live8_calls (w : World) (ht : Tabs w) (hk : Kinds w) : Calls Tryd.prog 36 #[] w fun e w' => e = .returned (.bool true) ∧ Below w.heap.size w w' := by
 have hu26 := Tryd.underlying26
 have hu42 := Tryd.underlying42
 have hu47 := Tryd.underlying47
 have hu54 := Tryd.underlying54
 have hu23 := Tryd.underlying23
 have HT := Aside0.mk (And.intro ht hk)
 clear ht hk
 have HE := Aside0.mk (And.intro (heap_new w (.cells #[.string ⟨#[108]⟩, .int .i64 1, .string ⟨#[115]⟩, .int .i64 2] 42)) (up1 w (.cells #[.string ⟨#[108]⟩, .int .i64 1, .string ⟨#[115]⟩, .int .i64 2] 42)))
 go_enter Tryd.func36, Tryd.ntmps36
 go_upto_region 2 with fail
 go_cut [2] (fun s2 wx => ∃ B a, s2 = .pointer (some ⟨B, 0, none⟩) ∧ Aside0 (Below (w.alloc (.cells #[.string ⟨#[108]⟩, .int .i64 1, .string ⟨#[115]⟩, .int .i64 2] 42)).heap.size (w.alloc (.cells #[.string ⟨#[108]⟩, .int .i64 1, .string ⟨#[115]⟩, .int .i64 2] 42)) wx ∧ BoxF wx B gAll none 0 (some ⟨w.heap.size, 2, none⟩) 1 (some a) 1))
 case first =>
   go_region_with (go_at_call 62; (with_reducible refine (gAtR_calls _ _ _).mono ?_); rintro e w1 ⟨A3, c3, A4, c4, A5, c5, rfl, g, hx⟩; replace hx := Aside0.mk hx; (try (have hz := zero_box g; rw [show (w.alloc (.cells #[.string ⟨#[108]⟩, .int .i64 1, .string ⟨#[115]⟩, .int .i64 2] 42)).heap.size = w.heap.size + 1 by simp] at hz; have hz2 := Aside0.mk hz; obtain ⟨z0, z1, z2, z3, z4, z5, f0, f1, f2, f3, f4, f5⟩ := zero_cells (blk_below (up1 w1 (.cells #[.int .i64 3, .string ⟨#[]⟩, .int .i64 0, .slice A3 2 c3, .slice A4 0 c4, .slice A5 0 c5] 26)) hz); clear hz)); replace g := Aside0.mk g)
   · go_wp2_with fail
     go_meet
     have g0 : Below (w.alloc (.cells #[.string ⟨#[108]⟩, .int .i64 1, .string ⟨#[115]⟩, .int .i64 2] 42)).heap.size (w.alloc (.cells #[.string ⟨#[108]⟩, .int .i64 1, .string ⟨#[115]⟩, .int .i64 2] 42)) w1 := (below_drew (Below.refl _ _)).trans g.out
     have g1 := up2 w1 (.cells #[.int .i64 3, .string ⟨#[]⟩, .int .i64 0, .slice A3 2 c3, .slice A4 0 c4, .slice A5 0 c5] 26) (.cells #[.int .i64 14, .string ⟨#[]⟩, .int .i64 0, .slice none 0 0, .slice (some ⟨w.heap.size, 2, none⟩) 1 1, .slice (some ⟨w1.heap.size, 0, none⟩) 1 1] 26)
     have g2 := g0.trans (g1.mono g0.size)
     exact ⟨w1.heap.size + 1, ⟨w1.heap.size, 0, none⟩, rfl, ⟨g2, all_box (heap_new2b w1 _ _) (heap_new2a w1 _ _) (blk_below g2 HE.out.1) ((gAt_of A4 c4 A5 c5 hx.out).below g1)⟩⟩
   · go_wp2_with fail
     go_meet
     have g0 : Below (w.alloc (.cells #[.string ⟨#[108]⟩, .int .i64 1, .string ⟨#[115]⟩, .int .i64 2] 42)).heap.size (w.alloc (.cells #[.string ⟨#[108]⟩, .int .i64 1, .string ⟨#[115]⟩, .int .i64 2] 42)) w1 := (below_drew (Below.refl _ _)).trans g.out
     have g1 := up2 w1 (.cells #[.int .i64 14, .string ⟨#[]⟩, .int .i64 0, .slice none 0 0, .slice (some ⟨w.heap.size, 2, none⟩) 1 1, .slice (some ⟨w1.heap.size + 1, 0, none⟩) 1 1] 26) (.cells #[.int .i64 3, .string ⟨#[]⟩, .int .i64 0, .slice A3 2 c3, .slice A4 0 c4, .slice A5 0 c5] 26)
     have g2 := g0.trans (g1.mono g0.size)
     exact ⟨w1.heap.size, ⟨w1.heap.size + 1, 0, none⟩, rfl, ⟨g2, all_box (heap_new2a w1 _ _) (heap_new2b w1 _ _) (blk_below g2 HE.out.1) ((gAt_of A4 c4 A5 c5 hx.out).below g1)⟩⟩
   · go_wp2_with fail
     go_meet
     have g0 : Below ((w.alloc (.cells #[.string ⟨#[108]⟩, .int .i64 1, .string ⟨#[115]⟩, .int .i64 2] 42)).alloc (.cells #[.int .i64 0, .string ⟨#[]⟩, .int .i64 0, .slice none 0 0, .slice none 0 0, .slice none 0 0] 26)).heap.size ((w.alloc (.cells #[.string ⟨#[108]⟩, .int .i64 1, .string ⟨#[115]⟩, .int .i64 2] 42)).alloc (.cells #[.int .i64 0, .string ⟨#[]⟩, .int .i64 0, .slice none 0 0, .slice none 0 0, .slice none 0 0] 26)) w1 := (below_drew (Below.refl _ _)).trans g.out
     have hs1 := (Array.getElem?_eq_some_iff.1 hz2.out).1
     have k0 := (blk_below (up1 w1 (.cells #[.int .i64 3, .string ⟨#[]⟩, .int .i64 0, .slice A3 2 c3, .slice A4 0 c4, .slice A5 0 c5] 26)) hz2.out)
     have kG := heap_new w1 (.cells #[.int .i64 3, .string ⟨#[]⟩, .int .i64 0, .slice A3 2 c3, .slice A4 0 c4, .slice A5 0 c5] 26)
     have kE := blk_below (up1 w1 (.cells #[.int .i64 3, .string ⟨#[]⟩, .int .i64 0, .slice A3 2 c3, .slice A4 0 c4, .slice A5 0 c5] 26)) (blk_below ((up1 _ _).trans (g0.mono (up1 _ _).size)) HE.out.1)
     have kR := Kd.R_alloc hx.out (.cells #[.int .i64 3, .string ⟨#[]⟩, .int .i64 0, .slice A3 2 c3, .slice A4 0 c4, .slice A5 0 c5] 26)
     have bel := ((up1 (w.alloc (.cells #[.string ⟨#[108]⟩, .int .i64 1, .string ⟨#[115]⟩, .int .i64 2] 42)) (.cells #[.int .i64 0, .string ⟨#[]⟩, .int .i64 0, .slice none 0 0, .slice none 0 0, .slice none 0 0] 26)).trans (g0.mono (up1 _ _).size)).trans ((up1 w1 (.cells #[.int .i64 3, .string ⟨#[]⟩, .int .i64 0, .slice A3 2 c3, .slice A4 0 c4, .slice A5 0 c5] 26)).mono (Nat.le_trans (by simp) ((up1 _ _).trans (g0.mono (up1 _ _).size)).size))
     have hlt : w.heap.size + 1 < w1.heap.size := hs1
     have hE : w.heap.size ≠ w.heap.size + 1 := by omega
     have hsz : (w.alloc (.cells #[.string ⟨#[108]⟩, .int .i64 1, .string ⟨#[115]⟩, .int .i64 2] 42)).heap.size ≤ w.heap.size + 1 := by simp
     refine ⟨w.heap.size + 1, ⟨w1.heap.size, 0, none⟩, rfl, ⟨((((((bel.setCell (p := ⟨w.heap.size + 1, 0, none⟩) hsz _).setCell (p := ⟨w.heap.size + 1, 1, none⟩) hsz _).setCell (p := ⟨w.heap.size + 1, 2, none⟩) hsz _).setCell (p := ⟨w.heap.size + 1, 3, none⟩) hsz _).setCell (p := ⟨w.heap.size + 1, 4, none⟩) hsz _).setCell (p := ⟨w.heap.size + 1, 5, none⟩) hsz _), ?_⟩⟩
     refine all_box (blk_put (blk_put (blk_put (blk_put (blk_put (blk_put k0 0 _ rfl) 1 _ rfl) 2 _ rfl) 3 _ rfl) 4 _ rfl) 5 _ rfl) ?_ ?_ (gAt_of A4 c4 A5 c5 (R_set (R_set (R_set (R_set (R_set (R_set kR (by simp) 0 _) (by simp) 1 _) (by simp) 2 _) (by simp) 3 _) (by simp) 4 _) (by simp) 5 _))
     · exact (Below.heap_setCell _ _ _ _ (by simp; omega)).trans ((Below.heap_setCell _ _ _ _ (by simp; omega)).trans ((Below.heap_setCell _ _ _ _ (by simp; omega)).trans ((Below.heap_setCell _ _ _ _ (by simp; omega)).trans ((Below.heap_setCell _ _ _ _ (by simp; omega)).trans ((Below.heap_setCell _ _ _ _ (by simp; omega)).trans kG)))))
     · exact (Below.heap_setCell _ _ _ _ (by simp)).trans ((Below.heap_setCell _ _ _ _ (by simp)).trans ((Below.heap_setCell _ _ _ _ (by simp)).trans ((Below.heap_setCell _ _ _ _ (by simp)).trans ((Below.heap_setCell _ _ _ _ (by simp)).trans ((Below.heap_setCell _ _ _ _ (by simp)).trans kE)))))
 case rest =>
   obtain ⟨B2, a2, rfl, h2⟩ := hcut
   have T := Aside0.mk (SL.mk (HE.out.2.trans (h2.out.1.mono HE.out.2.size)) (blk_below h2.out.1 HE.out.1) h2.out.2)
   have F0 := Aside0.mk (fun W (h : SL w W B2 a2) => h.term (HT.out.1.below h.b) (HT.out.2.below h.b))
   have F1 := Aside0.mk (fun W (h : SL w W B2 a2) A3 c3 A4 c4 A5 c5 (hat : At W (gAt sL sS) A3 c3 A4 c4 A5 c5) => h.atF (HT.out.1.below h.b) (HT.out.2.below h.b) sL sS (by decide) (by decide) 0 g_ls hat)
   have F2 := Aside0.mk (fun W (h : SL w W B2 a2) A3 c3 A4 c4 A5 c5 (hat : At W (gAt sS sL) A3 c3 A4 c4 A5 c5) => h.atF (HT.out.1.below h.b) (HT.out.2.below h.b) sS sL (by decide) (by decide) 80 g_sl hat)
   have F3 := Aside0.mk (fun W (h : SL w W B2 a2) A3 c3 A4 c4 A5 c5 (hat : At W (gAt sL sT) A3 c3 A4 c4 A5 c5) => h.atF (HT.out.1.below h.b) (HT.out.2.below h.b) sL sT (by decide) (by decide) 81 g_lt hat)
   have F4 := Aside0.mk (fun W (h : SL w W B2 a2) A3 c3 A4 c4 A5 c5 (hat : At W (gCmp 3 sS ⟨#[61]⟩ 1) A3 c3 A4 c4 A5 c5) => h.cmpF (HT.out.1.below h.b) (HT.out.2.below h.b) 3 1 sS ⟨#[61]⟩ rfl rfl (by decide) (by decide) 80 g_day hat)
   have F5 := Aside0.mk (fun W (h : SL w W B2 a2) A3 c3 A4 c4 A5 c5 (hat : At W (gCmp 4 sS ⟨#[60]⟩ 3) A3 c3 A4 c4 A5 c5) => h.cmpF (HT.out.1.below h.b) (HT.out.2.below h.b) 4 3 sS ⟨#[60]⟩ rfl rfl (by decide) (by decide) 0 g_hour hat)
   have F6 := Aside0.mk (fun W (h : SL w W B2 a2) => h.allF (HT.out.1.below h.b) (HT.out.2.below h.b))
   have F7 := Aside0.mk (fun W (h : SL w W B2 a2) => h.oneF (HT.out.1.below h.b) (HT.out.2.below h.b))
   have F8 := Aside0.mk (fun W (h : SL w W B2 a2) => h.ruleF (HT.out.1.below h.b) (HT.out.2.below h.b))
   have F9 := Aside0.mk (fun W (h : SL w W B2 a2) G hG => h.rulesF (HT.out.1.below h.b) (HT.out.2.below h.b) (G := G) hG)
   have FZ := Aside0.mk (fun W (h : SL w W B2 a2) => zero_rule (HT.out.1.below h.b) (HT.out.2.below h.b))
   simp only [sL, sS, sT] at F1 F2 F3 F4 F5
   clear h2 HE HT
   go_upto_region 4 with (first
     | (go_at_call 41; (with_reducible refine (F0.out _ T.out).mono ?_); rintro e w1 ⟨rfl, g⟩; replace T := Aside0.mk (T.out.below g); clear g F0; obtain ⟨p0, p1, p2, p3, p4, p5⟩ := T.out.six))
   go_cut [5] (fun s5 wx => ∃ R, s5 = .pointer (some ⟨R, 0, none⟩) ∧ Aside0 (SL w wx B2 a2 ∧ wx.heap[R]? = some (.cells #[.string ⟨#[114]⟩, .bool true, .int .i64 0, .slice (some ⟨w.heap.size, 0, none⟩) 1 2, .int .i64 14, .string ⟨#[]⟩, .int .i64 0, .slice none 0 0, .slice (some ⟨w.heap.size, 2, none⟩) 1 1, .slice (some a2) 1 1] 54 (0, 0))))
   case first =>
     have U := Aside0.mk (T.out.below (up1 w1 (.cells #[.string ⟨#[]⟩, .bool false, .int .i64 0, .slice none 0 0, .int .i64 0, .string ⟨#[]⟩, .int .i64 0, .slice none 0 0, .slice none 0 0, .slice none 0 0] 54)))
     obtain ⟨u0, u1, u2, u3, u4, u5⟩ := U.out.six
     go_region
     go_wp2_with fail
     go_meet
     exact ⟨w1.heap.size, rfl, ⟨(T.out.below (up1 w1 _)).drew, heap_new w1 _⟩⟩
   case rest =>
     obtain ⟨R, rfl, h5⟩ := hcut
     clear T p0 p1 p2 p3 p4 p5
     have T := Aside0.mk h5.out.1
     have RB := Aside0.mk h5.out.2
     clear h5
     have q0 := (bCl RB.out 0).trans rfl; have q1 := (bCl RB.out 1).trans rfl; have q2 := (bCl RB.out 2).trans rfl; have q3 := (bCl RB.out 3).trans rfl; have q4 := (bCl RB.out 4).trans rfl; have q5 := (bCl RB.out 5).trans rfl; have q6 := (bCl RB.out 6).trans rfl; have q7 := (bCl RB.out 7).trans rfl; have q8 := (bCl RB.out 8).trans rfl; have q9 := (bCl RB.out 9).trans rfl
     have T9 := Aside0.mk (T.out.below (up1 wc (.cells #[.string ⟨#[114]⟩, .bool true, .int .i64 0, .slice (some ⟨w.heap.size, 0, none⟩) 1 2, .int .i64 14, .string ⟨#[]⟩, .int .i64 0, .slice none 0 0, .slice (some ⟨w.heap.size, 2, none⟩) 1 1, .slice (some a2) 1 1, .string ⟨#[114]⟩, .bool true, .int .i64 0, .slice (some ⟨w.heap.size, 0, none⟩) 1 2, .int .i64 14, .string ⟨#[]⟩, .int .i64 0, .slice none 0 0, .slice (some ⟨w.heap.size, 2, none⟩) 1 1, .slice (some a2) 1 1] 54)))
     have HN := Aside0.mk (heap_new wc (.cells #[.string ⟨#[114]⟩, .bool true, .int .i64 0, .slice (some ⟨w.heap.size, 0, none⟩) 1 2, .int .i64 14, .string ⟨#[]⟩, .int .i64 0, .slice none 0 0, .slice (some ⟨w.heap.size, 2, none⟩) 1 1, .slice (some a2) 1 1, .string ⟨#[114]⟩, .bool true, .int .i64 0, .slice (some ⟨w.heap.size, 0, none⟩) 1 2, .int .i64 14, .string ⟨#[]⟩, .int .i64 0, .slice none 0 0, .slice (some ⟨w.heap.size, 2, none⟩) 1 1, .slice (some a2) 1 1] 54))
     have RB9 := Aside0.mk (blk_below (up1 wc (.cells #[.string ⟨#[114]⟩, .bool true, .int .i64 0, .slice (some ⟨w.heap.size, 0, none⟩) 1 2, .int .i64 14, .string ⟨#[]⟩, .int .i64 0, .slice none 0 0, .slice (some ⟨w.heap.size, 2, none⟩) 1 1, .slice (some a2) 1 1, .string ⟨#[114]⟩, .bool true, .int .i64 0, .slice (some ⟨w.heap.size, 0, none⟩) 1 2, .int .i64 14, .string ⟨#[]⟩, .int .i64 0, .slice none 0 0, .slice (some ⟨w.heap.size, 2, none⟩) 1 1, .slice (some a2) 1 1] 54)) RB.out)
     go_upto_region 6 with (first
       | (go_at_call 44; (with_reducible refine (F9.out _ T9.out _ HN.out).mono ?_); rintro e w2 ⟨rfl, g⟩; replace T := Aside0.mk (T9.out.below g); replace RB := Aside0.mk (blk_below g RB9.out); clear g F9 T9 HN RB9 q0 q1 q2 q3 q4 q5 q6 q7 q8 q9; obtain ⟨p0, p1, p2, p3, p4, p5⟩ := T.out.six))
     go_cut [8] (fun s8 wx => s8 = .bool true ∧ Aside0 (SL w wx B2 a2 ∧ wx.heap[R]? = some (.cells #[.string ⟨#[114]⟩, .bool true, .int .i64 0, .slice (some ⟨w.heap.size, 0, none⟩) 1 2, .int .i64 14, .string ⟨#[]⟩, .int .i64 0, .slice none 0 0, .slice (some ⟨w.heap.size, 2, none⟩) 1 1, .slice (some a2) 1 1] 54 (0, 0))))
     case first =>
       go_region_held3 (fun w' => w'.cell? ⟨B2, 0, none⟩ = some (.int .i64 14) ∧ w'.cell? ⟨B2, 1, none⟩ = some (.string ⟨#[]⟩) ∧ w'.cell? ⟨B2, 2, none⟩ = some (.int .i64 0) ∧ w'.cell? ⟨B2, 3, none⟩ = some (.slice none 0 0) ∧ w'.cell? ⟨B2, 4, none⟩ = some (.slice (some ⟨w.heap.size, 2, none⟩) 1 1) ∧ w'.cell? ⟨B2, 5, none⟩ = some (.slice (some a2) 1 1)) (go_keep)
         (first
           | (go_at_call 62; (with_reducible refine (gAt_calls _ _ _).mono ?_); rintro e wn ⟨A3, c3, A4, c4, A5, c5, rfl, g, hx⟩; have HF := Aside0.mk hx; replace T := Aside0.mk (T.out.below g); replace RB := Aside0.mk (blk_below g RB.out); clear p0 p1 p2 p3 p4 p5 g hx; obtain ⟨p0, p1, p2, p3, p4, p5⟩ := T.out.six)
           | (go_at_call 63; (with_reducible refine (gCmp_calls _ _ _ _ _).mono ?_); rintro e wn ⟨A3, c3, A4, c4, A5, c5, rfl, g, hx⟩; have HF := Aside0.mk hx; replace T := Aside0.mk (T.out.below g); replace RB := Aside0.mk (blk_below g RB.out); clear p0 p1 p2 p3 p4 p5 g hx; obtain ⟨p0, p1, p2, p3, p4, p5⟩ := T.out.six)
           | (go_at_call 62; (with_reducible refine (gAt_calls _ _ _).mono ?_); rintro e wn ⟨A3, c3, A4, c4, A5, c5, rfl, g, hx⟩; have HF := Aside0.mk hx; replace T := Aside0.mk (T.out.drew.below g); replace RB := Aside0.mk (blk_below g RB.out); clear p0 p1 p2 p3 p4 p5 g hx; obtain ⟨p0, p1, p2, p3, p4, p5⟩ := T.out.six)
           | (go_at_call 63; (with_reducible refine (gCmp_calls _ _ _ _ _).mono ?_); rintro e wn ⟨A3, c3, A4, c4, A5, c5, rfl, g, hx⟩; have HF := Aside0.mk hx; replace T := Aside0.mk (T.out.drew.below g); replace RB := Aside0.mk (blk_below g RB.out); clear p0 p1 p2 p3 p4 p5 g hx; obtain ⟨p0, p1, p2, p3, p4, p5⟩ := T.out.six)
           | (go_at_call 38; (with_reducible refine (F1.out _ T.out _ _ _ _ _ _ HF.out).mono ?_); rintro e wn ⟨rfl, g⟩; clear HF; replace T := Aside0.mk (T.out.below g); replace RB := Aside0.mk (blk_below g RB.out); clear p0 p1 p2 p3 p4 p5 g; obtain ⟨p0, p1, p2, p3, p4, p5⟩ := T.out.six)
           | (go_at_call 38; (with_reducible refine (F2.out _ T.out _ _ _ _ _ _ HF.out).mono ?_); rintro e wn ⟨rfl, g⟩; clear HF; replace T := Aside0.mk (T.out.below g); replace RB := Aside0.mk (blk_below g RB.out); clear p0 p1 p2 p3 p4 p5 g; obtain ⟨p0, p1, p2, p3, p4, p5⟩ := T.out.six)
           | (go_at_call 38; (with_reducible refine (F3.out _ T.out _ _ _ _ _ _ HF.out).mono ?_); rintro e wn ⟨rfl, g⟩; clear HF; replace T := Aside0.mk (T.out.below g); replace RB := Aside0.mk (blk_below g RB.out); clear p0 p1 p2 p3 p4 p5 g; obtain ⟨p0, p1, p2, p3, p4, p5⟩ := T.out.six)
           | (go_at_call 38; (with_reducible refine (F4.out _ T.out _ _ _ _ _ _ HF.out).mono ?_); rintro e wn ⟨rfl, g⟩; clear HF; replace T := Aside0.mk (T.out.below g); replace RB := Aside0.mk (blk_below g RB.out); clear p0 p1 p2 p3 p4 p5 g; obtain ⟨p0, p1, p2, p3, p4, p5⟩ := T.out.six)
           | (go_at_call 38; (with_reducible refine (F5.out _ T.out _ _ _ _ _ _ HF.out).mono ?_); rintro e wn ⟨rfl, g⟩; clear HF; replace T := Aside0.mk (T.out.below g); replace RB := Aside0.mk (blk_below g RB.out); clear p0 p1 p2 p3 p4 p5 g; obtain ⟨p0, p1, p2, p3, p4, p5⟩ := T.out.six)
           | (go_at_call 38; (with_reducible refine (F6.out _ T.out).mono ?_); rintro e wn ⟨rfl, g⟩; replace T := Aside0.mk (T.out.below g); replace RB := Aside0.mk (blk_below g RB.out); clear p0 p1 p2 p3 p4 p5 g; obtain ⟨p0, p1, p2, p3, p4, p5⟩ := T.out.six)
           | (go_at_call 38; (with_reducible refine (F7.out _ T.out).mono ?_); rintro e wn ⟨rfl, g⟩; replace T := Aside0.mk (T.out.below g); replace RB := Aside0.mk (blk_below g RB.out); clear p0 p1 p2 p3 p4 p5 g; obtain ⟨p0, p1, p2, p3, p4, p5⟩ := T.out.six))
       all_goals
         go_wp2_with fail
         go_meet
         exact ⟨rfl, ⟨T.out, RB.out⟩⟩
     case rest =>
       obtain ⟨rfl, h8⟩ := hcut
       clear T RB p0 p1 p2 p3 p4 p5
       have T := Aside0.mk h8.out.1
       have RB := Aside0.mk h8.out.2
       clear h8
       have q0 := (bCl RB.out 0).trans rfl; have q1 := (bCl RB.out 1).trans rfl; have q2 := (bCl RB.out 2).trans rfl; have q3 := (bCl RB.out 3).trans rfl; have q4 := (bCl RB.out 4).trans rfl; have q5 := (bCl RB.out 5).trans rfl; have q6 := (bCl RB.out 6).trans rfl; have q7 := (bCl RB.out 7).trans rfl; have q8 := (bCl RB.out 8).trans rfl; have q9 := (bCl RB.out 9).trans rfl
       go_wp2_with (first
         | (go_at_call 46; (with_reducible refine (F8.out _ T.out).mono ?_); rintro e w3 ⟨rfl, g⟩; replace T := Aside0.mk (T.out.below g); clear g q0 q1 q2 q3 q4 q5 q6 q7 q8 q9)
         | (go_at_call 46; (with_reducible refine (FZ.out _ T.out).mono ?_); rintro e w4 ⟨rfl, g⟩; replace T := Aside0.mk (T.out.below g); clear g))
       go_ret
       exact ⟨rfl, T.out.b⟩
end Go.Proofs.YtmlcaecknocpoaaDoor.It
namespace Go.Proofs.YtmlcaecknocpoaaDoor.Pr
open Go.RowKit Go.Proofs.YtmlcaecknocpoaaDoorW.PrintWords Go.Proofs.YtmlcaecknocpoaaDoorW.PrintLast Go.Proofs.YtmlcaecknocpoaaDoorW.PrintMore
attribute [local go_sem] max2_int min2_int max_two min_two max_three min_three max_four min_four   
set_option linter.unusedVariables false
set_option linter.unusedSimpArgs false
mutual
def rf8Few.j0 : Nat → Bool → Int → ByteArray → Int → List (S47) → List (S42) → List (S26) → Option (Bool)
 | 0, _, _, _, _, _, _, _ => none
 | k + 1, x24, x218000, x218001, x218002, x218003, x218004, x218005 => if x24 = true then (some false) else (rf8Few.l0 k 0 x218000 x218001 x218002 x218003 x218004 x218005)
def rf8Few.l0 : Nat → Int → Int → ByteArray → Int → List (S47) → List (S42) → List (S26) → Option (Bool)
 | 0, _, _, _, _, _, _, _ => none
 | k + 1, x3, x218000, x218001, x218002, x218003, x218004, x218005 => if x3 < (x218005.length : Int) then (if 0 ≤ x3 then ((rf8Few.f k ((rd_T26 x218005 x3).f0) ((rd_T26 x218005 x3).f1) ((rd_T26 x218005 x3).f2) ((rd_T26 x218005 x3).f3) ((rd_T26 x218005 x3).f4) ((rd_T26 x218005 x3).f5)).bind fun t220 => (if t220 = true then (rf8Few.l0 k (wrap64 (x3 + 1)) x218000 x218001 x218002 x218003 x218004 x218005) else (some false))) else (none)) else (some true)
def rf8Few.f : Nat → Int → ByteArray → Int → List (S47) → List (S42) → List (S26) → Option (Bool)
 | 0, _, _, _, _, _, _ => none
 | k + 1, a0_0, a0_1, a0_2, l0_3, l0_4, l0_5 => if (l0_5.length : Int) > 4 then (rf8Few.j0 k true a0_0 a0_1 a0_2 l0_3 l0_4 l0_5) else (if (l0_3.length : Int) > 4 then (rf8Few.j0 k true a0_0 a0_1 a0_2 l0_3 l0_4 l0_5) else (if (l0_4.length : Int) > 10 then (rf8Few.j0 k true a0_0 a0_1 a0_2 l0_3 l0_4 l0_5) else ((rf6Size.f k a0_0 a0_1 a0_2 l0_3 l0_4 l0_5).bind fun t218 => (rf8Few.j0 k (decide (t218 > 300)) a0_0 a0_1 a0_2 l0_3 l0_4 l0_5))))
end
set_option maxHeartbeats 8000000 in
set_option maxRecDepth 100000 in
theorem rf8Few.calls (k : Nat) : ∀ (a0_0 : Int) (a0_1 : ByteArray) (a0_2 : Int) (A0_3 : Option Addr) (c0_3 : Nat) (l0_3 : List (S47)) (A0_4 : Option Addr) (c0_4 : Nat) (l0_4 : List (S42)) (A0_5 : Option Addr) (c0_5 : Nat) (l0_5 : List (S26)) (r : Bool) (w : World) (hr0_3 : Kd.C k47 w A0_3 l0_3.length l0_3) (hc0_3 : l0_3.length ≤ c0_3) (hr0_4 : Kd.C k42 w A0_4 l0_4.length l0_4) (hc0_4 : l0_4.length ≤ c0_4) (hr0_5 : Kd.C k26 w A0_5 l0_5.length l0_5) (hc0_5 : l0_5.length ≤ c0_5) (h : rf8Few.f k a0_0 a0_1 a0_2 l0_3 l0_4 l0_5 = some r),
   Calls Tryd.prog 64 #[.agg #[.int .i64 a0_0, .string a0_1, .int .i64 a0_2, .slice A0_3 l0_3.length c0_3, .slice A0_4 l0_4.length c0_4, .slice A0_5 l0_5.length c0_5]] w fun e w' => e = .returned (.bool r) ∧ Below w.heap.size w w' := by
 induction k using Nat.strongRecOn with
 | _ k ih =>
 intro a0_0 a0_1 a0_2 A0_3 c0_3 l0_3 A0_4 c0_4 l0_4 A0_5 c0_5 l0_5 r w hr0_3 hc0_3 hr0_4 hc0_4 hr0_5 hc0_5 h
 cases k with
 | zero => exact absurd h (by simp [rf8Few.f])
 | succ k =>
 simp only [rf8Few.f] at h
 have hu26 := Tryd.underlying26
 have HR0_3 := Aside0.mk hr0_3
 have HC0_3 := Aside0.mk hc0_3
 clear hr0_3 hc0_3
 have HR0_4 := Aside0.mk hr0_4
 have HC0_4 := Aside0.mk hc0_4
 clear hr0_4 hc0_4
 have HR0_5 := Aside0.mk hr0_5
 have HC0_5 := Aside0.mk hc0_5
 clear hr0_5 hc0_5
 have HB := Aside0.mk (Below.refl w.heap.size w)
 have H : (if (l0_5.length : Int) > 4 then (rf8Few.j0 k true a0_0 a0_1 a0_2 l0_3 l0_4 l0_5) else (if (l0_3.length : Int) > 4 then (rf8Few.j0 k true a0_0 a0_1 a0_2 l0_3 l0_4 l0_5) else (if (l0_4.length : Int) > 10 then (rf8Few.j0 k true a0_0 a0_1 a0_2 l0_3 l0_4 l0_5) else ((rf6Size.f k a0_0 a0_1 a0_2 l0_3 l0_4 l0_5).bind fun t218 => (rf8Few.j0 k (decide (t218 > 300)) a0_0 a0_1 a0_2 l0_3 l0_4 l0_5))))) = some r := h
 clear h
 have HC2 := Aside0.mk H
 clear H
 go_enter Tryd.func64, Tryd.ntmps64
 go_upto_region 1 with (first | ((with_reducible refine gate_dst (N := 1) rfl ?_); (try (refine gate_guard (by rfl) ?_; dsimp only)); refine box_event ?hg (N := 1) ?hd (cs := #[.int .i64 a0_0, .string a0_1, .int .i64 a0_2, .slice A0_3 l0_3.length c0_3, .slice A0_4 l0_4.length c0_4, .slice A0_5 l0_5.length c0_5]) (t := 26) ?hr ?_; (case hd => rfl); (case hg => rfl); (case hr => first | (go_simp; done) | (go_simp; rfl)); intro gb217 hg w3 hbox hb; have n0_ := Aside0.mk (below_step (by repeat (first | (with_reducible first | exact HB.out | apply bAl | apply pwDN | apply bD1) | exact HB.out)) hb); have n1_ := Aside0.mk (hbox); have n2_ := Aside0.mk ((by rw [hg]; exact (below_size (by repeat (first | (with_reducible first | exact HB.out | apply bAl | apply pwDN | apply bD1) | exact HB.out))) : w.heap.size ≤ gb217)); have n3_ := Aside0.mk ((by rw [hg]; exact (below_size (by repeat (first | (with_reducible first | exact HB.out | apply bAl | apply pwDN | apply bD1) | exact HB.out))) : w.heap.size ≤ gb217)); clear HB; have HB := n0_; have BK217 := n1_; have GW217 := n2_; have GE217 := n3_; clear n0_ n1_ n2_ n3_; clear hb hbox hg))
 (try simp only [Act.put, List.setIfInBounds_toArray, List.set_cons_zero, List.set_cons_succ])
 go_cut [24] (fun v24 wc => ∃ (kq : Nat) (x24_1 : Bool), v24 = .bool x24_1 ∧ Aside0 (rf8Few.j0 kq x24_1 a0_0 a0_1 a0_2 l0_3 l0_4 l0_5 = some r) ∧ Aside0 (kq ≤ k) ∧ Aside0 (wc.heap[gb217]? = some (.cells #[.int .i64 a0_0, .string a0_1, .int .i64 a0_2, (.slice A0_3 l0_3.length c0_3), (.slice A0_4 l0_4.length c0_4), (.slice A0_5 l0_5.length c0_5)] 26 (0, 0))) ∧ Aside0 (Below w.heap.size w wc))
 case first =>
   have H := HC2.out
   clear HC2
   by_cases c4 : (l0_5.length : Int) > 4
   · rw [if_pos c4] at H
     have c4b0 : decide (4 < (l0_5.length : Int)) = true := decide_eq_true c4
     have c4b1 : decide (4 < l0_5.length) = true := decide_eq_true (by omega)
     clear c4
     (first | rw [c4b0] | (simp only [i64_w, i32_w]; rw [c4b0]) | skip)
     have H' := Aside0.mk H
     clear H
     have hcz5_0 : w3.cell? ⟨gb217, 0, none⟩ = some (.int .i64 a0_0) := (bCl BK217.out 0).trans rfl
     have hcz5_1 : w3.cell? ⟨gb217, 1, none⟩ = some (.string a0_1) := (bCl BK217.out 1).trans rfl
     have hcz5_2 : w3.cell? ⟨gb217, 2, none⟩ = some (.int .i64 a0_2) := (bCl BK217.out 2).trans rfl
     have hcz5_3 : w3.cell? ⟨gb217, 3, none⟩ = some (.slice A0_3 l0_3.length c0_3) := (bCl BK217.out 3).trans rfl
     have hcz5_4 : w3.cell? ⟨gb217, 4, none⟩ = some (.slice A0_4 l0_4.length c0_4) := (bCl BK217.out 4).trans rfl
     have hcz5_5 : w3.cell? ⟨gb217, 5, none⟩ = some (.slice A0_5 l0_5.length c0_5) := (bCl BK217.out 5).trans rfl
     have hfz5_0 := bFz BK217.out 0
     have hfz5_1 := bFz BK217.out 1
     have hfz5_2 := bFz BK217.out 2
     have hfz5_3 := bFz BK217.out 3
     have hfz5_4 := bFz BK217.out 4
     have hfz5_5 := bFz BK217.out 5
     go_wp2
     go_meet
     case rel => exact ⟨_, (true), (by first | rfl | (simp; done) | (simp [*]; done)), H', ⟨by first | omega | exact Nat.le_refl _⟩, ⟨by (with_reducible repeat (first | refine blk_drewN ?_ _ | refine blk_drew ?_ | refine blk_alloc ?_ _)); exact BK217.out⟩, ⟨by repeat (first | (with_reducible first | exact HB.out | apply bAl | apply pwDN | apply bD1 | refine bSt ?_ GE217.out) | exact HB.out)⟩⟩
   · rw [if_neg c4] at H
     have c4b0 : decide (4 < (l0_5.length : Int)) = false := decide_eq_false c4
     have c4b1 : decide (4 < l0_5.length) = false := decide_eq_false (by omega)
     clear c4
     (first | rw [c4b0] | (simp only [i64_w, i32_w]; rw [c4b0]) | skip)
     by_cases c6 : (l0_3.length : Int) > 4
     · rw [if_pos c6] at H
       have c6b0 : decide (4 < (l0_3.length : Int)) = true := decide_eq_true c6
       have c6b1 : decide (4 < l0_3.length) = true := decide_eq_true (by omega)
       clear c6
       have H' := Aside0.mk H
       clear H
       have hcz7_0 : w3.cell? ⟨gb217, 0, none⟩ = some (.int .i64 a0_0) := (bCl BK217.out 0).trans rfl
       have hcz7_1 : w3.cell? ⟨gb217, 1, none⟩ = some (.string a0_1) := (bCl BK217.out 1).trans rfl
       have hcz7_2 : w3.cell? ⟨gb217, 2, none⟩ = some (.int .i64 a0_2) := (bCl BK217.out 2).trans rfl
       have hcz7_3 : w3.cell? ⟨gb217, 3, none⟩ = some (.slice A0_3 l0_3.length c0_3) := (bCl BK217.out 3).trans rfl
       have hcz7_4 : w3.cell? ⟨gb217, 4, none⟩ = some (.slice A0_4 l0_4.length c0_4) := (bCl BK217.out 4).trans rfl
       have hcz7_5 : w3.cell? ⟨gb217, 5, none⟩ = some (.slice A0_5 l0_5.length c0_5) := (bCl BK217.out 5).trans rfl
       have hfz7_0 := bFz BK217.out 0
       have hfz7_1 := bFz BK217.out 1
       have hfz7_2 := bFz BK217.out 2
       have hfz7_3 := bFz BK217.out 3
       have hfz7_4 := bFz BK217.out 4
       have hfz7_5 := bFz BK217.out 5
       go_wp2
       go_meet
       case rel => exact ⟨_, (true), (by first | rfl | (simp; done) | (simp [*]; done)), H', ⟨by first | omega | exact Nat.le_refl _⟩, ⟨by (with_reducible repeat (first | refine blk_drewN ?_ _ | refine blk_drew ?_ | refine blk_alloc ?_ _)); exact BK217.out⟩, ⟨by repeat (first | (with_reducible first | exact HB.out | apply bAl | apply pwDN | apply bD1 | refine bSt ?_ GE217.out) | exact HB.out)⟩⟩
     · rw [if_neg c6] at H
       have c6b0 : decide (4 < (l0_3.length : Int)) = false := decide_eq_false c6
       have c6b1 : decide (4 < l0_3.length) = false := decide_eq_false (by omega)
       clear c6
       by_cases c8 : (l0_4.length : Int) > 10
       · rw [if_pos c8] at H
         have c8b0 : decide (10 < (l0_4.length : Int)) = true := decide_eq_true c8
         have c8b1 : decide (10 < l0_4.length) = true := decide_eq_true (by omega)
         clear c8
         have H' := Aside0.mk H
         clear H
         have hcz9_0 : w3.cell? ⟨gb217, 0, none⟩ = some (.int .i64 a0_0) := (bCl BK217.out 0).trans rfl
         have hcz9_1 : w3.cell? ⟨gb217, 1, none⟩ = some (.string a0_1) := (bCl BK217.out 1).trans rfl
         have hcz9_2 : w3.cell? ⟨gb217, 2, none⟩ = some (.int .i64 a0_2) := (bCl BK217.out 2).trans rfl
         have hcz9_3 : w3.cell? ⟨gb217, 3, none⟩ = some (.slice A0_3 l0_3.length c0_3) := (bCl BK217.out 3).trans rfl
         have hcz9_4 : w3.cell? ⟨gb217, 4, none⟩ = some (.slice A0_4 l0_4.length c0_4) := (bCl BK217.out 4).trans rfl
         have hcz9_5 : w3.cell? ⟨gb217, 5, none⟩ = some (.slice A0_5 l0_5.length c0_5) := (bCl BK217.out 5).trans rfl
         have hfz9_0 := bFz BK217.out 0
         have hfz9_1 := bFz BK217.out 1
         have hfz9_2 := bFz BK217.out 2
         have hfz9_3 := bFz BK217.out 3
         have hfz9_4 := bFz BK217.out 4
         have hfz9_5 := bFz BK217.out 5
         go_wp2
         go_meet
         case rel => exact ⟨_, (true), (by first | rfl | (simp; done) | (simp [*]; done)), H', ⟨by first | omega | exact Nat.le_refl _⟩, ⟨by (with_reducible repeat (first | refine blk_drewN ?_ _ | refine blk_drew ?_ | refine blk_alloc ?_ _)); exact BK217.out⟩, ⟨by repeat (first | (with_reducible first | exact HB.out | apply bAl | apply pwDN | apply bD1 | refine bSt ?_ GE217.out) | exact HB.out)⟩⟩
       · rw [if_neg c8] at H
         have c8b0 : decide (10 < (l0_4.length : Int)) = false := decide_eq_false c8
         have c8b1 : decide (10 < l0_4.length) = false := decide_eq_false (by omega)
         clear c8
         replace H := Option.bind_eq_some_iff.mp H
         obtain ⟨t218, A100, H⟩ := H
         replace H : (rf8Few.j0 k (decide (t218 > 300)) a0_0 a0_1 a0_2 l0_3 l0_4 l0_5) = some r := H
         have A10 := Aside0.mk A100
         clear A100
         have H' := Aside0.mk H
         clear H
         have hcz11_0 : w3.cell? ⟨gb217, 0, none⟩ = some (.int .i64 a0_0) := (bCl BK217.out 0).trans rfl
         have hcz11_1 : w3.cell? ⟨gb217, 1, none⟩ = some (.string a0_1) := (bCl BK217.out 1).trans rfl
         have hcz11_2 : w3.cell? ⟨gb217, 2, none⟩ = some (.int .i64 a0_2) := (bCl BK217.out 2).trans rfl
         have hcz11_3 : w3.cell? ⟨gb217, 3, none⟩ = some (.slice A0_3 l0_3.length c0_3) := (bCl BK217.out 3).trans rfl
         have hcz11_4 : w3.cell? ⟨gb217, 4, none⟩ = some (.slice A0_4 l0_4.length c0_4) := (bCl BK217.out 4).trans rfl
         have hcz11_5 : w3.cell? ⟨gb217, 5, none⟩ = some (.slice A0_5 l0_5.length c0_5) := (bCl BK217.out 5).trans rfl
         have hfz11_0 := bFz BK217.out 0
         have hfz11_1 := bFz BK217.out 1
         have hfz11_2 := bFz BK217.out 2
         have hfz11_3 := bFz BK217.out 3
         have hfz11_4 := bFz BK217.out 4
         have hfz11_5 := bFz BK217.out 5
         go_wp2_with (first | (go_at_call 25; (with_reducible refine (rf6Size.calls k a0_0 a0_1 a0_2 _ _ l0_3 _ _ l0_4 _ _ l0_5 t218 _ ?side1 ?side2 ?side3 ?side4 ?side5 ?side6 A10.out).mono ?_); (case side1 => repeat (first | exact (Kd.C_below HR0_3.out HB.out) | (with_reducible refine Kd.C_alloc ?_ _) | (with_reducible refine Kd.C_drewN ?_ _) | (with_reducible refine Kd.C_drew ?_))); (case side2 => exact HC0_3.out); (case side3 => repeat (first | exact (Kd.C_below HR0_4.out HB.out) | (with_reducible refine Kd.C_alloc ?_ _) | (with_reducible refine Kd.C_drewN ?_ _) | (with_reducible refine Kd.C_drew ?_))); (case side4 => exact HC0_4.out); (case side5 => repeat (first | exact (Kd.C_below HR0_5.out HB.out) | (with_reducible refine Kd.C_alloc ?_ _) | (with_reducible refine Kd.C_drewN ?_ _) | (with_reducible refine Kd.C_drew ?_))); (case side6 => exact HC0_5.out); rintro e w12 ⟨rfl, hb⟩; have n0_ := Aside0.mk (blk_below (g := gb217) (o := .cells #[.int .i64 a0_0, .string a0_1, .int .i64 a0_2, .slice A0_3 l0_3.length c0_3, .slice A0_4 l0_4.length c0_4, .slice A0_5 l0_5.length c0_5] 26 (0, 0)) (by (with_reducible repeat (first | refine blk_drewN ?_ _ | refine blk_drew ?_ | refine blk_alloc ?_ _)); exact BK217.out) hb); have n1_ := Aside0.mk (below_step (by repeat (first | (with_reducible first | exact HB.out | apply bAl | apply pwDN | apply bD1 | refine bSt ?_ GE217.out) | exact HB.out)) hb); clear BK217; clear HB; have BK217 := n0_; have HB := n1_; clear n0_ n1_; (try clear hb); (try clear hb2); (try clear hk); (try clear hi)))
         go_meet
         case rel => exact ⟨_, (decide (t218 > 300)), (by first | rfl | (simp; done) | (simp [*]; done)), H', ⟨by first | omega | exact Nat.le_refl _⟩, ⟨by (with_reducible repeat (first | refine blk_drewN ?_ _ | refine blk_drew ?_ | refine blk_alloc ?_ _)); exact BK217.out⟩, ⟨by repeat (first | (with_reducible first | exact HB.out | apply bAl | apply pwDN | apply bD1 | refine bSt ?_ GE217.out) | exact HB.out)⟩⟩
 case rest =>
   clear HC2
   try clear p2
   try clear c4
   try clear c4b0
   try clear c4b1
   try clear c6
   try clear c6b0
   try clear c6b1
   try clear c8
   try clear c8b0
   try clear c8b1
   try clear hcz11_0
   try clear hcz11_1
   try clear hcz11_2
   try clear hcz11_3
   try clear hcz11_4
   try clear hcz11_5
   try clear hcz5_0
   try clear hcz5_1
   try clear hcz5_2
   try clear hcz5_3
   try clear hcz5_4
   try clear hcz5_5
   try clear hcz7_0
   try clear hcz7_1
   try clear hcz7_2
   try clear hcz7_3
   try clear hcz7_4
   try clear hcz7_5
   try clear hcz9_0
   try clear hcz9_1
   try clear hcz9_2
   try clear hcz9_3
   try clear hcz9_4
   try clear hcz9_5
   try clear hfz11_0
   try clear hfz11_1
   try clear hfz11_2
   try clear hfz11_3
   try clear hfz11_4
   try clear hfz11_5
   try clear hfz5_0
   try clear hfz5_1
   try clear hfz5_2
   try clear hfz5_3
   try clear hfz5_4
   try clear hfz5_5
   try clear hfz7_0
   try clear hfz7_1
   try clear hfz7_2
   try clear hfz7_3
   try clear hfz7_4
   try clear hfz7_5
   try clear hfz9_0
   try clear hfz9_1
   try clear hfz9_2
   try clear hfz9_3
   try clear hfz9_4
   try clear hfz9_5
   obtain ⟨kq, x24_1, rfl, HA, HJ1, BK217, HB⟩ := hcut
   cases kq with
   | zero => exact absurd HA.out (by simp [rf8Few.j0])
   | succ kj1 =>
     have H := HA.out
     clear HA
     simp only [rf8Few.j0] at H
     by_cases c13 : x24_1 = true
     · subst c13
       have H1 : (some false) = some r := by rw [if_pos rfl] at H; exact H
       clear H
       have H := H1
       clear H1
       obtain rfl := Option.some.inj H
       go_wp2
       go_ret
       exact ⟨by first | rfl | (simp [errW_none, errW_some] <;> rfl) | (simp [*, errW_none, errW_some] <;> rfl), by repeat (first | (with_reducible first | exact HB.out | apply bAl | apply pwDN | apply bD1 | refine bSt ?_ GE217.out) | exact HB.out)⟩
     · replace c13 := Bool.eq_false_iff.mpr c13
       subst c13
       have H1 : (rf8Few.l0 kj1 0 a0_0 a0_1 a0_2 l0_3 l0_4 l0_5) = some r := by rw [if_neg (show ¬ (false = true) by decide)] at H; exact H
       clear H
       have H := H1
       clear H1
       have H' := Aside0.mk H
       clear H
       go_wp2
       go_loopg [3] kj1 (fun kq v3 w' => ∃ (x3_2 : Int), v3 = .int .i64 x3_2 ∧ Aside0 (rf8Few.l0 kq x3_2 a0_0 a0_1 a0_2 l0_3 l0_4 l0_5 = some r) ∧ Aside0 (kq ≤ kj1) ∧ Aside0 (w'.heap[gb217]? = some (.cells #[.int .i64 a0_0, .string a0_1, .int .i64 a0_2, (.slice A0_3 l0_3.length c0_3), (.slice A0_4 l0_4.length c0_4), (.slice A0_5 l0_5.length c0_5)] 26 (0, 0))) ∧ Aside0 (Below w.heap.size w w'))
       case atStart => exact ⟨(0), (by first | rfl | (simp; done) | (simp [*]; done)), H', ⟨Nat.le_refl _⟩, ⟨by (with_reducible repeat (first | refine blk_drewN ?_ _ | refine blk_drew ?_ | refine blk_alloc ?_ _)); exact BK217.out⟩, ⟨by repeat (first | (with_reducible first | exact HB.out | apply bAl | apply pwDN | apply bD1 | refine bSt ?_ GE217.out) | exact HB.out)⟩⟩
       case round =>
         clear H'
         try clear c1
         try clear p2
         try clear c4
         try clear c4b0
         try clear c4b1
         try clear c6
         try clear c6b0
         try clear c6b1
         try clear c8
         try clear c8b0
         try clear c8b1
         try clear c13
         try clear hcz11_0
         try clear hcz11_1
         try clear hcz11_2
         try clear hcz11_3
         try clear hcz11_4
         try clear hcz11_5
         try clear hcz5_0
         try clear hcz5_1
         try clear hcz5_2
         try clear hcz5_3
         try clear hcz5_4
         try clear hcz5_5
         try clear hcz7_0
         try clear hcz7_1
         try clear hcz7_2
         try clear hcz7_3
         try clear hcz7_4
         try clear hcz7_5
         try clear hcz9_0
         try clear hcz9_1
         try clear hcz9_2
         try clear hcz9_3
         try clear hcz9_4
         try clear hcz9_5
         try clear hfz11_0
         try clear hfz11_1
         try clear hfz11_2
         try clear hfz11_3
         try clear hfz11_4
         try clear hfz11_5
         try clear hfz5_0
         try clear hfz5_1
         try clear hfz5_2
         try clear hfz5_3
         try clear hfz5_4
         try clear hfz5_5
         try clear hfz7_0
         try clear hfz7_1
         try clear hfz7_2
         try clear hfz7_3
         try clear hfz7_4
         try clear hfz7_5
         try clear hfz9_0
         try clear hfz9_1
         try clear hfz9_2
         try clear hfz9_3
         try clear hfz9_4
         try clear hfz9_5
         try clear p2
         obtain ⟨x3_2, rfl, HA, HK2, BK217, HB⟩ := hrel
         cases gk with
         | zero => exact absurd HA.out (by simp [rf8Few.l0])
         | succ k2 =>
           have H := HA.out
           clear HA
           simp only [rf8Few.l0] at H
           by_cases c14 : x3_2 < (l0_5.length : Int)
           · rw [if_pos c14] at H
             have c14b0 : decide (x3_2 < (l0_5.length : Int)) = true := decide_eq_true c14
             clear c14
             by_cases c15 : 0 ≤ x3_2
             · rw [if_pos c15] at H
               have c15b0 : decide (0 ≤ x3_2) = true := decide_eq_true c15
               clear c15
               replace H := Option.bind_eq_some_iff.mp H
               obtain ⟨t220, A160, H⟩ := H
               replace H : (if t220 = true then (rf8Few.l0 k2 (wrap64 (x3_2 + 1)) a0_0 a0_1 a0_2 l0_3 l0_4 l0_5) else (some false)) = some r := H
               have A16 := Aside0.mk A160
               clear A160
               by_cases c17 : t220 = true
               · subst c17
                 have H1 : (rf8Few.l0 k2 (wrap64 (x3_2 + 1)) a0_0 a0_1 a0_2 l0_3 l0_4 l0_5) = some r := by rw [if_pos rfl] at H; exact H
                 clear H
                 have H := H1
                 clear H1
                 have H' := Aside0.mk H
                 clear H
                 have hcz18_0 : wr.cell? ⟨gb217, 0, none⟩ = some (.int .i64 a0_0) := (bCl BK217.out 0).trans rfl
                 have hcz18_1 : wr.cell? ⟨gb217, 1, none⟩ = some (.string a0_1) := (bCl BK217.out 1).trans rfl
                 have hcz18_2 : wr.cell? ⟨gb217, 2, none⟩ = some (.int .i64 a0_2) := (bCl BK217.out 2).trans rfl
                 have hcz18_3 : wr.cell? ⟨gb217, 3, none⟩ = some (.slice A0_3 l0_3.length c0_3) := (bCl BK217.out 3).trans rfl
                 have hcz18_4 : wr.cell? ⟨gb217, 4, none⟩ = some (.slice A0_4 l0_4.length c0_4) := (bCl BK217.out 4).trans rfl
                 have hcz18_5 : wr.cell? ⟨gb217, 5, none⟩ = some (.slice A0_5 l0_5.length c0_5) := (bCl BK217.out 5).trans rfl
                 have hfz18_0 := bFz BK217.out 0
                 have hfz18_1 := bFz BK217.out 1
                 have hfz18_2 := bFz BK217.out 2
                 have hfz18_3 := bFz BK217.out 3
                 have hfz18_4 := bFz BK217.out 4
                 have hfz18_5 := bFz BK217.out 5
                 have p219 : 0 ≤ (x3_2 : Int) := of_decide_eq_true (by first | (with_reducible assumption) | assumption)
                 have q219 : x3_2 < (l0_5.length : Int) := of_decide_eq_true (by first | (with_reducible assumption) | assumption)
                 obtain ⟨ad219, A219_3, c219_3, A219_4, c219_4, A219_5, c219_5, e219, hx219_0, hx219_1, hx219_2, hx219_3, hx219_4, hx219_5, hl219_3, hi219_3, hl219_4, hi219_4, hl219_5, hi219_5⟩ := at_T26 HR0_5.out x3_2 p219 q219
                 cases e219
                 replace hx219_0 := (HB.out.cell (World.block_lt_of_cell? w _ hx219_0)).trans hx219_0
                 replace hx219_1 := (HB.out.cell (World.block_lt_of_cell? w _ hx219_1)).trans hx219_1
                 replace hx219_2 := (HB.out.cell (World.block_lt_of_cell? w _ hx219_2)).trans hx219_2
                 replace hx219_3 := (HB.out.cell (World.block_lt_of_cell? w _ hx219_3)).trans hx219_3
                 replace hx219_4 := (HB.out.cell (World.block_lt_of_cell? w _ hx219_4)).trans hx219_4
                 replace hx219_5 := (HB.out.cell (World.block_lt_of_cell? w _ hx219_5)).trans hx219_5
                 have HR219_3 := Aside0.mk hi219_3
                 have HC219_3 := Aside0.mk hl219_3
                 clear hi219_3 hl219_3
                 have HR219_4 := Aside0.mk hi219_4
                 have HC219_4 := Aside0.mk hl219_4
                 clear hi219_4 hl219_4
                 have HR219_5 := Aside0.mk hi219_5
                 have HC219_5 := Aside0.mk hl219_5
                 clear hi219_5 hl219_5
                 replace p219 := eq_true p219
                 replace q219 := eq_true q219
                 go_wp2_with (first | ((with_reducible refine gate_callee (f := 64) rfl ?_); refine goesL_ (some 37) rfl rfl Tryd.func64 (by kernel_rfl) rfl #[.agg #[.int .i64 ((rd_T26 l0_5 x3_2).f0), .string ((rd_T26 l0_5 x3_2).f1), .int .i64 ((rd_T26 l0_5 x3_2).f2), .slice A219_3 ((rd_T26 l0_5 x3_2).f3).length c219_3, .slice A219_4 ((rd_T26 l0_5 x3_2).f4).length c219_4, .slice A219_5 ((rd_T26 l0_5 x3_2).f5).length c219_5]] rfl (by (try simp only [List.map_toArray, List.map_cons, List.map_nil]); first | done | rfl | (simp only [List.length_drop, List.length_take]; rfl)) ?_; (with_reducible refine (ih k2 (by have := HJ1.out; have := HK2.out; omega) ((rd_T26 l0_5 x3_2).f0) ((rd_T26 l0_5 x3_2).f1) ((rd_T26 l0_5 x3_2).f2) _ _ ((rd_T26 l0_5 x3_2).f3) _ _ ((rd_T26 l0_5 x3_2).f4) _ _ ((rd_T26 l0_5 x3_2).f5) true _ ?side1 ?side2 ?side3 ?side4 ?side5 ?side6 A16.out).mono ?_); (case side1 => repeat (first | exact (Kd.C_below HR219_3.out HB.out) | (with_reducible refine Kd.C_alloc ?_ _) | (with_reducible refine Kd.C_drewN ?_ _) | (with_reducible refine Kd.C_drew ?_))); (case side2 => exact HC219_3.out); (case side3 => repeat (first | exact (Kd.C_below HR219_4.out HB.out) | (with_reducible refine Kd.C_alloc ?_ _) | (with_reducible refine Kd.C_drewN ?_ _) | (with_reducible refine Kd.C_drew ?_))); (case side4 => exact HC219_4.out); (case side5 => repeat (first | exact (Kd.C_below HR219_5.out HB.out) | (with_reducible refine Kd.C_alloc ?_ _) | (with_reducible refine Kd.C_drewN ?_ _) | (with_reducible refine Kd.C_drew ?_))); (case side6 => exact HC219_5.out); rintro e w19 ⟨rfl, hb⟩; refine ⟨_, rfl, ?_⟩; have n0_ := Aside0.mk (blk_below (g := gb217) (o := .cells #[.int .i64 a0_0, .string a0_1, .int .i64 a0_2, .slice A0_3 l0_3.length c0_3, .slice A0_4 l0_4.length c0_4, .slice (some ad219) l0_5.length c0_5] 26 (0, 0)) (by (with_reducible repeat (first | refine blk_drewN ?_ _ | refine blk_drew ?_ | refine blk_alloc ?_ _)); exact BK217.out) hb); have n1_ := Aside0.mk (below_step (by repeat (first | (with_reducible first | exact HB.out | apply bAl | apply pwDN | apply bD1 | refine bSt ?_ GE217.out) | exact HB.out)) hb); clear BK217; clear HB; have BK217 := n0_; have HB := n1_; clear n0_ n1_; (try clear hb); (try clear hb2); (try clear hk); (try clear hi)))
                 go_roundg k2
                 case measure => have := HJ1.out; have := HK2.out; omega
                 case rel => exact ⟨(wrap64 (x3_2 + 1)), (by first | rfl | (simp; done) | (simp [*]; done)), H', ⟨by have := HJ1.out; have := HK2.out; omega⟩, ⟨by (with_reducible repeat (first | refine blk_drewN ?_ _ | refine blk_drew ?_ | refine blk_alloc ?_ _)); exact BK217.out⟩, ⟨by repeat (first | (with_reducible first | exact HB.out | apply bAl | apply pwDN | apply bD1 | refine bSt ?_ GE217.out) | exact HB.out)⟩⟩
               · replace c17 := Bool.eq_false_iff.mpr c17
                 subst c17
                 have H1 : (some false) = some r := by rw [if_neg (show ¬ (false = true) by decide)] at H; exact H
                 clear H
                 have H := H1
                 clear H1
                 obtain rfl := Option.some.inj H
                 have hcz20_0 : wr.cell? ⟨gb217, 0, none⟩ = some (.int .i64 a0_0) := (bCl BK217.out 0).trans rfl
                 have hcz20_1 : wr.cell? ⟨gb217, 1, none⟩ = some (.string a0_1) := (bCl BK217.out 1).trans rfl
                 have hcz20_2 : wr.cell? ⟨gb217, 2, none⟩ = some (.int .i64 a0_2) := (bCl BK217.out 2).trans rfl
                 have hcz20_3 : wr.cell? ⟨gb217, 3, none⟩ = some (.slice A0_3 l0_3.length c0_3) := (bCl BK217.out 3).trans rfl
                 have hcz20_4 : wr.cell? ⟨gb217, 4, none⟩ = some (.slice A0_4 l0_4.length c0_4) := (bCl BK217.out 4).trans rfl
                 have hcz20_5 : wr.cell? ⟨gb217, 5, none⟩ = some (.slice A0_5 l0_5.length c0_5) := (bCl BK217.out 5).trans rfl
                 have hfz20_0 := bFz BK217.out 0
                 have hfz20_1 := bFz BK217.out 1
                 have hfz20_2 := bFz BK217.out 2
                 have hfz20_3 := bFz BK217.out 3
                 have hfz20_4 := bFz BK217.out 4
                 have hfz20_5 := bFz BK217.out 5
                 have p219 : 0 ≤ (x3_2 : Int) := of_decide_eq_true (by first | (with_reducible assumption) | assumption)
                 have q219 : x3_2 < (l0_5.length : Int) := of_decide_eq_true (by first | (with_reducible assumption) | assumption)
                 obtain ⟨ad219, A219_3, c219_3, A219_4, c219_4, A219_5, c219_5, e219, hx219_0, hx219_1, hx219_2, hx219_3, hx219_4, hx219_5, hl219_3, hi219_3, hl219_4, hi219_4, hl219_5, hi219_5⟩ := at_T26 HR0_5.out x3_2 p219 q219
                 cases e219
                 replace hx219_0 := (HB.out.cell (World.block_lt_of_cell? w _ hx219_0)).trans hx219_0
                 replace hx219_1 := (HB.out.cell (World.block_lt_of_cell? w _ hx219_1)).trans hx219_1
                 replace hx219_2 := (HB.out.cell (World.block_lt_of_cell? w _ hx219_2)).trans hx219_2
                 replace hx219_3 := (HB.out.cell (World.block_lt_of_cell? w _ hx219_3)).trans hx219_3
                 replace hx219_4 := (HB.out.cell (World.block_lt_of_cell? w _ hx219_4)).trans hx219_4
                 replace hx219_5 := (HB.out.cell (World.block_lt_of_cell? w _ hx219_5)).trans hx219_5
                 have HR219_3 := Aside0.mk hi219_3
                 have HC219_3 := Aside0.mk hl219_3
                 clear hi219_3 hl219_3
                 have HR219_4 := Aside0.mk hi219_4
                 have HC219_4 := Aside0.mk hl219_4
                 clear hi219_4 hl219_4
                 have HR219_5 := Aside0.mk hi219_5
                 have HC219_5 := Aside0.mk hl219_5
                 clear hi219_5 hl219_5
                 replace p219 := eq_true p219
                 replace q219 := eq_true q219
                 go_wp2_with (first | ((with_reducible refine gate_callee (f := 64) rfl ?_); refine goesL_ (some 37) rfl rfl Tryd.func64 (by kernel_rfl) rfl #[.agg #[.int .i64 ((rd_T26 l0_5 x3_2).f0), .string ((rd_T26 l0_5 x3_2).f1), .int .i64 ((rd_T26 l0_5 x3_2).f2), .slice A219_3 ((rd_T26 l0_5 x3_2).f3).length c219_3, .slice A219_4 ((rd_T26 l0_5 x3_2).f4).length c219_4, .slice A219_5 ((rd_T26 l0_5 x3_2).f5).length c219_5]] rfl (by (try simp only [List.map_toArray, List.map_cons, List.map_nil]); first | done | rfl | (simp only [List.length_drop, List.length_take]; rfl)) ?_; (with_reducible refine (ih k2 (by have := HJ1.out; have := HK2.out; omega) ((rd_T26 l0_5 x3_2).f0) ((rd_T26 l0_5 x3_2).f1) ((rd_T26 l0_5 x3_2).f2) _ _ ((rd_T26 l0_5 x3_2).f3) _ _ ((rd_T26 l0_5 x3_2).f4) _ _ ((rd_T26 l0_5 x3_2).f5) false _ ?side1 ?side2 ?side3 ?side4 ?side5 ?side6 A16.out).mono ?_); (case side1 => repeat (first | exact (Kd.C_below HR219_3.out HB.out) | (with_reducible refine Kd.C_alloc ?_ _) | (with_reducible refine Kd.C_drewN ?_ _) | (with_reducible refine Kd.C_drew ?_))); (case side2 => exact HC219_3.out); (case side3 => repeat (first | exact (Kd.C_below HR219_4.out HB.out) | (with_reducible refine Kd.C_alloc ?_ _) | (with_reducible refine Kd.C_drewN ?_ _) | (with_reducible refine Kd.C_drew ?_))); (case side4 => exact HC219_4.out); (case side5 => repeat (first | exact (Kd.C_below HR219_5.out HB.out) | (with_reducible refine Kd.C_alloc ?_ _) | (with_reducible refine Kd.C_drewN ?_ _) | (with_reducible refine Kd.C_drew ?_))); (case side6 => exact HC219_5.out); rintro e w21 ⟨rfl, hb⟩; refine ⟨_, rfl, ?_⟩; have n0_ := Aside0.mk (blk_below (g := gb217) (o := .cells #[.int .i64 a0_0, .string a0_1, .int .i64 a0_2, .slice A0_3 l0_3.length c0_3, .slice A0_4 l0_4.length c0_4, .slice (some ad219) l0_5.length c0_5] 26 (0, 0)) (by (with_reducible repeat (first | refine blk_drewN ?_ _ | refine blk_drew ?_ | refine blk_alloc ?_ _)); exact BK217.out) hb); have n1_ := Aside0.mk (below_step (by repeat (first | (with_reducible first | exact HB.out | apply bAl | apply pwDN | apply bD1 | refine bSt ?_ GE217.out) | exact HB.out)) hb); clear BK217; clear HB; have BK217 := n0_; have HB := n1_; clear n0_ n1_; (try clear hb); (try clear hb2); (try clear hk); (try clear hi)))
                 go_ret
                 exact ⟨by first | rfl | (simp [errW_none, errW_some] <;> rfl) | (simp [*, errW_none, errW_some] <;> rfl), by repeat (first | (with_reducible first | exact HB.out | apply bAl | apply pwDN | apply bD1 | refine bSt ?_ GE217.out) | exact HB.out)⟩
             · rw [if_neg c15] at H
               exact absurd H (by simp)
           · rw [if_neg c14] at H
             have c14b0 : decide (x3_2 < (l0_5.length : Int)) = false := decide_eq_false c14
             clear c14
             obtain rfl := Option.some.inj H
             have hcz22_0 : wr.cell? ⟨gb217, 0, none⟩ = some (.int .i64 a0_0) := (bCl BK217.out 0).trans rfl
             have hcz22_1 : wr.cell? ⟨gb217, 1, none⟩ = some (.string a0_1) := (bCl BK217.out 1).trans rfl
             have hcz22_2 : wr.cell? ⟨gb217, 2, none⟩ = some (.int .i64 a0_2) := (bCl BK217.out 2).trans rfl
             have hcz22_3 : wr.cell? ⟨gb217, 3, none⟩ = some (.slice A0_3 l0_3.length c0_3) := (bCl BK217.out 3).trans rfl
             have hcz22_4 : wr.cell? ⟨gb217, 4, none⟩ = some (.slice A0_4 l0_4.length c0_4) := (bCl BK217.out 4).trans rfl
             have hcz22_5 : wr.cell? ⟨gb217, 5, none⟩ = some (.slice A0_5 l0_5.length c0_5) := (bCl BK217.out 5).trans rfl
             have hfz22_0 := bFz BK217.out 0
             have hfz22_1 := bFz BK217.out 1
             have hfz22_2 := bFz BK217.out 2
             have hfz22_3 := bFz BK217.out 3
             have hfz22_4 := bFz BK217.out 4
             have hfz22_5 := bFz BK217.out 5
             go_wp2
             go_ret
             exact ⟨by first | rfl | (simp [errW_none, errW_some] <;> rfl) | (simp [*, errW_none, errW_some] <;> rfl), by repeat (first | (with_reducible first | exact HB.out | apply bAl | apply pwDN | apply bD1 | refine bSt ?_ GE217.out) | exact HB.out)⟩
def lw8few.f (k : Nat) (l0 : List (S42)) (a1_0 : Int) (a1_1 : ByteArray) (a1_2 : Int) (l1_3 : List (S47)) (l1_4 : List (S42)) (l1_5 : List (S26)) : Option (Bool) := if (l0.length : Int) ≤ 30 then ((rf8Few.f k a1_0 a1_1 a1_2 l1_3 l1_4 l1_5).bind fun t222 => (some t222)) else (some false)
set_option maxHeartbeats 8000000 in
set_option maxRecDepth 100000 in
theorem lw8few.calls (k : Nat) (A0 : Option Addr) (c0 : Nat) (l0 : List (S42)) (a1_0 : Int) (a1_1 : ByteArray) (a1_2 : Int) (A1_3 : Option Addr) (c1_3 : Nat) (l1_3 : List (S47)) (A1_4 : Option Addr) (c1_4 : Nat) (l1_4 : List (S42)) (A1_5 : Option Addr) (c1_5 : Nat) (l1_5 : List (S26)) (r : Bool) (w : World) (hr0 : Kd.C k42 w A0 l0.length l0) (hc0 : l0.length ≤ c0) (hr1_3 : Kd.C k47 w A1_3 l1_3.length l1_3) (hc1_3 : l1_3.length ≤ c1_3) (hr1_4 : Kd.C k42 w A1_4 l1_4.length l1_4) (hc1_4 : l1_4.length ≤ c1_4) (hr1_5 : Kd.C k26 w A1_5 l1_5.length l1_5) (hc1_5 : l1_5.length ≤ c1_5) (h : lw8few.f k l0 a1_0 a1_1 a1_2 l1_3 l1_4 l1_5 = some r) :
   Calls Tryd.prog 37 #[.slice A0 l0.length c0, .agg #[.int .i64 a1_0, .string a1_1, .int .i64 a1_2, .slice A1_3 l1_3.length c1_3, .slice A1_4 l1_4.length c1_4, .slice A1_5 l1_5.length c1_5]] w fun e w' => e = .returned (.bool r) ∧ Below w.heap.size w w' := by
 have hu26 := Tryd.underlying26
 have HR0 := Aside0.mk hr0
 have HC0 := Aside0.mk hc0
 clear hr0 hc0
 have HR1_3 := Aside0.mk hr1_3
 have HC1_3 := Aside0.mk hc1_3
 clear hr1_3 hc1_3
 have HR1_4 := Aside0.mk hr1_4
 have HC1_4 := Aside0.mk hc1_4
 clear hr1_4 hc1_4
 have HR1_5 := Aside0.mk hr1_5
 have HC1_5 := Aside0.mk hc1_5
 clear hr1_5 hc1_5
 have HB := Aside0.mk (Below.refl w.heap.size w)
 have H : (if (l0.length : Int) ≤ 30 then ((rf8Few.f k a1_0 a1_1 a1_2 l1_3 l1_4 l1_5).bind fun t222 => (some t222)) else (some false)) = some r := h
 clear h
 by_cases c3 : (l0.length : Int) ≤ 30
 · rw [if_pos c3] at H
   have c3b0 : decide ((l0.length : Int) ≤ 30) = true := decide_eq_true c3
   have c3b1 : decide (l0.length ≤ 30) = true := decide_eq_true (by omega)
   clear c3
   replace H := Option.bind_eq_some_iff.mp H
   obtain ⟨t222, A40, H⟩ := H
   replace H : (some t222) = some r := H
   have A4 := Aside0.mk A40
   clear A40
   obtain rfl := Option.some.inj H
   go_enter Tryd.func37, Tryd.ntmps37
   go_wp2_with (first | ((with_reducible refine gate_dst (N := 3) rfl ?_); refine box_event ?hg (N := 3) ?hd (cs := #[.int .i64 a1_0, .string a1_1, .int .i64 a1_2, .slice A1_3 l1_3.length c1_3, .slice A1_4 l1_4.length c1_4, .slice A1_5 l1_5.length c1_5]) (t := 26) ?hr ?_; (case hd => rfl); (case hg => rfl); (case hr => first | (go_simp; done) | (go_simp; rfl)); intro gb221 hg w5 hbox hb; have n0_ := Aside0.mk (below_step (by repeat (first | (with_reducible first | exact HB.out | apply bAl | apply pwDN | apply bD1) | exact HB.out)) hb); have n1_ := Aside0.mk (hbox); have n2_ := Aside0.mk ((by rw [hg]; exact (below_size (by repeat (first | (with_reducible first | exact HB.out | apply bAl | apply pwDN | apply bD1) | exact HB.out))) : w.heap.size ≤ gb221)); have n3_ := Aside0.mk ((by rw [hg]; exact (below_size (by repeat (first | (with_reducible first | exact HB.out | apply bAl | apply pwDN | apply bD1) | exact HB.out))) : w.heap.size ≤ gb221)); clear HB; have HB := n0_; have BK221 := n1_; have GW221 := n2_; have GE221 := n3_; clear n0_ n1_ n2_ n3_; clear hb hbox hg; have hcz6_0 : w5.cell? ⟨gb221, 0, none⟩ = some (.int .i64 a1_0) := (bCl BK221.out 0).trans rfl; have hcz6_1 : w5.cell? ⟨gb221, 1, none⟩ = some (.string a1_1) := (bCl BK221.out 1).trans rfl; have hcz6_2 : w5.cell? ⟨gb221, 2, none⟩ = some (.int .i64 a1_2) := (bCl BK221.out 2).trans rfl; have hcz6_3 : w5.cell? ⟨gb221, 3, none⟩ = some (.slice A1_3 l1_3.length c1_3) := (bCl BK221.out 3).trans rfl; have hcz6_4 : w5.cell? ⟨gb221, 4, none⟩ = some (.slice A1_4 l1_4.length c1_4) := (bCl BK221.out 4).trans rfl; have hcz6_5 : w5.cell? ⟨gb221, 5, none⟩ = some (.slice A1_5 l1_5.length c1_5) := (bCl BK221.out 5).trans rfl; have hfz6_0 := bFz BK221.out 0; have hfz6_1 := bFz BK221.out 1; have hfz6_2 := bFz BK221.out 2; have hfz6_3 := bFz BK221.out 3; have hfz6_4 := bFz BK221.out 4; have hfz6_5 := bFz BK221.out 5) | (go_at_call 64; (with_reducible refine (rf8Few.calls k a1_0 a1_1 a1_2 _ _ l1_3 _ _ l1_4 _ _ l1_5 t222 _ ?side1 ?side2 ?side3 ?side4 ?side5 ?side6 A4.out).mono ?_); (case side1 => repeat (first | exact (Kd.C_below HR1_3.out HB.out) | (with_reducible refine Kd.C_alloc ?_ _) | (with_reducible refine Kd.C_drewN ?_ _) | (with_reducible refine Kd.C_drew ?_))); (case side2 => exact HC1_3.out); (case side3 => repeat (first | exact (Kd.C_below HR1_4.out HB.out) | (with_reducible refine Kd.C_alloc ?_ _) | (with_reducible refine Kd.C_drewN ?_ _) | (with_reducible refine Kd.C_drew ?_))); (case side4 => exact HC1_4.out); (case side5 => repeat (first | exact (Kd.C_below HR1_5.out HB.out) | (with_reducible refine Kd.C_alloc ?_ _) | (with_reducible refine Kd.C_drewN ?_ _) | (with_reducible refine Kd.C_drew ?_))); (case side6 => exact HC1_5.out); rintro e w7 ⟨rfl, hb⟩; have n0_ := Aside0.mk (blk_below (g := gb221) (o := .cells #[.int .i64 a1_0, .string a1_1, .int .i64 a1_2, .slice A1_3 l1_3.length c1_3, .slice A1_4 l1_4.length c1_4, .slice A1_5 l1_5.length c1_5] 26 (0, 0)) (by (with_reducible repeat (first | refine blk_drewN ?_ _ | refine blk_drew ?_ | refine blk_alloc ?_ _)); exact BK221.out) hb); have n1_ := Aside0.mk (below_step (by repeat (first | (with_reducible first | exact HB.out | apply bAl | apply pwDN | apply bD1 | refine bSt ?_ GE221.out) | exact HB.out)) hb); clear BK221; clear HB; have BK221 := n0_; have HB := n1_; clear n0_ n1_; (try clear hb); (try clear hb2); (try clear hk); (try clear hi)))
   go_ret
   exact ⟨by first | rfl | (simp [errW_none, errW_some] <;> rfl) | (simp [*, errW_none, errW_some] <;> rfl), by repeat (first | (with_reducible first | exact HB.out | apply bAl | apply pwDN | apply bD1 | refine bSt ?_ GE221.out) | exact HB.out)⟩
 · rw [if_neg c3] at H
   have c3b0 : decide ((l0.length : Int) ≤ 30) = false := decide_eq_false c3
   have c3b1 : decide (l0.length ≤ 30) = false := decide_eq_false (by omega)
   clear c3
   obtain rfl := Option.some.inj H
   go_enter Tryd.func37, Tryd.ntmps37
   go_wp2_with (first | ((with_reducible refine gate_dst (N := 3) rfl ?_); refine box_event ?hg (N := 3) ?hd (cs := #[.int .i64 a1_0, .string a1_1, .int .i64 a1_2, .slice A1_3 l1_3.length c1_3, .slice A1_4 l1_4.length c1_4, .slice A1_5 l1_5.length c1_5]) (t := 26) ?hr ?_; (case hd => rfl); (case hg => rfl); (case hr => first | (go_simp; done) | (go_simp; rfl)); intro gb221 hg w8 hbox hb; have n0_ := Aside0.mk (below_step (by repeat (first | (with_reducible first | exact HB.out | apply bAl | apply pwDN | apply bD1) | exact HB.out)) hb); have n1_ := Aside0.mk (hbox); have n2_ := Aside0.mk ((by rw [hg]; exact (below_size (by repeat (first | (with_reducible first | exact HB.out | apply bAl | apply pwDN | apply bD1) | exact HB.out))) : w.heap.size ≤ gb221)); have n3_ := Aside0.mk ((by rw [hg]; exact (below_size (by repeat (first | (with_reducible first | exact HB.out | apply bAl | apply pwDN | apply bD1) | exact HB.out))) : w.heap.size ≤ gb221)); clear HB; have HB := n0_; have BK221 := n1_; have GW221 := n2_; have GE221 := n3_; clear n0_ n1_ n2_ n3_; clear hb hbox hg))
   go_ret
   exact ⟨by first | rfl | (simp [errW_none, errW_some] <;> rfl) | (simp [*, errW_none, errW_some] <;> rfl), by repeat (first | (with_reducible first | exact HB.out | apply bAl | apply pwDN | apply bD1 | refine bSt ?_ GE221.out) | exact HB.out)⟩
def rf8bind.f (k : Nat) (a0_0 : ByteArray) (a0_1 : Int) : Option (Bool) := (rf6Name.f k a0_0).bind fun t226 => (if t226 = true then (if a0_1 ≥ 1 then (some (decide (a0_1 ≤ 7))) else (some false)) else (some false))
set_option maxHeartbeats 8000000 in
set_option maxRecDepth 100000 in
theorem rf8bind.calls (k : Nat) (a0_0 : ByteArray) (a0_1 : Int) (r : Bool) (w : World) (h : rf8bind.f k a0_0 a0_1 = some r) :
   Calls Tryd.prog 74 #[.agg #[.string a0_0, .int .i64 a0_1]] w fun e w' => e = .returned (.bool r) ∧ Below w.heap.size w w' := by
 have hu42 := Tryd.underlying42
 have HB := Aside0.mk (Below.refl w.heap.size w)
 have H : ((rf6Name.f k a0_0).bind fun t226 => (if t226 = true then (if a0_1 ≥ 1 then (some (decide (a0_1 ≤ 7))) else (some false)) else (some false))) = some r := h
 clear h
 replace H := Option.bind_eq_some_iff.mp H
 obtain ⟨t226, A20, H⟩ := H
 replace H : (if t226 = true then (if a0_1 ≥ 1 then (some (decide (a0_1 ≤ 7))) else (some false)) else (some false)) = some r := H
 have A2 := Aside0.mk A20
 clear A20
 by_cases c3 : t226 = true
 · subst c3
   have H1 : (if a0_1 ≥ 1 then (some (decide (a0_1 ≤ 7))) else (some false)) = some r := by rw [if_pos rfl] at H; exact H
   clear H
   have H := H1
   clear H1
   by_cases c4 : a0_1 ≥ 1
   · rw [if_pos c4] at H
     have c4b0 : decide (1 ≤ a0_1) = true := decide_eq_true c4
     clear c4
     obtain rfl := Option.some.inj H
     go_enter Tryd.func74, Tryd.ntmps74
     go_wp2_with (first | ((with_reducible refine gate_dst (N := 1) rfl ?_); refine box_event ?hg (N := 1) ?hd (cs := #[.string a0_0, .int .i64 a0_1]) (t := 42) ?hr ?_; (case hd => rfl); (case hg => rfl); (case hr => first | (go_simp; done) | (go_simp; rfl)); intro gb225 hg w5 hbox hb; have n0_ := Aside0.mk (below_step (by repeat (first | (with_reducible first | exact HB.out | apply bAl | apply pwDN | apply bD1) | exact HB.out)) hb); have n1_ := Aside0.mk (hbox); have n2_ := Aside0.mk ((by rw [hg]; exact (below_size (by repeat (first | (with_reducible first | exact HB.out | apply bAl | apply pwDN | apply bD1) | exact HB.out))) : w.heap.size ≤ gb225)); have n3_ := Aside0.mk ((by rw [hg]; exact (below_size (by repeat (first | (with_reducible first | exact HB.out | apply bAl | apply pwDN | apply bD1) | exact HB.out))) : w.heap.size ≤ gb225)); clear HB; have HB := n0_; have BK225 := n1_; have GW225 := n2_; have GE225 := n3_; clear n0_ n1_ n2_ n3_; clear hb hbox hg; have hcz6_0 : w5.cell? ⟨gb225, 0, none⟩ = some (.string a0_0) := (bCl BK225.out 0).trans rfl; have hcz6_1 : w5.cell? ⟨gb225, 1, none⟩ = some (.int .i64 a0_1) := (bCl BK225.out 1).trans rfl; have hfz6_0 := bFz BK225.out 0; have hfz6_1 := bFz BK225.out 1) | ((with_reducible refine gate_callee (f := 49) rfl ?_); refine goesL_ (some 5) rfl rfl Tryd.func49 (by kernel_rfl) rfl #[.string a0_0] rfl (by (try simp only [List.map_toArray, List.map_cons, List.map_nil]); first | done | rfl | (simp only [List.length_drop, List.length_take]; rfl)) ?_; (with_reducible refine (rf6Name.calls k a0_0 true _ A2.out).mono ?_); rintro e w' ⟨rfl, ⟨nd, rfl⟩⟩; refine ⟨_, rfl, ?_⟩))
     go_ret
     exact ⟨by first | rfl | (simp [errW_none, errW_some] <;> rfl) | (simp [*, errW_none, errW_some] <;> rfl), by repeat (first | (with_reducible first | exact HB.out | apply bAl | apply pwDN | apply bD1 | refine bSt ?_ GE225.out) | exact HB.out)⟩
   · rw [if_neg c4] at H
     have c4b0 : decide (1 ≤ a0_1) = false := decide_eq_false c4
     clear c4
     obtain rfl := Option.some.inj H
     go_enter Tryd.func74, Tryd.ntmps74
     go_wp2_with (first | ((with_reducible refine gate_dst (N := 1) rfl ?_); refine box_event ?hg (N := 1) ?hd (cs := #[.string a0_0, .int .i64 a0_1]) (t := 42) ?hr ?_; (case hd => rfl); (case hg => rfl); (case hr => first | (go_simp; done) | (go_simp; rfl)); intro gb225 hg w7 hbox hb; have n0_ := Aside0.mk (below_step (by repeat (first | (with_reducible first | exact HB.out | apply bAl | apply pwDN | apply bD1) | exact HB.out)) hb); have n1_ := Aside0.mk (hbox); have n2_ := Aside0.mk ((by rw [hg]; exact (below_size (by repeat (first | (with_reducible first | exact HB.out | apply bAl | apply pwDN | apply bD1) | exact HB.out))) : w.heap.size ≤ gb225)); have n3_ := Aside0.mk ((by rw [hg]; exact (below_size (by repeat (first | (with_reducible first | exact HB.out | apply bAl | apply pwDN | apply bD1) | exact HB.out))) : w.heap.size ≤ gb225)); clear HB; have HB := n0_; have BK225 := n1_; have GW225 := n2_; have GE225 := n3_; clear n0_ n1_ n2_ n3_; clear hb hbox hg; have hcz8_0 : w7.cell? ⟨gb225, 0, none⟩ = some (.string a0_0) := (bCl BK225.out 0).trans rfl; have hcz8_1 : w7.cell? ⟨gb225, 1, none⟩ = some (.int .i64 a0_1) := (bCl BK225.out 1).trans rfl; have hfz8_0 := bFz BK225.out 0; have hfz8_1 := bFz BK225.out 1) | ((with_reducible refine gate_callee (f := 49) rfl ?_); refine goesL_ (some 5) rfl rfl Tryd.func49 (by kernel_rfl) rfl #[.string a0_0] rfl (by (try simp only [List.map_toArray, List.map_cons, List.map_nil]); first | done | rfl | (simp only [List.length_drop, List.length_take]; rfl)) ?_; (with_reducible refine (rf6Name.calls k a0_0 true _ A2.out).mono ?_); rintro e w' ⟨rfl, ⟨nd, rfl⟩⟩; refine ⟨_, rfl, ?_⟩))
     go_ret
     exact ⟨by first | rfl | (simp [errW_none, errW_some] <;> rfl) | (simp [*, errW_none, errW_some] <;> rfl), by repeat (first | (with_reducible first | exact HB.out | apply bAl | apply pwDN | apply bD1 | refine bSt ?_ GE225.out) | exact HB.out)⟩
 · replace c3 := Bool.eq_false_iff.mpr c3
   subst c3
   have H1 : (some false) = some r := by rw [if_neg (show ¬ (false = true) by decide)] at H; exact H
   clear H
   have H := H1
   clear H1
   obtain rfl := Option.some.inj H
   go_enter Tryd.func74, Tryd.ntmps74
   go_wp2_with (first | ((with_reducible refine gate_dst (N := 1) rfl ?_); refine box_event ?hg (N := 1) ?hd (cs := #[.string a0_0, .int .i64 a0_1]) (t := 42) ?hr ?_; (case hd => rfl); (case hg => rfl); (case hr => first | (go_simp; done) | (go_simp; rfl)); intro gb225 hg w9 hbox hb; have n0_ := Aside0.mk (below_step (by repeat (first | (with_reducible first | exact HB.out | apply bAl | apply pwDN | apply bD1) | exact HB.out)) hb); have n1_ := Aside0.mk (hbox); have n2_ := Aside0.mk ((by rw [hg]; exact (below_size (by repeat (first | (with_reducible first | exact HB.out | apply bAl | apply pwDN | apply bD1) | exact HB.out))) : w.heap.size ≤ gb225)); have n3_ := Aside0.mk ((by rw [hg]; exact (below_size (by repeat (first | (with_reducible first | exact HB.out | apply bAl | apply pwDN | apply bD1) | exact HB.out))) : w.heap.size ≤ gb225)); clear HB; have HB := n0_; have BK225 := n1_; have GW225 := n2_; have GE225 := n3_; clear n0_ n1_ n2_ n3_; clear hb hbox hg; have hcz10_0 : w9.cell? ⟨gb225, 0, none⟩ = some (.string a0_0) := (bCl BK225.out 0).trans rfl; have hcz10_1 : w9.cell? ⟨gb225, 1, none⟩ = some (.int .i64 a0_1) := (bCl BK225.out 1).trans rfl; have hfz10_0 := bFz BK225.out 0; have hfz10_1 := bFz BK225.out 1) | ((with_reducible refine gate_callee (f := 49) rfl ?_); refine goesL_ (some 5) rfl rfl Tryd.func49 (by kernel_rfl) rfl #[.string a0_0] rfl (by (try simp only [List.map_toArray, List.map_cons, List.map_nil]); first | done | rfl | (simp only [List.length_drop, List.length_take]; rfl)) ?_; (with_reducible refine (rf6Name.calls k a0_0 false _ A2.out).mono ?_); rintro e w' ⟨rfl, ⟨nd, rfl⟩⟩; refine ⟨_, rfl, ?_⟩))
   go_ret
   exact ⟨by first | rfl | (simp [errW_none, errW_some] <;> rfl) | (simp [*, errW_none, errW_some] <;> rfl), by repeat (first | (with_reducible first | exact HB.out | apply bAl | apply pwDN | apply bD1 | refine bSt ?_ GE225.out) | exact HB.out)⟩
def rf8stands.l0 : Nat → List (S42) → ByteArray → Int → Option (Bool)
 | 0, _, _, _ => none
 | k + 1, x0, x1, x5 => if x5 < (x0.length : Int) then (if 0 ≤ x5 then (if ((rd_T42 x0 x5).f0).toList = x1.toList then (some true) else (rf8stands.l0 k x0 x1 (wrap64 (x5 + 1)))) else (none)) else (some false)
def rf8stands.f (k : Nat) (l0 : List (S42)) (a1 : ByteArray) : Option (Bool) := rf8stands.l0 k l0 a1 0
set_option maxHeartbeats 8000000 in
set_option maxRecDepth 100000 in
theorem rf8stands.calls (k : Nat) (A0 : Option Addr) (c0 : Nat) (l0 : List (S42)) (a1 : ByteArray) (r : Bool) (w : World) (hr0 : Kd.C k42 w A0 l0.length l0) (hc0 : l0.length ≤ c0) (h : rf8stands.f k l0 a1 = some r) :
   Calls Tryd.prog 75 #[.slice A0 l0.length c0, .string a1] w fun e w' => e = .returned (.bool r) ∧ Drawn0 w w' := by
 have HR0 := Aside0.mk hr0
 have HC0 := Aside0.mk hc0
 clear hr0 hc0
 have H : (rf8stands.l0 k l0 a1 0) = some r := h
 clear h
 have H' := Aside0.mk H
 clear H
 go_enter Tryd.func75, Tryd.ntmps75
 go_wp2
 go_loopg [5] k (fun kq v5 w' => ∃ (x5_1 : Int), v5 = .int .i64 x5_1 ∧ Aside0 (rf8stands.l0 kq l0 a1 x5_1 = some r) ∧ Aside0 (kq ≤ k) ∧ Drawn0 w w')
 case atStart => exact ⟨(0), (by first | rfl | (simp; done) | (simp [*]; done)), H', ⟨Nat.le_refl _⟩, by repeat (first | exact Drawn0.refl _ | apply Drawn0.step)⟩
 case round =>
   clear H'
   try clear p2
   obtain ⟨x5_1, rfl, HA, HK1, ⟨m1, rfl⟩⟩ := hrel
   cases gk with
   | zero => exact absurd HA.out (by simp [rf8stands.l0])
   | succ k1 =>
     have H := HA.out
     clear HA
     simp only [rf8stands.l0] at H
     by_cases c3 : x5_1 < (l0.length : Int)
     · rw [if_pos c3] at H
       have c3b0 : decide (x5_1 < (l0.length : Int)) = true := decide_eq_true c3
       clear c3
       by_cases c4 : 0 ≤ x5_1
       · rw [if_pos c4] at H
         have c4b0 : decide (0 ≤ x5_1) = true := decide_eq_true c4
         clear c4
         by_cases c5 : ((rd_T42 l0 x5_1).f0).toList = a1.toList
         · rw [if_pos c5] at H
           have c5b0 : (((rd_T42 l0 x5_1).f0).toList == a1.toList) = true := beq_iff_eq.mpr c5
           have c5b1 : (((rd_T42 l0 x5_1).f0).toList != a1.toList) = false := bne_eq_false_iff_eq.mpr c5
           clear c5
           obtain rfl := Option.some.inj H
           have p227 : 0 ≤ (x5_1 : Int) := of_decide_eq_true (by first | (with_reducible assumption) | assumption)
           have q227 : x5_1 < (l0.length : Int) := of_decide_eq_true (by first | (with_reducible assumption) | assumption)
           obtain ⟨ad227, e227, hx227_0, hx227_1⟩ := at_T42 HR0.out x5_1 p227 q227
           cases e227
           replace p227 := eq_true p227
           replace q227 := eq_true q227
           go_wp2
           go_ret
           exact ⟨by first | rfl | (simp; done) | (simp [*]; done), by repeat (first | exact Drawn0.refl _ | apply Drawn0.step)⟩
         · rw [if_neg c5] at H
           have c5b0 : (((rd_T42 l0 x5_1).f0).toList == a1.toList) = false := beq_eq_false_iff_ne.mpr c5
           have c5b1 : (((rd_T42 l0 x5_1).f0).toList != a1.toList) = true := bne_iff_ne.mpr c5
           have H' := Aside0.mk H
           clear H
           have p227 : 0 ≤ (x5_1 : Int) := of_decide_eq_true (by first | (with_reducible assumption) | assumption)
           have q227 : x5_1 < (l0.length : Int) := of_decide_eq_true (by first | (with_reducible assumption) | assumption)
           obtain ⟨ad227, e227, hx227_0, hx227_1⟩ := at_T42 HR0.out x5_1 p227 q227
           cases e227
           replace p227 := eq_true p227
           replace q227 := eq_true q227
           go_wp2
           go_roundg k1
           case measure => have := HK1.out; omega
           case rel => exact ⟨(wrap64 (x5_1 + 1)), (by first | rfl | (simp; done) | (simp [*]; done)), H', ⟨by have := HK1.out; omega⟩, by repeat (first | exact Drawn0.refl _ | apply Drawn0.step)⟩
       · rw [if_neg c4] at H
         exact absurd H (by simp)
     · rw [if_neg c3] at H
       have c3b0 : decide (x5_1 < (l0.length : Int)) = false := decide_eq_false c3
       clear c3
       obtain rfl := Option.some.inj H
       go_wp2
       go_ret
       exact ⟨by first | rfl | (simp; done) | (simp [*]; done), by repeat (first | exact Drawn0.refl _ | apply Drawn0.step)⟩
def rf8sort.l0 : Nat → List (S42) → ByteArray → Int → Option (Int)
 | 0, _, _, _ => none
 | k + 1, x0, x1, x5 => if x5 < (x0.length : Int) then (if 0 ≤ x5 then (if ((rd_T42 x0 x5).f0).toList = x1.toList then (some ((rd_T42 x0 x5).f1)) else (rf8sort.l0 k x0 x1 (wrap64 (x5 + 1)))) else (none)) else (some 0)
def rf8sort.f (k : Nat) (l0 : List (S42)) (a1 : ByteArray) : Option (Int) := rf8sort.l0 k l0 a1 0
set_option maxHeartbeats 8000000 in
set_option maxRecDepth 100000 in
theorem rf8sort.calls (k : Nat) (A0 : Option Addr) (c0 : Nat) (l0 : List (S42)) (a1 : ByteArray) (r : Int) (w : World) (hr0 : Kd.C k42 w A0 l0.length l0) (hc0 : l0.length ≤ c0) (h : rf8sort.f k l0 a1 = some r) :
   Calls Tryd.prog 105 #[.slice A0 l0.length c0, .string a1] w fun e w' => e = .returned (.int .i64 r) ∧ Drawn0 w w' := by
 have HR0 := Aside0.mk hr0
 have HC0 := Aside0.mk hc0
 clear hr0 hc0
 have H : (rf8sort.l0 k l0 a1 0) = some r := h
 clear h
 have H' := Aside0.mk H
 clear H
 go_enter Tryd.func105, Tryd.ntmps105
 go_wp2
 go_loopg [5] k (fun kq v5 w' => ∃ (x5_1 : Int), v5 = .int .i64 x5_1 ∧ Aside0 (rf8sort.l0 kq l0 a1 x5_1 = some r) ∧ Aside0 (kq ≤ k) ∧ Drawn0 w w')
 case atStart => exact ⟨(0), (by first | rfl | (simp; done) | (simp [*]; done)), H', ⟨Nat.le_refl _⟩, by repeat (first | exact Drawn0.refl _ | apply Drawn0.step)⟩
 case round =>
   clear H'
   try clear c1
   try clear p2
   obtain ⟨x5_1, rfl, HA, HK1, ⟨m1, rfl⟩⟩ := hrel
   cases gk with
   | zero => exact absurd HA.out (by simp [rf8sort.l0])
   | succ k1 =>
     have H := HA.out
     clear HA
     simp only [rf8sort.l0] at H
     by_cases c3 : x5_1 < (l0.length : Int)
     · rw [if_pos c3] at H
       have c3b0 : decide (x5_1 < (l0.length : Int)) = true := decide_eq_true c3
       clear c3
       by_cases c4 : 0 ≤ x5_1
       · rw [if_pos c4] at H
         have c4b0 : decide (0 ≤ x5_1) = true := decide_eq_true c4
         clear c4
         by_cases c5 : ((rd_T42 l0 x5_1).f0).toList = a1.toList
         · rw [if_pos c5] at H
           have c5b0 : (((rd_T42 l0 x5_1).f0).toList == a1.toList) = true := beq_iff_eq.mpr c5
           have c5b1 : (((rd_T42 l0 x5_1).f0).toList != a1.toList) = false := bne_eq_false_iff_eq.mpr c5
           clear c5
           obtain rfl := Option.some.inj H
           have p236 : 0 ≤ (x5_1 : Int) := of_decide_eq_true (by first | (with_reducible assumption) | assumption)
           have q236 : x5_1 < (l0.length : Int) := of_decide_eq_true (by first | (with_reducible assumption) | assumption)
           obtain ⟨ad236, e236, hx236_0, hx236_1⟩ := at_T42 HR0.out x5_1 p236 q236
           cases e236
           replace p236 := eq_true p236
           replace q236 := eq_true q236
           have p237 : 0 ≤ (x5_1 : Int) := of_decide_eq_true (by first | (with_reducible assumption) | assumption)
           have q237 : x5_1 < (l0.length : Int) := of_decide_eq_true (by first | (with_reducible assumption) | assumption)
           obtain ⟨ad237, e237, hx237_0, hx237_1⟩ := at_T42 HR0.out x5_1 p237 q237
           obtain rfl : ad236 = ad237 := (by injection e237)
           replace p237 := eq_true p237
           replace q237 := eq_true q237
           go_wp2
           go_ret
           exact ⟨by first | rfl | (simp; done) | (simp [*]; done), by repeat (first | exact Drawn0.refl _ | apply Drawn0.step)⟩
         · rw [if_neg c5] at H
           have c5b0 : (((rd_T42 l0 x5_1).f0).toList == a1.toList) = false := beq_eq_false_iff_ne.mpr c5
           have c5b1 : (((rd_T42 l0 x5_1).f0).toList != a1.toList) = true := bne_iff_ne.mpr c5
           have H' := Aside0.mk H
           clear H
           have p236 : 0 ≤ (x5_1 : Int) := of_decide_eq_true (by first | (with_reducible assumption) | assumption)
           have q236 : x5_1 < (l0.length : Int) := of_decide_eq_true (by first | (with_reducible assumption) | assumption)
           obtain ⟨ad236, e236, hx236_0, hx236_1⟩ := at_T42 HR0.out x5_1 p236 q236
           cases e236
           replace p236 := eq_true p236
           replace q236 := eq_true q236
           go_wp2
           go_roundg k1
           case measure => have := HK1.out; omega
           case rel => exact ⟨(wrap64 (x5_1 + 1)), (by first | rfl | (simp; done) | (simp [*]; done)), H', ⟨by have := HK1.out; omega⟩, by repeat (first | exact Drawn0.refl _ | apply Drawn0.step)⟩
       · rw [if_neg c4] at H
         exact absurd H (by simp)
     · rw [if_neg c3] at H
       have c3b0 : decide (x5_1 < (l0.length : Int)) = false := decide_eq_false c3
       clear c3
       obtain rfl := Option.some.inj H
       go_wp2
       go_ret
       exact ⟨by first | rfl | (simp; done) | (simp [*]; done), by repeat (first | exact Drawn0.refl _ | apply Drawn0.step)⟩
end Go.Proofs.YtmlcaecknocpoaaDoor.Pr
