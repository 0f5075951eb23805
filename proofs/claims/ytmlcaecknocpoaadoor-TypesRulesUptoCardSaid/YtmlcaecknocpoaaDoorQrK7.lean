/- Lemmas and walks for the claim below. -/
import Derived.Test.YtmlcaecknocpoaaDoorQrK6
import Derived.ProofKit
import Derived.LaidMore
import Derived.MakeChecks
import Derived.Maps.Keyed
import Derived.WideKeyElems2
import Derived.Maps.StringElems
import Derived.ChangeArms
import Derived.BigQuiet
import Derived.ArgAppend
import Derived.Test.YtmlcaecknocpoaaDoorRows
namespace Go.Proofs.YtmlcaecknocpoaaDoor.It
set_option linter.unusedVariables false
set_option linter.unusedSimpArgs false
open Go Go.RowKit Go.Shelf Go.Proofs.YtmlcaecknocpoaaDoorW.PrintWords Go.Proofs.YtmlcaecknocpoaaDoorW.PrintLast Go.Proofs.YtmlcaecknocpoaaDoor.Pr Go.Proofs.YtmlcaecknocpoaaDoor.Sp
open Go.ChangeShapes Go.WideShapes Go.ChangeAt Go.WideMaps Go.WideElems
theorem laid_at {P : Program} {W : World} : ∀ (laid : List (String × DataW Unit)) (ps : List MemPlace), DataW.LaidVars P W laid ps → ∀ n d, (n, d) ∈ laid →
   ∃ g t cs fuel p, P.globalNamed n = some g ∧ (P.globals[g]?).map (·.type) = some t ∧ W.var? P n = some cs ∧ DataW.trod (fun _ => ()) P W 0 (fun _ => true) false fuel t cs.toList = some (d, p)
 | [], _, _, _, _, h => by cases h
 | (n0, d0) :: r, ps, ⟨g, t, cs, fuel, p, q, h1, h2, h3, h4, h5, _⟩, n, d, h => by
   cases h with
   | head => exact ⟨g, t, cs, fuel, p, h1, h2, h3, h4⟩
   | tail _ h => exact laid_at r q h5 n d h
set_option maxRecDepth 100000 in
theorem map_laid {W : World} {laid : List (String × DataW Unit)} (h : laidMet Tryd.prog laid W) {n : String} {es0 : List (Lit × DataW Unit)} {g t k e : Nat} (hm : (n, .map es0) ∈ laid) (hg : Tryd.prog.globalNamed n = some g) (hty : (Tryd.prog.globals[g]?).map (·.type) = some t)
   (hu : Tryd.prog.underlying t = some (.map k e)) : ∃ b es clock m, W.cell? ⟨g, 0, none⟩ = some (.map (some b)) ∧ W.heap[b]? = some (.map es clock) ∧ Fit Tryd.prog k (elemAt (fun _ => ()) Tryd.prog W 0 (fun _ => true) false m e) es clock ∧
     DataW.map es0 = .map ((es.toList.map (rg Tryd.prog k (elemAt (fun _ => ()) Tryd.prog W 0 (fun _ => true) false m e))).foldr DataW.insert []) := by
 obtain ⟨ps, hv, _⟩ := h
 obtain ⟨g', t', cs, fuel, p, h1, h2, h3, h4⟩ := laid_at _ _ hv _ _ hm
 obtain rfl := Option.some.inj (hg.symm.trans h1)
 obtain rfl := Option.some.inj (hty.symm.trans h2)
 rcases open_map hu h4 with ⟨_, hx⟩ | ⟨b, es, clock, m, rfl, hcs, hb, _, F, hx⟩
 · simp at hx
 · simp only [Prod.mk.injEq] at hx
   refine ⟨b, es, clock, m, ?_, hb, F, hx.1⟩
   have := World.var?_cell h1 h3 0
   rw [Array.eq_one_of_toList hcs] at this
   simpa using this
theorem look_laid {W : World} {es0 : List (Lit × DataW Unit)} {t k e b m clock : Nat} {es : Array MapEntry} (K : Maps.Keyed Tryd.prog k) (hu : Tryd.prog.underlying t = some (.map k e)) (hb : W.heap[b]? = some (.map es clock))
   (F : Fit Tryd.prog k (elemAt (fun _ => ()) Tryd.prog W 0 (fun _ => true) false m e) es clock) (hx : DataW.map es0 = .map ((es.toList.map (rg Tryd.prog k (elemAt (fun _ => ()) Tryd.prog W 0 (fun _ => true) false m e))).foldr DataW.insert []))
   {z : Value} (hz : ∀ w : World, (zeroValue e).run Tryd.prog w = .ok z w) (c : Bool) {key : Value} {kl : Lit} (hkey : keyOf Tryd.prog k key = some kl) (W1 : World) (h1 : Below W.heap.size W W1) :
   ((Instr.lookup t (.map (some b)) key c).run Tryd.prog W1 = .ok (if c then .tuple #[z, .bool false] else z) W1 ∧ ∀ zd, (DataW.map es0).atKey kl zd = zd) ∨
   ∃ v y, (Instr.lookup t (.map (some b)) key c).run Tryd.prog W1 = .ok (if c then .tuple #[v, .bool true] else v) W1 ∧ elemAt (fun _ => ()) Tryd.prog W 0 (fun _ => true) false m e v = some y ∧ ∀ zd, (DataW.map es0).atKey kl zd = y.1 := by
 have hb1 : W1.heap[b]? = some (.map es clock) := (h1.block b (Array.getElem?_eq_some_iff.1 hb).1).trans hb
 rw [hx]
 rcases Maps.fit_look c K hu (hz W1) hb1 F hkey with ⟨h2, _, h3⟩ | ⟨e0, y, _, _, h2, h3, h4, _⟩
 · exact .inl ⟨h2, h3⟩
 · exact .inr ⟨e0.val, y, h2, h3, h4⟩
theorem key3 (k : Int) (h : I64 k) : keyOf Tryd.prog 3 (.int .i64 k) = some (.int .i64 k) := by
 have h3 := Tryd.underlying3
 have hw : (Lit.int .i64 k).wf = true := h
 simp [keyOf, mapKey, h3, hw]
theorem arity_at (k : Int) (z : DataW Unit) : Rows.laid_chalkline_formula_arity.atKey (.int .i64 k) z = (match Sp.arity k with | some m => .lit (.int .i64 m) | none => z) := by
 by_cases h : 1 ≤ k ∧ k ≤ 17
 · have : k = 1 ∨ k = 2 ∨ k = 3 ∨ k = 4 ∨ k = 5 ∨ k = 6 ∨ k = 7 ∨ k = 8 ∨ k = 9 ∨ k = 10 ∨ k = 11 ∨ k = 12 ∨ k = 13 ∨ k = 14 ∨ k = 15 ∨ k = 16 ∨ k = 17 := by omega
   rcases this with rfl | rfl | rfl | rfl | rfl | rfl | rfl | rfl | rfl | rfl | rfl | rfl | rfl | rfl | rfl | rfl | rfl <;> rfl
 · have ha : Sp.arity k = none := by unfold Sp.arity; rw [if_neg (by omega), if_neg (by omega), if_neg (by omega)]
   rw [ha]
   have hn : ∀ j : Int, 1 ≤ j → j ≤ 17 → (Lit.sameKey (.int .i64 j) (.int .i64 k)) = false := fun j h1 h2 => by
     simp [Lit.sameKey]; omega
   simp [Rows.laid_chalkline_formula_arity, DataW.atKey, List.find?, hn]
theorem atKey_none {es : List (Lit × DataW Unit)} {kl : Lit} {z : DataW Unit} (h : ∀ p ∈ es, p.1.sameKey kl = false) : (DataW.map es).atKey kl z = z := by
 have : es.find? (fun p => p.1.sameKey kl) = none := List.find?_eq_none.2 (fun p hp => by rw [h p hp]; simp)
 simp [DataW.atKey, this]
def reservedL : List (Lit × DataW Unit) := match (Rows.laid_chalkline_formula_reserved : DataW Unit) with | .map es => es | _ => []
def signsL : List (Lit × DataW Unit) := match (Rows.laid_chalkline_formula_signs : DataW Unit) with | .map es => es | _ => []
theorem reserved_at (l : List UInt8) : Rows.laid_chalkline_formula_reserved.atKey (.string l) (.lit (.bool false) : DataW Unit) = .lit (.bool (Sp.reserved.contains l)) := by
 by_cases hm : l ∈ Sp.reserved
 · have hc : Sp.reserved.contains l = true := by simpa using hm
   rw [hc]
   simp only [Sp.reserved, List.mem_cons, List.not_mem_nil, or_false] at hm
   rcases hm with rfl | rfl | rfl | rfl | rfl | rfl | rfl | rfl | rfl | rfl | rfl | rfl | rfl | rfl | rfl | rfl | rfl | rfl | rfl | rfl | rfl | rfl | rfl | rfl | rfl <;> rfl
 · have hc : Sp.reserved.contains l = false := by simpa using hm
   rw [hc]
   refine (atKey_none (es := reservedL) fun p hp => ?_)
   have hk : reservedL.all (fun p => match p.1 with | .string b => Sp.reserved.contains b | _ => false) = true := by decide +kernel
   have := List.all_eq_true.1 hk p hp
   obtain ⟨q, d⟩ := p
   cases q with
   | string b =>
     have hb : b ∈ Sp.reserved := by simpa using this
     simp only [Lit.sameKey]
     have hne : b ≠ l := fun e => hm (e ▸ hb)
     simpa using hne
   | _ => simp at this
theorem sign_at (s : ByteArray) : Rows.laid_chalkline_formula_signs.atKey (.string s.data.toList) (.lit (.string []) : DataW Unit) = .lit (.string (sign s).data.toList) := by
 unfold sign
 generalize s.data.toList = l
 by_cases hm : l ∈ [[61], [33, 61], [60], [62, 61], [60, 61], [62]]
 · simp only [List.mem_cons, List.not_mem_nil, or_false] at hm
   rcases hm with rfl | rfl | rfl | rfl | rfl | rfl <;> rfl
 · have hl : signs.lookup l = none := by
     simp only [List.mem_cons, List.not_mem_nil, or_false, not_or] at hm
     have hb : ∀ m : List UInt8, ¬ l = m → (l == m) = false := fun m h => by simpa using h
     obtain ⟨h1, h2, h3, h4, h5, h6⟩ := hm
     simp [signs, List.lookup_cons, hb _ h1, hb _ h2, hb _ h3, hb _ h4, hb _ h5, hb _ h6]
   rw [hl]
   refine (atKey_none (es := signsL) fun p hp => ?_)
   have hk : signsL.all (fun p => match p.1 with | .string b => ([[61], [33, 61], [60], [62, 61], [60, 61], [62]] : List (List UInt8)).contains b | _ => false) = true := by decide +kernel
   have := List.all_eq_true.1 hk p hp
   obtain ⟨q, d⟩ := p
   cases q with
   | string b =>
     have hb : b ∈ ([[61], [33, 61], [60], [62, 61], [60, 61], [62]] : List (List UInt8)) := List.contains_iff_mem.1 this
     simp only [Lit.sameKey]
     have hne : b ≠ l := fun e => hm (e ▸ hb)
     simpa using hne
   | _ => simp at this
theorem gArity : Tryd.prog.globalNamed "chalkline/formula.arity" = some 0 := by kernel_rfl
theorem gSigns : Tryd.prog.globalNamed "chalkline/formula.signs" = some 1 := by kernel_rfl
theorem gReserved : Tryd.prog.globalNamed "chalkline/formula.reserved" = some 5 := by kernel_rfl
theorem tArity : (Tryd.prog.globals[0]?).map (·.type) = some 85 := by kernel_rfl
theorem tSigns : (Tryd.prog.globals[1]?).map (·.type) = some 87 := by kernel_rfl
theorem tReserved : (Tryd.prog.globals[5]?).map (·.type) = some 79 := by kernel_rfl
theorem zero3 (w : World) : (zeroValue 3).run Tryd.prog w = .ok (.int .i64 0) w := by kernel_rfl
theorem zero4 (w : World) : (zeroValue 4).run Tryd.prog w = .ok (.bool false) w := by kernel_rfl
theorem zero9 (w : World) : (zeroValue 9).run Tryd.prog w = .ok (.string ⟨#[]⟩) w := by kernel_rfl
theorem tabs_laid {W : World} {laid : List (String × DataW Unit)} (h : laidMet Tryd.prog laid W) (ha : ("chalkline/formula.arity", Rows.laid_chalkline_formula_arity) ∈ laid) (hs : ("chalkline/formula.signs", Rows.laid_chalkline_formula_signs) ∈ laid)
   (hr : ("chalkline/formula.reserved", Rows.laid_chalkline_formula_reserved) ∈ laid) : Tabs W := by
 refine ⟨?_, ?_, ?_⟩
 · obtain ⟨b, es, clock, m, hc, hb, F, hx⟩ := map_laid h ha gArity tArity Tryd.underlying85
   refine ⟨b, hc, fun W1 h1 k hk => ?_⟩
   rcases look_laid (Maps.int_keyed Tryd.underlying3) Tryd.underlying85 hb F hx zero3 true (key3 k hk) W1 h1 with ⟨hr, hat⟩ | ⟨v, y, hr, hv, hat⟩
   · have h1 := (hat .nil).symm.trans (arity_at k .nil)
     rw [hr]
     cases e : Sp.arity k with
     | none => rfl
     | some m => rw [e] at h1; cases h1
   · obtain ⟨r, rfl, rfl, _⟩ := elemAt_int Tryd.underlying3 hv
     have h1 := (hat .nil).symm.trans (arity_at k .nil)
     rw [hr]
     cases e : Sp.arity k with
     | none => rw [e] at h1; cases h1
     | some m =>
       rw [e] at h1
       have : r = m := by simpa using h1
       subst this
       rfl
 · obtain ⟨b, es, clock, m, hc, hb, F, hx⟩ := map_laid h hs gSigns tSigns Tryd.underlying87
   refine ⟨b, hc, fun W1 h1 s hs => ?_⟩
   have hd := sign_at s
   rcases look_laid keyed9 Tryd.underlying87 hb F hx zero9 false (key9 s hs) W1 h1 with ⟨hr, hat⟩ | ⟨v, y, hr, hv, hat⟩
   · have := (hat (.lit (.string []))).symm.trans hd
     have e : ([] : List UInt8) = (sign s).data.toList := by simpa using this
     rw [hr]
     have e2 : sign s = ⟨#[]⟩ := by
       generalize sign s = u at e
       obtain ⟨⟨l⟩⟩ := u
       have : [] = l := e
       subst this; rfl
     rw [e2]; rfl
   · obtain ⟨r, rfl, rfl, _⟩ := Go.WideElems.elemAt_string Tryd.underlying9 hv
     have := (hat (.lit (.string []))).symm.trans hd
     have e : r.data.toList = (sign s).data.toList := by simpa using this
     have e2 : r = sign s := by
       generalize sign s = u at e
       obtain ⟨⟨l⟩⟩ := u
       obtain ⟨⟨l'⟩⟩ := r
       have : l' = l := e
       subst this; rfl
     rw [hr, e2]; rfl
 · obtain ⟨b, es, clock, m, hc, hb, F, hx⟩ := map_laid h hr gReserved tReserved Tryd.underlying79
   refine ⟨b, hc, fun W1 h1 s hs => ?_⟩
   have hd := reserved_at s.data.toList
   rcases look_laid keyed9 Tryd.underlying79 hb F hx zero4 false (key9 s hs) W1 h1 with ⟨hr, hat⟩ | ⟨v, y, hr, hv, hat⟩
   · have := (hat (.lit (.bool false))).symm.trans hd
     have e : false = Sp.reserved.contains s.data.toList := by simpa using this
     rw [hr, ← e]; rfl
   · obtain ⟨r, rfl, rfl⟩ := elemAt_bool Tryd.underlying4 hv
     have := (hat (.lit (.bool false))).symm.trans hd
     have e : r = Sp.reserved.contains s.data.toList := by simpa using this
     rw [hr, e]; rfl
def asksL : List Int := [0, 0, 0, 0, 0, 0, 1, 2, 1, 3, 4, 1, 5, 1, 4, 2, 3, 2]
def takesL : List Int := [0, 0, 0, 0, 0, 0, 2, 6, 2, 8, 3, 7, 3, 8, 1, 8]
structure Kinds (w : World) : Prop where
 asks : ∀ j : Nat, j < 18 → w.cell? ⟨3, j, none⟩ = some (.int .i64 (asksL.getD j 0))
 takes : ∀ j : Nat, j < 16 → w.cell? ⟨4, j, none⟩ = some (.int .i64 (takesL.getD j 0))
theorem Kinds.below {w w1 : World} (h : Kinds w) (hb : Below w.heap.size w w1) : Kinds w1 := ⟨fun j hj => up_cell hb (h.asks j hj), fun j hj => up_cell hb (h.takes j hj)⟩
theorem trod_arr {H : Type} {enc : TypeId × Value → H} {P : Program} {w : World} {base : Nat} {sp : Nat → Bool} {held : Bool} {t e n fuel : Nat} {cs : List Value} {ds : List (DataW H)} {p : List MemPlace} (ht : P.underlying t = some (.array n e)) (h : DataW.trod enc P w base sp held fuel t cs = some (.agg ds, p)) :
   ∃ m, cs.length = P.cellsOf t ∧ ds.length = n ∧ ∀ i, i < n → ∃ q, DataW.trod enc P w base sp held m e ((cs.drop (i * P.cellsOf e)).take (P.cellsOf e)) = some (ds.getD i .nil, q) := by
 cases fuel with
 | zero => simp [DataW.trod] at h
 | succ m =>
   unfold DataW.trod at h
   rw [ht] at h
   simp only at h
   split at h
   · rename_i hc
     simp only [Option.map_eq_some_iff, Prod.mk.injEq, DataW.agg.injEq] at h
     obtain ⟨xs, hx, rfl, _⟩ := h
     have hl : xs.length = n := by simpa using mapM_some_length hx
     refine ⟨m, hc, by simpa using hl, fun i hi => ?_⟩
     have hg := mapM_some_get hx i i (by simp [hi])
     obtain ⟨y, hy⟩ : ∃ y, xs[i]? = some y := ⟨xs[i], List.getElem?_eq_getElem (by omega)⟩
     refine ⟨y.2, ?_⟩
     rw [hg, hy]
     simp [List.getD, hy]
   · cases h
set_option maxRecDepth 100000 in
theorem trod_int {H : Type} {enc : TypeId × Value → H} {w : World} {base : Nat} {sp : Nat → Bool} {held : Bool} {fuel : Nat} {cs : List Value} {r : Int} {p : List MemPlace} (h : DataW.trod enc Tryd.prog w base sp held fuel 3 cs = some (.lit (.int .i64 r), p)) : cs = [.int .i64 r] := by
 cases fuel with
 | zero => simp [DataW.trod] at h
 | succ m =>
   unfold DataW.trod at h
   rw [Tryd.underlying3] at h
   simp only at h
   split at h <;> simp_all
set_option maxRecDepth 100000 in
theorem table_cells {W : World} {t n fuel g : Nat} {cs : Array Value} {ds : List (DataW Unit)} {p : List MemPlace} (L : List Int) (ht : Tryd.prog.underlying t = some (.array n 102)) (hd : ds = ((List.range n).map fun i => DataW.agg [.lit (.int .i64 (L.getD (2 * i) 0)), .lit (.int .i64 (L.getD (2 * i + 1) 0))]))
   (hcell : ∀ i, W.cell? ⟨g, i, none⟩ = cs[i]?) (h : DataW.trod (fun _ => ()) Tryd.prog W 0 (fun _ => true) false fuel t cs.toList = some (.agg ds, p)) : ∀ j : Nat, j < 2 * n → W.cell? ⟨g, j, none⟩ = some (.int .i64 (L.getD j 0)) := by
 have h102 : Tryd.prog.underlying 102 = some (.array 2 3) := by kernel_rfl
 have c102 : Tryd.prog.cellsOf 102 = 2 := by kernel_rfl
 have c3 : Tryd.prog.cellsOf 3 = 1 := by kernel_rfl
 obtain ⟨m, _, hl, hk⟩ := trod_arr ht h
 have key : ∀ i, i < n → ∀ k, k < 2 → cs[2 * i + k]? = some (.int .i64 (L.getD (2 * i + k) 0)) := by
   intro i hi k hk2
   obtain ⟨q, hq⟩ := hk i hi
   rw [hd, c102] at hq
   have e : ((List.range n).map fun i => DataW.agg [DataW.lit (H := Unit) (.int .i64 (L.getD (2 * i) 0)), .lit (.int .i64 (L.getD (2 * i + 1) 0))]).getD i .nil = .agg [.lit (.int .i64 (L.getD (2 * i) 0)), .lit (.int .i64 (L.getD (2 * i + 1) 0))] := by
     simp [List.getD, hi]
   rw [e] at hq
   obtain ⟨m2, _, _, hk3⟩ := trod_arr h102 hq
   obtain ⟨q3, hq3⟩ := hk3 k hk2
   rw [c3] at hq3
   have e3 : ([DataW.lit (H := Unit) (.int .i64 (L.getD (2 * i) 0)), .lit (.int .i64 (L.getD (2 * i + 1) 0))]).getD k .nil = .lit (.int .i64 (L.getD (2 * i + k) 0)) := by
     match k, hk2 with
     | 0, _ => rfl
     | 1, _ => rfl
   rw [e3] at hq3
   have hc := trod_int hq3
   have h0 : ((((cs.toList.drop (i * 2)).take 2).drop (k * 1)).take 1)[0]? = some (.int .i64 (L.getD (2 * i + k) 0)) := by rw [hc]; rfl
   rw [List.getElem?_take_of_lt (by omega), List.getElem?_drop, List.getElem?_take_of_lt (by omega), List.getElem?_drop] at h0
   rw [← Array.getElem?_toList, ← h0]
   congr 1
   omega
 intro j hj
 rw [hcell]
 have := key (j / 2) (by omega) (j % 2) (by omega)
 rw [show 2 * (j / 2) + j % 2 = j by omega] at this
 exact this
set_option maxRecDepth 100000 in
theorem kinds_laid {W : World} {laid : List (String × DataW Unit)} (h : laidMet Tryd.prog laid W) (ha : ("chalkline/types.asks", Rows.laid_chalkline_types_asks) ∈ laid) (hk : ("chalkline/types.takes", Rows.laid_chalkline_types_takes) ∈ laid) : Kinds W := by
 obtain ⟨ps, hv, _⟩ := h
 have ga : Tryd.prog.globalNamed "chalkline/types.asks" = some 3 := by kernel_rfl
 have gk : Tryd.prog.globalNamed "chalkline/types.takes" = some 4 := by kernel_rfl
 have ta : (Tryd.prog.globals[3]?).map (·.type) = some 103 := by kernel_rfl
 have tk : (Tryd.prog.globals[4]?).map (·.type) = some 105 := by kernel_rfl
 have ua : Tryd.prog.underlying 103 = some (.array 9 102) := by kernel_rfl
 have uk : Tryd.prog.underlying 105 = some (.array 8 102) := by kernel_rfl
 refine ⟨?_, ?_⟩
 · obtain ⟨g', t', cs, fuel, p, h1, h2, h3, h4⟩ := laid_at _ _ hv _ _ ha
   obtain rfl := Option.some.inj (ga.symm.trans h1)
   obtain rfl := Option.some.inj (ta.symm.trans h2)
   exact table_cells asksL ua rfl (World.var?_cell h1 h3) h4
 · obtain ⟨g', t', cs, fuel, p, h1, h2, h3, h4⟩ := laid_at _ _ hv _ _ hk
   obtain rfl := Option.some.inj (gk.symm.trans h1)
   obtain rfl := Option.some.inj (tk.symm.trans h2)
   exact table_cells takesL uk rfl (World.var?_cell h1 h3) h4
end Go.Proofs.YtmlcaecknocpoaaDoor.It
namespace Go.Proofs.YtmlcaecknocpoaaDoor.It
set_option linter.unusedVariables false
set_option linter.unusedSimpArgs false
open Go Go.RowKit Go.Shelf Go.Proofs.YtmlcaecknocpoaaDoorW.PrintWords Go.Proofs.YtmlcaecknocpoaaDoorW.PrintLast Go.Proofs.YtmlcaecknocpoaaDoor.Pr Go.Proofs.YtmlcaecknocpoaaDoor.Sp
attribute [local go_sem ↓] Go.wp_at_zero Go.wp_at_succ
theorem drewN_b (w : World) (n : Nat) : Below w.heap.size w (w.drewN n) := pwDN (Below.refl _ _) n
theorem t_box {W w1 : World} {k n : Int} {s : ByteArray} (g : Below (W.alloc (.cells #[.int .i64 k, .string s, .int .i64 n] 47)).heap.size (W.alloc (.cells #[.int .i64 k, .string s, .int .i64 n] 47)) w1) :
   w1.cell? ⟨W.heap.size, 0, none⟩ = some (.int .i64 k) ∧ w1.cell? ⟨W.heap.size, 1, none⟩ = some (.string s) ∧ w1.cell? ⟨W.heap.size, 2, none⟩ = some (.int .i64 n) := by
 have hb := blk_below g (heap_new W (.cells #[.int .i64 k, .string s, .int .i64 n] 47))
 exact ⟨(bCl hb 0).trans rfl, (bCl hb 1).trans rfl, (bCl hb 2).trans rfl⟩
set_option maxRecDepth 100000 in
set_option maxHeartbeats 4000000 in
theorem sort_num (env : List S42) (A : Option Addr) (c : Nat) (s : ByteArray) (n : Int) (w : World) : Calls Tryd.prog 67 #[.slice A env.length c, .agg #[.int .i64 1, .string s, .int .i64 n]] w fun e w' => e = .returned (.tuple #[.int .i64 8, .int .i64 0]) ∧ Below w.heap.size w w' := by
 have hu47 := Tryd.underlying47
 have T1 := Aside0.mk (up1 w (.cells #[.int .i64 1, .string s, .int .i64 n] 47))
 go_enter Tryd.func67, Tryd.ntmps67
 go_wp2_with fail
 go_ret2
 exact ⟨rfl, T1.out⟩
set_option maxRecDepth 100000 in
set_option maxHeartbeats 4000000 in
theorem sort_miss (env : List S42) (A : Option Addr) (c : Nat) (k : Int) (s : ByteArray) (n : Int) (w : World) (hr : Kd.C k42 w A env.length env) (hk : k ≠ 1) (hm : spot env s = -1) : Calls Tryd.prog 67 #[.slice A env.length c, .agg #[.int .i64 k, .string s, .int .i64 n]] w fun e w' => e = .returned (.tuple #[.int .i64 0, .int .i64 81]) ∧ Below w.heap.size w w' := by
 have hu47 := Tryd.underlying47
 have T1 := Aside0.mk (up1 w (.cells #[.int .i64 k, .string s, .int .i64 n] 47))
 have C101 := Aside0.mk (find_calls env A c s _ (Kd.C_below hr T1.out))
 rw [hm] at C101
 have k1 : (k == 1) = false := by simpa using hk
 clear hr hm hk
 go_enter Tryd.func67, Tryd.ntmps67
 go_wp2_with (go_at_call 101; (with_reducible refine C101.out.mono ?_); rintro e w1 ⟨rfl, g⟩; obtain ⟨q0, q1, q2⟩ := t_box g; replace T1 := Aside0.mk (T1.out.trans (g.mono T1.out.size)); clear C101 g)
 go_ret2
 exact ⟨rfl, T1.out⟩
set_option maxRecDepth 100000 in
set_option maxHeartbeats 4000000 in
theorem sort_var (env : List S42) (A : Option Addr) (c : Nat) (s : ByteArray) (n : Int) (w : World) (hr : Kd.C k42 w A env.length env) (j : Nat) (hj : j < env.length) (hm : spot env s = j) : Calls Tryd.prog 67 #[.slice A env.length c, .agg #[.int .i64 2, .string s, .int .i64 n]] w fun e w' => e = .returned (.tuple #[.int .i64 (rd_T42 env j).f1, .int .i64 0]) ∧ Below w.heap.size w w' := by
 have hu47 := Tryd.underlying47
 have hu42 := Tryd.underlying42
 have T1 := Aside0.mk (up1 w (.cells #[.int .i64 2, .string s, .int .i64 n] 47))
 have C101 := Aside0.mk (find_calls env A c s _ (Kd.C_below hr T1.out))
 rw [hm] at C101
 have HR := Aside0.mk hr
 obtain ⟨ad, rfl, -, -⟩ := bindAt hr (Below.refl _ _) j hj
 have hltz : (j : Int) < (env.length : Int) := by omega
 have hlen : env.length ≤ 9223372036854775807 := hr.2.1
 have hn0 : ¬ (j : Int) < 0 := by omega
 clear hr hm
 go_enter Tryd.func67, Tryd.ntmps67
 go_wp2_with (go_at_call 101; (with_reducible refine C101.out.mono ?_); rintro e w1 ⟨rfl, g⟩; obtain ⟨q0, q1, q2⟩ := t_box g; replace T1 := Aside0.mk (T1.out.trans (g.mono T1.out.size)); obtain ⟨ad2, e_ad, y0, y1⟩ := bindAt HR.out T1.out j hj; obtain rfl := Option.some.inj e_ad; clear C101 g e_ad)
 go_ret2
 exact ⟨rfl, T1.out⟩
set_option maxRecDepth 100000 in
set_option maxHeartbeats 4000000 in
theorem sort_fn (env : List S42) (A : Option Addr) (c : Nat) (k : Int) (s : ByteArray) (n : Int) (w : World) (hr : Kd.C k42 w A env.length env) (j : Nat) (hj : j < env.length) (hm : spot env s = j) (a0 a1 : Int) (b0 b1 : Nat)
   (hc0 : w.cell? ⟨4, b0, none⟩ = some (.int .i64 a0)) (hc1 : w.cell? ⟨4, b1, none⟩ = some (.int .i64 a1)) (hk : (k = 3 ∧ b0 = 6 ∧ b1 = 7) ∨ (k = 4 ∧ b0 = 8 ∧ b1 = 9) ∨ (k = 5 ∧ b0 = 10 ∧ b1 = 11) ∨ (k = 6 ∧ b0 = 12 ∧ b1 = 13) ∨ (k = 7 ∧ b0 = 14 ∧ b1 = 15)) :
   Calls Tryd.prog 67 #[.slice A env.length c, .agg #[.int .i64 k, .string s, .int .i64 n]] w fun e w' => e = .returned (if (rd_T42 env j).f1 = a0 then .tuple #[.int .i64 a1, .int .i64 0] else .tuple #[.int .i64 0, .int .i64 80]) ∧ Below w.heap.size w w' := by
 have hu47 := Tryd.underlying47
 have hu42 := Tryd.underlying42
 have hu105 : Tryd.prog.underlying 105 = some (.array 8 102) := by kernel_rfl
 have hu102 : Tryd.prog.underlying 102 = some (.array 2 3) := by kernel_rfl
 have T1 := Aside0.mk (up1 w (.cells #[.int .i64 k, .string s, .int .i64 n] 47))
 have C101 := Aside0.mk (find_calls env A c s _ (Kd.C_below hr T1.out))
 rw [hm] at C101
 have HR := Aside0.mk hr
 obtain ⟨ad, rfl, -, -⟩ := bindAt hr (Below.refl _ _) j hj
 have hltz : (j : Int) < (env.length : Int) := by omega
 have hlen : env.length ≤ 9223372036854775807 := hr.2.1
 have hn0 : ¬ (j : Int) < 0 := by omega
 have HC := Aside0.mk (And.intro hc0 hc1)
 clear hr hm hc0 hc1
 obtain ⟨f1, hf1⟩ : ∃ v, (rd_T42 env j).f1 = v := ⟨_, rfl⟩
 have HF := Aside0.mk hf1
 by_cases hs : f1 = a0
 · rw [hf1, if_pos hs]
   have hsb : (a0 != f1) = false := by simp [hs]
   clear hf1 hs
   rcases hk with ⟨rfl, rfl, rfl⟩ | ⟨rfl, rfl, rfl⟩ | ⟨rfl, rfl, rfl⟩ | ⟨rfl, rfl, rfl⟩ | ⟨rfl, rfl, rfl⟩
   all_goals
     go_enter Tryd.func67, Tryd.ntmps67
     go_wp2_with (go_at_call 101; (with_reducible refine C101.out.mono ?_); rintro e w1 ⟨rfl, g⟩; obtain ⟨q0, q1, q2⟩ := t_box g; replace T1 := Aside0.mk (T1.out.trans (g.mono T1.out.size)); obtain ⟨ad2, e_ad, y0, y1⟩ := bindAt HR.out T1.out j hj; obtain rfl := Option.some.inj e_ad; rw [HF.out] at y1; have x0 := up_cell T1.out HC.out.1; have x1 := up_cell T1.out HC.out.2; clear C101 g e_ad)
     go_quiet (fail)
     go_wp2_with fail
     go_ret2
     exact ⟨rfl, T1.out.trans ((drewN_b _ _).mono T1.out.size)⟩
 · rw [hf1, if_neg hs]
   have hsb : (a0 != f1) = true := by simp; exact fun e => hs e.symm
   clear hf1 hs
   rcases hk with ⟨rfl, rfl, rfl⟩ | ⟨rfl, rfl, rfl⟩ | ⟨rfl, rfl, rfl⟩ | ⟨rfl, rfl, rfl⟩ | ⟨rfl, rfl, rfl⟩
   all_goals
     go_enter Tryd.func67, Tryd.ntmps67
     go_wp2_with (go_at_call 101; (with_reducible refine C101.out.mono ?_); rintro e w1 ⟨rfl, g⟩; obtain ⟨q0, q1, q2⟩ := t_box g; replace T1 := Aside0.mk (T1.out.trans (g.mono T1.out.size)); obtain ⟨ad2, e_ad, y0, y1⟩ := bindAt HR.out T1.out j hj; obtain rfl := Option.some.inj e_ad; rw [HF.out] at y1; have x0 := up_cell T1.out HC.out.1; have x1 := up_cell T1.out HC.out.2; clear C101 g e_ad)
     go_quiet (fail)
     go_wp2_with fail
     go_ret2
     exact ⟨rfl, T1.out.trans ((drewN_b _ _).mono T1.out.size)⟩
def TK (t : S47) : Prop := t.f0 = 1 ∨ (2 ≤ t.f0 ∧ t.f0 ≤ 7)
theorem TK.of {t : S47} (h : term t = true) : TK t := by
 unfold Sp.term at h
 by_cases h1 : t.f0 = 1
 · exact .inl h1
 · rw [if_neg h1] at h
   simp only [Bool.and_eq_true, decide_eq_true_eq] at h
   exact .inr ⟨h.1.1.1, h.1.1.2⟩
theorem sort_calls (env : List S42) (A : Option Addr) (c : Nat) (t : S47) (w : World) (hr : Kd.C k42 w A env.length env) (hk : Kinds w) (ht : TK t) :
   Calls Tryd.prog 67 #[.slice A env.length c, .agg #[.int .i64 t.f0, .string t.f1, .int .i64 t.f2]] w fun e w' => e = .returned (.tuple #[.int .i64 (sortT env t).1, .int .i64 (sortT env t).2]) ∧ Below w.heap.size w w' := by
 obtain ⟨k, s, n⟩ := t
 unfold TK at ht
 dsimp only at ht ⊢
 by_cases h1 : k = 1
 · subst h1
   exact sort_num env A c s n w
 · unfold sortT
   rw [if_neg h1]
   cases hh : has env s with
   | false =>
     rw [has_false' hh]
     exact sort_miss env A c k s n w hr h1 (spot_miss hh)
   | true =>
     obtain ⟨j, hj, hsp, hsk, -, -⟩ := spot_hit hh
     rw [hsk]
     dsimp only
     have fin : ∀ (a0 a1 : Int) (b0 b1 : Nat), w.cell? ⟨4, b0, none⟩ = some (.int .i64 a0) → w.cell? ⟨4, b1, none⟩ = some (.int .i64 a1) → ((k = 3 ∧ b0 = 6 ∧ b1 = 7) ∨ (k = 4 ∧ b0 = 8 ∧ b1 = 9) ∨ (k = 5 ∧ b0 = 10 ∧ b1 = 11) ∨ (k = 6 ∧ b0 = 12 ∧ b1 = 13) ∨ (k = 7 ∧ b0 = 14 ∧ b1 = 15)) →
         resS k (rd_T42 env j).f1 = (if (rd_T42 env j).f1 = a0 then (a1, 0) else (0, 80)) →
         Calls Tryd.prog 67 #[.slice A env.length c, .agg #[.int .i64 k, .string s, .int .i64 n]] w fun e w' => e = .returned (.tuple #[.int .i64 (resS k (rd_T42 env j).f1).1, .int .i64 (resS k (rd_T42 env j).f1).2]) ∧ Below w.heap.size w w' := fun a0 a1 b0 b1 c0 c1 hkk he => by
       rw [he]
       refine (sort_fn env A c k s n w hr j hj hsp a0 a1 b0 b1 c0 c1 hkk).mono fun e w' ⟨h1, h2⟩ => ⟨h1.trans ?_, h2⟩
       by_cases hs : (rd_T42 env j).f1 = a0
       · rw [if_pos hs, if_pos hs]
       · rw [if_neg hs, if_neg hs]
     by_cases h2 : k = 2
     · subst h2
       exact sort_var env A c s n w hr j hj hsp
     · by_cases h3 : k = 3
       · subst h3; exact fin 2 6 6 7 (hk.takes 6 (by decide)) (hk.takes 7 (by decide)) (by omega) rfl
       · by_cases h4 : k = 4
         · subst h4; exact fin 2 8 8 9 (hk.takes 8 (by decide)) (hk.takes 9 (by decide)) (by omega) rfl
         · by_cases h5 : k = 5
           · subst h5; exact fin 3 7 10 11 (hk.takes 10 (by decide)) (hk.takes 11 (by decide)) (by omega) rfl
           · by_cases h6 : k = 6
             · subst h6; exact fin 3 8 12 13 (hk.takes 12 (by decide)) (hk.takes 13 (by decide)) (by omega) rfl
             · have h7 : k = 7 := by omega
               subst h7; exact fin 1 8 14 15 (hk.takes 14 (by decide)) (hk.takes 15 (by decide)) (by omega) rfl
where
 has_false' {env : List S42} {nm : ByteArray} (h : has env nm = false) : seek env nm = none := by
   unfold has at h
   cases hs : seek env nm with
   | none => rfl
   | some s => rw [hs] at h; cases h
end Go.Proofs.YtmlcaecknocpoaaDoor.It
namespace Go.Proofs.YtmlcaecknocpoaaDoor.It
set_option linter.unusedVariables false
open Go Go.RowKit Go.Shelf Go.Proofs.YtmlcaecknocpoaaDoorW.PrintWords Go.Proofs.YtmlcaecknocpoaaDoorW.PrintLast
section
variable {P : Program} {ops : Array Oper} {rest : List Oper} {o : Oper} {a : Act} {Q : Exit → Act → World → Prop} {α : Type} {R : α → List Value → Prop}
def Spared (e : TypeId) (W w1 : World) : Prop := W.heap.size ≤ w1.heap.size ∧ ∀ (g : Nat) (cells : Array Value) (t : TypeId), W.heap[g]? = some (Obj.cells cells t (0, 0)) → e ≠ t → w1.heap[g]? = some (Obj.cells cells t (0, 0))
theorem any_append {w0 W : World} (base : Nat) (hgd : o.guard = none) (s x : Operand) (t e : TypeId) (z : Value) (size bytes : Nat)
   (ho : o.op = .call { callee := .builtin .append, args := #[s, x], argTypes := #[t, t] })
   (ht : P.underlying t = some (.slice e)) (hinfo : (P.info? e).map (fun i => (i.zero, i.size, i.bytes)) = some (some z, size, bytes)) (hz : z.cells.size = size) (hs0 : 0 < size) (hb0 : 0 < bytes)
   (v : Value) (ps : List α) (p : α) (cs : List Value) (hs : a.eval s = v) (hx : a.eval x = .slice (some ⟨W.heap.size, 0, none⟩) 1 1) (hp : R p cs) (hcs : cs.length = size) (h1 : ∀ u ∈ cs, u.oneCell' = true)
   (HO : OwnRow R e size W base v ps ∨ ∃ A, v = .slice A ps.length ps.length ∧ ReadsRow R size W A ps.length ps) (HB : Below base w0 W) (hbase : base ≤ W.heap.size) (hl : (ps.length + 1) * bytes ≤ 140737488355328)
   (h : ∀ v1 w1, OwnRow R e size w1 base v1 (ps ++ [p]) → Below base w0 w1 → Spared e W w1 → wpList P ops Q rest (a.put o.dst v1) w1) :
   wpList P ops Q (o :: rest) a (W.alloc (.cells cs.toArray e)) := by
 rcases HO with HO | ⟨A, rfl, HR⟩
 · refine OwnRow.append base hgd s x t e z size bytes ho ht hinfo hz hs0 hb0 v ps p cs hs hx hp hcs h1 HO HB hbase hl fun v1 w1 h1 h2 h3 _ => h v1 w1 h1 h2 ⟨h3.size, fun g cells t hg hne => ?_⟩
   rw [h3.block g (Array.getElem?_eq_some_iff.1 hg).1 (HO.ne_block hg hne), hg]
 · obtain ⟨i0, hi, hzz⟩ := Option.map_eq_some_iff.1 hinfo
   simp only [Prod.mk.injEq] at hzz
   obtain ⟨hz0, hz1, hz2⟩ := hzz
   have hlen : ps.length + 1 ≤ 140737488355328 := Nat.le_trans (Nat.le_mul_of_pos_right _ hb0) hl
   have hA : Below W.heap.size W (W.alloc (.cells cs.toArray e)) := (Below.refl _ _).alloc (Nat.le_refl _) _
   obtain ⟨olds, hro, hco⟩ : ∃ olds, Reps R size ps olds ∧ ∀ b, A = some b → ∀ j u, olds[j]? = some u → W.cell? (b.add j) = some u := by
     rcases A with _ | ad
     · have h0 : ps.length = 0 := by
         rcases Nat.eq_zero_or_pos ps.length with h0 | h0
         · exact h0
         · obtain ⟨ad, h, _⟩ := HR.2.2 h0
           cases h
       obtain rfl : ps = [] := List.eq_nil_of_length_eq_zero h0
       exact ⟨[], Reps.none _ _, fun b hb => by cases hb⟩
     · obtain ⟨olds, hr, hc⟩ := ReadsRow.inner_ HR
       exact ⟨olds, hr, fun b hb j u hj => by cases hb; exact hc j u hj⟩
   refine wpList_append_grows (W.alloc (.cells cs.toArray e)) hgd s x t ho e i0 z size bytes ht hi hz0 hz1 hz2 hz hs0 A ps.length ps.length olds hs (fun hn => ?_) hro.1 (fun b hb j u hj => up_cell hA (hco b hb j u hj)) ⟨W.heap.size, 0, none⟩ 1 1 cs hx (by rw [hcs]; simp)
     (by simpa using World.news_of_block (cs := cs.toArray) (t := e) (fr := (0, 0)) (heap_alloc_new W (.cells cs.toArray e))) h1 (by omega) (by simp only [maxLen]; omega) hl fun v1 w1 hown hg => ?_
   · subst hn
     rcases Nat.eq_zero_or_pos ps.length with h0 | h0
     · exact ⟨h0, h0⟩
     · obtain ⟨ad, h, _⟩ := HR.2.2 h0
       cases h
   · refine h v1 w1 ⟨olds ++ cs, ?_, hro.snoc hp hcs⟩ ((HB.alloc hbase _).grown hg (by simp; omega) (fun k hk => by cases hk)) ⟨?_, fun g cells t hgc hne => ?_⟩
     · rw [List.length_append, List.length_singleton]
       exact own_weaken hown (by simp; omega)
     · have := hg.size; simp at this; omega
     · have hlt := (Array.getElem?_eq_some_iff.1 hgc).1
       rw [hg.block g (by simp; omega) (by simp), hA.block g hlt, hgc]
end
theorem own_C {α : Type} {d : Kd α} {w0 w : World} {e base : Nat} {v : Value} {xs : List α} (h : OwnRow (d.K w0) e d.sz w base v xs) (hb : Below w0.heap.size w0 w) : ∃ A c, v = .slice A xs.length c ∧ xs.length ≤ c ∧ d.C w A xs.length xs := by
 obtain ⟨A, c, hv, hc, hr⟩ := h.reads
 exact ⟨A, c, hv, hc, hr.imp_ (Below.refl _ _) (fun p cs hp => d.K_below hb hp)⟩
end Go.Proofs.YtmlcaecknocpoaaDoor.It
namespace Go.Proofs.YtmlcaecknocpoaaDoor.It
set_option linter.unusedVariables false
set_option linter.unusedSimpArgs false
open Go Go.RowKit Go.Shelf Go.Proofs.YtmlcaecknocpoaaDoorW.PrintWords Go.Proofs.YtmlcaecknocpoaaDoorW.PrintLast Go.Proofs.YtmlcaecknocpoaaDoor.Pr Go.Proofs.YtmlcaecknocpoaaDoor.Sp
attribute [local go_sem ↓] Go.wp_at_zero Go.wp_at_succ
theorem ne98 (w : World) (n c : Nat) (ad : Addr) : (binOp BinOp.neq 98 (.slice (some ad) n c) (.slice none 0 0)).run Tryd.prog w = .ok (.bool true) w := by kernel_rfl
theorem ne98' (w : World) (n c : Nat) : (binOp BinOp.neq 98 (.slice none n c) (.slice none 0 0)).run Tryd.prog w = .ok (.bool false) w := by kernel_rfl
theorem info3 : (Tryd.prog.info? 3).map (fun i => (i.zero, i.size, i.bytes)) = some (some (.int .i64 0), 1, 8) := by kernel_rfl
theorem und98 : Tryd.prog.underlying 98 = some (.slice 3) := by kernel_rfl
def IntC (x : Int) (cs : List Value) : Prop := cs = [.int .i64 x]
theorem ints2 {w : World} {v : Value} {base : Nat} {a b : Int} (h : OwnRow IntC 3 1 w base v [a, b]) : ∃ ad c, v = .slice (some ad) 2 c ∧ w.cell? ad = some (.int .i64 a) ∧ w.cell? ⟨ad.block, ad.off + 1, none⟩ = some (.int .i64 b) := by
 obtain ⟨A, c, rfl, hc, hr⟩ := h.reads
 obtain ⟨ad, rfl, hk⟩ := hr.2.2 (by simp)
 obtain ⟨c0, _, h0, k0⟩ := hk 0 a rfl
 obtain ⟨c1, _, h1, k1⟩ := hk 1 b rfl
 refine ⟨ad, c, rfl, ?_, ?_⟩
 · have := k0 0 (.int .i64 a) (by rw [h0]; rfl)
   simpa [Addr.add] using this
 · have := k1 0 (.int .i64 b) (by rw [h1]; rfl)
   simpa [Addr.add] using this
attribute [local go_sem] ne98 ne98'
set_option maxRecDepth 100000 in
set_option maxHeartbeats 8000000 in
theorem sortsA_calls (env : List S42) (A : Option Addr) (c : Nat) (t u : S47) (B : Option Addr) (d : Nat) (w : World) (hr : Kd.C k42 w A env.length env) (hts : Kd.C k47 w B 2 [t, u]) (hk : Kinds w) (h1 : TK t) (h2 : TK u) :
   Calls Tryd.prog 102 #[.slice B 2 d, .func (.func 67) #[.slice A env.length c] #[], .slice none 0 0] w fun e w' => Below w.heap.size w w' ∧
     (((sortT env t).2 ≠ 0 ∧ e = .returned (.tuple #[.slice none 0 0, .int .i64 (sortT env t).2])) ∨
      ((sortT env t).2 = 0 ∧ (sortT env u).2 ≠ 0 ∧ e = .returned (.tuple #[.slice none 0 0, .int .i64 (sortT env u).2])) ∨
      ((sortT env t).2 = 0 ∧ (sortT env u).2 = 0 ∧ ∃ ad c', e = .returned (.tuple #[.slice (some ad) 2 c', .int .i64 0]) ∧ w'.cell? ad = some (.int .i64 (sortT env t).1) ∧ w'.cell? ⟨ad.block, ad.off + 1, none⟩ = some (.int .i64 (sortT env u).1))) := by
 have hu47 := Tryd.underlying47
 have eg := enters67
 have C67 := Aside0.mk (fun (W : World) (hW : Below w.heap.size w W) => sort_calls env A c t W (Kd.C_below hr hW) (hk.below hW) h1)
 have D67 := Aside0.mk (fun (W : World) (hW : Below w.heap.size w W) => sort_calls env A c u W (Kd.C_below hr hW) (hk.below hW) h2)
 have HT := Aside0.mk hts
 obtain ⟨⟨st, et⟩, ert⟩ : ∃ r, sortT env t = r := ⟨_, rfl⟩
 obtain ⟨⟨su, eu⟩, eru⟩ : ∃ r, sortT env u = r := ⟨_, rfl⟩
 rw [ert] at C67 ⊢
 rw [eru] at D67 ⊢
 dsimp only at C67 D67 ⊢
 clear hr hts hk h1 h2 ert eru
 go_enter Tryd.func102, Tryd.ntmps102
 go_wp2_with fail
 go_loopg [6, 7, 8, 10, 11, 14] 2 (fun gg s6 s7 _ _ _ s14 wr => ∃ j : Nat, j ≤ 2 ∧ 2 - j ≤ gg ∧ s14 = .int .i64 j ∧ s7 = .int .i64 0 ∧ Aside0 (Below w.heap.size w wr ∧ (1 ≤ j → et = 0) ∧ (2 ≤ j → eu = 0) ∧ OwnRow IntC 3 1 wr w.heap.size s6 ([st, su].take j)))
 case atStart => exact ⟨0, Nat.zero_le _, by omega, rfl, rfl, ⟨Below.refl _ _, fun h => by omega, fun h => by omega, OwnRow.none_ _ _ _ _ _⟩⟩
 case round =>
   obtain ⟨j, hj, hg, rfl, rfl, HJ⟩ := hrel
   by_cases hlt : j < 2
   · have hltz : (j : Int) < 2 := by omega
     by_cases h0 : j = 0
     · subst h0
       obtain ⟨ad, rfl, y0, y1, y2⟩ := termAt (ts := [t, u]) HT.out HJ.out.1 0 (by simp)
       simp [rd_T47, Addr.add] at y0 y1 y2
       have hcall := Aside0.mk (C67.out _ (HJ.out.1.trans ((up1 wr (.cells #[.int .i64 t.f0, .string t.f1, .int .i64 t.f2] 47)).mono HJ.out.1.size)))
       have GB := Aside0.mk (HJ.out.1.trans ((up1 wr (.cells #[.int .i64 t.f0, .string t.f1, .int .i64 t.f2] 47)).mono HJ.out.1.size))
       by_cases he : et = 0
       · subst he
         go_wp2_with (first
           | (go_at_fn 67; (with_reducible refine hcall.out.mono ?_); clear hcall; rintro e w1 ⟨rfl, g⟩; replace GB := Aside0.mk (GB.out.trans (g.mono GB.out.size)); have HO := Aside0.mk (HJ.out.2.2.2.below ((up1 wr _).trans (g.mono (up1 wr _).size))); clear g)
           | ((with_reducible refine gate_builtin (b := .append) (xs := #[.tmp 42, .tmp 44]) rfl ?_); at_builtin; refine OwnRow.append (R := IntC) (w0 := w) w.heap.size rfl (.tmp 42) (.tmp 44) 98 3 (.int .i64 0) 1 8 rfl und98 info3 rfl (by decide) (by decide) _ ([st, su].take 0) st [.int .i64 st] rfl rfl rfl rfl ?a1 ?aO ?aB ?aS ?aL ?_; (case a1 => simp [Value.oneCell']); (case aO => exact HO.out); (case aB => exact GB.out); (case aS => exact GB.out.size); (case aL => simp); intro v2 w2 ho2 hb2 hg2 hat2; replace ho2 := Aside0.mk ho2; replace hb2 := Aside0.mk hb2; clear hg2 hat2))
         go_roundg (1)
         case measure => omega
         case rel => exact ⟨1, by omega, by omega, rfl, rfl, ⟨hb2.out, fun _ => by trivial, fun h => by omega, ho2.out⟩⟩
       · have b1 : (et == 0) = false := by simpa using he
         have b2 : (et != 0) = true := by simpa using he
         have HNE := Aside0.mk he
         clear he
         go_wp2_with (go_at_fn 67; (with_reducible refine hcall.out.mono ?_); clear hcall; rintro e w1 ⟨rfl, g⟩; replace GB := Aside0.mk (GB.out.trans (g.mono GB.out.size)); clear g)
         go_ret2
         exact ⟨GB.out, .inl ⟨HNE.out, rfl⟩⟩
     · obtain rfl : j = 1 := by omega
       obtain ⟨ad, rfl, y0, y1, y2⟩ := termAt (ts := [t, u]) HT.out HJ.out.1 1 (by simp)
       simp [rd_T47, Addr.add] at y0 y1 y2
       have hcall := Aside0.mk (D67.out _ (HJ.out.1.trans ((up1 wr (.cells #[.int .i64 u.f0, .string u.f1, .int .i64 u.f2] 47)).mono HJ.out.1.size)))
       have GB := Aside0.mk (HJ.out.1.trans ((up1 wr (.cells #[.int .i64 u.f0, .string u.f1, .int .i64 u.f2] 47)).mono HJ.out.1.size))
       have HE0 := Aside0.mk (HJ.out.2.1 (by omega))
       by_cases he : eu = 0
       · subst he
         go_wp2_with (first
           | (go_at_fn 67; (with_reducible refine hcall.out.mono ?_); clear hcall; rintro e w1 ⟨rfl, g⟩; replace GB := Aside0.mk (GB.out.trans (g.mono GB.out.size)); have HO := Aside0.mk (HJ.out.2.2.2.below ((up1 wr _).trans (g.mono (up1 wr _).size))); clear g)
           | ((with_reducible refine gate_builtin (b := .append) (xs := #[.tmp 42, .tmp 44]) rfl ?_); at_builtin; refine OwnRow.append (R := IntC) (w0 := w) w.heap.size rfl (.tmp 42) (.tmp 44) 98 3 (.int .i64 0) 1 8 rfl und98 info3 rfl (by decide) (by decide) _ ([st, su].take 1) su [.int .i64 su] rfl rfl rfl rfl ?a1 ?aO ?aB ?aS ?aL ?_; (case a1 => simp [Value.oneCell']); (case aO => exact HO.out); (case aB => exact GB.out); (case aS => exact GB.out.size); (case aL => simp); intro v2 w2 ho2 hb2 hg2 hat2; replace ho2 := Aside0.mk ho2; replace hb2 := Aside0.mk hb2; clear hg2 hat2))
         go_roundg (0)
         case measure => omega
         case rel => exact ⟨2, by omega, by omega, rfl, rfl, ⟨hb2.out, fun _ => HE0.out, fun _ => by trivial, ho2.out⟩⟩
       · have b1 : (eu == 0) = false := by simpa using he
         have b2 : (eu != 0) = true := by simpa using he
         have HNE := Aside0.mk he
         clear he
         go_wp2_with (go_at_fn 67; (with_reducible refine hcall.out.mono ?_); clear hcall; rintro e w1 ⟨rfl, g⟩; replace GB := Aside0.mk (GB.out.trans (g.mono GB.out.size)); clear g)
         go_ret2
         exact ⟨GB.out, .inr (.inl ⟨HE0.out, HNE.out, rfl⟩)⟩
   · have hltz : ¬ (j : Int) < 2 := by omega
     obtain rfl : j = 2 := by omega
     have HR := Aside0.mk (ints2 (a := st) (b := su) HJ.out.2.2.2)
     obtain ⟨ad, c', rfl, z0, z1⟩ := HR.out
     go_wp2_with fail
     go_ret2
     exact ⟨HJ.out.1, .inr (.inr ⟨HJ.out.2.1 (by omega), HJ.out.2.2.1 (by omega), ad, ⟨c', rfl⟩, z0, z1⟩)⟩
set_option maxRecDepth 100000 in
set_option maxHeartbeats 8000000 in
theorem sortsB_calls (env : List S42) (A : Option Addr) (c : Nat) (t u : S47) (B : Option Addr) (d : Nat) (w : World) (hr : Kd.C k42 w A env.length env) (hts : Kd.C k47 w B 2 [t, u]) (wd : Addr) (wc : Nat) (wa wb : Int) (hw0 : w.cell? wd = some (.int .i64 wa)) (hw1 : w.cell? ⟨wd.block, wd.off + 1, none⟩ = some (.int .i64 wb)) (hk : Kinds w) (h1 : TK t) (h2 : TK u) :
   Calls Tryd.prog 102 #[.slice B 2 d, .func (.func 67) #[.slice A env.length c] #[], .slice (some wd) 2 wc] w fun e w' => Below w.heap.size w w' ∧ ∃ v, e = .returned (.tuple #[v, .int .i64 (if ofT env t wa = 0 then ofT env u wb else ofT env t wa)]) := by
 have hu47 := Tryd.underlying47
 have eg := enters67
 have C67 := Aside0.mk (fun (W : World) (hW : Below w.heap.size w W) => sort_calls env A c t W (Kd.C_below hr hW) (hk.below hW) h1)
 have D67 := Aside0.mk (fun (W : World) (hW : Below w.heap.size w W) => sort_calls env A c u W (Kd.C_below hr hW) (hk.below hW) h2)
 have HT := Aside0.mk hts
 have HW := Aside0.mk (And.intro hw0 hw1)
 unfold ofT
 obtain ⟨⟨st, et⟩, ert⟩ : ∃ r, sortT env t = r := ⟨_, rfl⟩
 obtain ⟨⟨su, eu⟩, eru⟩ : ∃ r, sortT env u = r := ⟨_, rfl⟩
 rw [ert] at C67 ⊢
 rw [eru] at D67 ⊢
 dsimp only at C67 D67 ⊢
 clear hr hts hk h1 h2 ert eru hw0 hw1
 obtain ⟨ot, hot⟩ : ∃ v, (if et = 0 then (if st = wa then 0 else 80) else et) = v := ⟨_, rfl⟩
 obtain ⟨ou, hou⟩ : ∃ v, (if eu = 0 then (if su = wb then 0 else 80) else eu) = v := ⟨_, rfl⟩
 rw [hot, hou]
 obtain ⟨r, hr0⟩ : ∃ v, (if ot = 0 then ou else ot) = v := ⟨_, rfl⟩
 rw [hr0]
 have HR0 := Aside0.mk hr0
 have HOT := Aside0.mk hot
 have HOU := Aside0.mk hou
 clear hot hou hr0
 go_enter Tryd.func102, Tryd.ntmps102
 go_wp2_with fail
 go_loopg [6, 7, 8, 10, 11, 14] 2 (fun gg s6 s7 _ _ _ s14 wr => ∃ j : Nat, j ≤ 2 ∧ 2 - j ≤ gg ∧ s14 = .int .i64 j ∧ s7 = .int .i64 0 ∧ Aside0 (Below w.heap.size w wr ∧ (1 ≤ j → ot = 0) ∧ (2 ≤ j → ou = 0) ∧ OwnRow IntC 3 1 wr w.heap.size s6 ([st, su].take j)))
 case atStart => exact ⟨0, Nat.zero_le _, by omega, rfl, rfl, ⟨Below.refl _ _, fun h => by omega, fun h => by omega, OwnRow.none_ _ _ _ _ _⟩⟩
 case round =>
   obtain ⟨j, hj, hg, rfl, rfl, HJ⟩ := hrel
   by_cases hlt : j < 2
   · have hltz : (j : Int) < 2 := by omega
     by_cases h0 : j = 0
     · subst h0
       obtain ⟨ad, rfl, y0, y1, y2⟩ := termAt (ts := [t, u]) HT.out HJ.out.1 0 (by simp)
       simp [rd_T47, Addr.add] at y0 y1 y2
       have hcall := Aside0.mk (C67.out _ (HJ.out.1.trans ((up1 wr (.cells #[.int .i64 t.f0, .string t.f1, .int .i64 t.f2] 47)).mono HJ.out.1.size)))
       have GB := Aside0.mk (HJ.out.1.trans ((up1 wr (.cells #[.int .i64 t.f0, .string t.f1, .int .i64 t.f2] 47)).mono HJ.out.1.size))
       by_cases he : et = 0
       · subst he
         by_cases hs : st = wa
         · have b3 : (wa != st) = false := by simp [hs]
           have HZ := Aside0.mk (show ot = 0 by rw [← HOT.out, if_pos rfl, if_pos hs])
           clear hs
           go_wp2_with (first
             | (go_at_fn 67; (with_reducible refine hcall.out.mono ?_); clear hcall; rintro e w1 ⟨rfl, g⟩; replace GB := Aside0.mk (GB.out.trans (g.mono GB.out.size)); have x0 := up_cell GB.out HW.out.1; have HO := Aside0.mk (HJ.out.2.2.2.below ((up1 wr _).trans (g.mono (up1 wr _).size))); clear g)
             | ((with_reducible refine gate_builtin (b := .append) (xs := #[.tmp 42, .tmp 44]) rfl ?_); at_builtin; refine OwnRow.append (R := IntC) (w0 := w) w.heap.size rfl (.tmp 42) (.tmp 44) 98 3 (.int .i64 0) 1 8 rfl und98 info3 rfl (by decide) (by decide) _ ([st, su].take 0) st [.int .i64 st] rfl rfl rfl rfl ?a1 ?aO ?aB ?aS ?aL ?_; (case a1 => simp [Value.oneCell']); (case aO => exact HO.out); (case aB => exact GB.out); (case aS => exact GB.out.size); (case aL => simp); intro v2 w2 ho2 hb2 hg2 hat2; replace ho2 := Aside0.mk ho2; replace hb2 := Aside0.mk hb2; clear hg2 hat2))
           go_roundg (1)
           case measure => omega
           case rel => exact ⟨1, by omega, by omega, rfl, rfl, ⟨hb2.out, fun _ => HZ.out, fun h => by omega, ho2.out⟩⟩
         · have b3 : (wa != st) = true := by simp; exact fun e => hs e.symm
           have HZ := Aside0.mk (show ot = 80 by rw [← HOT.out, if_pos rfl, if_neg hs])
           clear hs
           go_wp2_with (first
             | (go_at_fn 67; (with_reducible refine hcall.out.mono ?_); clear hcall; rintro e w1 ⟨rfl, g⟩; replace GB := Aside0.mk (GB.out.trans (g.mono GB.out.size)); have x0 := up_cell GB.out HW.out.1; have HO := Aside0.mk (HJ.out.2.2.2.below ((up1 wr _).trans (g.mono (up1 wr _).size))); clear g))
           go_ret2
           exact ⟨GB.out, _, by rw [← HR0.out, HZ.out]; rfl⟩
       · have b1 : (et == 0) = false := by simpa using he
         have b2 : (et != 0) = true := by simpa using he
         have HNE := Aside0.mk he
         have HZ := Aside0.mk (show ot = et by rw [← HOT.out, if_neg he])
         clear he
         go_wp2_with (first
           | (go_at_fn 67; (with_reducible refine hcall.out.mono ?_); clear hcall; rintro e w1 ⟨rfl, g⟩; replace GB := Aside0.mk (GB.out.trans (g.mono GB.out.size)); have x0 := up_cell GB.out HW.out.1; have HO := Aside0.mk (HJ.out.2.2.2.below ((up1 wr _).trans (g.mono (up1 wr _).size))); clear g))
         go_ret2
         exact ⟨GB.out, _, by rw [← HR0.out, HZ.out, if_neg HNE.out]; rfl⟩
     · obtain rfl : j = 1 := by omega
       obtain ⟨ad, rfl, y0, y1, y2⟩ := termAt (ts := [t, u]) HT.out HJ.out.1 1 (by simp)
       simp [rd_T47, Addr.add] at y0 y1 y2
       have hcall := Aside0.mk (D67.out _ (HJ.out.1.trans ((up1 wr (.cells #[.int .i64 u.f0, .string u.f1, .int .i64 u.f2] 47)).mono HJ.out.1.size)))
       have GB := Aside0.mk (HJ.out.1.trans ((up1 wr (.cells #[.int .i64 u.f0, .string u.f1, .int .i64 u.f2] 47)).mono HJ.out.1.size))
       have HE0 := Aside0.mk (HJ.out.2.1 (by omega))
       by_cases he : eu = 0
       · subst he
         by_cases hs : su = wb
         · have b3 : (wb != su) = false := by simp [hs]
           have HZ := Aside0.mk (show ou = 0 by rw [← HOU.out, if_pos rfl, if_pos hs])
           clear hs
           go_wp2_with (first
             | (go_at_fn 67; (with_reducible refine hcall.out.mono ?_); clear hcall; rintro e w1 ⟨rfl, g⟩; replace GB := Aside0.mk (GB.out.trans (g.mono GB.out.size)); have x0 := up_cell GB.out HW.out.2; have HO := Aside0.mk (HJ.out.2.2.2.below ((up1 wr _).trans (g.mono (up1 wr _).size))); clear g)
             | ((with_reducible refine gate_builtin (b := .append) (xs := #[.tmp 42, .tmp 44]) rfl ?_); at_builtin; refine OwnRow.append (R := IntC) (w0 := w) w.heap.size rfl (.tmp 42) (.tmp 44) 98 3 (.int .i64 0) 1 8 rfl und98 info3 rfl (by decide) (by decide) _ ([st, su].take 1) su [.int .i64 su] rfl rfl rfl rfl ?a1 ?aO ?aB ?aS ?aL ?_; (case a1 => simp [Value.oneCell']); (case aO => exact HO.out); (case aB => exact GB.out); (case aS => exact GB.out.size); (case aL => simp); intro v2 w2 ho2 hb2 hg2 hat2; replace ho2 := Aside0.mk ho2; replace hb2 := Aside0.mk hb2; clear hg2 hat2))
           go_roundg (0)
           case measure => omega
           case rel => exact ⟨2, by omega, by omega, rfl, rfl, ⟨hb2.out, fun _ => HE0.out, fun _ => HZ.out, ho2.out⟩⟩
         · have b3 : (wb != su) = true := by simp; exact fun e => hs e.symm
           have HZ := Aside0.mk (show ou = 80 by rw [← HOU.out, if_pos rfl, if_neg hs])
           clear hs
           go_wp2_with (first
             | (go_at_fn 67; (with_reducible refine hcall.out.mono ?_); clear hcall; rintro e w1 ⟨rfl, g⟩; replace GB := Aside0.mk (GB.out.trans (g.mono GB.out.size)); have x0 := up_cell GB.out HW.out.2; have HO := Aside0.mk (HJ.out.2.2.2.below ((up1 wr _).trans (g.mono (up1 wr _).size))); clear g))
           go_ret2
           exact ⟨GB.out, _, by rw [← HR0.out, HE0.out, HZ.out]; rfl⟩
       · have b1 : (eu == 0) = false := by simpa using he
         have b2 : (eu != 0) = true := by simpa using he
         have HNE := Aside0.mk he
         have HZ := Aside0.mk (show ou = eu by rw [← HOU.out, if_neg he])
         clear he
         go_wp2_with (first
           | (go_at_fn 67; (with_reducible refine hcall.out.mono ?_); clear hcall; rintro e w1 ⟨rfl, g⟩; replace GB := Aside0.mk (GB.out.trans (g.mono GB.out.size)); have x0 := up_cell GB.out HW.out.2; have HO := Aside0.mk (HJ.out.2.2.2.below ((up1 wr _).trans (g.mono (up1 wr _).size))); clear g))
         go_ret2
         exact ⟨GB.out, _, by rw [← HR0.out, HE0.out, HZ.out]; rfl⟩
   · have hltz : ¬ (j : Int) < 2 := by omega
     obtain rfl : j = 2 := by omega
     have HZ := Aside0.mk (And.intro (HJ.out.2.1 (by omega)) (HJ.out.2.2.1 (by omega)))
     have HR := Aside0.mk (ints2 (a := st) (b := su) HJ.out.2.2.2)
     obtain ⟨ad, c', rfl, z0, z1⟩ := HR.out
     go_wp2_with fail
     go_ret2
     exact ⟨HJ.out.1, _, by rw [← HR0.out, HZ.out.1, HZ.out.2]; rfl⟩
end Go.Proofs.YtmlcaecknocpoaaDoor.It
namespace Go.Proofs.YtmlcaecknocpoaaDoor.Pr
open Go.RowKit Go.Proofs.YtmlcaecknocpoaaDoorW.PrintWords Go.Proofs.YtmlcaecknocpoaaDoorW.PrintLast Go.Proofs.YtmlcaecknocpoaaDoorW.PrintMore
attribute [local go_sem] max2_int min2_int max_two min_two max_three min_three max_four min_four   
set_option linter.unusedVariables false
set_option linter.unusedSimpArgs false
def slices_Index_int_int.l0 : Nat → List Int → Int → Int → Int → Option (Int)
 | 0, _, _, _, _ => none
 | k + 1, x0, x1, x7, x8 => if x8 < x7 then (if 0 ≤ x8 then (if x8 < (x0.length : Int) then (if x1 = (rd x0 x8) then (some x8) else (slices_Index_int_int.l0 k x0 x1 x7 (wrap64 (x8 + 1)))) else (none)) else (none)) else (some (-1))
def slices_Index_int_int.f (k : Nat) (l0 : List Int) (a1 : Int) : Option (Int) := slices_Index_int_int.l0 k l0 a1 (l0.length : Int) 0
set_option maxHeartbeats 8000000 in
set_option maxRecDepth 100000 in
theorem slices_Index_int_int.calls (k : Nat) (A0 : Option Addr) (c0 : Nat) (l0 : List Int) (a1 : Int) (r : Int) (w : World) (hr0 : Kd.C (Kd.int .i64) w A0 l0.length l0) (hc0 : l0.length ≤ c0) (h : slices_Index_int_int.f k l0 a1 = some r) :
   Calls Tryd.prog 117 #[.slice A0 l0.length c0, .int .i64 a1] w fun e w' => e = .returned (.int .i64 r) ∧ Drawn0 w w' := by
 have HR0 := Aside0.mk hr0
 have HC0 := Aside0.mk hc0
 clear hr0 hc0
 have H : (slices_Index_int_int.l0 k l0 a1 (l0.length : Int) 0) = some r := h
 clear h
 have H' := Aside0.mk H
 clear H
 go_enter Tryd.func117, Tryd.ntmps117
 go_wp2
 go_loopg [8] k (fun kq v8 w' => ∃ (x8_1 : Int), v8 = .int .i64 x8_1 ∧ Aside0 (slices_Index_int_int.l0 kq l0 a1 (l0.length : Int) x8_1 = some r) ∧ Aside0 (kq ≤ k) ∧ Drawn0 w w')
 case atStart => exact ⟨(0), (by first | rfl | (simp; done) | (simp [*]; done)), H', ⟨Nat.le_refl _⟩, by repeat (first | exact Drawn0.refl _ | apply Drawn0.step)⟩
 case round =>
   clear H'
   try clear c1
   try clear p2
   obtain ⟨x8_1, rfl, HA, HK1, ⟨m1, rfl⟩⟩ := hrel
   cases gk with
   | zero => exact absurd HA.out (by simp [slices_Index_int_int.l0])
   | succ k1 =>
     have H := HA.out
     clear HA
     simp only [slices_Index_int_int.l0] at H
     by_cases c3 : x8_1 < (l0.length : Int)
     · rw [if_pos c3] at H
       have c3b0 : decide (x8_1 < (l0.length : Int)) = true := decide_eq_true c3
       clear c3
       by_cases c4 : 0 ≤ x8_1
       · rw [if_pos c4] at H
         have c4b0 : decide (0 ≤ x8_1) = true := decide_eq_true c4
         clear c4
         by_cases c5 : x8_1 < (l0.length : Int)
         · rw [if_pos c5] at H
           have c5b0 : decide (x8_1 < (l0.length : Int)) = true := decide_eq_true c5
           clear c5
           by_cases c6 : a1 = (rd l0 x8_1)
           · rw [if_pos c6] at H
             have c6b0 : (a1 == (rd l0 x8_1)) = true := beq_iff_eq.mpr c6
             have c6b1 : (a1 != (rd l0 x8_1)) = false := bne_eq_false_iff_eq.mpr c6
             clear c6
             obtain rfl := Option.some.inj H
             have p223 : 0 ≤ (x8_1 : Int) := of_decide_eq_true (by first | (with_reducible assumption) | assumption)
             have q223 : x8_1 < (l0.length : Int) := of_decide_eq_true (by first | (with_reducible assumption) | assumption)
             obtain ⟨ad223, e223, hx223_0⟩ := Kd.at_int HR0.out x8_1 p223 q223
             cases e223
             replace p223 := eq_true p223
             replace q223 := eq_true q223
             go_wp2
             go_ret
             exact ⟨by first | rfl | (simp; done) | (simp [*]; done), by repeat (first | exact Drawn0.refl _ | apply Drawn0.step)⟩
           · rw [if_neg c6] at H
             have c6b0 : (a1 == (rd l0 x8_1)) = false := beq_eq_false_iff_ne.mpr c6
             have c6b1 : (a1 != (rd l0 x8_1)) = true := bne_iff_ne.mpr c6
             have H' := Aside0.mk H
             clear H
             have p223 : 0 ≤ (x8_1 : Int) := of_decide_eq_true (by first | (with_reducible assumption) | assumption)
             have q223 : x8_1 < (l0.length : Int) := of_decide_eq_true (by first | (with_reducible assumption) | assumption)
             obtain ⟨ad223, e223, hx223_0⟩ := Kd.at_int HR0.out x8_1 p223 q223
             cases e223
             replace p223 := eq_true p223
             replace q223 := eq_true q223
             go_wp2
             go_roundg k1
             case measure => have := HK1.out; omega
             case rel => exact ⟨(wrap64 (x8_1 + 1)), (by first | rfl | (simp; done) | (simp [*]; done)), H', ⟨by have := HK1.out; omega⟩, by repeat (first | exact Drawn0.refl _ | apply Drawn0.step)⟩
         · rw [if_neg c5] at H
           exact absurd H (by simp)
       · rw [if_neg c4] at H
         exact absurd H (by simp)
     · rw [if_neg c3] at H
       have c3b0 : decide (x8_1 < (l0.length : Int)) = false := decide_eq_false c3
       clear c3
       obtain rfl := Option.some.inj H
       go_wp2
       go_ret
       exact ⟨by first | rfl | (simp; done) | (simp [*]; done), by repeat (first | exact Drawn0.refl _ | apply Drawn0.step)⟩
def slices_Contains_int_int.f (k : Nat) (l0 : List Int) (a1 : Int) : Option (Bool) := (slices_Index_int_int.f k l0 a1).bind fun t224 => (some (decide (t224 ≥ 0)))
set_option maxHeartbeats 8000000 in
set_option maxRecDepth 100000 in
theorem slices_Contains_int_int.calls (k : Nat) (A0 : Option Addr) (c0 : Nat) (l0 : List Int) (a1 : Int) (r : Bool) (w : World) (hr0 : Kd.C (Kd.int .i64) w A0 l0.length l0) (hc0 : l0.length ≤ c0) (h : slices_Contains_int_int.f k l0 a1 = some r) :
   Calls Tryd.prog 103 #[.slice A0 l0.length c0, .int .i64 a1] w fun e w' => e = .returned (.bool r) ∧ Drawn0 w w' := by
 have HR0 := Aside0.mk hr0
 have HC0 := Aside0.mk hc0
 clear hr0 hc0
 have H : ((slices_Index_int_int.f k l0 a1).bind fun t224 => (some (decide (t224 ≥ 0)))) = some r := h
 clear h
 replace H := Option.bind_eq_some_iff.mp H
 obtain ⟨t224, A30, H⟩ := H
 replace H : (some (decide (t224 ≥ 0))) = some r := H
 have A3 := Aside0.mk A30
 clear A30
 obtain rfl := Option.some.inj H
 go_enter Tryd.func103, Tryd.ntmps103
 go_wp2_with (first | ((with_reducible refine gate_callee (f := 117) rfl ?_); refine goesL_ (some 7) rfl rfl Tryd.func117 (by kernel_rfl) rfl #[.slice A0 l0.length c0, .int .i64 a1] rfl (by (try simp only [List.map_toArray, List.map_cons, List.map_nil]); first | done | rfl | (simp only [List.length_drop, List.length_take]; rfl)) ?_; (with_reducible refine (slices_Index_int_int.calls k _ _ l0 a1 t224 _ ?side1 ?side2 A3.out).mono ?_); (case side1 => repeat (first | exact HR0.out | (with_reducible refine Kd.C_alloc ?_ _) | (with_reducible refine Kd.C_drewN ?_ _) | (with_reducible refine Kd.C_drew ?_))); (case side2 => exact HC0.out); rintro e w' ⟨rfl, ⟨nd, rfl⟩⟩; refine ⟨_, rfl, ?_⟩))
 go_ret
 exact ⟨by first | rfl | (simp; done) | (simp [*]; done), by repeat (first | exact Drawn0.refl _ | apply Drawn0.step)⟩
end Go.Proofs.YtmlcaecknocpoaaDoor.Pr
namespace Go.Proofs.YtmlcaecknocpoaaDoor.It
set_option linter.unusedVariables false
set_option linter.unusedSimpArgs false
open Go Go.RowKit Go.Shelf Go.Proofs.YtmlcaecknocpoaaDoorW.PrintWords Go.Proofs.YtmlcaecknocpoaaDoorW.PrintLast Go.Proofs.YtmlcaecknocpoaaDoor.Pr Go.Proofs.YtmlcaecknocpoaaDoor.Sp
attribute [local go_sem ↓] Go.wp_at_zero Go.wp_at_succ
theorem und76 : Tryd.prog.underlying 76 = some (.slice 42) := by kernel_rfl
set_option maxRecDepth 100000 in
set_option maxHeartbeats 4000000 in
theorem clip_calls (A : Option Addr) (n c : Nat) (w : World) (hc : n ≤ c) (hA : A = none → n = 0) (hm : n ≤ 9223372036854775807) : Calls Tryd.prog 104 #[.slice A n c] w fun e w' => e = .returned (.slice A n n) ∧ w' = w := by
 have h76 := und76
 have hcz : (n : Int) ≤ (c : Int) := by omega
 have hnz : (0 : Int) ≤ (n : Int) := by omega
 cases A with
 | none =>
   obtain rfl := hA rfl
   go_enter Tryd.func104, Tryd.ntmps104
   go_wp2_with fail
   go_ret
   exact ⟨rfl, rfl⟩
 | some ad =>
   go_enter Tryd.func104, Tryd.ntmps104
   go_wp2_with fail
   go_ret
   exact ⟨by simp, rfl⟩
theorem und103 : Tryd.prog.underlying 103 = some (.array 9 102) := by kernel_rfl
theorem und102 : Tryd.prog.underlying 102 = some (.array 2 3) := by kernel_rfl
set_option maxRecDepth 100000 in
set_option maxHeartbeats 8000000 in
theorem walk_atom (env : List S42) (A : Option Addr) (c : Nat) (k : Int) (t u : S47) (B : Option Addr) (d : Nat) (A4 : Option Addr) (c4 : Nat) (A5 : Option Addr) (c5 : Nat) (w : World) (hr : Kd.C k42 w A env.length env) (hts : Kd.C k47 w B 2 [t, u]) (hk : Kinds w) (h1 : TK t) (h2 : TK u) (h3 : 3 ≤ k) (h8 : k ≤ 8) :
   Calls Tryd.prog 66 #[.slice A env.length c, .agg #[.int .i64 k, .string ⟨#[]⟩, .int .i64 0, .slice B 2 d, .slice A4 0 c4, .slice A5 0 c5]] w fun e w' => e = .returned (.int .i64 (atomT env k t u)) ∧ Below w.heap.size w w' := by
 have hu26 := Tryd.underlying26
 have h103 := und103
 have h102 := und102
 have T1 := Aside0.mk (up1 w (.cells #[.int .i64 k, .string ⟨#[]⟩, .int .i64 0, .slice B 2 d, .slice A4 0 c4, .slice A5 0 c5] 26))
 have HB := Aside0.mk (heap_new w (.cells #[.int .i64 k, .string ⟨#[]⟩, .int .i64 0, .slice B 2 d, .slice A4 0 c4, .slice A5 0 c5] 26))
 have D102 := Aside0.mk (fun (W : World) (hW : Below w.heap.size w W) (wd : Addr) (wa wb : Int) hw0 hw1 => sortsB_calls env A c t u B d W (Kd.C_below hr hW) (Kd.C_below hts hW) wd 2 wa wb hw0 hw1 (hk.below hW) h1 h2)
 have HA := Aside0.mk (fun (j : Nat) hj => up_cell T1.out (hk.asks j hj))
 unfold atomT
 have hkk : (k = 3) ∨ (k = 4) ∨ (k = 5) ∨ (k = 6) ∨ (k = 7) ∨ (k = 8) := by omega
 clear hr hts hk h1 h2 h3 h8
 rcases hkk with rfl | rfl | rfl | rfl | rfl | rfl
 · have x0 := HA.out 6 (by decide)
   have x1 := HA.out 7 (by decide)
   rw [show asksL.getD 6 0 = 1 from rfl] at x0
   rw [show asksL.getD 7 0 = 2 from rfl] at x1
   rw [show asked 3 = (1, 2) from rfl]
   dsimp only
   have DR := Aside0.mk (below_drew (Below.refl (w.alloc (.cells #[.int .i64 3, .string ⟨#[]⟩, .int .i64 0, .slice B 2 d, .slice A4 0 c4, .slice A5 0 c5] 26)).heap.size (w.alloc (.cells #[.int .i64 3, .string ⟨#[]⟩, .int .i64 0, .slice B 2 d, .slice A4 0 c4, .slice A5 0 c5] 26))))
   replace T1 := Aside0.mk (T1.out.trans (DR.out.mono T1.out.size))
   have hcall := Aside0.mk (D102.out _ T1.out ⟨3, 6, none⟩ 1 2 (up_cell DR.out x0) (up_cell DR.out x1))
   obtain ⟨r, hr0⟩ : ∃ v, (if ofT env t 1 = 0 then ofT env u 2 else ofT env t 1) = v := ⟨_, rfl⟩
   rw [hr0] at hcall ⊢
   clear hr0 D102 HA
   have d0 := Aside0.mk (up_cell DR.out ((bCl HB.out 0).trans rfl))
   have d3 := Aside0.mk (up_cell DR.out ((bCl HB.out 3).trans rfl))
   clear DR
   go_enter Tryd.func66, Tryd.ntmps66
   go_upto_region 10 with fail
   go_region_held3 (fun w' => w'.cell? ⟨w.heap.size, 0, none⟩ = some (.int .i64 3) ∧ w'.cell? ⟨w.heap.size, 3, none⟩ = some (.slice B 2 d)) (go_keep)
     (first
       | (go_at_call 102; (with_reducible refine hcall.out.mono ?_); rintro e w1 ⟨g, v, rfl⟩; have q0 := up_cell g d0.out; have q3 := up_cell g d3.out; replace T1 := Aside0.mk (T1.out.trans (g.mono T1.out.size)); clear g hcall))
   all_goals
     go_wp2_with fail
     go_ret
     exact ⟨rfl, T1.out⟩
 · have x0 := HA.out 8 (by decide)
   have x1 := HA.out 9 (by decide)
   rw [show asksL.getD 8 0 = 1 from rfl] at x0
   rw [show asksL.getD 9 0 = 3 from rfl] at x1
   rw [show asked 4 = (1, 3) from rfl]
   dsimp only
   have DR := Aside0.mk (below_drew (Below.refl (w.alloc (.cells #[.int .i64 4, .string ⟨#[]⟩, .int .i64 0, .slice B 2 d, .slice A4 0 c4, .slice A5 0 c5] 26)).heap.size (w.alloc (.cells #[.int .i64 4, .string ⟨#[]⟩, .int .i64 0, .slice B 2 d, .slice A4 0 c4, .slice A5 0 c5] 26))))
   replace T1 := Aside0.mk (T1.out.trans (DR.out.mono T1.out.size))
   have hcall := Aside0.mk (D102.out _ T1.out ⟨3, 8, none⟩ 1 3 (up_cell DR.out x0) (up_cell DR.out x1))
   obtain ⟨r, hr0⟩ : ∃ v, (if ofT env t 1 = 0 then ofT env u 3 else ofT env t 1) = v := ⟨_, rfl⟩
   rw [hr0] at hcall ⊢
   clear hr0 D102 HA
   have d0 := Aside0.mk (up_cell DR.out ((bCl HB.out 0).trans rfl))
   have d3 := Aside0.mk (up_cell DR.out ((bCl HB.out 3).trans rfl))
   clear DR
   go_enter Tryd.func66, Tryd.ntmps66
   go_upto_region 10 with fail
   go_region_held3 (fun w' => w'.cell? ⟨w.heap.size, 0, none⟩ = some (.int .i64 4) ∧ w'.cell? ⟨w.heap.size, 3, none⟩ = some (.slice B 2 d)) (go_keep)
     (first
       | (go_at_call 102; (with_reducible refine hcall.out.mono ?_); rintro e w1 ⟨g, v, rfl⟩; have q0 := up_cell g d0.out; have q3 := up_cell g d3.out; replace T1 := Aside0.mk (T1.out.trans (g.mono T1.out.size)); clear g hcall))
   all_goals
     go_wp2_with fail
     go_ret
     exact ⟨rfl, T1.out⟩
 · have x0 := HA.out 10 (by decide)
   have x1 := HA.out 11 (by decide)
   rw [show asksL.getD 10 0 = 4 from rfl] at x0
   rw [show asksL.getD 11 0 = 1 from rfl] at x1
   rw [show asked 5 = (4, 1) from rfl]
   dsimp only
   have DR := Aside0.mk (below_drew (Below.refl (w.alloc (.cells #[.int .i64 5, .string ⟨#[]⟩, .int .i64 0, .slice B 2 d, .slice A4 0 c4, .slice A5 0 c5] 26)).heap.size (w.alloc (.cells #[.int .i64 5, .string ⟨#[]⟩, .int .i64 0, .slice B 2 d, .slice A4 0 c4, .slice A5 0 c5] 26))))
   replace T1 := Aside0.mk (T1.out.trans (DR.out.mono T1.out.size))
   have hcall := Aside0.mk (D102.out _ T1.out ⟨3, 10, none⟩ 4 1 (up_cell DR.out x0) (up_cell DR.out x1))
   obtain ⟨r, hr0⟩ : ∃ v, (if ofT env t 4 = 0 then ofT env u 1 else ofT env t 4) = v := ⟨_, rfl⟩
   rw [hr0] at hcall ⊢
   clear hr0 D102 HA
   have d0 := Aside0.mk (up_cell DR.out ((bCl HB.out 0).trans rfl))
   have d3 := Aside0.mk (up_cell DR.out ((bCl HB.out 3).trans rfl))
   clear DR
   go_enter Tryd.func66, Tryd.ntmps66
   go_upto_region 10 with fail
   go_region_held3 (fun w' => w'.cell? ⟨w.heap.size, 0, none⟩ = some (.int .i64 5) ∧ w'.cell? ⟨w.heap.size, 3, none⟩ = some (.slice B 2 d)) (go_keep)
     (first
       | (go_at_call 102; (with_reducible refine hcall.out.mono ?_); rintro e w1 ⟨g, v, rfl⟩; have q0 := up_cell g d0.out; have q3 := up_cell g d3.out; replace T1 := Aside0.mk (T1.out.trans (g.mono T1.out.size)); clear g hcall))
   all_goals
     go_wp2_with fail
     go_ret
     exact ⟨rfl, T1.out⟩
 · have x0 := HA.out 12 (by decide)
   have x1 := HA.out 13 (by decide)
   rw [show asksL.getD 12 0 = 5 from rfl] at x0
   rw [show asksL.getD 13 0 = 1 from rfl] at x1
   rw [show asked 6 = (5, 1) from rfl]
   dsimp only
   have DR := Aside0.mk (below_drew (Below.refl (w.alloc (.cells #[.int .i64 6, .string ⟨#[]⟩, .int .i64 0, .slice B 2 d, .slice A4 0 c4, .slice A5 0 c5] 26)).heap.size (w.alloc (.cells #[.int .i64 6, .string ⟨#[]⟩, .int .i64 0, .slice B 2 d, .slice A4 0 c4, .slice A5 0 c5] 26))))
   replace T1 := Aside0.mk (T1.out.trans (DR.out.mono T1.out.size))
   have hcall := Aside0.mk (D102.out _ T1.out ⟨3, 12, none⟩ 5 1 (up_cell DR.out x0) (up_cell DR.out x1))
   obtain ⟨r, hr0⟩ : ∃ v, (if ofT env t 5 = 0 then ofT env u 1 else ofT env t 5) = v := ⟨_, rfl⟩
   rw [hr0] at hcall ⊢
   clear hr0 D102 HA
   have d0 := Aside0.mk (up_cell DR.out ((bCl HB.out 0).trans rfl))
   have d3 := Aside0.mk (up_cell DR.out ((bCl HB.out 3).trans rfl))
   clear DR
   go_enter Tryd.func66, Tryd.ntmps66
   go_upto_region 10 with fail
   go_region_held3 (fun w' => w'.cell? ⟨w.heap.size, 0, none⟩ = some (.int .i64 6) ∧ w'.cell? ⟨w.heap.size, 3, none⟩ = some (.slice B 2 d)) (go_keep)
     (first
       | (go_at_call 102; (with_reducible refine hcall.out.mono ?_); rintro e w1 ⟨g, v, rfl⟩; have q0 := up_cell g d0.out; have q3 := up_cell g d3.out; replace T1 := Aside0.mk (T1.out.trans (g.mono T1.out.size)); clear g hcall))
   all_goals
     go_wp2_with fail
     go_ret
     exact ⟨rfl, T1.out⟩
 · have x0 := HA.out 14 (by decide)
   have x1 := HA.out 15 (by decide)
   rw [show asksL.getD 14 0 = 4 from rfl] at x0
   rw [show asksL.getD 15 0 = 2 from rfl] at x1
   rw [show asked 7 = (4, 2) from rfl]
   dsimp only
   have DR := Aside0.mk (below_drew (Below.refl (w.alloc (.cells #[.int .i64 7, .string ⟨#[]⟩, .int .i64 0, .slice B 2 d, .slice A4 0 c4, .slice A5 0 c5] 26)).heap.size (w.alloc (.cells #[.int .i64 7, .string ⟨#[]⟩, .int .i64 0, .slice B 2 d, .slice A4 0 c4, .slice A5 0 c5] 26))))
   replace T1 := Aside0.mk (T1.out.trans (DR.out.mono T1.out.size))
   have hcall := Aside0.mk (D102.out _ T1.out ⟨3, 14, none⟩ 4 2 (up_cell DR.out x0) (up_cell DR.out x1))
   obtain ⟨r, hr0⟩ : ∃ v, (if ofT env t 4 = 0 then ofT env u 2 else ofT env t 4) = v := ⟨_, rfl⟩
   rw [hr0] at hcall ⊢
   clear hr0 D102 HA
   have d0 := Aside0.mk (up_cell DR.out ((bCl HB.out 0).trans rfl))
   have d3 := Aside0.mk (up_cell DR.out ((bCl HB.out 3).trans rfl))
   clear DR
   go_enter Tryd.func66, Tryd.ntmps66
   go_upto_region 10 with fail
   go_region_held3 (fun w' => w'.cell? ⟨w.heap.size, 0, none⟩ = some (.int .i64 7) ∧ w'.cell? ⟨w.heap.size, 3, none⟩ = some (.slice B 2 d)) (go_keep)
     (first
       | (go_at_call 102; (with_reducible refine hcall.out.mono ?_); rintro e w1 ⟨g, v, rfl⟩; have q0 := up_cell g d0.out; have q3 := up_cell g d3.out; replace T1 := Aside0.mk (T1.out.trans (g.mono T1.out.size)); clear g hcall))
   all_goals
     go_wp2_with fail
     go_ret
     exact ⟨rfl, T1.out⟩
 · have x0 := HA.out 16 (by decide)
   have x1 := HA.out 17 (by decide)
   rw [show asksL.getD 16 0 = 3 from rfl] at x0
   rw [show asksL.getD 17 0 = 2 from rfl] at x1
   rw [show asked 8 = (3, 2) from rfl]
   dsimp only
   have DR := Aside0.mk (below_drew (Below.refl (w.alloc (.cells #[.int .i64 8, .string ⟨#[]⟩, .int .i64 0, .slice B 2 d, .slice A4 0 c4, .slice A5 0 c5] 26)).heap.size (w.alloc (.cells #[.int .i64 8, .string ⟨#[]⟩, .int .i64 0, .slice B 2 d, .slice A4 0 c4, .slice A5 0 c5] 26))))
   replace T1 := Aside0.mk (T1.out.trans (DR.out.mono T1.out.size))
   have hcall := Aside0.mk (D102.out _ T1.out ⟨3, 16, none⟩ 3 2 (up_cell DR.out x0) (up_cell DR.out x1))
   obtain ⟨r, hr0⟩ : ∃ v, (if ofT env t 3 = 0 then ofT env u 2 else ofT env t 3) = v := ⟨_, rfl⟩
   rw [hr0] at hcall ⊢
   clear hr0 D102 HA
   have d0 := Aside0.mk (up_cell DR.out ((bCl HB.out 0).trans rfl))
   have d3 := Aside0.mk (up_cell DR.out ((bCl HB.out 3).trans rfl))
   clear DR
   go_enter Tryd.func66, Tryd.ntmps66
   go_upto_region 10 with fail
   go_region_held3 (fun w' => w'.cell? ⟨w.heap.size, 0, none⟩ = some (.int .i64 8) ∧ w'.cell? ⟨w.heap.size, 3, none⟩ = some (.slice B 2 d)) (go_keep)
     (first
       | (go_at_call 102; (with_reducible refine hcall.out.mono ?_); rintro e w1 ⟨g, v, rfl⟩; have q0 := up_cell g d0.out; have q3 := up_cell g d3.out; replace T1 := Aside0.mk (T1.out.trans (g.mono T1.out.size)); clear g hcall))
   all_goals
     go_wp2_with fail
     go_ret
     exact ⟨rfl, T1.out⟩
theorem row_ints3 {w : World} {B : Nat} {a b c : Int} (hB : w.heap[B]? = some (.cells #[.int .i64 a, .int .i64 b, .int .i64 c] 3 (0, 0))) : Kd.C (Kd.int .i64) w (some ⟨B, 0, none⟩) 3 [a, b, c] := by
 refine ⟨rfl, by omega, fun _ => ⟨⟨B, 0, none⟩, rfl, fun j p hj => ?_⟩⟩
 have hn := World.news_of_block hB
 match j, hj with
 | 0, hj =>
   obtain rfl : a = p := by simpa using hj
   exact ⟨[.int .i64 a], rfl, rfl, fun i v hv => by match i, hv with | 0, hv => exact hn 0 v hv⟩
 | 1, hj =>
   obtain rfl : b = p := by simpa using hj
   exact ⟨[.int .i64 b], rfl, rfl, fun i v hv => by match i, hv with | 0, hv => exact hn 1 v hv⟩
 | 2, hj =>
   obtain rfl : c = p := by simpa using hj
   exact ⟨[.int .i64 c], rfl, rfl, fun i v hv => by match i, hv with | 0, hv => exact hn 2 v hv⟩
theorem ordered_f (s : Int) : slices_Contains_int_int.f 4 [8, 2, 6] s = some (ordered s) := by
 unfold slices_Contains_int_int.f slices_Index_int_int.f ordered
 have r0 : rd [8, 2, 6] (0 : Int) = 8 := rfl
 have r1 : rd [8, 2, 6] (1 : Int) = 2 := rfl
 have r2 : rd [8, 2, 6] (2 : Int) = 6 := rfl
 have w0 : wrap64 1 = 1 := wrap_in (by omega)
 have w1 : wrap64 2 = 2 := wrap_in (by omega)
 have w2 : wrap64 3 = 3 := wrap_in (by omega)
 by_cases h8 : s = 8
 · subst h8; simp [slices_Index_int_int.l0, r0]
 · by_cases h2 : s = 2
   · subst h2; simp [slices_Index_int_int.l0, r0, w0, r1]
   · by_cases h6 : s = 6
     · subst h6; simp [slices_Index_int_int.l0, r0, w0, r1, w1, r2]
     · simp [slices_Index_int_int.l0, r0, w0, r1, w1, r2, w2, h8, h2, h6]
theorem contains_calls3 (s : Int) (B : Nat) (W : World) (hB : W.heap[B]? = some (.cells #[.int .i64 8, .int .i64 2, .int .i64 6] 3 (0, 0))) : Calls Tryd.prog 103 #[.slice (some ⟨B, 0, none⟩) 3 3, .int .i64 s] W fun e w' => e = .returned (.bool (ordered s)) ∧ Below W.heap.size W w' :=
 (slices_Contains_int_int.calls 4 (some ⟨B, 0, none⟩) 3 [8, 2, 6] s (ordered s) W (row_ints3 hB) (Nat.le_refl _) (ordered_f s)).mono fun e w' ⟨he, n, hw⟩ => ⟨he, by subst hw; exact drewN_b _ _⟩
section
variable (env : List S42) (A : Option Addr) (c : Nat) (nm : ByteArray) (t u : S47) (B : Option Addr) (d : Nat) (A4 : Option Addr) (c4 : Nat) (A5 : Option Addr) (c5 : Nat) (w : World)
set_option maxRecDepth 100000 in
set_option maxHeartbeats 8000000 in
theorem walk_cmp_err (r : Int) (hne : r ≠ 0) (hcall : ∀ W, Below w.heap.size w W → Calls Tryd.prog 102 #[.slice B 2 d, .func (.func 67) #[.slice A env.length c] #[], .slice none 0 0] W fun e w' => Below W.heap.size W w' ∧ e = .returned (.tuple #[.slice none 0 0, .int .i64 r])) :
   Calls Tryd.prog 66 #[.slice A env.length c, .agg #[.int .i64 9, .string nm, .int .i64 0, .slice B 2 d, .slice A4 0 c4, .slice A5 0 c5]] w fun e w' => e = .returned (.int .i64 r) ∧ Below w.heap.size w w' := by
 have hu26 := Tryd.underlying26
 have T1 := Aside0.mk (up1 w (.cells #[.int .i64 9, .string nm, .int .i64 0, .slice B 2 d, .slice A4 0 c4, .slice A5 0 c5] 26))
 have HC := Aside0.mk (hcall _ T1.out)
 have b1 : (r != 0) = true := by simpa using hne
 clear hcall hne
 go_enter Tryd.func66, Tryd.ntmps66
 go_wp2_with (go_at_call 102; (with_reducible refine HC.out.mono ?_); rintro e w1 ⟨g, rfl⟩; replace T1 := Aside0.mk (T1.out.trans (g.mono T1.out.size)); clear g HC)
 go_ret
 exact ⟨rfl, T1.out⟩
set_option maxRecDepth 100000 in
set_option maxHeartbeats 8000000 in
theorem walk_cmp_ok (st su : Int) (hcall : ∀ W, Below w.heap.size w W → Calls Tryd.prog 102 #[.slice B 2 d, .func (.func 67) #[.slice A env.length c] #[], .slice none 0 0] W fun e w' => Below W.heap.size W w' ∧ ∃ ad c', e = .returned (.tuple #[.slice (some ad) 2 c', .int .i64 0]) ∧ w'.cell? ad = some (.int .i64 st) ∧ w'.cell? ⟨ad.block, ad.off + 1, none⟩ = some (.int .i64 su)) :
   Calls Tryd.prog 66 #[.slice A env.length c, .agg #[.int .i64 9, .string nm, .int .i64 0, .slice B 2 d, .slice A4 0 c4, .slice A5 0 c5]] w fun e w' => e = .returned (.int .i64 (if st = su ∧ (eqs nm || ordered st) = true then 0 else 80)) ∧ Below w.heap.size w w' := by
 have hu26 := Tryd.underlying26
 have T1 := Aside0.mk (up1 w (.cells #[.int .i64 9, .string nm, .int .i64 0, .slice B 2 d, .slice A4 0 c4, .slice A5 0 c5] 26))
 have HB := Aside0.mk (heap_new w (.cells #[.int .i64 9, .string nm, .int .i64 0, .slice B 2 d, .slice A4 0 c4, .slice A5 0 c5] 26))
 have HC := Aside0.mk (hcall _ T1.out)
 have C103 := Aside0.mk (fun G W hG => contains_calls3 st G W hG)
 obtain ⟨o, ho⟩ : ∃ v, ordered st = v := ⟨_, rfl⟩
 obtain ⟨b1, hb1⟩ : ∃ v, decide (nm = ⟨#[61]⟩) = v := ⟨_, rfl⟩
 obtain ⟨b2, hb2⟩ : ∃ v, decide (nm = ⟨#[33, 61]⟩) = v := ⟨_, rfl⟩
 unfold eqs
 rw [ho, hb1, hb2]
 rw [ho] at C103
 have s1 := (str_beq nm ⟨#[61]⟩).trans hb1
 have s2 := (str_beq nm ⟨#[33, 61]⟩).trans hb2
 rw [show (⟨#[61]⟩ : ByteArray).toList = [61] by rw [ByteArray.toList_eq]] at s1
 rw [show (⟨#[33, 61]⟩ : ByteArray).toList = [33, 61] by rw [ByteArray.toList_eq]] at s2
 obtain ⟨r, hr0⟩ : ∃ v, (if st = su ∧ (b1 || b2 || o) = true then (0 : Int) else 80) = v := ⟨_, rfl⟩
 rw [hr0]
 obtain ⟨os, hos⟩ : ∃ v, (st != su) = v := ⟨_, rfl⟩
 have HR0 : Aside0 ((if (!os && (b1 || b2 || o)) = true then (0 : Int) else 80) = r) := ⟨by
   rw [← hr0, ← hos]
   by_cases hs : st = su
   · simp [hs]
   · have : (st != su) = true := by simpa using hs
     simp [hs]⟩
 clear hcall ho hb1 hb2 hr0
 cases os <;> cases o <;> cases b1 <;> cases b2
 all_goals
   first | (obtain rfl : (0 : Int) = r := HR0.out) | (obtain rfl : (80 : Int) = r := HR0.out)
   clear HR0
   go_enter Tryd.func66, Tryd.ntmps66
   go_wp2_with (first
     | (go_at_call 102; (with_reducible refine HC.out.mono ?_); rintro e w1 ⟨g, ad, c', rfl, z0, z1⟩; replace T1 := Aside0.mk (T1.out.trans (g.mono T1.out.size)); have u0 := up_cell (up1 w1 (.cells #[.int .i64 8, .int .i64 2, .int .i64 6] 3)) z0; have HN := Aside0.mk (heap_new w1 (.cells #[.int .i64 8, .int .i64 2, .int .i64 6] 3)); have hb := Aside0.mk (blk_below (up1 w1 (.cells #[.int .i64 8, .int .i64 2, .int .i64 6] 3)) (blk_below g HB.out)); have zz := Aside0.mk (And.intro z0 z1); clear g HC z0 z1)
     | (go_at_call 103; (with_reducible refine (C103.out _ _ HN.out).mono ?_); rintro e w2 ⟨rfl, g⟩; have y0 := (bCl (blk_below g hb.out) 0).trans rfl; have y1 := (bCl (blk_below g hb.out) 1).trans rfl; have z0 := up_cell g (up_cell (up1 _ _) zz.out.1); have z1 := up_cell g (up_cell (up1 _ _) zz.out.2); replace T1 := Aside0.mk (T1.out.trans (((up1 _ _).trans (g.mono (up1 _ _).size)).mono T1.out.size)); clear g u0))
   go_quiet (fail)
   go_wp2_with fail
   go_ret
   exact ⟨rfl, T1.out.trans ((drewN_b _ _).mono T1.out.size)⟩
theorem walk_cmp (hr : Kd.C k42 w A env.length env) (hts : Kd.C k47 w B 2 [t, u]) (hk : Kinds w) (h1 : TK t) (h2 : TK u) :
   Calls Tryd.prog 66 #[.slice A env.length c, .agg #[.int .i64 9, .string nm, .int .i64 0, .slice B 2 d, .slice A4 0 c4, .slice A5 0 c5]] w fun e w' => e = .returned (.int .i64 (cmpT env nm t u)) ∧ Below w.heap.size w w' := by
 have hA := fun W (hW : Below w.heap.size w W) => sortsA_calls env A c t u B d W (Kd.C_below hr hW) (Kd.C_below hts hW) (hk.below hW) h1 h2
 unfold cmpT
 by_cases he : (sortT env t).2 = 0
 · rw [if_pos he]
   by_cases hu : (sortT env u).2 = 0
   · rw [if_pos hu]
     refine walk_cmp_ok env A c nm B d A4 c4 A5 c5 w (sortT env t).1 (sortT env u).1 fun W hW => (hA W hW).mono fun e w' ⟨g, h⟩ => ⟨g, ?_⟩
     rcases h with ⟨h, _⟩ | ⟨_, h, _⟩ | ⟨_, _, h⟩
     · exact absurd he h
     · exact absurd hu h
     · exact h
   · rw [if_neg hu]
     refine walk_cmp_err env A c nm B d A4 c4 A5 c5 w _ hu fun W hW => (hA W hW).mono fun e w' ⟨g, h⟩ => ⟨g, ?_⟩
     rcases h with ⟨h, _⟩ | ⟨_, _, h⟩ | ⟨_, h, _⟩
     · exact absurd he h
     · exact h
     · exact absurd h hu
 · rw [if_neg he]
   refine walk_cmp_err env A c nm B d A4 c4 A5 c5 w _ he fun W hW => (hA W hW).mono fun e w' ⟨g, h⟩ => ⟨g, ?_⟩
   rcases h with ⟨_, h⟩ | ⟨h, _⟩ | ⟨h, _⟩
   · exact h
   · exact absurd h he
   · exact absurd h he
end
def Env (w0 W : World) (base : Nat) (v : Value) (ps : List S42) : Prop :=
 OwnRow (k42.K w0) 42 2 W base v ps ∨ ∃ A, v = .slice A ps.length ps.length ∧ ReadsRow (k42.K w0) 2 W A ps.length ps
theorem Env.below {w0 W W1 : World} {base : Nat} {v : Value} {ps : List S42} (h : Env w0 W base v ps) (hb : Below W.heap.size W W1) : Env w0 W1 base v ps := by
 rcases h with h | ⟨A, e, h⟩
 · exact .inl (h.below hb)
 · exact .inr ⟨A, e, h.imp_ hb (fun _ _ h => h)⟩
theorem Env.form {w0 W : World} {base : Nat} {v : Value} {ps : List S42} (h : Env w0 W base v ps) (hb : Below w0.heap.size w0 W) : ∃ A c, v = .slice A ps.length c ∧ ps.length ≤ c ∧ Kd.C k42 W A ps.length ps := by
 rcases h with h | ⟨A, e, h⟩
 · obtain ⟨A, c, e, hl, hC⟩ := own_C (d := k42) h hb
   exact ⟨A, c, e, hl, hC⟩
 · exact ⟨A, ps.length, e, Nat.le_refl _, h.imp_ (Below.refl _ _) (fun _ _ hp => k42.K_below hb hp)⟩
theorem row_none {w : World} {A : Option Addr} {ps : List S42} (h : Kd.C k42 w A ps.length ps) (hA : A = none) : ps.length = 0 := by
 rcases Nat.eq_zero_or_pos ps.length with h0 | h0
 · exact h0
 · obtain ⟨ad, ha, _⟩ := h.2.2 h0
   rw [hA] at ha; cases ha
theorem take_snoc42 (bs : List S42) (j : Nat) (hj : j < bs.length) : bs.take (j + 1) = bs.take j ++ [rd_T42 bs j] := by
 rw [List.take_succ_eq_append_getElem hj]
 simp [rd_T42, List.getD, hj]
theorem fresh_take (env bs : List S42) (j : Nat) (hj : j < bs.length) (h : fresh env (bs.take j) = true) (hn : has (env ++ bs.take j) (rd_T42 bs j).f0 = false) : fresh env (bs.take (j + 1)) = true := by
 rw [take_snoc42 bs j hj, fresh_append, h, fresh, hn]; rfl
theorem fresh_not (env bs : List S42) (j : Nat) (hj : j < bs.length) (hn : has (env ++ bs.take j) (rd_T42 bs j).f0 = true) : fresh env bs = false := by
 have e : bs = bs.take j ++ (rd_T42 bs j :: bs.drop (j + 1)) := by
   conv => lhs; rw [← List.take_append_drop j bs]
   congr 1
   rw [List.drop_eq_getElem_cons hj]
   simp [rd_T42, List.getD, hj]
 rw [e, fresh_append, fresh, hn]
 simp
theorem firsts_drop (l : List S26) (E : List S42) (j : Nat) (hj : j < l.length) : firsts (l.drop j) E = if first (rd_T26 l j) E = 0 then firsts (l.drop (j + 1)) E else first (rd_T26 l j) E := by
 rw [drop_rd l j hj, firsts]
set_option maxRecDepth 100000 in
set_option maxHeartbeats 8000000 in
theorem walk_node (x : S26) (A3 : Option Addr) (c3 : Nat) (A4 : Option Addr) (c4 : Nat) (A5 : Option Addr) (c5 : Nat) (env : List S42) (A : Option Addr) (c : Nat) (w : World) (hat : At w x A3 c3 A4 c4 A5 c5) (h3 : x.f3 = []) (k9 : x.f0 ≠ 9)
   (hr : Kd.C k42 w A env.length env) (hc : env.length ≤ c) (hlen : env.length + x.f4.length ≤ 1000000000)
   (hch : ∀ j, j < x.f5.length → ∀ (W : World) (A' : Option Addr) (c' : Nat), Below w.heap.size w W → Kd.C k42 W A' (env ++ x.f4).length (env ++ x.f4) → (env ++ x.f4).length ≤ c' →
     ∀ B3 d3 B4 d4 B5 d5, At w (rd_T26 x.f5 j) B3 d3 B4 d4 B5 d5 → Calls Tryd.prog 66 #[.slice A' (env ++ x.f4).length c', .agg #[.int .i64 (rd_T26 x.f5 j).f0, .string (rd_T26 x.f5 j).f1, .int .i64 (rd_T26 x.f5 j).f2, .slice B3 (rd_T26 x.f5 j).f3.length d3, .slice B4 (rd_T26 x.f5 j).f4.length d4, .slice B5 (rd_T26 x.f5 j).f5.length d5]] W
       fun e w' => e = .returned (.int .i64 (first (rd_T26 x.f5 j) (env ++ x.f4))) ∧ Below W.heap.size W w') :
   Calls Tryd.prog 66 #[.slice A env.length c, .agg #[.int .i64 x.f0, .string x.f1, .int .i64 x.f2, .slice A3 x.f3.length c3, .slice A4 x.f4.length c4, .slice A5 x.f5.length c5]] w
     fun e w' => e = .returned (.int .i64 (if fresh env x.f4 then firsts x.f5 (env ++ x.f4) else 82)) ∧ Below w.heap.size w w' := by
 have hu26 := Tryd.underlying26
 have hu42 := Tryd.underlying42
 have hu76 := und76
 have hb5 := hat.g5.2.1
 have hb4 := hat.g4.2.1
 have T1 := Aside0.mk (up1 w (.cells #[.int .i64 x.f0, .string x.f1, .int .i64 x.f2, .slice A3 x.f3.length c3, .slice A4 x.f4.length c4, .slice A5 x.f5.length c5] 26))
 have HB := Aside0.mk (heap_new w (.cells #[.int .i64 x.f0, .string x.f1, .int .i64 x.f2, .slice A3 x.f3.length c3, .slice A4 x.f4.length c4, .slice A5 x.f5.length c5] 26))
 have HAT := Aside0.mk hat
 have HR := Aside0.mk hr
 have HCH := Aside0.mk hch
 have C104 := Aside0.mk (fun W => clip_calls A env.length c W hc (row_none hr) (by have := hr.2.1; omega))
 have h30 : x.f3.length = 0 := by rw [h3]; rfl
 have h31 : ¬ (x.f3.length : Int) > 0 := by omega
 have k9b : (x.f0 == 9) = false := by simpa using k9
 obtain ⟨r, hr0⟩ : ∃ v, (if fresh env x.f4 then firsts x.f5 (env ++ x.f4) else 82) = v := ⟨_, rfl⟩
 rw [hr0]
 have HR0 := Aside0.mk hr0
 have HL := Aside0.mk hlen
 clear hat hr hch hc hr0 hlen h3 k9 h30
 go_enter Tryd.func66, Tryd.ntmps66
 go_wp2_with (go_at_call 104; (with_reducible refine (C104.out _).mono ?_); rintro e w1 ⟨rfl, rfl⟩; clear C104)
 go_loopg [10, 80] x.f4.length (fun gg s10 s80 wr => ∃ j : Nat, j ≤ x.f4.length ∧ x.f4.length - j ≤ gg ∧ s80 = .int .i64 j ∧ Aside0 (Below w.heap.size w wr ∧ wr.heap[w.heap.size]? = some (.cells #[.int .i64 x.f0, .string x.f1, .int .i64 x.f2, .slice A3 x.f3.length c3, .slice A4 x.f4.length c4, .slice A5 x.f5.length c5] 26 (0, 0)) ∧ fresh env (x.f4.take j) = true ∧ Env w wr w.heap.size s10 (env ++ x.f4.take j)))
 case atStart => exact ⟨0, Nat.zero_le _, by omega, rfl, ⟨T1.out, HB.out, rfl, .inr ⟨A, by rw [List.take_zero, List.append_nil], by rw [List.take_zero, List.append_nil]; exact HR.out.imp_ T1.out (fun _ _ h => h)⟩⟩⟩
 case round =>
   obtain ⟨j, hj, hg, rfl, HJ⟩ := hrel
   clear T1 HB
   obtain ⟨P, hP⟩ : ∃ P, env ++ x.f4.take j = P := ⟨_, rfl⟩
   rw [hP] at HJ
   obtain ⟨A', c', rfl, hle, hC⟩ := HJ.out.2.2.2.form HJ.out.1
   have HPL : Aside0 (P.length ≤ env.length + x.f4.length) := ⟨by rw [← hP, List.length_append, List.length_take]; omega⟩
   by_cases hlt : j < x.f4.length
   · have hltz : (j : Int) < (x.f4.length : Int) := by omega
     obtain ⟨ad, rfl, y0, y1⟩ := bindAt HAT.out.g4 HJ.out.1 j hlt
     have G1 := Aside0.mk (up1 wr (.cells #[.string (rd_T42 x.f4 j).f0, .int .i64 (rd_T42 x.f4 j).f1] 42))
     have HN := Aside0.mk (heap_new wr (.cells #[.string (rd_T42 x.f4 j).f0, .int .i64 (rd_T42 x.f4 j).f1] 42))
     have C101 := Aside0.mk (find_calls P A' c' (rd_T42 x.f4 j).f0 _ (Kd.C_below hC G1.out))
     clear hC hle
     have hnot := fun h => fresh_not env x.f4 j hlt h
     have htk := fun h => fresh_take env x.f4 j hlt HJ.out.2.2.1 h
     have HP2 := Aside0.mk (show env ++ x.f4.take (j + 1) = P ++ [rd_T42 x.f4 j] by rw [take_snoc42 x.f4 j hlt, ← List.append_assoc, hP])
     rw [hP] at hnot htk
     clear hP
     cases hh : has P (rd_T42 x.f4 j).f0 with
     | true =>
       have hsp := spot_iff.2 hh
       have HF := Aside0.mk (hnot hh)
       obtain ⟨sp, e_sp⟩ : ∃ v, spot P (rd_T42 x.f4 j).f0 = v := ⟨_, rfl⟩
       rw [e_sp] at C101 hsp
       clear hh e_sp hnot htk
       go_wp2_with (go_at_call 101; (with_reducible refine C101.out.mono ?_); rintro e w1 ⟨rfl, g⟩; have G2 := Aside0.mk (HJ.out.1.trans ((G1.out.trans (g.mono G1.out.size)).mono HJ.out.1.size)); clear g C101)
       go_ret
       exact ⟨by rw [← HR0.out, HF.out]; rfl, G2.out⟩
     | false =>
       have hsp : ¬ 0 ≤ spot P (rd_T42 x.f4 j).f0 := fun h => by rw [spot_iff.1 h] at hh; cases hh
       have HF := Aside0.mk (htk hh)
       obtain ⟨sp, e_sp⟩ : ∃ v, spot P (rd_T42 x.f4 j).f0 = v := ⟨_, rfl⟩
       rw [e_sp] at C101 hsp
       clear hh e_sp hnot htk
       go_wp2_with (first
         | (go_at_call 101; (with_reducible refine C101.out.mono ?_); rintro e w1 ⟨rfl, g⟩; have q0 := (bCl (blk_below g HN.out) 0).trans rfl; have q1 := (bCl (blk_below g HN.out) 1).trans rfl; have G2 := Aside0.mk (G1.out.trans (g.mono G1.out.size)); replace HJ := Aside0.mk (And.intro (HJ.out.1.trans (G2.out.mono HJ.out.1.size)) (And.intro (blk_below G2.out HJ.out.2.1) (HJ.out.2.2.2.below G2.out))); clear g C101)
         | ((with_reducible refine gate_builtin (b := .append) (xs := #[.tmp 89, .tmp 91]) rfl ?_); at_builtin; refine any_append (R := k42.K w) (w0 := w) w.heap.size rfl (.tmp 89) (.tmp 91) 76 42 (.agg #[(.string ⟨#[]⟩), (.int .i64 0)]) 2 24 rfl und76 info42 rfl (by decide) (by decide) _ P (rd_T42 x.f4 j) [.string (rd_T42 x.f4 j).f0, .int .i64 (rd_T42 x.f4 j).f1] rfl rfl ?aP rfl ?a1 ?aO ?aB ?aS ?aL ?_; (case aP => exact k42_mk w _); (case a1 => simp [Value.oneCell']); (case aO => exact HJ.out.2.2); (case aB => exact HJ.out.1); (case aS => exact HJ.out.1.size); (case aL => have := HL.out; have := HPL.out; omega); intro v2 w2 ho2 hb2 hs2; replace ho2 := Aside0.mk ho2; replace hb2 := Aside0.mk hb2; replace hs2 := Aside0.mk hs2))
       go_roundg (x.f4.length - (j + 1))
       case measure => omega
       case rel => exact ⟨j + 1, by omega, by omega, by go_num, ⟨hb2.out, hs2.out.2 _ _ _ HJ.out.2.1 (by decide), HF.out, .inl (by rw [HP2.out]; exact ho2.out)⟩⟩
   · have hltz : ¬ (j : Int) < (x.f4.length : Int) := by omega
     obtain rfl : j = x.f4.length := by omega
     have b0 := (bCl HJ.out.2.1 5).trans rfl
     rw [List.take_length] at hP
     have hF := HJ.out.2.2.1
     rw [List.take_length] at hF
     have HJ2 := Aside0.mk (And.intro HJ.out.1 hC)
     have HZ := Aside0.mk hle
     rw [hP] at HCH HR0
     rw [hF, if_pos rfl] at HR0
     clear HJ hC hle hF hP
     go_wp2_with fail
     go_loopg [15, 97] x.f5.length (fun gg _ s97 wr => ∃ j : Nat, j ≤ x.f5.length ∧ x.f5.length - j ≤ gg ∧ s97 = .int .i64 j ∧ Aside0 ((Below w.heap.size w wr ∧ Kd.C k42 wr A' P.length P) ∧ firsts (x.f5.drop j) P = r))
     case atStart => exact ⟨0, Nat.zero_le _, by omega, rfl, ⟨HJ2.out, by rw [List.drop_zero]; exact HR0.out⟩⟩
     case round =>
       obtain ⟨i, hi, hgi, rfl, HI⟩ := hrel
       clear HJ2 b0
       by_cases hlti : i < x.f5.length
       · have hltiz : (i : Int) < (x.f5.length : Int) := by omega
         obtain ⟨ad, B3, d3, B4, d4, B5, d5, rfl, hat', z0, z1, z2, z3, z4, z5⟩ := HAT.out.child HI.out.1.1 i hlti
         have hcall := Aside0.mk (HCH.out i hlti (wr.alloc (.cells #[.int .i64 (rd_T26 x.f5 i).f0, .string (rd_T26 x.f5 i).f1, .int .i64 (rd_T26 x.f5 i).f2, .slice B3 (rd_T26 x.f5 i).f3.length d3, .slice B4 (rd_T26 x.f5 i).f4.length d4, .slice B5 (rd_T26 x.f5 i).f5.length d5] 26)) A' c' (HI.out.1.1.trans ((up1 wr _).mono HI.out.1.1.size)) (Kd.C_below HI.out.1.2 (up1 wr _)) HZ.out B3 d3 B4 d4 B5 d5 hat')
         have HS := firsts_drop x.f5 P i hlti
         rw [HI.out.2] at HS
         obtain ⟨v, hv⟩ : ∃ v, first (rd_T26 x.f5 i) P = v := ⟨_, rfl⟩
         rw [hv] at hcall HS
         clear hv hat'
         by_cases h0 : v = 0
         · rw [if_pos h0] at HS
           subst h0
           have HS' := Aside0.mk HS
           clear HS
           go_wp2_with (go_at_call 66; (with_reducible refine hcall.out.mono ?_); rintro e w1 ⟨rfl, g⟩; replace g := Aside0.mk ((up1 wr _).trans (g.mono (up1 wr _).size)); clear hcall)
           go_roundg (x.f5.length - (i + 1))
           case measure => omega
           case rel => exact ⟨i + 1, by omega, by omega, by go_num, ⟨⟨HI.out.1.1.trans (g.out.mono HI.out.1.1.size), Kd.C_below HI.out.1.2 g.out⟩, HS'.out.symm⟩⟩
         · rw [if_neg h0] at HS
           have b1 : (v != 0) = true := by simpa using h0
           have HS' := Aside0.mk HS
           clear HS h0
           go_wp2_with (go_at_call 66; (with_reducible refine hcall.out.mono ?_); rintro e w1 ⟨rfl, g⟩; replace g := Aside0.mk ((up1 wr _).trans (g.mono (up1 wr _).size)); clear hcall)
           go_ret
           exact ⟨by rw [HS'.out]; rfl, HI.out.1.1.trans (g.out.mono HI.out.1.1.size)⟩
       · have hltiz : ¬ (i : Int) < (x.f5.length : Int) := by omega
         obtain rfl : i = x.f5.length := by omega
         have HE : Aside0 (r = 0) := ⟨by rw [← HI.out.2, List.drop_length]; rfl⟩
         go_wp2_with fail
         go_ret
         exact ⟨by rw [HE.out]; rfl, HI.out.1.1⟩
theorem nbs_rd : ∀ (l : List S26) (j : Nat), j < l.length → nb (rd_T26 l j) ≤ nbs l
 | [], j, hj => by simp at hj
 | x :: l, 0, _ => by simp [nbs, rd_T26]
 | x :: l, j + 1, hj => by
   have := nbs_rd l j (by simpa using hj)
   have e : rd_T26 (x :: l) ((j + 1 : Nat) : Int) = rd_T26 l j := by simp [rd_T26]
   rw [e, nbs]; omega
theorem first_node (x : S26) (env : List S42) (h9 : x.f0 ≠ 9) (ha : Sp.atom x.f0 = false) : first x env = if fresh env x.f4 then firsts x.f5 (env ++ x.f4) else 82 := by
 obtain ⟨k, nm, n, ts, bs, l⟩ := x
 rw [first, if_neg h9, if_neg (by rw [ha]; decide)]
theorem walk_calls (w0 : World) (hk : Kinds w0) (s : Nat) : ∀ x : S26, size x ≤ s → Fm x → ∀ (A3 : Option Addr) (c3 : Nat) (A4 : Option Addr) (c4 : Nat) (A5 : Option Addr) (c5 : Nat) (env : List S42) (A : Option Addr) (c : Nat) (W : World), Below w0.heap.size w0 W → At W x A3 c3 A4 c4 A5 c5 →
   Kd.C k42 W A env.length env → env.length ≤ c → env.length + nb x ≤ 1000000000 →
   Calls Tryd.prog 66 #[.slice A env.length c, .agg #[.int .i64 x.f0, .string x.f1, .int .i64 x.f2, .slice A3 x.f3.length c3, .slice A4 x.f4.length c4, .slice A5 x.f5.length c5]] W
     fun e w' => e = .returned (.int .i64 (first x env)) ∧ Below W.heap.size W w' := by
 induction s with
 | zero => intro x h; rw [size_eq] at h; omega
 | succ s ih =>
   intro x hs hf A3 c3 A4 c4 A5 c5 env A c W hW hat hr hc hlen
   have node : x.f0 ≠ 9 → Sp.atom x.f0 = false → x.f3 = [] → Calls Tryd.prog 66 #[.slice A env.length c, .agg #[.int .i64 x.f0, .string x.f1, .int .i64 x.f2, .slice A3 x.f3.length c3, .slice A4 x.f4.length c4, .slice A5 x.f5.length c5]] W
       fun e w' => e = .returned (.int .i64 (first x env)) ∧ Below W.heap.size W w' := fun h9 ha h3 => by
     have hfo := form_of hf
     have hnb : nb x = x.f4.length + nbs x.f5 := by obtain ⟨k, nm, n, ts, bs, l⟩ := x; simp only [nb]
     have hsz := size_eq x
     have hfl : forms x.f5 = true := by obtain ⟨k, nm, n, ts, bs, l⟩ := x; simp only [form, Bool.and_eq_true] at hfo; exact hfo.2
     rw [first_node x env h9 ha]
     refine walk_node x A3 c3 A4 c4 A5 c5 env A c W hat h3 h9 hr hc (by omega) fun j hj W1 A' c' hb hC hl B3 d3 B4 d4 B5 d5 hat' => ?_
     have h1 := size_child x.f5 j hj
     have h2 := nbs_rd x.f5 j hj
     exact ih (rd_T26 x.f5 j) (by omega) (fm_of (forms_rd x.f5 hfl j hj)) B3 d3 B4 d4 B5 d5 (env ++ x.f4) A' c' W1 (hW.trans (hb.mono hW.size)) (hat'.below hb) hC hl (by rw [List.length_append]; omega)
   cases hf with
   | const hk' => exact node (by simp only; omega) (by simp [Sp.atom]; omega) rfl
   | @atom k ts h1 h2 h3 =>
     have ha : Sp.atom k = true := by simp [Sp.atom]; omega
     obtain ⟨t, u, rfl, ht, hu⟩ := two_of ha h3
     rw [first_atom h1 h2]
     exact walk_atom env A c k t u A3 c3 A4 c4 A5 c5 W hr hat.g3 (hk.below hW) (TK.of ht) (TK.of hu) h1 h2
   | @cmp nm ts h1 h2 =>
     obtain ⟨t, u, rfl, ht, hu⟩ := two_of (by rfl) h2
     rw [first_cmp]
     exact walk_cmp env A c nm t u A3 c3 A4 c4 A5 c5 W hr hat.g3 (hk.below hW) (TK.of ht) (TK.of hu)
   | not h => exact node (by simp only; omega) rfl rfl
   | two hk' _ _ => exact node (by simp only; omega) (by simp [Sp.atom]; omega) rfl
   | imp _ _ => exact node (by simp only; omega) rfl rfl
   | quant hk' _ _ => exact node (by simp only; omega) (by simp [Sp.atom]; omega) rfl
   | count hk' _ _ _ _ => exact node (by simp only; omega) (by simp [Sp.atom]; omega) rfl
structure EnvA (w : World) (env : List S42) (A : Option Addr) (c : Nat) : Prop where
 row : Kd.C k42 w A env.length env
 le : env.length ≤ c
 ok : ∀ b ∈ env, BOk b
theorem EnvA.below {w w1 : World} {env : List S42} {A : Option Addr} {c : Nat} (h : EnvA w env A c) (hb : Below w.heap.size w w1) : EnvA w1 env A c := ⟨Kd.C_below h.row hb, h.le, h.ok⟩
set_option maxRecDepth 100000 in
set_option maxHeartbeats 8000000 in
theorem typ_calls (env : List S42) (A : Option Addr) (c : Nat) (x : S26) (A3 : Option Addr) (c3 : Nat) (A4 : Option Addr) (c4 : Nat) (A5 : Option Addr) (c5 : Nat) (w : World) (hE : EnvA w env A c) (hat : At w x A3 c3 A4 c4 A5 c5) (hs : size x ≤ 4611686018427387904) (hd : Deep x) (ht : Tabs w) (hk : Kinds w) (hlen : env.length + nb x ≤ 1000000000) :
   Calls Tryd.prog 38 #[.slice A env.length c, .agg #[.int .i64 x.f0, .string x.f1, .int .i64 x.f2, .slice A3 x.f3.length c3, .slice A4 x.f4.length c4, .slice A5 x.f5.length c5]] w
     fun e w' => e = .returned (.int .i64 (typ env x)) ∧ Below w.heap.size w w' := by
 have hu26 := Tryd.underlying26
 have T1 := Aside0.mk (up1 w (.cells #[.int .i64 x.f0, .string x.f1, .int .i64 x.f2, .slice A3 x.f3.length c3, .slice A4 x.f4.length c4, .slice A5 x.f5.length c5] 26))
 have HB := Aside0.mk (BoxF.mk (heap_new w (.cells #[.int .i64 x.f0, .string x.f1, .int .i64 x.f2, .slice A3 x.f3.length c3, .slice A4 x.f4.length c4, .slice A5 x.f5.length c5] 26)) (hat.below T1.out))
 have C65 := Aside0.mk (fun (W : World) (hW : Below w.heap.size w W) => may_calls env A c W (Kd.C_below hE.row hW) hE.ok (ht.below hW))
 have C22 := Aside0.mk (fun (W : World) (hW : Below w.heap.size w W) => check_calls x A3 c3 A4 c4 A5 c5 W (hat.below hW) hs hd (ht.below hW))
 unfold typ
 cases he : envOk env with
 | false =>
   rw [he] at C65
   rw [if_neg (by decide)]
   clear hE hat hs hd ht hk hlen he C22
   go_enter Tryd.func38, Tryd.ntmps38
   go_wp2_with (go_at_call 65; (with_reducible refine (C65.out _ T1.out).mono ?_); rintro e w1 ⟨rfl, g⟩; replace T1 := Aside0.mk (T1.out.trans (g.mono T1.out.size)); clear g C65)
   go_ret
   exact ⟨rfl, T1.out⟩
 | true =>
   rw [he] at C65
   rw [if_pos rfl]
   by_cases hc : check x = 0
   · rw [if_pos hc]
     rw [hc] at C22
     have C66 := Aside0.mk (fun (W : World) (hW : Below w.heap.size w W) => walk_calls w hk (size x) x (Nat.le_refl _) (fm_of (check_zero.1 hc).1) A3 c3 A4 c4 A5 c5 env A c W hW (hat.below hW) (Kd.C_below hE.row hW) hE.le hlen)
     obtain ⟨r, hr⟩ : ∃ v, first x env = v := ⟨_, rfl⟩
     rw [hr] at C66 ⊢
     clear hE hat hs hd ht hk hlen he hc hr
     go_enter Tryd.func38, Tryd.ntmps38
     go_wp2_with (first
       | (go_at_call 65; (with_reducible refine (C65.out _ T1.out).mono ?_); rintro e w1 ⟨rfl, g⟩; replace T1 := Aside0.mk (T1.out.trans (g.mono T1.out.size)); replace HB := Aside0.mk (HB.out.below g); clear g C65; obtain ⟨p0, p1, p2, p3, p4, p5⟩ := HB.out.six)
       | (go_at_call 22; (with_reducible refine (C22.out _ T1.out).mono ?_); rintro e w2 ⟨rfl, g⟩; replace T1 := Aside0.mk (T1.out.trans (g.mono T1.out.size)); replace HB := Aside0.mk (HB.out.below g); clear g C22 p0 p1 p2 p3 p4 p5; obtain ⟨p0, p1, p2, p3, p4, p5⟩ := HB.out.six)
       | (go_at_call 66; (with_reducible refine (C66.out _ T1.out).mono ?_); rintro e w3 ⟨rfl, g⟩; replace T1 := Aside0.mk (T1.out.trans (g.mono T1.out.size)); clear g C66 p0 p1 p2 p3 p4 p5))
     go_ret
     exact ⟨rfl, T1.out⟩
   · rw [if_neg hc]
     obtain ⟨r, hr⟩ : ∃ v, check x = v := ⟨_, rfl⟩
     rw [hr] at C22 hc ⊢
     have b1 : (r != 0) = true := by simpa using hc
     clear hE hat hs hd ht hk hlen he hc hr
     go_enter Tryd.func38, Tryd.ntmps38
     go_wp2_with (first
       | (go_at_call 65; (with_reducible refine (C65.out _ T1.out).mono ?_); rintro e w1 ⟨rfl, g⟩; replace T1 := Aside0.mk (T1.out.trans (g.mono T1.out.size)); replace HB := Aside0.mk (HB.out.below g); clear g C65; obtain ⟨p0, p1, p2, p3, p4, p5⟩ := HB.out.six)
       | (go_at_call 22; (with_reducible refine (C22.out _ T1.out).mono ?_); rintro e w2 ⟨rfl, g⟩; replace T1 := Aside0.mk (T1.out.trans (g.mono T1.out.size)); clear g C22 p0 p1 p2 p3 p4 p5))
     go_ret
     exact ⟨rfl, T1.out⟩
def fT (t : S47) : S26 := ⟨9, ⟨#[61]⟩, 0, [t, t], [], []⟩
theorem fT_check (t : S47) : check (fT t) = if term t then 0 else 1 := by
 have e1 : form (fT t) = term t := by
   have h1 : isSign ⟨#[61]⟩ = true := by rfl
   simp [fT, form, here, forms, termsOk, show Sp.atom 9 = true from rfl, h1, bindsOk, show Sp.quant 9 = false from rfl, show arity 9 = some 0 from rfl]
 have e2 : size (fT t) = 1 := by simp [fT, size, sizes]
 have e3 : depth (fT t) = 1 := by simp [fT, depth, depths]
 unfold check
 rw [e1, e2, e3]
 simp
structure TOk (t : S47) : Prop where
 nm : t.f1.size ≤ 9223372036854775807
 k : I64 t.f0
 n : I64 t.f2
theorem fT_deep {t : S47} (h : TOk t) : Deep (fT t) :=
 deep_of ⟨rfl, (by decide : (⟨#[61]⟩ : ByteArray).size ≤ 9223372036854775807), by simp [fT]; exact h.nm, by simp [fT], rfl, by simp [fT]; exact ⟨h.k, h.n⟩, by simp [fT]⟩ (fun y hy => by simp [fT] at hy)
theorem checkT (t : S47) (h : TOk t) (W : World) (G : Nat) (hG : W.heap[G]? = some (.cells #[.int .i64 t.f0, .string t.f1, .int .i64 t.f2, .int .i64 t.f0, .string t.f1, .int .i64 t.f2] 47 (0, 0))) (ht : Tabs W) :
   Calls Tryd.prog 22 #[.agg #[.int .i64 9, .string ⟨#[61]⟩, .int .i64 0, .slice (some ⟨G, 0, none⟩) 2 2, .slice none 0 0, .slice none 0 0]] W fun e w' => e = .returned (.int .i64 (if term t then 0 else 1)) ∧ Below W.heap.size W w' := by
 have hh := check_calls (fT t) (some ⟨G, 0, none⟩) 2 none 0 none 0 W ⟨Nat.le_refl _, row_terms2 hG, Nat.le_refl _, Kd.C_nil _ _, Nat.le_refl _, Kd.C_nil _ _⟩ (by simp [fT, size, sizes]) (fT_deep h) ht
 rw [fT_check] at hh
 exact hh
set_option maxRecDepth 100000 in
set_option maxHeartbeats 8000000 in
theorem typT_calls (env : List S42) (A : Option Addr) (c : Nat) (t : S47) (w : World) (hE : EnvA w env A c) (hT : TOk t) (ht : Tabs w) (hk : Kinds w) :
   Calls Tryd.prog 41 #[.slice A env.length c, .agg #[.int .i64 t.f0, .string t.f1, .int .i64 t.f2]] w
     fun e w' => e = .returned (.tuple #[.int .i64 (typT env t).1, .int .i64 (typT env t).2]) ∧ Below w.heap.size w w' := by
 have hu26 := Tryd.underlying26
 have hu47 := Tryd.underlying47
 have T1 := Aside0.mk (up1 w (.cells #[.int .i64 t.f0, .string t.f1, .int .i64 t.f2] 47))
 have HB := Aside0.mk (heap_new w (.cells #[.int .i64 t.f0, .string t.f1, .int .i64 t.f2] 47))
 have C65 := Aside0.mk (fun (W : World) (hW : Below w.heap.size w W) => may_calls env A c W (Kd.C_below hE.row hW) hE.ok (ht.below hW))
 have C22 := Aside0.mk (fun (W : World) (hW : Below w.heap.size w W) G hG => checkT t hT W G hG (ht.below hW))
 unfold typT
 cases he : envOk env with
 | false =>
   rw [he] at C65
   rw [Bool.false_and, if_neg (by decide)]
   clear hE hT ht hk he C22
   go_enter Tryd.func41, Tryd.ntmps41
   go_wp2_with (go_at_call 65; (with_reducible refine (C65.out _ T1.out).mono ?_); rintro e w1 ⟨rfl, g⟩; replace T1 := Aside0.mk (T1.out.trans (g.mono T1.out.size)); clear g C65)
   go_ret2
   exact ⟨rfl, T1.out⟩
 | true =>
   rw [he] at C65
   rw [Bool.true_and]
   cases htm : term t with
   | false =>
     rw [htm, if_neg (by decide)] at C22
     rw [if_neg (by decide)]
     clear hE hT ht hk he htm
     go_enter Tryd.func41, Tryd.ntmps41
     go_wp2_with (first
       | (go_at_call 65; (with_reducible refine (C65.out _ T1.out).mono ?_); rintro e w1 ⟨rfl, g⟩; replace T1 := Aside0.mk (T1.out.trans (g.mono T1.out.size)); replace HB := Aside0.mk (blk_below g HB.out); clear g C65; have p0 := (bCl HB.out 0).trans rfl; have p1 := (bCl HB.out 1).trans rfl; have p2 := (bCl HB.out 2).trans rfl; have HN := Aside0.mk (heap_new w1 (.cells #[.int .i64 t.f0, .string t.f1, .int .i64 t.f2, .int .i64 t.f0, .string t.f1, .int .i64 t.f2] 47)); have T2 := Aside0.mk (T1.out.trans ((up1 w1 (.cells #[.int .i64 t.f0, .string t.f1, .int .i64 t.f2, .int .i64 t.f0, .string t.f1, .int .i64 t.f2] 47)).mono T1.out.size)))
       | (go_at_call 22; (with_reducible refine (C22.out _ T2.out _ HN.out).mono ?_); rintro e w2 ⟨rfl, g⟩; replace T2 := Aside0.mk (T2.out.trans (g.mono T2.out.size)); clear g C22 p0 p1 p2))
     go_ret2
     exact ⟨rfl, T2.out⟩
   | true =>
     rw [htm, if_pos rfl] at C22
     rw [if_pos rfl]
     have C67 := Aside0.mk (fun (W : World) (hW : Below w.heap.size w W) => sort_calls env A c t W (Kd.C_below hE.row hW) (hk.below hW) (TK.of htm))
     obtain ⟨⟨r1, r2⟩, hr⟩ : ∃ v, sortT env t = v := ⟨_, rfl⟩
     rw [hr] at C67 ⊢
     dsimp only at C67 ⊢
     clear hE hT ht hk he htm hr
     go_enter Tryd.func41, Tryd.ntmps41
     go_wp2_with (first
       | (go_at_call 65; (with_reducible refine (C65.out _ T1.out).mono ?_); rintro e w1 ⟨rfl, g⟩; replace T1 := Aside0.mk (T1.out.trans (g.mono T1.out.size)); replace HB := Aside0.mk (blk_below g HB.out); clear g C65; have p0 := (bCl HB.out 0).trans rfl; have p1 := (bCl HB.out 1).trans rfl; have p2 := (bCl HB.out 2).trans rfl; have HN := Aside0.mk (heap_new w1 (.cells #[.int .i64 t.f0, .string t.f1, .int .i64 t.f2, .int .i64 t.f0, .string t.f1, .int .i64 t.f2] 47)); have T2 := Aside0.mk (T1.out.trans ((up1 w1 (.cells #[.int .i64 t.f0, .string t.f1, .int .i64 t.f2, .int .i64 t.f0, .string t.f1, .int .i64 t.f2] 47)).mono T1.out.size)); replace HB := Aside0.mk (blk_below (up1 w1 (.cells #[.int .i64 t.f0, .string t.f1, .int .i64 t.f2, .int .i64 t.f0, .string t.f1, .int .i64 t.f2] 47)) HB.out))
       | (go_at_call 22; (with_reducible refine (C22.out _ T2.out _ HN.out).mono ?_); rintro e w2 ⟨rfl, g⟩; replace T2 := Aside0.mk (T2.out.trans (g.mono T2.out.size)); replace HB := Aside0.mk (blk_below g HB.out); clear g C22 p0 p1 p2; have p0 := (bCl HB.out 0).trans rfl; have p1 := (bCl HB.out 1).trans rfl; have p2 := (bCl HB.out 2).trans rfl)
       | (go_at_call 67; (with_reducible refine (C67.out _ T2.out).mono ?_); rintro e w3 ⟨rfl, g⟩; replace T2 := Aside0.mk (T2.out.trans (g.mono T2.out.size)); clear g C67 p0 p1 p2))
     go_ret2
     exact ⟨rfl, T2.out⟩
structure AtR (w : World) (r : S54) (A3 : Option Addr) (c3 : Nat) (A7 : Option Addr) (c7 : Nat) (A8 : Option Addr) (c8 : Nat) (A9 : Option Addr) (c9 : Nat) : Prop where
 le : r.f3.length ≤ c3
 row : Kd.C k42 w A3 r.f3.length r.f3
 body : At w r.f4 A7 c7 A8 c8 A9 c9
theorem AtR.below {w w1 : World} {r : S54} {A3 : Option Addr} {c3 : Nat} {A7 : Option Addr} {c7 : Nat} {A8 : Option Addr} {c8 : Nat} {A9 : Option Addr} {c9 : Nat} (h : AtR w r A3 c3 A7 c7 A8 c8 A9 c9) (hb : Below w.heap.size w w1) : AtR w1 r A3 c3 A7 c7 A8 c8 A9 c9 := ⟨h.le, Kd.C_below h.row hb, h.body.below hb⟩
structure ROk (r : S54) : Prop where
 nm : r.f0.size ≤ 9223372036854775807
 wt : I64 r.f2
 each : ∀ b ∈ r.f3, BOk b
 deep : Deep r.f4
 size : Sp.size r.f4 ≤ 4611686018427387904
 few : r.f3.length + It.nb r.f4 ≤ 1000000000
theorem tenR {W : World} {B : Nat} {r : S54} {q : Bool} {A3 : Option Addr} {c3 : Nat} {A7 : Option Addr} {c7 : Nat} {A8 : Option Addr} {c8 : Nat} {A9 : Option Addr} {c9 : Nat} (h : W.heap[B]? = some (.cells #[.string r.f0, .bool q, .int .i64 r.f2, .slice A3 r.f3.length c3, .int .i64 r.f4.f0, .string r.f4.f1, .int .i64 r.f4.f2, .slice A7 r.f4.f3.length c7, .slice A8 r.f4.f4.length c8, .slice A9 r.f4.f5.length c9] 54 (0, 0))) :
   W.cell? ⟨B, 0, none⟩ = some (.string r.f0) ∧ W.cell? ⟨B, 1, none⟩ = some (.bool q) ∧ W.cell? ⟨B, 2, none⟩ = some (.int .i64 r.f2) ∧ W.cell? ⟨B, 3, none⟩ = some (.slice A3 r.f3.length c3) ∧ W.cell? ⟨B, 4, none⟩ = some (.int .i64 r.f4.f0) ∧ W.cell? ⟨B, 5, none⟩ = some (.string r.f4.f1) ∧ W.cell? ⟨B, 6, none⟩ = some (.int .i64 r.f4.f2) ∧ W.cell? ⟨B, 7, none⟩ = some (.slice A7 r.f4.f3.length c7) ∧ W.cell? ⟨B, 8, none⟩ = some (.slice A8 r.f4.f4.length c8) ∧ W.cell? ⟨B, 9, none⟩ = some (.slice A9 r.f4.f5.length c9) :=
 ⟨(bCl h 0).trans rfl, (bCl h 1).trans rfl, (bCl h 2).trans rfl, (bCl h 3).trans rfl, (bCl h 4).trans rfl, (bCl h 5).trans rfl, (bCl h 6).trans rfl, (bCl h 7).trans rfl, (bCl h 8).trans rfl, (bCl h 9).trans rfl⟩
theorem any_not_bind (l : List S42) : (l.any fun b => !Sp.bind b) = !(l.all Sp.bind) := by
 induction l with
 | nil => rfl
 | cons b l ih => rw [List.any_cons, List.all_cons, ih]; cases Sp.bind b <;> rfl
theorem bind_name (nm : ByteArray) : Sp.bind ⟨nm, 1⟩ = name nm := by simp [Sp.bind]
set_option maxRecDepth 100000 in
set_option maxHeartbeats 8000000 in
theorem rule_true (r : S54) (A3 : Option Addr) (c3 : Nat) (A7 : Option Addr) (c7 : Nat) (A8 : Option Addr) (c8 : Nat) (A9 : Option Addr) (c9 : Nat) (w : World) (hat : AtR w r A3 c3 A7 c7 A8 c8 A9 c9) (ho : ROk r) (ht : Tabs w) (hk : Kinds w) (hh : r.f1 = true) : Calls Tryd.prog 46 #[.agg #[.string r.f0, .bool r.f1, .int .i64 r.f2, .slice A3 r.f3.length c3, .int .i64 r.f4.f0, .string r.f4.f1, .int .i64 r.f4.f2, .slice A7 r.f4.f3.length c7, .slice A8 r.f4.f4.length c8, .slice A9 r.f4.f5.length c9]] w fun e w' => e = .returned (.int .i64 (rule r)) ∧ Below w.heap.size w w' := by
 have hu26 := Tryd.underlying26
 have hu54 := Tryd.underlying54
 have T1 := Aside0.mk (up1 w (.cells #[.string r.f0, .bool r.f1, .int .i64 r.f2, .slice A3 r.f3.length c3, .int .i64 r.f4.f0, .string r.f4.f1, .int .i64 r.f4.f2, .slice A7 r.f4.f3.length c7, .slice A8 r.f4.f4.length c8, .slice A9 r.f4.f5.length c9] 54))
 have RB := Aside0.mk (heap_new w (.cells #[.string r.f0, .bool r.f1, .int .i64 r.f2, .slice A3 r.f3.length c3, .int .i64 r.f4.f0, .string r.f4.f1, .int .i64 r.f4.f2, .slice A7 r.f4.f3.length c7, .slice A8 r.f4.f4.length c8, .slice A9 r.f4.f5.length c9] 54))
 have C72 := Aside0.mk (fun (W : World) (hW : Below w.heap.size w W) => formedB_calls ⟨r.f0, 1⟩ ⟨ho.nm, rfl⟩ W (ht.below hW))
 have C73 := Aside0.mk (fun (W : World) (hW : Below w.heap.size w W) => containsB_calls 71 #[] enters71 (fun b => !Sp.bind b) BOk A3 c3 r.f3 W (Kd.C_below hat.row hW) ho.each (fun b hb W1 hW1 => rule1_calls b hb W1 (ht.below (hW.trans (hW1.mono hW.size)))))
 have C22 := Aside0.mk (fun (W : World) (hW : Below w.heap.size w W) => check_calls r.f4 A7 c7 A8 c8 A9 c9 W (hat.body.below hW) ho.size ho.deep (ht.below hW))
 have C65 := Aside0.mk (fun (W : World) (hW : Below w.heap.size w W) => may_calls r.f3 A3 c3 W (Kd.C_below hat.row hW) ho.each (ht.below hW))
 have C66 := Aside0.mk (fun (hF : Fm r.f4) (W : World) (hW : Below w.heap.size w W) => walk_calls w hk (Sp.size r.f4) r.f4 (Nat.le_refl _) hF A7 c7 A8 c8 A9 c9 r.f3 A3 c3 W hW (hat.body.below hW) (Kd.C_below hat.row hW) hat.le ho.few)
 unfold rule
 rw [hh]
 rw [hh] at RB T1
 rw [bind_name] at C72
 rw [any_not_bind] at C73
 unfold bVal at C72
 dsimp only at C72
 clear hat ho ht hk
 cases hn : name r.f0 with
 | false =>
   rw [hn] at C72
   simp only [Bool.false_and, Bool.false_eq_true, if_false]
   clear C73 C22 C65 C66
   go_enter Tryd.func46, Tryd.ntmps46
   go_wp2_with ((go_at_call 72; (with_reducible refine (C72.out _ T1.out).mono ?_); rintro e w1 ⟨rfl, g⟩; replace T1 := Aside0.mk (T1.out.trans (g.mono T1.out.size)); replace RB := Aside0.mk (blk_below g RB.out); clear g C72; skip))
   go_ret
   exact ⟨rfl, T1.out⟩
 | true =>
   rw [hn] at C72
   simp only [Bool.true_and]
   by_cases w1 : r.f2 < 0
   · rw [show (weight true r.f2 && decide (r.f3.length ≤ 6) && r.f3.all Sp.bind) = false by simp [weight]; omega]
     simp only [Bool.false_eq_true, if_false]
     clear C73 C22 C65 C66 hh
     go_enter Tryd.func46, Tryd.ntmps46
     go_wp2_with (first
       | (go_at_call 72; (with_reducible refine (C72.out _ T1.out).mono ?_); rintro e w1 ⟨rfl, g⟩; replace T1 := Aside0.mk (T1.out.trans (g.mono T1.out.size)); replace RB := Aside0.mk (blk_below g RB.out); clear g C72; skip; obtain ⟨b0, b1, b2, b3, b4, b5, b6, b7, b8, b9⟩ := tenR RB.out))
     go_ret
     exact ⟨rfl, T1.out⟩
   · by_cases w2 : r.f2 > 0
     · rw [show (weight true r.f2 && decide (r.f3.length ≤ 6) && r.f3.all Sp.bind) = false by simp [weight]; omega]
       simp only [Bool.false_eq_true, if_false]
       clear C73 C22 C65 C66 hh
       go_enter Tryd.func46, Tryd.ntmps46
       go_wp2_with (first
         | (go_at_call 72; (with_reducible refine (C72.out _ T1.out).mono ?_); rintro e w1 ⟨rfl, g⟩; replace T1 := Aside0.mk (T1.out.trans (g.mono T1.out.size)); replace RB := Aside0.mk (blk_below g RB.out); clear g C72; skip; obtain ⟨b0, b1, b2, b3, b4, b5, b6, b7, b8, b9⟩ := tenR RB.out))
       go_ret
       exact ⟨rfl, T1.out⟩
     · have hw : weight true r.f2 = true := by simp [weight]; omega
       rw [hw, Bool.true_and]
       by_cases h6 : r.f3.length ≤ 6
       · have h6z : ¬ (r.f3.length : Int) > 6 := by omega
         rw [decide_eq_true h6, Bool.true_and]
         cases hb : r.f3.all Sp.bind with
         | false =>
           rw [hb] at C73
           simp only [Bool.false_eq_true, if_false]
           clear C22 C65 C66 hh hw hb hn
           go_enter Tryd.func46, Tryd.ntmps46
           go_wp2_with (first
             | (go_at_call 72; (with_reducible refine (C72.out _ T1.out).mono ?_); rintro e w1 ⟨rfl, g⟩; replace T1 := Aside0.mk (T1.out.trans (g.mono T1.out.size)); replace RB := Aside0.mk (blk_below g RB.out); clear g C72; skip; obtain ⟨b0, b1, b2, b3, b4, b5, b6, b7, b8, b9⟩ := tenR RB.out)
             | (go_at_call 73; (with_reducible refine (C73.out _ T1.out).mono ?_); rintro e w1 ⟨rfl, g⟩; replace T1 := Aside0.mk (T1.out.trans (g.mono T1.out.size)); replace RB := Aside0.mk (blk_below g RB.out); clear g C73; clear b0 b1 b2 b3 b4 b5 b6 b7 b8 b9))
           go_ret
           exact ⟨rfl, T1.out⟩
         | true =>
           rw [hb] at C73
           rw [if_pos rfl]
           by_cases hc : check r.f4 = 0
           · rw [if_pos hc]
             rw [hc] at C22
             have C67 := Aside0.mk (C66.out (fm_of (check_zero.1 hc).1))
             have he : envOk r.f3 = fresh [] r.f3 := by unfold envOk; rw [hb]; rfl
             rw [he] at C65
             cases hf : fresh [] r.f3 with
             | false =>
               rw [hf] at C65
               simp only [Bool.false_eq_true, if_false]
               clear C66 C67 hh hw hb hn hc he hf
               go_enter Tryd.func46, Tryd.ntmps46
               go_wp2_with (first
                 | (go_at_call 72; (with_reducible refine (C72.out _ T1.out).mono ?_); rintro e w1 ⟨rfl, g⟩; replace T1 := Aside0.mk (T1.out.trans (g.mono T1.out.size)); replace RB := Aside0.mk (blk_below g RB.out); clear g C72; skip; obtain ⟨b0, b1, b2, b3, b4, b5, b6, b7, b8, b9⟩ := tenR RB.out)
                 | (go_at_call 73; (with_reducible refine (C73.out _ T1.out).mono ?_); rintro e w1 ⟨rfl, g⟩; replace T1 := Aside0.mk (T1.out.trans (g.mono T1.out.size)); replace RB := Aside0.mk (blk_below g RB.out); clear g C73; clear b0 b1 b2 b3 b4 b5 b6 b7 b8 b9; obtain ⟨b0, b1, b2, b3, b4, b5, b6, b7, b8, b9⟩ := tenR RB.out)
                 | (go_at_call 22; (with_reducible refine (C22.out _ T1.out).mono ?_); rintro e w1 ⟨rfl, g⟩; replace T1 := Aside0.mk (T1.out.trans (g.mono T1.out.size)); replace RB := Aside0.mk (blk_below g RB.out); clear g C22; clear b0 b1 b2 b3 b4 b5 b6 b7 b8 b9; obtain ⟨b0, b1, b2, b3, b4, b5, b6, b7, b8, b9⟩ := tenR RB.out)
                 | (go_at_call 65; (with_reducible refine (C65.out _ T1.out).mono ?_); rintro e w1 ⟨rfl, g⟩; replace T1 := Aside0.mk (T1.out.trans (g.mono T1.out.size)); replace RB := Aside0.mk (blk_below g RB.out); clear g C65; clear b0 b1 b2 b3 b4 b5 b6 b7 b8 b9))
               go_ret
               exact ⟨rfl, T1.out⟩
             | true =>
               rw [hf] at C65
               rw [if_pos rfl]
               obtain ⟨v, hv⟩ : ∃ v, first r.f4 r.f3 = v := ⟨_, rfl⟩
               rw [hv] at C67 ⊢
               clear C66 hh hw hb hn hc he hf hv
               go_enter Tryd.func46, Tryd.ntmps46
               go_wp2_with (first
                 | (go_at_call 72; (with_reducible refine (C72.out _ T1.out).mono ?_); rintro e w1 ⟨rfl, g⟩; replace T1 := Aside0.mk (T1.out.trans (g.mono T1.out.size)); replace RB := Aside0.mk (blk_below g RB.out); clear g C72; skip; obtain ⟨b0, b1, b2, b3, b4, b5, b6, b7, b8, b9⟩ := tenR RB.out)
                 | (go_at_call 73; (with_reducible refine (C73.out _ T1.out).mono ?_); rintro e w1 ⟨rfl, g⟩; replace T1 := Aside0.mk (T1.out.trans (g.mono T1.out.size)); replace RB := Aside0.mk (blk_below g RB.out); clear g C73; clear b0 b1 b2 b3 b4 b5 b6 b7 b8 b9; obtain ⟨b0, b1, b2, b3, b4, b5, b6, b7, b8, b9⟩ := tenR RB.out)
                 | (go_at_call 22; (with_reducible refine (C22.out _ T1.out).mono ?_); rintro e w1 ⟨rfl, g⟩; replace T1 := Aside0.mk (T1.out.trans (g.mono T1.out.size)); replace RB := Aside0.mk (blk_below g RB.out); clear g C22; clear b0 b1 b2 b3 b4 b5 b6 b7 b8 b9; obtain ⟨b0, b1, b2, b3, b4, b5, b6, b7, b8, b9⟩ := tenR RB.out)
                 | (go_at_call 65; (with_reducible refine (C65.out _ T1.out).mono ?_); rintro e w1 ⟨rfl, g⟩; replace T1 := Aside0.mk (T1.out.trans (g.mono T1.out.size)); replace RB := Aside0.mk (blk_below g RB.out); clear g C65; clear b0 b1 b2 b3 b4 b5 b6 b7 b8 b9; obtain ⟨b0, b1, b2, b3, b4, b5, b6, b7, b8, b9⟩ := tenR RB.out)
                 | (go_at_call 66; (with_reducible refine (C67.out _ T1.out).mono ?_); rintro e w1 ⟨rfl, g⟩; replace T1 := Aside0.mk (T1.out.trans (g.mono T1.out.size)); replace RB := Aside0.mk (blk_below g RB.out); clear g C67; clear b0 b1 b2 b3 b4 b5 b6 b7 b8 b9))
               go_ret
               exact ⟨rfl, T1.out⟩
           · rw [if_neg hc]
             obtain ⟨v, hv⟩ : ∃ v, check r.f4 = v := ⟨_, rfl⟩
             rw [hv] at C22 hc ⊢
             have bv : (v != 0) = true := by simpa using hc
             clear C66 C65 hh hw hb hn hc hv
             go_enter Tryd.func46, Tryd.ntmps46
             go_wp2_with (first
               | (go_at_call 72; (with_reducible refine (C72.out _ T1.out).mono ?_); rintro e w1 ⟨rfl, g⟩; replace T1 := Aside0.mk (T1.out.trans (g.mono T1.out.size)); replace RB := Aside0.mk (blk_below g RB.out); clear g C72; skip; obtain ⟨b0, b1, b2, b3, b4, b5, b6, b7, b8, b9⟩ := tenR RB.out)
               | (go_at_call 73; (with_reducible refine (C73.out _ T1.out).mono ?_); rintro e w1 ⟨rfl, g⟩; replace T1 := Aside0.mk (T1.out.trans (g.mono T1.out.size)); replace RB := Aside0.mk (blk_below g RB.out); clear g C73; clear b0 b1 b2 b3 b4 b5 b6 b7 b8 b9; obtain ⟨b0, b1, b2, b3, b4, b5, b6, b7, b8, b9⟩ := tenR RB.out)
               | (go_at_call 22; (with_reducible refine (C22.out _ T1.out).mono ?_); rintro e w1 ⟨rfl, g⟩; replace T1 := Aside0.mk (T1.out.trans (g.mono T1.out.size)); replace RB := Aside0.mk (blk_below g RB.out); clear g C22; clear b0 b1 b2 b3 b4 b5 b6 b7 b8 b9))
             go_ret
             exact ⟨rfl, T1.out⟩
       · have h6z : (r.f3.length : Int) > 6 := by omega
         rw [decide_eq_false h6, Bool.false_and]
         simp only [Bool.false_eq_true, if_false]
         clear C73 C22 C65 C66 hh hw
         go_enter Tryd.func46, Tryd.ntmps46
         go_wp2_with (first
           | (go_at_call 72; (with_reducible refine (C72.out _ T1.out).mono ?_); rintro e w1 ⟨rfl, g⟩; replace T1 := Aside0.mk (T1.out.trans (g.mono T1.out.size)); replace RB := Aside0.mk (blk_below g RB.out); clear g C72; skip; obtain ⟨b0, b1, b2, b3, b4, b5, b6, b7, b8, b9⟩ := tenR RB.out))
         go_ret
         exact ⟨rfl, T1.out⟩
set_option maxRecDepth 100000 in
set_option maxHeartbeats 8000000 in
theorem rule_false (r : S54) (A3 : Option Addr) (c3 : Nat) (A7 : Option Addr) (c7 : Nat) (A8 : Option Addr) (c8 : Nat) (A9 : Option Addr) (c9 : Nat) (w : World) (hat : AtR w r A3 c3 A7 c7 A8 c8 A9 c9) (ho : ROk r) (ht : Tabs w) (hk : Kinds w) (hh : r.f1 = false) : Calls Tryd.prog 46 #[.agg #[.string r.f0, .bool r.f1, .int .i64 r.f2, .slice A3 r.f3.length c3, .int .i64 r.f4.f0, .string r.f4.f1, .int .i64 r.f4.f2, .slice A7 r.f4.f3.length c7, .slice A8 r.f4.f4.length c8, .slice A9 r.f4.f5.length c9]] w fun e w' => e = .returned (.int .i64 (rule r)) ∧ Below w.heap.size w w' := by
 have hu26 := Tryd.underlying26
 have hu54 := Tryd.underlying54
 have T1 := Aside0.mk (up1 w (.cells #[.string r.f0, .bool r.f1, .int .i64 r.f2, .slice A3 r.f3.length c3, .int .i64 r.f4.f0, .string r.f4.f1, .int .i64 r.f4.f2, .slice A7 r.f4.f3.length c7, .slice A8 r.f4.f4.length c8, .slice A9 r.f4.f5.length c9] 54))
 have RB := Aside0.mk (heap_new w (.cells #[.string r.f0, .bool r.f1, .int .i64 r.f2, .slice A3 r.f3.length c3, .int .i64 r.f4.f0, .string r.f4.f1, .int .i64 r.f4.f2, .slice A7 r.f4.f3.length c7, .slice A8 r.f4.f4.length c8, .slice A9 r.f4.f5.length c9] 54))
 have C72 := Aside0.mk (fun (W : World) (hW : Below w.heap.size w W) => formedB_calls ⟨r.f0, 1⟩ ⟨ho.nm, rfl⟩ W (ht.below hW))
 have C73 := Aside0.mk (fun (W : World) (hW : Below w.heap.size w W) => containsB_calls 71 #[] enters71 (fun b => !Sp.bind b) BOk A3 c3 r.f3 W (Kd.C_below hat.row hW) ho.each (fun b hb W1 hW1 => rule1_calls b hb W1 (ht.below (hW.trans (hW1.mono hW.size)))))
 have C22 := Aside0.mk (fun (W : World) (hW : Below w.heap.size w W) => check_calls r.f4 A7 c7 A8 c8 A9 c9 W (hat.body.below hW) ho.size ho.deep (ht.below hW))
 have C65 := Aside0.mk (fun (W : World) (hW : Below w.heap.size w W) => may_calls r.f3 A3 c3 W (Kd.C_below hat.row hW) ho.each (ht.below hW))
 have C66 := Aside0.mk (fun (hF : Fm r.f4) (W : World) (hW : Below w.heap.size w W) => walk_calls w hk (Sp.size r.f4) r.f4 (Nat.le_refl _) hF A7 c7 A8 c8 A9 c9 r.f3 A3 c3 W hW (hat.body.below hW) (Kd.C_below hat.row hW) hat.le ho.few)
 unfold rule
 rw [hh]
 rw [hh] at RB T1
 rw [bind_name] at C72
 rw [any_not_bind] at C73
 unfold bVal at C72
 dsimp only at C72
 clear hat ho ht hk
 cases hn : name r.f0 with
 | false =>
   rw [hn] at C72
   simp only [Bool.false_and, Bool.false_eq_true, if_false]
   clear C73 C22 C65 C66
   go_enter Tryd.func46, Tryd.ntmps46
   go_wp2_with ((go_at_call 72; (with_reducible refine (C72.out _ T1.out).mono ?_); rintro e w1 ⟨rfl, g⟩; replace T1 := Aside0.mk (T1.out.trans (g.mono T1.out.size)); replace RB := Aside0.mk (blk_below g RB.out); clear g C72; skip))
   go_ret
   exact ⟨rfl, T1.out⟩
 | true =>
   rw [hn] at C72
   simp only [Bool.true_and]
   by_cases w1 : r.f2 < 1
   · rw [show (weight false r.f2 && decide (r.f3.length ≤ 6) && r.f3.all Sp.bind) = false by simp [weight]; omega]
     simp only [Bool.false_eq_true, if_false]
     clear C73 C22 C65 C66 hh
     go_enter Tryd.func46, Tryd.ntmps46
     go_wp2_with (first
       | (go_at_call 72; (with_reducible refine (C72.out _ T1.out).mono ?_); rintro e w1 ⟨rfl, g⟩; replace T1 := Aside0.mk (T1.out.trans (g.mono T1.out.size)); replace RB := Aside0.mk (blk_below g RB.out); clear g C72; skip; obtain ⟨b0, b1, b2, b3, b4, b5, b6, b7, b8, b9⟩ := tenR RB.out))
     go_ret
     exact ⟨rfl, T1.out⟩
   · by_cases w2 : r.f2 > 1000
     · rw [show (weight false r.f2 && decide (r.f3.length ≤ 6) && r.f3.all Sp.bind) = false by simp [weight]; omega]
       simp only [Bool.false_eq_true, if_false]
       clear C73 C22 C65 C66 hh
       go_enter Tryd.func46, Tryd.ntmps46
       go_wp2_with (first
         | (go_at_call 72; (with_reducible refine (C72.out _ T1.out).mono ?_); rintro e w1 ⟨rfl, g⟩; replace T1 := Aside0.mk (T1.out.trans (g.mono T1.out.size)); replace RB := Aside0.mk (blk_below g RB.out); clear g C72; skip; obtain ⟨b0, b1, b2, b3, b4, b5, b6, b7, b8, b9⟩ := tenR RB.out))
       go_ret
       exact ⟨rfl, T1.out⟩
     · have hw : weight false r.f2 = true := by simp [weight]; omega
       rw [hw, Bool.true_and]
       by_cases h6 : r.f3.length ≤ 6
       · have h6z : ¬ (r.f3.length : Int) > 6 := by omega
         rw [decide_eq_true h6, Bool.true_and]
         cases hb : r.f3.all Sp.bind with
         | false =>
           rw [hb] at C73
           simp only [Bool.false_eq_true, if_false]
           clear C22 C65 C66 hh hw hb hn
           go_enter Tryd.func46, Tryd.ntmps46
           go_wp2_with (first
             | (go_at_call 72; (with_reducible refine (C72.out _ T1.out).mono ?_); rintro e w1 ⟨rfl, g⟩; replace T1 := Aside0.mk (T1.out.trans (g.mono T1.out.size)); replace RB := Aside0.mk (blk_below g RB.out); clear g C72; skip; obtain ⟨b0, b1, b2, b3, b4, b5, b6, b7, b8, b9⟩ := tenR RB.out)
             | (go_at_call 73; (with_reducible refine (C73.out _ T1.out).mono ?_); rintro e w1 ⟨rfl, g⟩; replace T1 := Aside0.mk (T1.out.trans (g.mono T1.out.size)); replace RB := Aside0.mk (blk_below g RB.out); clear g C73; clear b0 b1 b2 b3 b4 b5 b6 b7 b8 b9))
           go_ret
           exact ⟨rfl, T1.out⟩
         | true =>
           rw [hb] at C73
           rw [if_pos rfl]
           by_cases hc : check r.f4 = 0
           · rw [if_pos hc]
             rw [hc] at C22
             have C67 := Aside0.mk (C66.out (fm_of (check_zero.1 hc).1))
             have he : envOk r.f3 = fresh [] r.f3 := by unfold envOk; rw [hb]; rfl
             rw [he] at C65
             cases hf : fresh [] r.f3 with
             | false =>
               rw [hf] at C65
               simp only [Bool.false_eq_true, if_false]
               clear C66 C67 hh hw hb hn hc he hf
               go_enter Tryd.func46, Tryd.ntmps46
               go_wp2_with (first
                 | (go_at_call 72; (with_reducible refine (C72.out _ T1.out).mono ?_); rintro e w1 ⟨rfl, g⟩; replace T1 := Aside0.mk (T1.out.trans (g.mono T1.out.size)); replace RB := Aside0.mk (blk_below g RB.out); clear g C72; skip; obtain ⟨b0, b1, b2, b3, b4, b5, b6, b7, b8, b9⟩ := tenR RB.out)
                 | (go_at_call 73; (with_reducible refine (C73.out _ T1.out).mono ?_); rintro e w1 ⟨rfl, g⟩; replace T1 := Aside0.mk (T1.out.trans (g.mono T1.out.size)); replace RB := Aside0.mk (blk_below g RB.out); clear g C73; clear b0 b1 b2 b3 b4 b5 b6 b7 b8 b9; obtain ⟨b0, b1, b2, b3, b4, b5, b6, b7, b8, b9⟩ := tenR RB.out)
                 | (go_at_call 22; (with_reducible refine (C22.out _ T1.out).mono ?_); rintro e w1 ⟨rfl, g⟩; replace T1 := Aside0.mk (T1.out.trans (g.mono T1.out.size)); replace RB := Aside0.mk (blk_below g RB.out); clear g C22; clear b0 b1 b2 b3 b4 b5 b6 b7 b8 b9; obtain ⟨b0, b1, b2, b3, b4, b5, b6, b7, b8, b9⟩ := tenR RB.out)
                 | (go_at_call 65; (with_reducible refine (C65.out _ T1.out).mono ?_); rintro e w1 ⟨rfl, g⟩; replace T1 := Aside0.mk (T1.out.trans (g.mono T1.out.size)); replace RB := Aside0.mk (blk_below g RB.out); clear g C65; clear b0 b1 b2 b3 b4 b5 b6 b7 b8 b9))
               go_ret
               exact ⟨rfl, T1.out⟩
             | true =>
               rw [hf] at C65
               rw [if_pos rfl]
               obtain ⟨v, hv⟩ : ∃ v, first r.f4 r.f3 = v := ⟨_, rfl⟩
               rw [hv] at C67 ⊢
               clear C66 hh hw hb hn hc he hf hv
               go_enter Tryd.func46, Tryd.ntmps46
               go_wp2_with (first
                 | (go_at_call 72; (with_reducible refine (C72.out _ T1.out).mono ?_); rintro e w1 ⟨rfl, g⟩; replace T1 := Aside0.mk (T1.out.trans (g.mono T1.out.size)); replace RB := Aside0.mk (blk_below g RB.out); clear g C72; skip; obtain ⟨b0, b1, b2, b3, b4, b5, b6, b7, b8, b9⟩ := tenR RB.out)
                 | (go_at_call 73; (with_reducible refine (C73.out _ T1.out).mono ?_); rintro e w1 ⟨rfl, g⟩; replace T1 := Aside0.mk (T1.out.trans (g.mono T1.out.size)); replace RB := Aside0.mk (blk_below g RB.out); clear g C73; clear b0 b1 b2 b3 b4 b5 b6 b7 b8 b9; obtain ⟨b0, b1, b2, b3, b4, b5, b6, b7, b8, b9⟩ := tenR RB.out)
                 | (go_at_call 22; (with_reducible refine (C22.out _ T1.out).mono ?_); rintro e w1 ⟨rfl, g⟩; replace T1 := Aside0.mk (T1.out.trans (g.mono T1.out.size)); replace RB := Aside0.mk (blk_below g RB.out); clear g C22; clear b0 b1 b2 b3 b4 b5 b6 b7 b8 b9; obtain ⟨b0, b1, b2, b3, b4, b5, b6, b7, b8, b9⟩ := tenR RB.out)
                 | (go_at_call 65; (with_reducible refine (C65.out _ T1.out).mono ?_); rintro e w1 ⟨rfl, g⟩; replace T1 := Aside0.mk (T1.out.trans (g.mono T1.out.size)); replace RB := Aside0.mk (blk_below g RB.out); clear g C65; clear b0 b1 b2 b3 b4 b5 b6 b7 b8 b9; obtain ⟨b0, b1, b2, b3, b4, b5, b6, b7, b8, b9⟩ := tenR RB.out)
                 | (go_at_call 66; (with_reducible refine (C67.out _ T1.out).mono ?_); rintro e w1 ⟨rfl, g⟩; replace T1 := Aside0.mk (T1.out.trans (g.mono T1.out.size)); replace RB := Aside0.mk (blk_below g RB.out); clear g C67; clear b0 b1 b2 b3 b4 b5 b6 b7 b8 b9))
               go_ret
               exact ⟨rfl, T1.out⟩
           · rw [if_neg hc]
             obtain ⟨v, hv⟩ : ∃ v, check r.f4 = v := ⟨_, rfl⟩
             rw [hv] at C22 hc ⊢
             have bv : (v != 0) = true := by simpa using hc
             clear C66 C65 hh hw hb hn hc hv
             go_enter Tryd.func46, Tryd.ntmps46
             go_wp2_with (first
               | (go_at_call 72; (with_reducible refine (C72.out _ T1.out).mono ?_); rintro e w1 ⟨rfl, g⟩; replace T1 := Aside0.mk (T1.out.trans (g.mono T1.out.size)); replace RB := Aside0.mk (blk_below g RB.out); clear g C72; skip; obtain ⟨b0, b1, b2, b3, b4, b5, b6, b7, b8, b9⟩ := tenR RB.out)
               | (go_at_call 73; (with_reducible refine (C73.out _ T1.out).mono ?_); rintro e w1 ⟨rfl, g⟩; replace T1 := Aside0.mk (T1.out.trans (g.mono T1.out.size)); replace RB := Aside0.mk (blk_below g RB.out); clear g C73; clear b0 b1 b2 b3 b4 b5 b6 b7 b8 b9; obtain ⟨b0, b1, b2, b3, b4, b5, b6, b7, b8, b9⟩ := tenR RB.out)
               | (go_at_call 22; (with_reducible refine (C22.out _ T1.out).mono ?_); rintro e w1 ⟨rfl, g⟩; replace T1 := Aside0.mk (T1.out.trans (g.mono T1.out.size)); replace RB := Aside0.mk (blk_below g RB.out); clear g C22; clear b0 b1 b2 b3 b4 b5 b6 b7 b8 b9))
             go_ret
             exact ⟨rfl, T1.out⟩
       · have h6z : (r.f3.length : Int) > 6 := by omega
         rw [decide_eq_false h6, Bool.false_and]
         simp only [Bool.false_eq_true, if_false]
         clear C73 C22 C65 C66 hh hw
         go_enter Tryd.func46, Tryd.ntmps46
         go_wp2_with (first
           | (go_at_call 72; (with_reducible refine (C72.out _ T1.out).mono ?_); rintro e w1 ⟨rfl, g⟩; replace T1 := Aside0.mk (T1.out.trans (g.mono T1.out.size)); replace RB := Aside0.mk (blk_below g RB.out); clear g C72; skip; obtain ⟨b0, b1, b2, b3, b4, b5, b6, b7, b8, b9⟩ := tenR RB.out))
         go_ret
         exact ⟨rfl, T1.out⟩
theorem rule_calls (r : S54) (A3 : Option Addr) (c3 : Nat) (A7 : Option Addr) (c7 : Nat) (A8 : Option Addr) (c8 : Nat) (A9 : Option Addr) (c9 : Nat) (w : World) (hat : AtR w r A3 c3 A7 c7 A8 c8 A9 c9) (ho : ROk r) (ht : Tabs w) (hk : Kinds w) : Calls Tryd.prog 46 #[.agg #[.string r.f0, .bool r.f1, .int .i64 r.f2, .slice A3 r.f3.length c3, .int .i64 r.f4.f0, .string r.f4.f1, .int .i64 r.f4.f2, .slice A7 r.f4.f3.length c7, .slice A8 r.f4.f4.length c8, .slice A9 r.f4.f5.length c9]] w fun e w' => e = .returned (.int .i64 (rule r)) ∧ Below w.heap.size w w' := by
 cases hh : r.f1 with
 | true => rw [← hh]; exact rule_true r A3 c3 A7 c7 A8 c8 A9 c9 w hat ho ht hk hh
 | false => rw [← hh]; exact rule_false r A3 c3 A7 c7 A8 c8 A9 c9 w hat ho ht hk hh
end Go.Proofs.YtmlcaecknocpoaaDoor.It
