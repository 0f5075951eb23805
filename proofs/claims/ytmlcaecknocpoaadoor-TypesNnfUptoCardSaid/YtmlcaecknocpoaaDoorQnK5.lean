/- Lemmas and walks for the claim below. -/
import Derived.Test.YtmlcaecknocpoaaDoorQnK4
namespace Go.Proofs.YtmlcaecknocpoaaDoor.It
open Go Go.RowKit Go.Shelf Go.Proofs.YtmlcaecknocpoaaDoorW.PrintWords Go.Proofs.YtmlcaecknocpoaaDoorW.PrintLast Go.Proofs.YtmlcaecknocpoaaDoor.Pr Go.Proofs.YtmlcaecknocpoaaDoor.Sp
attribute [local go_sem ↓] Go.wp_at_zero Go.wp_at_succ
set_option maxRecDepth 100000 in
set_option maxHeartbeats 8000000 in
theorem right_gen (s : Nat) (hS : RightOk s) (k : Int) (nm : ByteArray) (n : Int) (ts : List S47) (bs : List S42) (l : List S26) (A3 : Option Addr) (c3 : Nat) (A4 : Option Addr) (c4 : Nat) (A5 : Option Addr) (c5 : Nat) (w0 W : World)
    (hs : sizes l ≤ s) (hat : At w0 ⟨k, nm, n, ts, bs, l⟩ A3 c3 A4 c4 A5 c5) (hf : forms l = true) (hdp : ∀ y ∈ l, Deep y) (ht : Tabs w0) (hd : Duals w0) (hb : Below w0.heap.size w0 W)
    (hts : ts.length ≤ 2) (hbs : bs.length ≤ 6) (hl : l.length ≤ 2) (ha : always k n = false) (h2 : k ≠ 2) (h10 : k ≠ 10) (h13 : k ≠ 13) (tn : Bool) (h9 : atom k = true → tn = true → k = 9) (hk : I64 k) (hnm : nm.size ≤ 9223372036854775807) (hn1 : k = 16 → 1 ≤ n ∧ n ≤ 1099511627776) (k1 : Int) (nm1 : ByteArray) (n1 : Int) (hk1 : k1 = (if tn = true ∧ k ≠ 9 then dualOf k else k)) (hnm1 : nm1 = (if tn = true ∧ k = 9 then sign nm else nm)) (hn1_ : n1 = (if tn = true ∧ k = 16 then n - 1 else if tn = true ∧ k = 17 then n + 1 else n)) (hn2 : k = 17 → 0 ≤ n ∧ n < 1099511627776) :
    Calls Tryd.prog 60 #[.agg #[.int .i64 k, .string nm, .int .i64 n, .slice A3 ts.length c3, .slice A4 bs.length c4, .slice A5 l.length c5], .bool tn] W fun e w' => ∃ B3 d3 B4 d4 B5 d5,
      e = .returned (.agg #[.int .i64 k1, .string nm1, .int .i64 n1, .slice B3 ts.length d3, .slice B4 bs.length d4, .slice B5 (rights l (tn && !counts k)).length d5]) ∧
      Below W.heap.size W w' ∧ Lies (fun k => k < w0.heap.size ∨ W.heap.size ≤ k) w' ⟨k1, nm1, n1, ts, bs, rights l (tn && !counts k)⟩ B3 d3 B4 d4 B5 d5 := by
  have hu26 := Tryd.underlying26
  have HK := Aside0.mk (And.intro hk1 (And.intro hnm1 (And.intro hn1_ (And.intro hn1 (And.intro hn2 (And.intro hk (And.intro hnm h9)))))))
  clear hk1 hnm1 hn1_ hn1 hn2 hk hnm h9
  have HB := Aside0.mk hb
  have HA := Aside0.mk (fun W1 (h1 : Below w0.heap.size w0 W1) => always_calls ⟨k, nm, n, ts, bs, l⟩ A3 c3 A4 c4 A5 c5 W1 (hat.below h1))
  have H := Aside0.mk (And.intro hat (And.intro hS (And.intro hs (And.intro hf hdp))))
  have HT := Aside0.mk (And.intro ht hd)
  rw [ha] at HA
  clear hat hS hs hf hdp ht hd hb ha
  have T0 := Aside0.mk (Two.start HB.out k nm n ts bs l A3 c3 A4 c4 A5 c5)
  go_enter Tryd.func60, Tryd.ntmps60
  go_upto_region 12 with (first
    | (go_at_call 93; refine (HA.out _ T0.out.h0).mono ?_; rintro e w1 ⟨rfl, g1⟩; have T1 := Aside0.mk (T0.out.below g1); clear T0 g1; obtain ⟨p0, p1, p2, p3, p4, p5⟩ := six T1.out.a; have ps := T1.out.s)
    | (go_at_call 93; refine (HA.out _ T1.out.h0).mono ?_; rintro e w2 ⟨rfl, g2⟩; have T2 := Aside0.mk (T1.out.below g2); clear T1 g2 p0 p1 p2 p3 p4 p5 ps; obtain ⟨q0, q1, q2, q3, q4, q5⟩ := six T2.out.a; have qs := T2.out.s))
  go_cut [25, 34, 45, 67] (fun _ _ _ s67 wx => s67 = .bool false ∧ wx = w2)
  case first =>
    cases tn
    · go_wp2_with (go_at_call 80; refine (atom_calls _ _).mono ?_; rintro e w3 ⟨rfl, rfl⟩)
      all_goals (go_meet; exact ⟨rfl, rfl⟩)
    · by_cases ha : atom k = true
      · obtain rfl : k = 9 := HK.out.2.2.2.2.2.2.2 ha rfl
        go_wp2_with (go_at_call 80; refine (atom_calls _ _).mono ?_; rintro e w3 ⟨rfl, rfl⟩)
        all_goals (go_meet; exact ⟨rfl, rfl⟩)
      · have ha' : atom k = false := by simpa using ha
        clear ha
        go_wp2_with (go_at_call 80; refine (atom_calls _ _).mono ?_; rintro e w3 ⟨rfl, rfl⟩)
        all_goals (go_meet; exact ⟨rfl, rfl⟩)
  case rest =>
    obtain ⟨rfl, rfl⟩ := hcut
    clear HA
    have HC3 := Aside0.mk (fun W1 (h : Below w0.heap.size w0 W1) => cloneT_calls A3 c3 ts W1 (Kd.C_below H.out.1.g3 h) (by omega))
    have HC4 := Aside0.mk (fun W1 (h : Below w0.heap.size w0 W1) => cloneB_calls A4 c4 bs W1 (Kd.C_below H.out.1.g4 h) (by omega))
    go_upto_region 14 with fail
    go_cut [6] (fun s6 wx => ∃ B V3 e3 V4 e4, s6 = .pointer (some ⟨B, 0, none⟩) ∧ Aside0 (Three w0 W wx B V3 e3 V4 e4 k nm n ts bs l A3 c3 A4 c4 A5 c5 k nm n))
    case first =>
      go_region_held3 (fun w' => w'.cell? ⟨W.heap.size, 0, none⟩ = some (.int .i64 k) ∧ w'.cell? ⟨W.heap.size, 1, none⟩ = some (.string nm) ∧ w'.cell? ⟨W.heap.size, 2, none⟩ = some (.int .i64 n) ∧
          w'.cell? ⟨W.heap.size, 3, none⟩ = some (.slice A3 ts.length c3) ∧ w'.cell? ⟨W.heap.size, 4, none⟩ = some (.slice A4 bs.length c4)) (go_keep)
        (first
          | (go_at_call 94; refine (HC3.out _ T2.out.drew.h0).mono ?_; rintro e w3 ⟨V3, e3, rfl, g3, r3⟩; have T3 := Aside0.mk (T2.out.drew.below g3); replace r3 := Aside0.mk r3; obtain ⟨x0, x1, x2, x3, x4, x5⟩ := six T3.out.a)
          | (go_at_call 94; refine (HC3.out _ (T2.out.alloc _).drew.h0).mono ?_; rintro e w3 ⟨V3, e3, rfl, g3, r3⟩; have T3 := Aside0.mk ((T2.out.alloc _).drew.below g3); replace r3 := Aside0.mk r3; obtain ⟨x0, x1, x2, x3, x4, x5⟩ := six T3.out.a; have bx := Aside0.mk (blk_below g3 (heap_new wc _)); have by3 := Aside0.mk g3.size)
          | (go_at_call 95; refine (HC4.out _ T3.out.h0).mono ?_; rintro e w4 ⟨V4, e4, rfl, g4, r4⟩; have T4 := Aside0.mk (T3.out.below g4); replace r4 := Aside0.mk r4; obtain ⟨y0, y1, y2, y3, y4, y5⟩ := six T4.out.a; have bz := Aside0.mk (blk_below g4 bx.out); obtain ⟨z0, z1, z2, z3, z4, z5⟩ := six bz.out; have zf := blk_frozen bz.out; have zl : wc.heap.size < w4.heap.size := (Array.getElem?_eq_some_iff.1 bz.out).1; have zn := two_ne T2.out; have zn' := zn.symm)
          | (go_at_call 95; refine (HC4.out _ (T3.out.alloc _).h0).mono ?_; rintro e w4 ⟨V4, e4, rfl, g4, r4⟩; have T4 := Aside0.mk ((T3.out.alloc _).below g4); replace r4 := Aside0.mk r4; obtain ⟨y0, y1, y2, y3, y4, y5⟩ := six T4.out.a; have bz := Aside0.mk (blk_below g4 (heap_new w3 _)); obtain ⟨z0, z1, z2, z3, z4, z5⟩ := six bz.out; have zf := blk_frozen bz.out; have zl : w3.heap.size < w4.heap.size := (Array.getElem?_eq_some_iff.1 bz.out).1; have zn := two_ne T3.out; have zn' := zn.symm)
          | (go_at_call 95; refine (HC4.out _ T3.out.h0).mono ?_; rintro e w4 ⟨V4, e4, rfl, g4, r4⟩; have T4 := Aside0.mk (T3.out.below g4); replace r4 := Aside0.mk r4; obtain ⟨y0, y1, y2, y3, y4, y5⟩ := six T4.out.a))
      · go_wp2_with fail
        go_meet
        exact ⟨_, V3, e3, V4, e4, rfl, ⟨⟨T4.out.alloc _, T4.out.s, heap_new w4 _,
          keep3 r3.out T2.out.drew.s ((Agree.of_below g4 (fun _ _ h => h)).trans (Agree.alloc w4 _ (fun k => k ≠ w4.heap.size)) (fun i _ hl => by have := g4.size; omega)) (.inr g4.size),
          keep4 r4.out T3.out.s (Agree.alloc w4 _ _) (.inr (Nat.le_refl _))⟩⟩⟩
      · have e2 := T3.out.s
        go_wp2_with fail
        go_meet
        exact ⟨_, V3, e3, V4, e4, rfl, ⟨⟨T4.out.agree HB.out.size (Agree.six w4 _ _ _ _ _ _ _ _ (fun i hi => by omega)), T3.out.s, set_six bz.out _ _ _ _ _ _,
          keep3 r3.out T2.out.drew.s (((Agree.alloc w3 _ _).trans (Agree.of_below g4 (fun _ _ h => h)) (fun _ h _ => h)).trans (Agree.six w4 _ _ _ _ _ _ _ _ (fun i hi => hi)) (fun _ h _ => h)) (.inr (Nat.le_refl _)),
          keep4 r4.out (T3.out.alloc _).s (Agree.six w4 _ _ _ _ _ _ _ _ (fun i hi => hi)) (.inl (by simp))⟩⟩⟩
      · have e2 := T2.out.s
        go_wp2_with fail
        go_meet
        exact ⟨_, V3, e3, V4, e4, rfl, ⟨⟨T4.out.agree HB.out.size (Agree.six w4 _ _ _ _ _ _ _ _ (fun i hi => by omega)), T2.out.s, set_six bz.out _ _ _ _ _ _,
          keep3 r3.out (T2.out.alloc _).drew.s ((Agree.of_below g4 (fun _ _ h => h)).trans (Agree.six w4 _ _ _ _ _ _ _ _ (fun i hi => hi)) (fun _ h _ => h)) (.inl (by simp)),
          keep4 r4.out T3.out.s (Agree.six w4 _ _ _ _ _ _ _ _ (fun i hi => hi)) (.inl (by have := by3.out; simp at this; omega))⟩⟩⟩
    case rest =>
      obtain ⟨B, V3, e3, V4, e4, rfl, T⟩ := hcut
      clear T2 HC3 HC4
      obtain ⟨q0, q1, q2, q3, q4, q5⟩ := six T.out.two.a
      obtain ⟨b0, b1, b2, b3, b4, b5⟩ := six T.out.box
      have bf := blk_frozen T.out.box
      go_upto_if 95 with fail
      go_cut [98, 105, 111] (fun _ _ _ wx => Aside0 (Three w0 W wx B V3 e3 V4 e4 k nm n ts bs l A3 c3 A4 c4 A5 c5 k1 nm1 n1))
      case first =>
        have hs0 := HB.out.size
        have hB0 := T.out.hB
        have hBl : B < wc.heap.size := (Array.getElem?_eq_some_iff.1 T.out.box).1
        obtain ⟨bm, s1, l1⟩ := HT.out.1.signs
        obtain ⟨bd, s2, l2⟩ := HT.out.2
        have lt1 : 1 < w0.heap.size := World.block_lt_of_cell? w0 _ s1
        have lt2 : 2 < w0.heap.size := World.block_lt_of_cell? w0 _ s2
        have s1' := up_cell T.out.two.h0 s1
        have s2' := up_cell T.out.two.h0 s2
        have nb2 : B ≠ 2 := by omega
        have nb2' : 2 ≠ B := by omega
        have nbW : B ≠ W.heap.size := by omega
        have nbW' : W.heap.size ≠ B := by omega
        obtain ⟨e1, e2, e3', f1, f2, f3, f4, f5⟩ := HK.out
        replace l1 := l1 wc T.out.two.h0 nm f4
        replace l2 := Aside0.mk l2
        have LS : ∀ v, Below w0.heap.size w0 (wc.setCell ⟨B, 2, none⟩ v) := fun v => T.out.two.h0.setCell (by show w0.heap.size ≤ B; omega) v
        clear s1 s2
        cases tn
        · have E := Aside0.mk (And.intro (show k1 = k by simpa using e1) (And.intro (show nm1 = nm by simpa using e2) (show n1 = n by simpa using e3')))
          clear e1 e2 e3' f1 f2 f3 f4 f5 l1 l2
          go_wp2_with fail
          go_meet
          obtain ⟨rfl, rfl, rfl⟩ := E.out
          exact T
        · by_cases k9 : k = 9
          · subst k9
            have E := Aside0.mk (And.intro (show k1 = 9 by simpa using e1) (And.intro (show nm1 = sign nm by simpa using e2) (show n1 = n by simpa using e3')))
            clear e1 e2 e3' f1 f2 f3 f4 f5 l2
            go_wp2_with fail
            go_meet
            obtain ⟨rfl, rfl, rfl⟩ := E.out
            exact ⟨T.out.set hs0 (Agree.set wc B 1 _ _ (fun _ h => h)) 9 _ n1 ((set_one T.out.box 1 _).trans rfl)⟩
          · by_cases k16 : k = 16
            · subst k16
              have E := Aside0.mk (And.intro (show k1 = 17 by simpa [dualOf] using e1) (And.intro (show nm1 = nm by simpa using e2) (show n1 = n - 1 by simpa using e3')))
              obtain ⟨g1, g2⟩ := f1 rfl
              have l3 := l2.out (wc.setCell ⟨B, 2, none⟩ (.int .i64 (n - 1))) (LS _) 16 f3
              have d17 : dualOf 16 = 17 := rfl
              rw [d17] at l3
              clear d17
              clear e1 e2 e3' f1 f2 f3 f4 f5 l2 l1 LS
              go_wp2_with fail
              go_meet
              obtain ⟨rfl, rfl, rfl⟩ := E.out
              exact ⟨T.out.set hs0 ((Agree.set wc B 2 _ _ (fun _ h => h)).trans (Agree.set _ B 0 _ _ (fun _ h => h)) (fun _ h _ => h)) 17 nm1 _ ((set_one ((set_one T.out.box 2 _).trans rfl) 0 _).trans rfl)⟩
            · by_cases k17 : k = 17
              · subst k17
                have E := Aside0.mk (And.intro (show k1 = 16 by simpa [dualOf] using e1) (And.intro (show nm1 = nm by simpa using e2) (show n1 = n + 1 by simpa using e3')))
                obtain ⟨g1, g2⟩ := f2 rfl
                have l3 := l2.out (wc.setCell ⟨B, 2, none⟩ (.int .i64 (n + 1))) (LS _) 17 f3
                have d16 : dualOf 17 = 16 := rfl
                rw [d16] at l3
                clear d16
                clear e1 e2 e3' f1 f2 f3 f4 f5 l2 l1 LS
                go_wp2_with fail
                go_meet
                obtain ⟨rfl, rfl, rfl⟩ := E.out
                exact ⟨T.out.set hs0 ((Agree.set wc B 2 _ _ (fun _ h => h)).trans (Agree.set _ B 0 _ _ (fun _ h => h)) (fun _ h _ => h)) 16 nm1 _ ((set_one ((set_one T.out.box 2 _).trans rfl) 0 _).trans rfl)⟩
              · have E := Aside0.mk (And.intro (show k1 = dualOf k by simpa [k9] using e1) (And.intro (show nm1 = nm by simpa [k9] using e2) (show n1 = n by simpa [k16, k17] using e3')))
                have l3 := l2.out wc T.out.two.h0 k f3
                clear e1 e2 e3' f1 f2 f3 f4 f5 l2 l1 LS
                obtain ⟨dk, hdk⟩ : ∃ dk, dualOf k = dk := ⟨_, rfl⟩
                rw [hdk] at l3 E
                clear hdk
                go_wp2_with fail
                go_meet
                obtain ⟨rfl, rfl, rfl⟩ := E.out
                exact ⟨T.out.set hs0 (Agree.set wc B 0 _ _ (fun _ h => h)) k1 nm1 n1 ((set_one T.out.box 0 _).trans rfl)⟩
      case rest =>
        clear T b0 b1 b2 b3 b4 b5 bf q0 q1 q2 q3 q4 q5
        have T := hcut
        clear hcut
        have hs0 := HB.out.size
        have hB0 := T.out.hB
        have hsW := T.out.two.s
        have hBl : B < wc.heap.size := (Array.getElem?_eq_some_iff.1 T.out.box).1
        obtain ⟨q0, q1, q2, q3, q4, q5⟩ := six T.out.two.a
        go_wp2_with fail
        clear q0 q1 q2 q3 q4 q5
        go_loopg [8, 128] l.length (fun gg _ s128 wr => ∃ j : Nat, j ≤ l.length ∧ l.length - j ≤ gg ∧ s128 = .int .i64 j ∧ Aside0 (∃ v, LI w0 W wc wr B V3 e3 V4 e4 ts bs k1 nm1 n1 (tn && !counts k) l j v))
        case atStart => exact ⟨0, Nat.zero_le _, by omega, rfl, ⟨.slice none 0 0, Agree.refl _ _, T.out.box, by simpa [rights] using Row.nil _ _ _⟩⟩
        case round =>
          obtain ⟨j, hj, hg, rfl, HJ⟩ := hrel
          obtain ⟨v, HI⟩ := HJ.out
          obtain ⟨A, c, rfl⟩ := HI.row.slice
          have hbw : Below w0.heap.size w0 wr := T.out.two.h0.trans (HI.ag.low (fun i hi => by omega) (by omega))
          have hszr : wc.heap.size ≤ wr.heap.size := HI.ag.1.size
          have hBr : B < wr.heap.size := by omega
          have hWr : W.heap.size < wr.heap.size := by omega
          have nB1 : B ≠ wr.heap.size := by omega
          have nB2 : B ≠ W.heap.size := by omega
          obtain ⟨b0, b1, b2, b3, b4, b5⟩ := six HI.box
          have bf := blk_frozen HI.box
          have q0 : wr.cell? ⟨W.heap.size, 0, none⟩ = some (.int .i64 k) := (six ((HI.ag.2 W.heap.size (by omega) (by omega)).trans T.out.two.a)).1
          by_cases hlt : j < l.length
          · have hltz : (j : Int) < (l.length : Int) := by omega
            obtain ⟨ad, B3, d3, B4, d4, B5, d5, rfl, hatj, x0, x1, x2, x3, x4, x5⟩ := formAt H.out.1.g5 hbw j hlt
            obtain ⟨y, hy⟩ : ∃ y, rd_T26 l j = y := ⟨_, rfl⟩
            rw [hy] at hatj x0 x1 x2 x3 x4 x5
            have hRC := Aside0.mk (fun (b : Bool) W1 (h1 : Below w0.heap.size w0 W1) => H.out.2.1 y b B3 d3 B4 d4 B5 d5 w0 W1 (by rw [← hy]; exact Nat.le_trans (by have := sizes_take l j hlt; omega) H.out.2.2.1) hatj (by rw [← hy]; exact H.out.2.2.2.2 _ (rd26_mem l j hlt)) (by rw [← hy]; exact forms_rd l H.out.2.2.2.1 j hlt) HT.out.1 HT.out.2 h1)
            replace hy := Aside0.mk hy
            replace hbw := Aside0.mk hbw
            replace HI := Aside0.mk HI
            clear hatj HJ
            cases tn
            · go_upto_region 28 with fail
              refine wp_region_noPanic ?_
              refine wp_region_held_drew (S := (fun w' => w'.cell? ⟨W.heap.size, 0, none⟩ = some (.int .i64 k) ∧ w'.cell? ⟨wr.heap.size, 0, none⟩ = some (.int .i64 y.f0) ∧ w'.cell? ⟨wr.heap.size, 1, none⟩ = some (.string y.f1) ∧ w'.cell? ⟨wr.heap.size, 2, none⟩ = some (.int .i64 y.f2) ∧ w'.cell? ⟨wr.heap.size, 3, none⟩ = some (.slice B3 y.f3.length d3) ∧ w'.cell? ⟨wr.heap.size, 4, none⟩ = some (.slice B4 y.f4.length d4) ∧ w'.cell? ⟨wr.heap.size, 5, none⟩ = some (.slice B5 y.f5.length d5))) (by kernel_rfl) ?hS (fun hH0 => ?_)
              case hS => (try dsimp only); go_keep
              refine wpAnyH_take (i := 0) (oi := { dst := some 132, op := Op.fieldAddr 26 (Operand.tmp 6) 5, type := 0, pos := "formula.go:186", after := #[], guard := none }) (v := ?vvf1) rfl (by kernel_rfl) (by kernel_rfl) (by kernel_rfl) (fun _ _ _ h => h) (Or.inl ⟨by rfl, ?hyf1⟩) (by assumption) ?_
              case hyf1 =>
                intro w hSw
                (try dsimp only at hSw)
                go_simp
                all_goals (try with_reducible rfl)
              simp only [Act.put, List.setIfInBounds_toArray, List.set_cons_zero, List.set_cons_succ]
              refine wpAnyH_take (i := 2) (oi := { dst := some 134, op := Op.load 26 (Operand.tmp 8), type := 26, pos := "formula.go:186", after := #[], guard := none }) (v := ?vvf2) rfl (by kernel_rfl) (by kernel_rfl) (by kernel_rfl) (fun _ _ _ h => h) (Or.inl ⟨by rfl, ?hyf2⟩) (by assumption) ?_
              case hyf2 =>
                intro w hSw
                (try dsimp only at hSw)
                go_simp
                all_goals (try with_reducible rfl)
              simp only [Act.put, List.setIfInBounds_toArray, List.set_cons_zero, List.set_cons_succ]
              refine wpAnyH_take (i := 3) (oi := { dst := some 135, op := Op.move (Operand.tmp 1), type := 4, pos := "formula.go:186", after := #[], guard := none }) (v := ?vvf3) rfl (by kernel_rfl) (by kernel_rfl) (by kernel_rfl) (fun _ _ _ h => h) (Or.inl ⟨by rfl, ?hyf3⟩) (by assumption) ?_
              case hyf3 =>
                intro w hSw
                (try dsimp only at hSw)
                go_simp
                all_goals (try with_reducible rfl)
              simp only [Act.put, List.setIfInBounds_toArray, List.set_cons_zero, List.set_cons_succ]
              refine wpAnyH_take (i := 4) (oi := { dst := some 136, op := Op.move (Operand.tmp 135), type := 4, pos := "formula.go:186", after := #[{ on := 3, ground := Ground.data }], guard := none }) (v := ?vvf4) rfl (by kernel_rfl) (by kernel_rfl) (by kernel_rfl) (fun _ _ _ h => h) (Or.inl ⟨by rfl, ?hyf4⟩) (by assumption) ?_
              case hyf4 =>
                intro w hSw
                (try dsimp only at hSw)
                go_simp
                all_goals (try with_reducible rfl)
              simp only [Act.put, List.setIfInBounds_toArray, List.set_cons_zero, List.set_cons_succ]
              refine wpAnyH_take (i := 5) (oi := { dst := some 137, op := Op.fieldAddr 26 (Operand.tmp 2) 0, type := 0, pos := "formula.go:186", after := #[{ on := 4, ground := Ground.guard }], guard := some (4, true) }) (v := undef) rfl (by kernel_rfl) (by kernel_rfl) (by kernel_rfl) (fun _ _ _ h => h) (Or.inr ⟨by rfl, rfl⟩) (by assumption) ?_
              simp only [Act.put, List.setIfInBounds_toArray, List.set_cons_zero, List.set_cons_succ]
              refine wpAnyH_take (i := 6) (oi := { dst := some 138, op := Op.load 3 (Operand.tmp 137), type := 3, pos := "formula.go:186", after := #[{ on := 5, ground := Ground.data }, { on := 4, ground := Ground.guard }], guard := some (4, true) }) (v := undef) rfl (by kernel_rfl) (by kernel_rfl) (by kernel_rfl) (fun _ _ _ h => h) (Or.inr ⟨by rfl, rfl⟩) (by assumption) ?_
              simp only [Act.put, List.setIfInBounds_toArray, List.set_cons_zero, List.set_cons_succ]
              refine wpAnyH_take (i := 7) (oi := { dst := some 139, op := Op.call { callee := Callee.value (Operand.func 82), args := #[Operand.tmp 138], argTypes := #[3] }, type := 4, pos := "formula.go:186", after := #[{ on := 6, ground := Ground.data }, { on := 4, ground := Ground.chain }, { on := 4, ground := Ground.guard }], guard := some (4, true) }) (v := undef) rfl (by kernel_rfl) (by kernel_rfl) (by kernel_rfl) (fun _ _ _ h => h) (Or.inr ⟨by rfl, rfl⟩) (by assumption) ?_
              simp only [Act.put, List.setIfInBounds_toArray, List.set_cons_zero, List.set_cons_succ]
              refine wpAnyH_take (i := 8) (oi := { dst := some 140, op := Op.unOp UnOp.not 4 (Operand.tmp 139), type := 4, pos := "formula.go:186", after := #[{ on := 7, ground := Ground.data }, { on := 4, ground := Ground.guard }], guard := some (4, true) }) (v := undef) rfl (by kernel_rfl) (by kernel_rfl) (by kernel_rfl) (fun _ _ _ h => h) (Or.inr ⟨by rfl, rfl⟩) (by assumption) ?_
              simp only [Act.put, List.setIfInBounds_toArray, List.set_cons_zero, List.set_cons_succ]
              refine wpAnyH_take (i := 9) (oi := { dst := some 141, op := Op.pick (Operand.tmp 136) (Operand.tmp 140) (Operand.const (Value.bool false)), type := 4, pos := "formula.go:186", after := #[{ on := 4, ground := Ground.data }, { on := 8, ground := Ground.data }], guard := none }) (v := ?vvf9) rfl (by kernel_rfl) (by kernel_rfl) (by kernel_rfl) (fun _ _ _ h => h) (Or.inl ⟨by rfl, ?hyf9⟩) (by assumption) ?_
              case hyf9 =>
                intro w hSw
                (try dsimp only at hSw)
                go_simp
                all_goals (try with_reducible rfl)
              simp only [Act.put, List.setIfInBounds_toArray, List.set_cons_zero, List.set_cons_succ]
              refine wpAnyH_ready (rs := [1, 10]) (by kernel_rfl) (by simp) ?_
              refine AllReadyH.cons (o := { dst := some 133, op := Op.load 24 (Operand.tmp 132), type := 24, pos := "formula.go:186", after := #[{ on := 0, ground := Ground.data }], guard := none }) rfl (fun K hK => ?_) ?_
              · skip
                go_simp
                refine hK.out _ _ ?_ (fun hH02 => ?_)
                · (try dsimp only)
                  go_keep
                clear hK K hH0
                have hH0 := hH02
                clear hH02
                try simp only [Act.put, List.setIfInBounds_toArray, List.set_cons_zero, List.set_cons_succ]
                refine wpAnyH_ready (rs := [10]) (by kernel_rfl) (by simp) ?_
                refine AllReadyH.cons (o := { dst := some 142, op := Op.call { callee := Callee.value (Operand.func 60), args := #[Operand.tmp 134, Operand.tmp 141], argTypes := #[26, 4] }, type := 26, pos := "formula.go:186", after := #[{ on := 2, ground := Ground.data }, { on := 9, ground := Ground.data }, { on := 7, ground := Ground.chain }], guard := none }) rfl (fun K hK => ?_) ?_
                · skip
                  go_simp
                  go_at_call 60
                  refine (hRC.out false _ (below_ad hbw.out hbw.out.size _)).mono ?_
                  rintro e w5 ⟨D3, f3, D4, f4, D5, f5, rfl, g5, hl5⟩
                  have b85 := Aside0.mk (blk_below g5 (heap_new wr _))
                  have G5 := Aside0.mk ((below_ad (Below.refl wr.heap.size wr) (Nat.le_refl _) _).trans (g5.mono (by simp)))
                  replace hl5 := Aside0.mk hl5
                  have HI5 := Aside0.mk (HI.out.up hsW hBl G5.out)
                  obtain ⟨c0, c1, c2, c3', c4', c5'⟩ := six HI5.out.box
                  have cf := blk_frozen HI5.out.box
                  obtain ⟨o0, o1, o2, o3, o4, o5⟩ := six b85.out
                  have hB5 : B < w5.heap.size := Nat.lt_of_lt_of_le hBr G5.out.size
                  have hr5 : wr.heap.size < w5.heap.size := (Array.getElem?_eq_some_iff.1 b85.out).1
                  have hW5 : W.heap.size < w5.heap.size := Nat.lt_of_lt_of_le hWr G5.out.size
                  have p5 := up_cell G5.out q0
                  go_wp2_with fail
                  refine hK.out _ _ ?_ (fun hH02 => ?_)
                  · (try dsimp only)
                    go_keep
                  clear hK K hH0
                  have hH0 := hH02
                  clear hH02
                  try simp only [Act.put, List.setIfInBounds_toArray, List.set_cons_zero, List.set_cons_succ]
                  refine wpAnyH_ready (rs := [11]) (by kernel_rfl) (by simp) ?_
                  refine AllReadyH.cons (o := { dst := some 143, op := Op.buildSlice 24 1 #[(0, Operand.tmp 142)], type := 24, pos := "formula.go:186", after := #[{ on := 10, ground := Ground.data }], guard := none }) rfl (fun K hK => ?_) ?_
                  · skip
                    go_simp
                    refine hK.out _ _ ?_ (fun hH02 => ?_)
                    · (try dsimp only)
                      go_keep
                    clear hK K hH0
                    have hH0 := hH02
                    clear hH02
                    try simp only [Act.put, List.setIfInBounds_toArray, List.set_cons_zero, List.set_cons_succ]
                    refine wpAnyH_ready (rs := [12]) (by kernel_rfl) (by simp) ?_
                    refine AllReadyH.cons (o := { dst := some 144, op := Op.call { callee := Callee.builtin Builtin.append, args := #[Operand.tmp 133, Operand.tmp 143], argTypes := #[24, 24] }, type := 24, pos := "formula.go:186", after := #[{ on := 1, ground := Ground.data }, { on := 11, ground := Ground.data }, { on := 10, ground := Ground.chain }], guard := none }) rfl (fun K hK => ?_) ?_
                    · skip
                      refine OwnRow.append_step (R := fun y cs => ∀ w1, Agree (fun i => okR w0 W B i ∧ some i ≠ (Value.slice A (rights (l.take j) (false && !counts k)).length c).ownBlock) w5 w1 → k26.K w1 y cs) (w0 := w5) (W := w5) wc.heap.size ?hw_f10 (.tmp 133) (.tmp 143) 24 26 (.agg #[.int .i64 0, .string ⟨#[]⟩, .int .i64 0, .slice none 0 0, .slice none 0 0, .slice none 0 0]) 6 104 ?ho_f10 Tryd.underlying24 info26 rfl (by omega) (by omega) (.slice A (rights (l.take j) (false && !counts k)).length c) (rights (l.take j) (false && !counts k)) (right y false) [.int .i64 (right y false).f0, .string (right y false).f1, .int .i64 (right y false).f2, .slice D3 (right y false).f3.length f3, .slice D4 (right y false).f4.length f4, .slice D5 (right y false).f5.length f5] ?hs_f10 ?hx_f10 ?hp_f10 rfl ?h1_f10 ?HO_f10 (Below.refl _ _) ?hbase_f10 ?hl_f10 ?_
                      case hw_f10 => exact wanted_of rfl
                      case ho_f10 => rfl
                      case hs_f10 => rfl
                      case hx_f10 => rfl
                      case hp_f10 => exact HI.out.elem hsW hBl hB0 hs0 (by simp) hl5.out
                      case h1_f10 => intro u hu; simp at hu; rcases hu with rfl | rfl | rfl | rfl | rfl | rfl <;> rfl
                      case HO_f10 => exact HI5.out.row
                      case hbase_f10 => exact Nat.le_trans hszr G5.out.size
                      case hl_f10 => rw [rights_length]; simp; omega
                      intro v1 w6 ho6 hb6 hg6 hat6
                      obtain ⟨A6, c6, rfl, hle6⟩ := OwnRow.slice_ ho6
                      have e6 : Value.slice A6 (rights (l.take j) (false && !counts k) ++ [right y false]).length c6 = Value.slice A6 ((rights (l.take j) false).length + 1) c6 := by simp
                      rw [e6] at ho6 hat6
                      clear e6 hle6
                      replace ho6 := Aside0.mk ho6
                      replace hb6 := Aside0.mk hb6
                      replace hat6 := Aside0.mk hat6
                      have bx6 := Aside0.mk ((hg6.block B (Array.getElem?_eq_some_iff.1 HI5.out.box).1 (row_ne HI5.out hBl)).trans HI5.out.box)
                      have b86 := Aside0.mk ((hg6.block wr.heap.size (Array.getElem?_eq_some_iff.1 b85.out).1 (row_ne8 HI.out)).trans b85.out)
                      replace hg6 := Aside0.mk hg6
                      obtain ⟨c0, c1, c2, c3', c4', c5'⟩ := six bx6.out
                      have cf := blk_frozen bx6.out
                      obtain ⟨o0, o1, o2, o3, o4, o5⟩ := six b86.out
                      have p6 : w6.cell? ⟨W.heap.size, 0, none⟩ = some (.int .i64 k) := (hg6.out.cell_far _ hW5 (row_neW HI.out hsW)).trans p5
                      refine hK.out _ _ ?_ (fun hH02 => ?_)
                      · (try dsimp only)
                        go_keep
                      clear hK K hH0
                      have hH0 := hH02
                      clear hH02
                      try simp only [Act.put, List.setIfInBounds_toArray, List.set_cons_zero, List.set_cons_succ]
                      refine wpAnyH_take (i := 13) (oi := { dst := some 145, op := Op.fieldAddr 26 (Operand.tmp 6) 5, type := 0, pos := "formula.go:186", after := #[{ on := 0, ground := Ground.phase }, { on := 1, ground := Ground.phase }, { on := 2, ground := Ground.phase }, { on := 3, ground := Ground.phase }, { on := 4, ground := Ground.phase }, { on := 5, ground := Ground.phase }, { on := 6, ground := Ground.phase }, { on := 7, ground := Ground.phase }, { on := 8, ground := Ground.phase }, { on := 9, ground := Ground.phase }, { on := 10, ground := Ground.phase }, { on := 11, ground := Ground.phase }, { on := 12, ground := Ground.phase }], guard := none }) (v := ?vvf11) rfl (by kernel_rfl) (by kernel_rfl) (by kernel_rfl) (fun _ _ _ h => h) (Or.inl ⟨by rfl, ?hyf11⟩) (by assumption) ?_
                      case hyf11 =>
                        intro w hSw
                        (try dsimp only at hSw)
                        go_simp
                        all_goals (try with_reducible rfl)
                      simp only [Act.put, List.setIfInBounds_toArray, List.set_cons_zero, List.set_cons_succ]
                      refine wpAnyH_ready (rs := [14]) (by kernel_rfl) (by simp) ?_
                      refine AllReadyH.cons (o := { dst := none, op := Op.store 24 (Operand.tmp 145) (Operand.tmp 144), type := 0, pos := "formula.go:186", after := #[{ on := 13, ground := Ground.data }, { on := 12, ground := Ground.data }, { on := 12, ground := Ground.chain }, { on := 0, ground := Ground.phase }, { on := 1, ground := Ground.phase }, { on := 2, ground := Ground.phase }, { on := 3, ground := Ground.phase }, { on := 4, ground := Ground.phase }, { on := 5, ground := Ground.phase }, { on := 6, ground := Ground.phase }, { on := 7, ground := Ground.phase }, { on := 8, ground := Ground.phase }, { on := 9, ground := Ground.phase }, { on := 10, ground := Ground.phase }, { on := 11, ground := Ground.phase }, { on := 12, ground := Ground.phase }], guard := none }) rfl (fun K hK => ?_) ?_
                      · skip
                        go_simp
                        refine hK.out _ _ ?_ (fun hH02 => ?_)
                        · (try dsimp only)
                          go_keep
                        clear hK K hH0
                        have hH0 := hH02
                        clear hH02
                        try simp only [Act.put, List.setIfInBounds_toArray, List.set_cons_zero, List.set_cons_succ]
                        refine wpAnyH_done (by kernel_rfl) ?_ _
                        refine NoPanic.normal ?_
                        go_wp2_with fail
                        go_roundg (l.length - (j + 1))
                        case measure => omega
                        case rel => exact ⟨j + 1, by omega, by omega, by go_num, ⟨_, HI5.out.step hlt hsW hBl (by rw [hy.out]; exact ho6.out) (hb6.out.mono (Nat.zero_le _)) hg6.out hat6.out⟩⟩
                      exact AllReadyH.nil
                    exact AllReadyH.nil
                  exact AllReadyH.nil
                exact AllReadyH.nil
              refine AllReadyH.cons (o := { dst := some 142, op := Op.call { callee := Callee.value (Operand.func 60), args := #[Operand.tmp 134, Operand.tmp 141], argTypes := #[26, 4] }, type := 26, pos := "formula.go:186", after := #[{ on := 2, ground := Ground.data }, { on := 9, ground := Ground.data }, { on := 7, ground := Ground.chain }], guard := none }) rfl (fun K hK => ?_) ?_
              · skip
                go_simp
                go_at_call 60
                refine (hRC.out false _ (below_ad hbw.out hbw.out.size _)).mono ?_
                rintro e w5 ⟨D3, f3, D4, f4, D5, f5, rfl, g5, hl5⟩
                have b85 := Aside0.mk (blk_below g5 (heap_new wr _))
                have G5 := Aside0.mk ((below_ad (Below.refl wr.heap.size wr) (Nat.le_refl _) _).trans (g5.mono (by simp)))
                replace hl5 := Aside0.mk hl5
                have HI5 := Aside0.mk (HI.out.up hsW hBl G5.out)
                obtain ⟨c0, c1, c2, c3', c4', c5'⟩ := six HI5.out.box
                have cf := blk_frozen HI5.out.box
                obtain ⟨o0, o1, o2, o3, o4, o5⟩ := six b85.out
                have hB5 : B < w5.heap.size := Nat.lt_of_lt_of_le hBr G5.out.size
                have hr5 : wr.heap.size < w5.heap.size := (Array.getElem?_eq_some_iff.1 b85.out).1
                have hW5 : W.heap.size < w5.heap.size := Nat.lt_of_lt_of_le hWr G5.out.size
                have p5 := up_cell G5.out q0
                go_wp2_with fail
                refine hK.out _ _ ?_ (fun hH02 => ?_)
                · (try dsimp only)
                  go_keep
                clear hK K hH0
                have hH0 := hH02
                clear hH02
                try simp only [Act.put, List.setIfInBounds_toArray, List.set_cons_zero, List.set_cons_succ]
                refine wpAnyH_ready (rs := [1, 11]) (by kernel_rfl) (by simp) ?_
                refine AllReadyH.cons (o := { dst := some 133, op := Op.load 24 (Operand.tmp 132), type := 24, pos := "formula.go:186", after := #[{ on := 0, ground := Ground.data }], guard := none }) rfl (fun K hK => ?_) ?_
                · skip
                  go_simp
                  refine hK.out _ _ ?_ (fun hH02 => ?_)
                  · (try dsimp only)
                    go_keep
                  clear hK K hH0
                  have hH0 := hH02
                  clear hH02
                  try simp only [Act.put, List.setIfInBounds_toArray, List.set_cons_zero, List.set_cons_succ]
                  refine wpAnyH_ready (rs := [11]) (by kernel_rfl) (by simp) ?_
                  refine AllReadyH.cons (o := { dst := some 143, op := Op.buildSlice 24 1 #[(0, Operand.tmp 142)], type := 24, pos := "formula.go:186", after := #[{ on := 10, ground := Ground.data }], guard := none }) rfl (fun K hK => ?_) ?_
                  · skip
                    go_simp
                    refine hK.out _ _ ?_ (fun hH02 => ?_)
                    · (try dsimp only)
                      go_keep
                    clear hK K hH0
                    have hH0 := hH02
                    clear hH02
                    try simp only [Act.put, List.setIfInBounds_toArray, List.set_cons_zero, List.set_cons_succ]
                    refine wpAnyH_ready (rs := [12]) (by kernel_rfl) (by simp) ?_
                    refine AllReadyH.cons (o := { dst := some 144, op := Op.call { callee := Callee.builtin Builtin.append, args := #[Operand.tmp 133, Operand.tmp 143], argTypes := #[24, 24] }, type := 24, pos := "formula.go:186", after := #[{ on := 1, ground := Ground.data }, { on := 11, ground := Ground.data }, { on := 10, ground := Ground.chain }], guard := none }) rfl (fun K hK => ?_) ?_
                    · skip
                      refine OwnRow.append_step (R := fun y cs => ∀ w1, Agree (fun i => okR w0 W B i ∧ some i ≠ (Value.slice A (rights (l.take j) (false && !counts k)).length c).ownBlock) w5 w1 → k26.K w1 y cs) (w0 := w5) (W := w5) wc.heap.size ?hw_f12 (.tmp 133) (.tmp 143) 24 26 (.agg #[.int .i64 0, .string ⟨#[]⟩, .int .i64 0, .slice none 0 0, .slice none 0 0, .slice none 0 0]) 6 104 ?ho_f12 Tryd.underlying24 info26 rfl (by omega) (by omega) (.slice A (rights (l.take j) (false && !counts k)).length c) (rights (l.take j) (false && !counts k)) (right y false) [.int .i64 (right y false).f0, .string (right y false).f1, .int .i64 (right y false).f2, .slice D3 (right y false).f3.length f3, .slice D4 (right y false).f4.length f4, .slice D5 (right y false).f5.length f5] ?hs_f12 ?hx_f12 ?hp_f12 rfl ?h1_f12 ?HO_f12 (Below.refl _ _) ?hbase_f12 ?hl_f12 ?_
                      case hw_f12 => exact wanted_of rfl
                      case ho_f12 => rfl
                      case hs_f12 => rfl
                      case hx_f12 => rfl
                      case hp_f12 => exact HI.out.elem hsW hBl hB0 hs0 (by simp) hl5.out
                      case h1_f12 => intro u hu; simp at hu; rcases hu with rfl | rfl | rfl | rfl | rfl | rfl <;> rfl
                      case HO_f12 => exact HI5.out.row
                      case hbase_f12 => exact Nat.le_trans hszr G5.out.size
                      case hl_f12 => rw [rights_length]; simp; omega
                      intro v1 w6 ho6 hb6 hg6 hat6
                      obtain ⟨A6, c6, rfl, hle6⟩ := OwnRow.slice_ ho6
                      have e6 : Value.slice A6 (rights (l.take j) (false && !counts k) ++ [right y false]).length c6 = Value.slice A6 ((rights (l.take j) false).length + 1) c6 := by simp
                      rw [e6] at ho6 hat6
                      clear e6 hle6
                      replace ho6 := Aside0.mk ho6
                      replace hb6 := Aside0.mk hb6
                      replace hat6 := Aside0.mk hat6
                      have bx6 := Aside0.mk ((hg6.block B (Array.getElem?_eq_some_iff.1 HI5.out.box).1 (row_ne HI5.out hBl)).trans HI5.out.box)
                      have b86 := Aside0.mk ((hg6.block wr.heap.size (Array.getElem?_eq_some_iff.1 b85.out).1 (row_ne8 HI.out)).trans b85.out)
                      replace hg6 := Aside0.mk hg6
                      obtain ⟨c0, c1, c2, c3', c4', c5'⟩ := six bx6.out
                      have cf := blk_frozen bx6.out
                      obtain ⟨o0, o1, o2, o3, o4, o5⟩ := six b86.out
                      have p6 : w6.cell? ⟨W.heap.size, 0, none⟩ = some (.int .i64 k) := (hg6.out.cell_far _ hW5 (row_neW HI.out hsW)).trans p5
                      refine hK.out _ _ ?_ (fun hH02 => ?_)
                      · (try dsimp only)
                        go_keep
                      clear hK K hH0
                      have hH0 := hH02
                      clear hH02
                      try simp only [Act.put, List.setIfInBounds_toArray, List.set_cons_zero, List.set_cons_succ]
                      refine wpAnyH_take (i := 13) (oi := { dst := some 145, op := Op.fieldAddr 26 (Operand.tmp 6) 5, type := 0, pos := "formula.go:186", after := #[{ on := 0, ground := Ground.phase }, { on := 1, ground := Ground.phase }, { on := 2, ground := Ground.phase }, { on := 3, ground := Ground.phase }, { on := 4, ground := Ground.phase }, { on := 5, ground := Ground.phase }, { on := 6, ground := Ground.phase }, { on := 7, ground := Ground.phase }, { on := 8, ground := Ground.phase }, { on := 9, ground := Ground.phase }, { on := 10, ground := Ground.phase }, { on := 11, ground := Ground.phase }, { on := 12, ground := Ground.phase }], guard := none }) (v := ?vvf13) rfl (by kernel_rfl) (by kernel_rfl) (by kernel_rfl) (fun _ _ _ h => h) (Or.inl ⟨by rfl, ?hyf13⟩) (by assumption) ?_
                      case hyf13 =>
                        intro w hSw
                        (try dsimp only at hSw)
                        go_simp
                        all_goals (try with_reducible rfl)
                      simp only [Act.put, List.setIfInBounds_toArray, List.set_cons_zero, List.set_cons_succ]
                      refine wpAnyH_ready (rs := [14]) (by kernel_rfl) (by simp) ?_
                      refine AllReadyH.cons (o := { dst := none, op := Op.store 24 (Operand.tmp 145) (Operand.tmp 144), type := 0, pos := "formula.go:186", after := #[{ on := 13, ground := Ground.data }, { on := 12, ground := Ground.data }, { on := 12, ground := Ground.chain }, { on := 0, ground := Ground.phase }, { on := 1, ground := Ground.phase }, { on := 2, ground := Ground.phase }, { on := 3, ground := Ground.phase }, { on := 4, ground := Ground.phase }, { on := 5, ground := Ground.phase }, { on := 6, ground := Ground.phase }, { on := 7, ground := Ground.phase }, { on := 8, ground := Ground.phase }, { on := 9, ground := Ground.phase }, { on := 10, ground := Ground.phase }, { on := 11, ground := Ground.phase }, { on := 12, ground := Ground.phase }], guard := none }) rfl (fun K hK => ?_) ?_
                      · skip
                        go_simp
                        refine hK.out _ _ ?_ (fun hH02 => ?_)
                        · (try dsimp only)
                          go_keep
                        clear hK K hH0
                        have hH0 := hH02
                        clear hH02
                        try simp only [Act.put, List.setIfInBounds_toArray, List.set_cons_zero, List.set_cons_succ]
                        refine wpAnyH_done (by kernel_rfl) ?_ _
                        refine NoPanic.normal ?_
                        go_wp2_with fail
                        go_roundg (l.length - (j + 1))
                        case measure => omega
                        case rel => exact ⟨j + 1, by omega, by omega, by go_num, ⟨_, HI5.out.step hlt hsW hBl (by rw [hy.out]; exact ho6.out) (hb6.out.mono (Nat.zero_le _)) hg6.out hat6.out⟩⟩
                      exact AllReadyH.nil
                    exact AllReadyH.nil
                  exact AllReadyH.nil
                refine AllReadyH.cons (o := { dst := some 143, op := Op.buildSlice 24 1 #[(0, Operand.tmp 142)], type := 24, pos := "formula.go:186", after := #[{ on := 10, ground := Ground.data }], guard := none }) rfl (fun K hK => ?_) ?_
                · skip
                  go_simp
                  refine hK.out _ _ ?_ (fun hH02 => ?_)
                  · (try dsimp only)
                    go_keep
                  clear hK K hH0
                  have hH0 := hH02
                  clear hH02
                  try simp only [Act.put, List.setIfInBounds_toArray, List.set_cons_zero, List.set_cons_succ]
                  refine wpAnyH_ready (rs := [1]) (by kernel_rfl) (by simp) ?_
                  refine AllReadyH.cons (o := { dst := some 133, op := Op.load 24 (Operand.tmp 132), type := 24, pos := "formula.go:186", after := #[{ on := 0, ground := Ground.data }], guard := none }) rfl (fun K hK => ?_) ?_
                  · skip
                    go_simp
                    refine hK.out _ _ ?_ (fun hH02 => ?_)
                    · (try dsimp only)
                      go_keep
                    clear hK K hH0
                    have hH0 := hH02
                    clear hH02
                    try simp only [Act.put, List.setIfInBounds_toArray, List.set_cons_zero, List.set_cons_succ]
                    refine wpAnyH_ready (rs := [12]) (by kernel_rfl) (by simp) ?_
                    refine AllReadyH.cons (o := { dst := some 144, op := Op.call { callee := Callee.builtin Builtin.append, args := #[Operand.tmp 133, Operand.tmp 143], argTypes := #[24, 24] }, type := 24, pos := "formula.go:186", after := #[{ on := 1, ground := Ground.data }, { on := 11, ground := Ground.data }, { on := 10, ground := Ground.chain }], guard := none }) rfl (fun K hK => ?_) ?_
                    · skip
                      refine OwnRow.append_step (R := fun y cs => ∀ w1, Agree (fun i => okR w0 W B i ∧ some i ≠ (Value.slice A (rights (l.take j) (false && !counts k)).length c).ownBlock) w5 w1 → k26.K w1 y cs) (w0 := w5) (W := w5) wc.heap.size ?hw_f14 (.tmp 133) (.tmp 143) 24 26 (.agg #[.int .i64 0, .string ⟨#[]⟩, .int .i64 0, .slice none 0 0, .slice none 0 0, .slice none 0 0]) 6 104 ?ho_f14 Tryd.underlying24 info26 rfl (by omega) (by omega) (.slice A (rights (l.take j) (false && !counts k)).length c) (rights (l.take j) (false && !counts k)) (right y false) [.int .i64 (right y false).f0, .string (right y false).f1, .int .i64 (right y false).f2, .slice D3 (right y false).f3.length f3, .slice D4 (right y false).f4.length f4, .slice D5 (right y false).f5.length f5] ?hs_f14 ?hx_f14 ?hp_f14 rfl ?h1_f14 ?HO_f14 (Below.refl _ _) ?hbase_f14 ?hl_f14 ?_
                      case hw_f14 => exact wanted_of rfl
                      case ho_f14 => rfl
                      case hs_f14 => rfl
                      case hx_f14 => rfl
                      case hp_f14 => exact HI.out.elem hsW hBl hB0 hs0 (by simp) hl5.out
                      case h1_f14 => intro u hu; simp at hu; rcases hu with rfl | rfl | rfl | rfl | rfl | rfl <;> rfl
                      case HO_f14 => exact HI5.out.row
                      case hbase_f14 => exact Nat.le_trans hszr G5.out.size
                      case hl_f14 => rw [rights_length]; simp; omega
                      intro v1 w6 ho6 hb6 hg6 hat6
                      obtain ⟨A6, c6, rfl, hle6⟩ := OwnRow.slice_ ho6
                      have e6 : Value.slice A6 (rights (l.take j) (false && !counts k) ++ [right y false]).length c6 = Value.slice A6 ((rights (l.take j) false).length + 1) c6 := by simp
                      rw [e6] at ho6 hat6
                      clear e6 hle6
                      replace ho6 := Aside0.mk ho6
                      replace hb6 := Aside0.mk hb6
                      replace hat6 := Aside0.mk hat6
                      have bx6 := Aside0.mk ((hg6.block B (Array.getElem?_eq_some_iff.1 HI5.out.box).1 (row_ne HI5.out hBl)).trans HI5.out.box)
                      have b86 := Aside0.mk ((hg6.block wr.heap.size (Array.getElem?_eq_some_iff.1 b85.out).1 (row_ne8 HI.out)).trans b85.out)
                      replace hg6 := Aside0.mk hg6
                      obtain ⟨c0, c1, c2, c3', c4', c5'⟩ := six bx6.out
                      have cf := blk_frozen bx6.out
                      obtain ⟨o0, o1, o2, o3, o4, o5⟩ := six b86.out
                      have p6 : w6.cell? ⟨W.heap.size, 0, none⟩ = some (.int .i64 k) := (hg6.out.cell_far _ hW5 (row_neW HI.out hsW)).trans p5
                      refine hK.out _ _ ?_ (fun hH02 => ?_)
                      · (try dsimp only)
                        go_keep
                      clear hK K hH0
                      have hH0 := hH02
                      clear hH02
                      try simp only [Act.put, List.setIfInBounds_toArray, List.set_cons_zero, List.set_cons_succ]
                      refine wpAnyH_take (i := 13) (oi := { dst := some 145, op := Op.fieldAddr 26 (Operand.tmp 6) 5, type := 0, pos := "formula.go:186", after := #[{ on := 0, ground := Ground.phase }, { on := 1, ground := Ground.phase }, { on := 2, ground := Ground.phase }, { on := 3, ground := Ground.phase }, { on := 4, ground := Ground.phase }, { on := 5, ground := Ground.phase }, { on := 6, ground := Ground.phase }, { on := 7, ground := Ground.phase }, { on := 8, ground := Ground.phase }, { on := 9, ground := Ground.phase }, { on := 10, ground := Ground.phase }, { on := 11, ground := Ground.phase }, { on := 12, ground := Ground.phase }], guard := none }) (v := ?vvf15) rfl (by kernel_rfl) (by kernel_rfl) (by kernel_rfl) (fun _ _ _ h => h) (Or.inl ⟨by rfl, ?hyf15⟩) (by assumption) ?_
                      case hyf15 =>
                        intro w hSw
                        (try dsimp only at hSw)
                        go_simp
                        all_goals (try with_reducible rfl)
                      simp only [Act.put, List.setIfInBounds_toArray, List.set_cons_zero, List.set_cons_succ]
                      refine wpAnyH_ready (rs := [14]) (by kernel_rfl) (by simp) ?_
                      refine AllReadyH.cons (o := { dst := none, op := Op.store 24 (Operand.tmp 145) (Operand.tmp 144), type := 0, pos := "formula.go:186", after := #[{ on := 13, ground := Ground.data }, { on := 12, ground := Ground.data }, { on := 12, ground := Ground.chain }, { on := 0, ground := Ground.phase }, { on := 1, ground := Ground.phase }, { on := 2, ground := Ground.phase }, { on := 3, ground := Ground.phase }, { on := 4, ground := Ground.phase }, { on := 5, ground := Ground.phase }, { on := 6, ground := Ground.phase }, { on := 7, ground := Ground.phase }, { on := 8, ground := Ground.phase }, { on := 9, ground := Ground.phase }, { on := 10, ground := Ground.phase }, { on := 11, ground := Ground.phase }, { on := 12, ground := Ground.phase }], guard := none }) rfl (fun K hK => ?_) ?_
                      · skip
                        go_simp
                        refine hK.out _ _ ?_ (fun hH02 => ?_)
                        · (try dsimp only)
                          go_keep
                        clear hK K hH0
                        have hH0 := hH02
                        clear hH02
                        try simp only [Act.put, List.setIfInBounds_toArray, List.set_cons_zero, List.set_cons_succ]
                        refine wpAnyH_done (by kernel_rfl) ?_ _
                        refine NoPanic.normal ?_
                        go_wp2_with fail
                        go_roundg (l.length - (j + 1))
                        case measure => omega
                        case rel => exact ⟨j + 1, by omega, by omega, by go_num, ⟨_, HI5.out.step hlt hsW hBl (by rw [hy.out]; exact ho6.out) (hb6.out.mono (Nat.zero_le _)) hg6.out hat6.out⟩⟩
                      exact AllReadyH.nil
                    exact AllReadyH.nil
                  exact AllReadyH.nil
                exact AllReadyH.nil
              exact AllReadyH.nil
            · go_upto_region 28 with fail
              refine wp_region_noPanic ?_
              refine wp_region_held_drew (S := (fun w' => w'.cell? ⟨W.heap.size, 0, none⟩ = some (.int .i64 k) ∧ w'.cell? ⟨wr.heap.size, 0, none⟩ = some (.int .i64 y.f0) ∧ w'.cell? ⟨wr.heap.size, 1, none⟩ = some (.string y.f1) ∧ w'.cell? ⟨wr.heap.size, 2, none⟩ = some (.int .i64 y.f2) ∧ w'.cell? ⟨wr.heap.size, 3, none⟩ = some (.slice B3 y.f3.length d3) ∧ w'.cell? ⟨wr.heap.size, 4, none⟩ = some (.slice B4 y.f4.length d4) ∧ w'.cell? ⟨wr.heap.size, 5, none⟩ = some (.slice B5 y.f5.length d5))) (by kernel_rfl) ?hS (fun hH0 => ?_)
              case hS => (try dsimp only); go_keep
              refine wpAnyH_take (i := 0) (oi := { dst := some 132, op := Op.fieldAddr 26 (Operand.tmp 6) 5, type := 0, pos := "formula.go:186", after := #[], guard := none }) (v := ?vvt1) rfl (by kernel_rfl) (by kernel_rfl) (by kernel_rfl) (fun _ _ _ h => h) (Or.inl ⟨by rfl, ?hyt1⟩) (by assumption) ?_
              case hyt1 =>
                intro w hSw
                (try dsimp only at hSw)
                go_simp
                all_goals (try with_reducible rfl)
              simp only [Act.put, List.setIfInBounds_toArray, List.set_cons_zero, List.set_cons_succ]
              refine wpAnyH_take (i := 2) (oi := { dst := some 134, op := Op.load 26 (Operand.tmp 8), type := 26, pos := "formula.go:186", after := #[], guard := none }) (v := ?vvt2) rfl (by kernel_rfl) (by kernel_rfl) (by kernel_rfl) (fun _ _ _ h => h) (Or.inl ⟨by rfl, ?hyt2⟩) (by assumption) ?_
              case hyt2 =>
                intro w hSw
                (try dsimp only at hSw)
                go_simp
                all_goals (try with_reducible rfl)
              simp only [Act.put, List.setIfInBounds_toArray, List.set_cons_zero, List.set_cons_succ]
              refine wpAnyH_take (i := 3) (oi := { dst := some 135, op := Op.move (Operand.tmp 1), type := 4, pos := "formula.go:186", after := #[], guard := none }) (v := ?vvt3) rfl (by kernel_rfl) (by kernel_rfl) (by kernel_rfl) (fun _ _ _ h => h) (Or.inl ⟨by rfl, ?hyt3⟩) (by assumption) ?_
              case hyt3 =>
                intro w hSw
                (try dsimp only at hSw)
                go_simp
                all_goals (try with_reducible rfl)
              simp only [Act.put, List.setIfInBounds_toArray, List.set_cons_zero, List.set_cons_succ]
              refine wpAnyH_take (i := 4) (oi := { dst := some 136, op := Op.move (Operand.tmp 135), type := 4, pos := "formula.go:186", after := #[{ on := 3, ground := Ground.data }], guard := none }) (v := ?vvt4) rfl (by kernel_rfl) (by kernel_rfl) (by kernel_rfl) (fun _ _ _ h => h) (Or.inl ⟨by rfl, ?hyt4⟩) (by assumption) ?_
              case hyt4 =>
                intro w hSw
                (try dsimp only at hSw)
                go_simp
                all_goals (try with_reducible rfl)
              simp only [Act.put, List.setIfInBounds_toArray, List.set_cons_zero, List.set_cons_succ]
              refine wpAnyH_take (i := 5) (oi := { dst := some 137, op := Op.fieldAddr 26 (Operand.tmp 2) 0, type := 0, pos := "formula.go:186", after := #[{ on := 4, ground := Ground.guard }], guard := some (4, true) }) (v := ?vvt5) rfl (by kernel_rfl) (by kernel_rfl) (by kernel_rfl) (fun _ _ _ h => h) (Or.inl ⟨by rfl, ?hyt5⟩) (by assumption) ?_
              case hyt5 =>
                intro w hSw
                (try dsimp only at hSw)
                go_simp
                all_goals (try with_reducible rfl)
              simp only [Act.put, List.setIfInBounds_toArray, List.set_cons_zero, List.set_cons_succ]
              refine wpAnyH_take (i := 6) (oi := { dst := some 138, op := Op.load 3 (Operand.tmp 137), type := 3, pos := "formula.go:186", after := #[{ on := 5, ground := Ground.data }, { on := 4, ground := Ground.guard }], guard := some (4, true) }) (v := ?vvt6) rfl (by kernel_rfl) (by kernel_rfl) (by kernel_rfl) (fun _ _ _ h => h) (Or.inl ⟨by rfl, ?hyt6⟩) (by assumption) ?_
              case hyt6 =>
                intro w hSw
                (try dsimp only at hSw)
                go_simp
                all_goals (try with_reducible rfl)
              simp only [Act.put, List.setIfInBounds_toArray, List.set_cons_zero, List.set_cons_succ]
              refine wpAnyH_ready (rs := [1, 7]) (by kernel_rfl) (by simp) ?_
              refine AllReadyH.cons (o := { dst := some 133, op := Op.load 24 (Operand.tmp 132), type := 24, pos := "formula.go:186", after := #[{ on := 0, ground := Ground.data }], guard := none }) rfl (fun K hK => ?_) ?_
              · skip
                go_simp
                refine hK.out _ _ ?_ (fun hH02 => ?_)
                · (try dsimp only)
                  go_keep
                clear hK K hH0
                have hH0 := hH02
                clear hH02
                try simp only [Act.put, List.setIfInBounds_toArray, List.set_cons_zero, List.set_cons_succ]
                refine wpAnyH_ready (rs := [7]) (by kernel_rfl) (by simp) ?_
                refine AllReadyH.cons (o := { dst := some 139, op := Op.call { callee := Callee.value (Operand.func 82), args := #[Operand.tmp 138], argTypes := #[3] }, type := 4, pos := "formula.go:186", after := #[{ on := 6, ground := Ground.data }, { on := 4, ground := Ground.chain }, { on := 4, ground := Ground.guard }], guard := some (4, true) }) rfl (fun K hK => ?_) ?_
                · skip
                  go_simp
                  go_at_call 82
                  refine (counts_calls _ _).mono ?_
                  rintro e w7 ⟨rfl, rfl⟩
                  go_wp2_with fail
                  refine hK.out _ _ ?_ (fun hH02 => ?_)
                  · (try dsimp only)
                    go_keep
                  clear hK K hH0
                  have hH0 := hH02
                  clear hH02
                  try simp only [Act.put, List.setIfInBounds_toArray, List.set_cons_zero, List.set_cons_succ]
                  refine wpAnyH_take (i := 8) (oi := { dst := some 140, op := Op.unOp UnOp.not 4 (Operand.tmp 139), type := 4, pos := "formula.go:186", after := #[{ on := 7, ground := Ground.data }, { on := 4, ground := Ground.guard }], guard := some (4, true) }) (v := ?vvt7) rfl (by kernel_rfl) (by kernel_rfl) (by kernel_rfl) (fun _ _ _ h => h) (Or.inl ⟨by rfl, ?hyt7⟩) (by assumption) ?_
                  case hyt7 =>
                    intro w hSw
                    (try dsimp only at hSw)
                    go_simp
                    all_goals (try with_reducible rfl)
                  simp only [Act.put, List.setIfInBounds_toArray, List.set_cons_zero, List.set_cons_succ]
                  refine wpAnyH_take (i := 9) (oi := { dst := some 141, op := Op.pick (Operand.tmp 136) (Operand.tmp 140) (Operand.const (Value.bool false)), type := 4, pos := "formula.go:186", after := #[{ on := 4, ground := Ground.data }, { on := 8, ground := Ground.data }], guard := none }) (v := ?vvt8) rfl (by kernel_rfl) (by kernel_rfl) (by kernel_rfl) (fun _ _ _ h => h) (Or.inl ⟨by rfl, ?hyt8⟩) (by assumption) ?_
                  case hyt8 =>
                    intro w hSw
                    (try dsimp only at hSw)
                    go_simp
                    all_goals (try with_reducible rfl)
                  simp only [Act.put, List.setIfInBounds_toArray, List.set_cons_zero, List.set_cons_succ]
                  refine wpAnyH_ready (rs := [10]) (by kernel_rfl) (by simp) ?_
                  refine AllReadyH.cons (o := { dst := some 142, op := Op.call { callee := Callee.value (Operand.func 60), args := #[Operand.tmp 134, Operand.tmp 141], argTypes := #[26, 4] }, type := 26, pos := "formula.go:186", after := #[{ on := 2, ground := Ground.data }, { on := 9, ground := Ground.data }, { on := 7, ground := Ground.chain }], guard := none }) rfl (fun K hK => ?_) ?_
                  · skip
                    go_simp
                    go_at_call 60
                    refine (hRC.out (!counts k) _ (below_ad hbw.out hbw.out.size _)).mono ?_
                    rintro e w5 ⟨D3, f3, D4, f4, D5, f5, rfl, g5, hl5⟩
                    have b85 := Aside0.mk (blk_below g5 (heap_new wr _))
                    have G5 := Aside0.mk ((below_ad (Below.refl wr.heap.size wr) (Nat.le_refl _) _).trans (g5.mono (by simp)))
                    replace hl5 := Aside0.mk hl5
                    have HI5 := Aside0.mk (HI.out.up hsW hBl G5.out)
                    obtain ⟨c0, c1, c2, c3', c4', c5'⟩ := six HI5.out.box
                    have cf := blk_frozen HI5.out.box
                    obtain ⟨o0, o1, o2, o3, o4, o5⟩ := six b85.out
                    have hB5 : B < w5.heap.size := Nat.lt_of_lt_of_le hBr G5.out.size
                    have hr5 : wr.heap.size < w5.heap.size := (Array.getElem?_eq_some_iff.1 b85.out).1
                    have hW5 : W.heap.size < w5.heap.size := Nat.lt_of_lt_of_le hWr G5.out.size
                    have p5 := up_cell G5.out q0
                    go_wp2_with fail
                    refine hK.out _ _ ?_ (fun hH02 => ?_)
                    · (try dsimp only)
                      go_keep
                    clear hK K hH0
                    have hH0 := hH02
                    clear hH02
                    try simp only [Act.put, List.setIfInBounds_toArray, List.set_cons_zero, List.set_cons_succ]
                    refine wpAnyH_ready (rs := [11]) (by kernel_rfl) (by simp) ?_
                    refine AllReadyH.cons (o := { dst := some 143, op := Op.buildSlice 24 1 #[(0, Operand.tmp 142)], type := 24, pos := "formula.go:186", after := #[{ on := 10, ground := Ground.data }], guard := none }) rfl (fun K hK => ?_) ?_
                    · skip
                      go_simp
                      refine hK.out _ _ ?_ (fun hH02 => ?_)
                      · (try dsimp only)
                        go_keep
                      clear hK K hH0
                      have hH0 := hH02
                      clear hH02
                      try simp only [Act.put, List.setIfInBounds_toArray, List.set_cons_zero, List.set_cons_succ]
                      refine wpAnyH_ready (rs := [12]) (by kernel_rfl) (by simp) ?_
                      refine AllReadyH.cons (o := { dst := some 144, op := Op.call { callee := Callee.builtin Builtin.append, args := #[Operand.tmp 133, Operand.tmp 143], argTypes := #[24, 24] }, type := 24, pos := "formula.go:186", after := #[{ on := 1, ground := Ground.data }, { on := 11, ground := Ground.data }, { on := 10, ground := Ground.chain }], guard := none }) rfl (fun K hK => ?_) ?_
                      · skip
                        refine OwnRow.append_step (R := fun y cs => ∀ w1, Agree (fun i => okR w0 W B i ∧ some i ≠ (Value.slice A (rights (l.take j) (true && !counts k)).length c).ownBlock) w5 w1 → k26.K w1 y cs) (w0 := w5) (W := w5) wc.heap.size ?hw_t9 (.tmp 133) (.tmp 143) 24 26 (.agg #[.int .i64 0, .string ⟨#[]⟩, .int .i64 0, .slice none 0 0, .slice none 0 0, .slice none 0 0]) 6 104 ?ho_t9 Tryd.underlying24 info26 rfl (by omega) (by omega) (.slice A (rights (l.take j) (true && !counts k)).length c) (rights (l.take j) (true && !counts k)) (right y (!counts k)) [.int .i64 (right y (!counts k)).f0, .string (right y (!counts k)).f1, .int .i64 (right y (!counts k)).f2, .slice D3 (right y (!counts k)).f3.length f3, .slice D4 (right y (!counts k)).f4.length f4, .slice D5 (right y (!counts k)).f5.length f5] ?hs_t9 ?hx_t9 ?hp_t9 rfl ?h1_t9 ?HO_t9 (Below.refl _ _) ?hbase_t9 ?hl_t9 ?_
                        case hw_t9 => exact wanted_of rfl
                        case ho_t9 => rfl
                        case hs_t9 => rfl
                        case hx_t9 => rfl
                        case hp_t9 => exact HI.out.elem hsW hBl hB0 hs0 (by simp) hl5.out
                        case h1_t9 => intro u hu; simp at hu; rcases hu with rfl | rfl | rfl | rfl | rfl | rfl <;> rfl
                        case HO_t9 => exact HI5.out.row
                        case hbase_t9 => exact Nat.le_trans hszr G5.out.size
                        case hl_t9 => rw [rights_length]; simp; omega
                        intro v1 w6 ho6 hb6 hg6 hat6
                        obtain ⟨A6, c6, rfl, hle6⟩ := OwnRow.slice_ ho6
                        have e6 : Value.slice A6 (rights (l.take j) (true && !counts k) ++ [right y (!counts k)]).length c6 = Value.slice A6 ((rights (l.take j) (!counts k)).length + 1) c6 := by simp
                        rw [e6] at ho6 hat6
                        clear e6 hle6
                        replace ho6 := Aside0.mk ho6
                        replace hb6 := Aside0.mk hb6
                        replace hat6 := Aside0.mk hat6
                        have bx6 := Aside0.mk ((hg6.block B (Array.getElem?_eq_some_iff.1 HI5.out.box).1 (row_ne HI5.out hBl)).trans HI5.out.box)
                        have b86 := Aside0.mk ((hg6.block wr.heap.size (Array.getElem?_eq_some_iff.1 b85.out).1 (row_ne8 HI.out)).trans b85.out)
                        replace hg6 := Aside0.mk hg6
                        obtain ⟨c0, c1, c2, c3', c4', c5'⟩ := six bx6.out
                        have cf := blk_frozen bx6.out
                        obtain ⟨o0, o1, o2, o3, o4, o5⟩ := six b86.out
                        have p6 : w6.cell? ⟨W.heap.size, 0, none⟩ = some (.int .i64 k) := (hg6.out.cell_far _ hW5 (row_neW HI.out hsW)).trans p5
                        refine hK.out _ _ ?_ (fun hH02 => ?_)
                        · (try dsimp only)
                          go_keep
                        clear hK K hH0
                        have hH0 := hH02
                        clear hH02
                        try simp only [Act.put, List.setIfInBounds_toArray, List.set_cons_zero, List.set_cons_succ]
                        refine wpAnyH_take (i := 13) (oi := { dst := some 145, op := Op.fieldAddr 26 (Operand.tmp 6) 5, type := 0, pos := "formula.go:186", after := #[{ on := 0, ground := Ground.phase }, { on := 1, ground := Ground.phase }, { on := 2, ground := Ground.phase }, { on := 3, ground := Ground.phase }, { on := 4, ground := Ground.phase }, { on := 5, ground := Ground.phase }, { on := 6, ground := Ground.phase }, { on := 7, ground := Ground.phase }, { on := 8, ground := Ground.phase }, { on := 9, ground := Ground.phase }, { on := 10, ground := Ground.phase }, { on := 11, ground := Ground.phase }, { on := 12, ground := Ground.phase }], guard := none }) (v := ?vvt10) rfl (by kernel_rfl) (by kernel_rfl) (by kernel_rfl) (fun _ _ _ h => h) (Or.inl ⟨by rfl, ?hyt10⟩) (by assumption) ?_
                        case hyt10 =>
                          intro w hSw
                          (try dsimp only at hSw)
                          go_simp
                          all_goals (try with_reducible rfl)
                        simp only [Act.put, List.setIfInBounds_toArray, List.set_cons_zero, List.set_cons_succ]
                        refine wpAnyH_ready (rs := [14]) (by kernel_rfl) (by simp) ?_
                        refine AllReadyH.cons (o := { dst := none, op := Op.store 24 (Operand.tmp 145) (Operand.tmp 144), type := 0, pos := "formula.go:186", after := #[{ on := 13, ground := Ground.data }, { on := 12, ground := Ground.data }, { on := 12, ground := Ground.chain }, { on := 0, ground := Ground.phase }, { on := 1, ground := Ground.phase }, { on := 2, ground := Ground.phase }, { on := 3, ground := Ground.phase }, { on := 4, ground := Ground.phase }, { on := 5, ground := Ground.phase }, { on := 6, ground := Ground.phase }, { on := 7, ground := Ground.phase }, { on := 8, ground := Ground.phase }, { on := 9, ground := Ground.phase }, { on := 10, ground := Ground.phase }, { on := 11, ground := Ground.phase }, { on := 12, ground := Ground.phase }], guard := none }) rfl (fun K hK => ?_) ?_
                        · skip
                          go_simp
                          refine hK.out _ _ ?_ (fun hH02 => ?_)
                          · (try dsimp only)
                            go_keep
                          clear hK K hH0
                          have hH0 := hH02
                          clear hH02
                          try simp only [Act.put, List.setIfInBounds_toArray, List.set_cons_zero, List.set_cons_succ]
                          refine wpAnyH_done (by kernel_rfl) ?_ _
                          refine NoPanic.normal ?_
                          go_wp2_with fail
                          go_roundg (l.length - (j + 1))
                          case measure => omega
                          case rel => exact ⟨j + 1, by omega, by omega, by go_num, ⟨_, HI5.out.step hlt hsW hBl (by rw [hy.out]; exact ho6.out) (hb6.out.mono (Nat.zero_le _)) hg6.out hat6.out⟩⟩
                        exact AllReadyH.nil
                      exact AllReadyH.nil
                    exact AllReadyH.nil
                  exact AllReadyH.nil
                exact AllReadyH.nil
              refine AllReadyH.cons (o := { dst := some 139, op := Op.call { callee := Callee.value (Operand.func 82), args := #[Operand.tmp 138], argTypes := #[3] }, type := 4, pos := "formula.go:186", after := #[{ on := 6, ground := Ground.data }, { on := 4, ground := Ground.chain }, { on := 4, ground := Ground.guard }], guard := some (4, true) }) rfl (fun K hK => ?_) ?_
              · skip
                go_simp
                go_at_call 82
                refine (counts_calls _ _).mono ?_
                rintro e w7 ⟨rfl, rfl⟩
                go_wp2_with fail
                refine hK.out _ _ ?_ (fun hH02 => ?_)
                · (try dsimp only)
                  go_keep
                clear hK K hH0
                have hH0 := hH02
                clear hH02
                try simp only [Act.put, List.setIfInBounds_toArray, List.set_cons_zero, List.set_cons_succ]
                refine wpAnyH_take (i := 8) (oi := { dst := some 140, op := Op.unOp UnOp.not 4 (Operand.tmp 139), type := 4, pos := "formula.go:186", after := #[{ on := 7, ground := Ground.data }, { on := 4, ground := Ground.guard }], guard := some (4, true) }) (v := ?vvt11) rfl (by kernel_rfl) (by kernel_rfl) (by kernel_rfl) (fun _ _ _ h => h) (Or.inl ⟨by rfl, ?hyt11⟩) (by assumption) ?_
                case hyt11 =>
                  intro w hSw
                  (try dsimp only at hSw)
                  go_simp
                  all_goals (try with_reducible rfl)
                simp only [Act.put, List.setIfInBounds_toArray, List.set_cons_zero, List.set_cons_succ]
                refine wpAnyH_take (i := 9) (oi := { dst := some 141, op := Op.pick (Operand.tmp 136) (Operand.tmp 140) (Operand.const (Value.bool false)), type := 4, pos := "formula.go:186", after := #[{ on := 4, ground := Ground.data }, { on := 8, ground := Ground.data }], guard := none }) (v := ?vvt12) rfl (by kernel_rfl) (by kernel_rfl) (by kernel_rfl) (fun _ _ _ h => h) (Or.inl ⟨by rfl, ?hyt12⟩) (by assumption) ?_
                case hyt12 =>
                  intro w hSw
                  (try dsimp only at hSw)
                  go_simp
                  all_goals (try with_reducible rfl)
                simp only [Act.put, List.setIfInBounds_toArray, List.set_cons_zero, List.set_cons_succ]
                refine wpAnyH_ready (rs := [1, 10]) (by kernel_rfl) (by simp) ?_
                refine AllReadyH.cons (o := { dst := some 133, op := Op.load 24 (Operand.tmp 132), type := 24, pos := "formula.go:186", after := #[{ on := 0, ground := Ground.data }], guard := none }) rfl (fun K hK => ?_) ?_
                · skip
                  go_simp
                  refine hK.out _ _ ?_ (fun hH02 => ?_)
                  · (try dsimp only)
                    go_keep
                  clear hK K hH0
                  have hH0 := hH02
                  clear hH02
                  try simp only [Act.put, List.setIfInBounds_toArray, List.set_cons_zero, List.set_cons_succ]
                  refine wpAnyH_ready (rs := [10]) (by kernel_rfl) (by simp) ?_
                  refine AllReadyH.cons (o := { dst := some 142, op := Op.call { callee := Callee.value (Operand.func 60), args := #[Operand.tmp 134, Operand.tmp 141], argTypes := #[26, 4] }, type := 26, pos := "formula.go:186", after := #[{ on := 2, ground := Ground.data }, { on := 9, ground := Ground.data }, { on := 7, ground := Ground.chain }], guard := none }) rfl (fun K hK => ?_) ?_
                  · skip
                    go_simp
                    go_at_call 60
                    refine (hRC.out (!counts k) _ (below_ad hbw.out hbw.out.size _)).mono ?_
                    rintro e w5 ⟨D3, f3, D4, f4, D5, f5, rfl, g5, hl5⟩
                    have b85 := Aside0.mk (blk_below g5 (heap_new wr _))
                    have G5 := Aside0.mk ((below_ad (Below.refl wr.heap.size wr) (Nat.le_refl _) _).trans (g5.mono (by simp)))
                    replace hl5 := Aside0.mk hl5
                    have HI5 := Aside0.mk (HI.out.up hsW hBl G5.out)
                    obtain ⟨c0, c1, c2, c3', c4', c5'⟩ := six HI5.out.box
                    have cf := blk_frozen HI5.out.box
                    obtain ⟨o0, o1, o2, o3, o4, o5⟩ := six b85.out
                    have hB5 : B < w5.heap.size := Nat.lt_of_lt_of_le hBr G5.out.size
                    have hr5 : wr.heap.size < w5.heap.size := (Array.getElem?_eq_some_iff.1 b85.out).1
                    have hW5 : W.heap.size < w5.heap.size := Nat.lt_of_lt_of_le hWr G5.out.size
                    have p5 := up_cell G5.out q0
                    go_wp2_with fail
                    refine hK.out _ _ ?_ (fun hH02 => ?_)
                    · (try dsimp only)
                      go_keep
                    clear hK K hH0
                    have hH0 := hH02
                    clear hH02
                    try simp only [Act.put, List.setIfInBounds_toArray, List.set_cons_zero, List.set_cons_succ]
                    refine wpAnyH_ready (rs := [11]) (by kernel_rfl) (by simp) ?_
                    refine AllReadyH.cons (o := { dst := some 143, op := Op.buildSlice 24 1 #[(0, Operand.tmp 142)], type := 24, pos := "formula.go:186", after := #[{ on := 10, ground := Ground.data }], guard := none }) rfl (fun K hK => ?_) ?_
                    · skip
                      go_simp
                      refine hK.out _ _ ?_ (fun hH02 => ?_)
                      · (try dsimp only)
                        go_keep
                      clear hK K hH0
                      have hH0 := hH02
                      clear hH02
                      try simp only [Act.put, List.setIfInBounds_toArray, List.set_cons_zero, List.set_cons_succ]
                      refine wpAnyH_ready (rs := [12]) (by kernel_rfl) (by simp) ?_
                      refine AllReadyH.cons (o := { dst := some 144, op := Op.call { callee := Callee.builtin Builtin.append, args := #[Operand.tmp 133, Operand.tmp 143], argTypes := #[24, 24] }, type := 24, pos := "formula.go:186", after := #[{ on := 1, ground := Ground.data }, { on := 11, ground := Ground.data }, { on := 10, ground := Ground.chain }], guard := none }) rfl (fun K hK => ?_) ?_
                      · skip
                        refine OwnRow.append_step (R := fun y cs => ∀ w1, Agree (fun i => okR w0 W B i ∧ some i ≠ (Value.slice A (rights (l.take j) (true && !counts k)).length c).ownBlock) w5 w1 → k26.K w1 y cs) (w0 := w5) (W := w5) wc.heap.size ?hw_t13 (.tmp 133) (.tmp 143) 24 26 (.agg #[.int .i64 0, .string ⟨#[]⟩, .int .i64 0, .slice none 0 0, .slice none 0 0, .slice none 0 0]) 6 104 ?ho_t13 Tryd.underlying24 info26 rfl (by omega) (by omega) (.slice A (rights (l.take j) (true && !counts k)).length c) (rights (l.take j) (true && !counts k)) (right y (!counts k)) [.int .i64 (right y (!counts k)).f0, .string (right y (!counts k)).f1, .int .i64 (right y (!counts k)).f2, .slice D3 (right y (!counts k)).f3.length f3, .slice D4 (right y (!counts k)).f4.length f4, .slice D5 (right y (!counts k)).f5.length f5] ?hs_t13 ?hx_t13 ?hp_t13 rfl ?h1_t13 ?HO_t13 (Below.refl _ _) ?hbase_t13 ?hl_t13 ?_
                        case hw_t13 => exact wanted_of rfl
                        case ho_t13 => rfl
                        case hs_t13 => rfl
                        case hx_t13 => rfl
                        case hp_t13 => exact HI.out.elem hsW hBl hB0 hs0 (by simp) hl5.out
                        case h1_t13 => intro u hu; simp at hu; rcases hu with rfl | rfl | rfl | rfl | rfl | rfl <;> rfl
                        case HO_t13 => exact HI5.out.row
                        case hbase_t13 => exact Nat.le_trans hszr G5.out.size
                        case hl_t13 => rw [rights_length]; simp; omega
                        intro v1 w6 ho6 hb6 hg6 hat6
                        obtain ⟨A6, c6, rfl, hle6⟩ := OwnRow.slice_ ho6
                        have e6 : Value.slice A6 (rights (l.take j) (true && !counts k) ++ [right y (!counts k)]).length c6 = Value.slice A6 ((rights (l.take j) (!counts k)).length + 1) c6 := by simp
                        rw [e6] at ho6 hat6
                        clear e6 hle6
                        replace ho6 := Aside0.mk ho6
                        replace hb6 := Aside0.mk hb6
                        replace hat6 := Aside0.mk hat6
                        have bx6 := Aside0.mk ((hg6.block B (Array.getElem?_eq_some_iff.1 HI5.out.box).1 (row_ne HI5.out hBl)).trans HI5.out.box)
                        have b86 := Aside0.mk ((hg6.block wr.heap.size (Array.getElem?_eq_some_iff.1 b85.out).1 (row_ne8 HI.out)).trans b85.out)
                        replace hg6 := Aside0.mk hg6
                        obtain ⟨c0, c1, c2, c3', c4', c5'⟩ := six bx6.out
                        have cf := blk_frozen bx6.out
                        obtain ⟨o0, o1, o2, o3, o4, o5⟩ := six b86.out
                        have p6 : w6.cell? ⟨W.heap.size, 0, none⟩ = some (.int .i64 k) := (hg6.out.cell_far _ hW5 (row_neW HI.out hsW)).trans p5
                        refine hK.out _ _ ?_ (fun hH02 => ?_)
                        · (try dsimp only)
                          go_keep
                        clear hK K hH0
                        have hH0 := hH02
                        clear hH02
                        try simp only [Act.put, List.setIfInBounds_toArray, List.set_cons_zero, List.set_cons_succ]
                        refine wpAnyH_take (i := 13) (oi := { dst := some 145, op := Op.fieldAddr 26 (Operand.tmp 6) 5, type := 0, pos := "formula.go:186", after := #[{ on := 0, ground := Ground.phase }, { on := 1, ground := Ground.phase }, { on := 2, ground := Ground.phase }, { on := 3, ground := Ground.phase }, { on := 4, ground := Ground.phase }, { on := 5, ground := Ground.phase }, { on := 6, ground := Ground.phase }, { on := 7, ground := Ground.phase }, { on := 8, ground := Ground.phase }, { on := 9, ground := Ground.phase }, { on := 10, ground := Ground.phase }, { on := 11, ground := Ground.phase }, { on := 12, ground := Ground.phase }], guard := none }) (v := ?vvt14) rfl (by kernel_rfl) (by kernel_rfl) (by kernel_rfl) (fun _ _ _ h => h) (Or.inl ⟨by rfl, ?hyt14⟩) (by assumption) ?_
                        case hyt14 =>
                          intro w hSw
                          (try dsimp only at hSw)
                          go_simp
                          all_goals (try with_reducible rfl)
                        simp only [Act.put, List.setIfInBounds_toArray, List.set_cons_zero, List.set_cons_succ]
                        refine wpAnyH_ready (rs := [14]) (by kernel_rfl) (by simp) ?_
                        refine AllReadyH.cons (o := { dst := none, op := Op.store 24 (Operand.tmp 145) (Operand.tmp 144), type := 0, pos := "formula.go:186", after := #[{ on := 13, ground := Ground.data }, { on := 12, ground := Ground.data }, { on := 12, ground := Ground.chain }, { on := 0, ground := Ground.phase }, { on := 1, ground := Ground.phase }, { on := 2, ground := Ground.phase }, { on := 3, ground := Ground.phase }, { on := 4, ground := Ground.phase }, { on := 5, ground := Ground.phase }, { on := 6, ground := Ground.phase }, { on := 7, ground := Ground.phase }, { on := 8, ground := Ground.phase }, { on := 9, ground := Ground.phase }, { on := 10, ground := Ground.phase }, { on := 11, ground := Ground.phase }, { on := 12, ground := Ground.phase }], guard := none }) rfl (fun K hK => ?_) ?_
                        · skip
                          go_simp
                          refine hK.out _ _ ?_ (fun hH02 => ?_)
                          · (try dsimp only)
                            go_keep
                          clear hK K hH0
                          have hH0 := hH02
                          clear hH02
                          try simp only [Act.put, List.setIfInBounds_toArray, List.set_cons_zero, List.set_cons_succ]
                          refine wpAnyH_done (by kernel_rfl) ?_ _
                          refine NoPanic.normal ?_
                          go_wp2_with fail
                          go_roundg (l.length - (j + 1))
                          case measure => omega
                          case rel => exact ⟨j + 1, by omega, by omega, by go_num, ⟨_, HI5.out.step hlt hsW hBl (by rw [hy.out]; exact ho6.out) (hb6.out.mono (Nat.zero_le _)) hg6.out hat6.out⟩⟩
                        exact AllReadyH.nil
                      exact AllReadyH.nil
                    exact AllReadyH.nil
                  exact AllReadyH.nil
                refine AllReadyH.cons (o := { dst := some 142, op := Op.call { callee := Callee.value (Operand.func 60), args := #[Operand.tmp 134, Operand.tmp 141], argTypes := #[26, 4] }, type := 26, pos := "formula.go:186", after := #[{ on := 2, ground := Ground.data }, { on := 9, ground := Ground.data }, { on := 7, ground := Ground.chain }], guard := none }) rfl (fun K hK => ?_) ?_
                · skip
                  go_simp
                  go_at_call 60
                  refine (hRC.out (!counts k) _ (below_ad hbw.out hbw.out.size _)).mono ?_
                  rintro e w5 ⟨D3, f3, D4, f4, D5, f5, rfl, g5, hl5⟩
                  have b85 := Aside0.mk (blk_below g5 (heap_new wr _))
                  have G5 := Aside0.mk ((below_ad (Below.refl wr.heap.size wr) (Nat.le_refl _) _).trans (g5.mono (by simp)))
                  replace hl5 := Aside0.mk hl5
                  have HI5 := Aside0.mk (HI.out.up hsW hBl G5.out)
                  obtain ⟨c0, c1, c2, c3', c4', c5'⟩ := six HI5.out.box
                  have cf := blk_frozen HI5.out.box
                  obtain ⟨o0, o1, o2, o3, o4, o5⟩ := six b85.out
                  have hB5 : B < w5.heap.size := Nat.lt_of_lt_of_le hBr G5.out.size
                  have hr5 : wr.heap.size < w5.heap.size := (Array.getElem?_eq_some_iff.1 b85.out).1
                  have hW5 : W.heap.size < w5.heap.size := Nat.lt_of_lt_of_le hWr G5.out.size
                  have p5 := up_cell G5.out q0
                  go_wp2_with fail
                  refine hK.out _ _ ?_ (fun hH02 => ?_)
                  · (try dsimp only)
                    go_keep
                  clear hK K hH0
                  have hH0 := hH02
                  clear hH02
                  try simp only [Act.put, List.setIfInBounds_toArray, List.set_cons_zero, List.set_cons_succ]
                  refine wpAnyH_ready (rs := [1, 11]) (by kernel_rfl) (by simp) ?_
                  refine AllReadyH.cons (o := { dst := some 133, op := Op.load 24 (Operand.tmp 132), type := 24, pos := "formula.go:186", after := #[{ on := 0, ground := Ground.data }], guard := none }) rfl (fun K hK => ?_) ?_
                  · skip
                    go_simp
                    refine hK.out _ _ ?_ (fun hH02 => ?_)
                    · (try dsimp only)
                      go_keep
                    clear hK K hH0
                    have hH0 := hH02
                    clear hH02
                    try simp only [Act.put, List.setIfInBounds_toArray, List.set_cons_zero, List.set_cons_succ]
                    refine wpAnyH_ready (rs := [11]) (by kernel_rfl) (by simp) ?_
                    refine AllReadyH.cons (o := { dst := some 143, op := Op.buildSlice 24 1 #[(0, Operand.tmp 142)], type := 24, pos := "formula.go:186", after := #[{ on := 10, ground := Ground.data }], guard := none }) rfl (fun K hK => ?_) ?_
                    · skip
                      go_simp
                      refine hK.out _ _ ?_ (fun hH02 => ?_)
                      · (try dsimp only)
                        go_keep
                      clear hK K hH0
                      have hH0 := hH02
                      clear hH02
                      try simp only [Act.put, List.setIfInBounds_toArray, List.set_cons_zero, List.set_cons_succ]
                      refine wpAnyH_ready (rs := [12]) (by kernel_rfl) (by simp) ?_
                      refine AllReadyH.cons (o := { dst := some 144, op := Op.call { callee := Callee.builtin Builtin.append, args := #[Operand.tmp 133, Operand.tmp 143], argTypes := #[24, 24] }, type := 24, pos := "formula.go:186", after := #[{ on := 1, ground := Ground.data }, { on := 11, ground := Ground.data }, { on := 10, ground := Ground.chain }], guard := none }) rfl (fun K hK => ?_) ?_
                      · skip
                        refine OwnRow.append_step (R := fun y cs => ∀ w1, Agree (fun i => okR w0 W B i ∧ some i ≠ (Value.slice A (rights (l.take j) (true && !counts k)).length c).ownBlock) w5 w1 → k26.K w1 y cs) (w0 := w5) (W := w5) wc.heap.size ?hw_t15 (.tmp 133) (.tmp 143) 24 26 (.agg #[.int .i64 0, .string ⟨#[]⟩, .int .i64 0, .slice none 0 0, .slice none 0 0, .slice none 0 0]) 6 104 ?ho_t15 Tryd.underlying24 info26 rfl (by omega) (by omega) (.slice A (rights (l.take j) (true && !counts k)).length c) (rights (l.take j) (true && !counts k)) (right y (!counts k)) [.int .i64 (right y (!counts k)).f0, .string (right y (!counts k)).f1, .int .i64 (right y (!counts k)).f2, .slice D3 (right y (!counts k)).f3.length f3, .slice D4 (right y (!counts k)).f4.length f4, .slice D5 (right y (!counts k)).f5.length f5] ?hs_t15 ?hx_t15 ?hp_t15 rfl ?h1_t15 ?HO_t15 (Below.refl _ _) ?hbase_t15 ?hl_t15 ?_
                        case hw_t15 => exact wanted_of rfl
                        case ho_t15 => rfl
                        case hs_t15 => rfl
                        case hx_t15 => rfl
                        case hp_t15 => exact HI.out.elem hsW hBl hB0 hs0 (by simp) hl5.out
                        case h1_t15 => intro u hu; simp at hu; rcases hu with rfl | rfl | rfl | rfl | rfl | rfl <;> rfl
                        case HO_t15 => exact HI5.out.row
                        case hbase_t15 => exact Nat.le_trans hszr G5.out.size
                        case hl_t15 => rw [rights_length]; simp; omega
                        intro v1 w6 ho6 hb6 hg6 hat6
                        obtain ⟨A6, c6, rfl, hle6⟩ := OwnRow.slice_ ho6
                        have e6 : Value.slice A6 (rights (l.take j) (true && !counts k) ++ [right y (!counts k)]).length c6 = Value.slice A6 ((rights (l.take j) (!counts k)).length + 1) c6 := by simp
                        rw [e6] at ho6 hat6
                        clear e6 hle6
                        replace ho6 := Aside0.mk ho6
                        replace hb6 := Aside0.mk hb6
                        replace hat6 := Aside0.mk hat6
                        have bx6 := Aside0.mk ((hg6.block B (Array.getElem?_eq_some_iff.1 HI5.out.box).1 (row_ne HI5.out hBl)).trans HI5.out.box)
                        have b86 := Aside0.mk ((hg6.block wr.heap.size (Array.getElem?_eq_some_iff.1 b85.out).1 (row_ne8 HI.out)).trans b85.out)
                        replace hg6 := Aside0.mk hg6
                        obtain ⟨c0, c1, c2, c3', c4', c5'⟩ := six bx6.out
                        have cf := blk_frozen bx6.out
                        obtain ⟨o0, o1, o2, o3, o4, o5⟩ := six b86.out
                        have p6 : w6.cell? ⟨W.heap.size, 0, none⟩ = some (.int .i64 k) := (hg6.out.cell_far _ hW5 (row_neW HI.out hsW)).trans p5
                        refine hK.out _ _ ?_ (fun hH02 => ?_)
                        · (try dsimp only)
                          go_keep
                        clear hK K hH0
                        have hH0 := hH02
                        clear hH02
                        try simp only [Act.put, List.setIfInBounds_toArray, List.set_cons_zero, List.set_cons_succ]
                        refine wpAnyH_take (i := 13) (oi := { dst := some 145, op := Op.fieldAddr 26 (Operand.tmp 6) 5, type := 0, pos := "formula.go:186", after := #[{ on := 0, ground := Ground.phase }, { on := 1, ground := Ground.phase }, { on := 2, ground := Ground.phase }, { on := 3, ground := Ground.phase }, { on := 4, ground := Ground.phase }, { on := 5, ground := Ground.phase }, { on := 6, ground := Ground.phase }, { on := 7, ground := Ground.phase }, { on := 8, ground := Ground.phase }, { on := 9, ground := Ground.phase }, { on := 10, ground := Ground.phase }, { on := 11, ground := Ground.phase }, { on := 12, ground := Ground.phase }], guard := none }) (v := ?vvt16) rfl (by kernel_rfl) (by kernel_rfl) (by kernel_rfl) (fun _ _ _ h => h) (Or.inl ⟨by rfl, ?hyt16⟩) (by assumption) ?_
                        case hyt16 =>
                          intro w hSw
                          (try dsimp only at hSw)
                          go_simp
                          all_goals (try with_reducible rfl)
                        simp only [Act.put, List.setIfInBounds_toArray, List.set_cons_zero, List.set_cons_succ]
                        refine wpAnyH_ready (rs := [14]) (by kernel_rfl) (by simp) ?_
                        refine AllReadyH.cons (o := { dst := none, op := Op.store 24 (Operand.tmp 145) (Operand.tmp 144), type := 0, pos := "formula.go:186", after := #[{ on := 13, ground := Ground.data }, { on := 12, ground := Ground.data }, { on := 12, ground := Ground.chain }, { on := 0, ground := Ground.phase }, { on := 1, ground := Ground.phase }, { on := 2, ground := Ground.phase }, { on := 3, ground := Ground.phase }, { on := 4, ground := Ground.phase }, { on := 5, ground := Ground.phase }, { on := 6, ground := Ground.phase }, { on := 7, ground := Ground.phase }, { on := 8, ground := Ground.phase }, { on := 9, ground := Ground.phase }, { on := 10, ground := Ground.phase }, { on := 11, ground := Ground.phase }, { on := 12, ground := Ground.phase }], guard := none }) rfl (fun K hK => ?_) ?_
                        · skip
                          go_simp
                          refine hK.out _ _ ?_ (fun hH02 => ?_)
                          · (try dsimp only)
                            go_keep
                          clear hK K hH0
                          have hH0 := hH02
                          clear hH02
                          try simp only [Act.put, List.setIfInBounds_toArray, List.set_cons_zero, List.set_cons_succ]
                          refine wpAnyH_done (by kernel_rfl) ?_ _
                          refine NoPanic.normal ?_
                          go_wp2_with fail
                          go_roundg (l.length - (j + 1))
                          case measure => omega
                          case rel => exact ⟨j + 1, by omega, by omega, by go_num, ⟨_, HI5.out.step hlt hsW hBl (by rw [hy.out]; exact ho6.out) (hb6.out.mono (Nat.zero_le _)) hg6.out hat6.out⟩⟩
                        exact AllReadyH.nil
                      exact AllReadyH.nil
                    exact AllReadyH.nil
                  refine AllReadyH.cons (o := { dst := some 143, op := Op.buildSlice 24 1 #[(0, Operand.tmp 142)], type := 24, pos := "formula.go:186", after := #[{ on := 10, ground := Ground.data }], guard := none }) rfl (fun K hK => ?_) ?_
                  · skip
                    go_simp
                    refine hK.out _ _ ?_ (fun hH02 => ?_)
                    · (try dsimp only)
                      go_keep
                    clear hK K hH0
                    have hH0 := hH02
                    clear hH02
                    try simp only [Act.put, List.setIfInBounds_toArray, List.set_cons_zero, List.set_cons_succ]
                    refine wpAnyH_ready (rs := [1]) (by kernel_rfl) (by simp) ?_
                    refine AllReadyH.cons (o := { dst := some 133, op := Op.load 24 (Operand.tmp 132), type := 24, pos := "formula.go:186", after := #[{ on := 0, ground := Ground.data }], guard := none }) rfl (fun K hK => ?_) ?_
                    · skip
                      go_simp
                      refine hK.out _ _ ?_ (fun hH02 => ?_)
                      · (try dsimp only)
                        go_keep
                      clear hK K hH0
                      have hH0 := hH02
                      clear hH02
                      try simp only [Act.put, List.setIfInBounds_toArray, List.set_cons_zero, List.set_cons_succ]
                      refine wpAnyH_ready (rs := [12]) (by kernel_rfl) (by simp) ?_
                      refine AllReadyH.cons (o := { dst := some 144, op := Op.call { callee := Callee.builtin Builtin.append, args := #[Operand.tmp 133, Operand.tmp 143], argTypes := #[24, 24] }, type := 24, pos := "formula.go:186", after := #[{ on := 1, ground := Ground.data }, { on := 11, ground := Ground.data }, { on := 10, ground := Ground.chain }], guard := none }) rfl (fun K hK => ?_) ?_
                      · skip
                        refine OwnRow.append_step (R := fun y cs => ∀ w1, Agree (fun i => okR w0 W B i ∧ some i ≠ (Value.slice A (rights (l.take j) (true && !counts k)).length c).ownBlock) w5 w1 → k26.K w1 y cs) (w0 := w5) (W := w5) wc.heap.size ?hw_t17 (.tmp 133) (.tmp 143) 24 26 (.agg #[.int .i64 0, .string ⟨#[]⟩, .int .i64 0, .slice none 0 0, .slice none 0 0, .slice none 0 0]) 6 104 ?ho_t17 Tryd.underlying24 info26 rfl (by omega) (by omega) (.slice A (rights (l.take j) (true && !counts k)).length c) (rights (l.take j) (true && !counts k)) (right y (!counts k)) [.int .i64 (right y (!counts k)).f0, .string (right y (!counts k)).f1, .int .i64 (right y (!counts k)).f2, .slice D3 (right y (!counts k)).f3.length f3, .slice D4 (right y (!counts k)).f4.length f4, .slice D5 (right y (!counts k)).f5.length f5] ?hs_t17 ?hx_t17 ?hp_t17 rfl ?h1_t17 ?HO_t17 (Below.refl _ _) ?hbase_t17 ?hl_t17 ?_
                        case hw_t17 => exact wanted_of rfl
                        case ho_t17 => rfl
                        case hs_t17 => rfl
                        case hx_t17 => rfl
                        case hp_t17 => exact HI.out.elem hsW hBl hB0 hs0 (by simp) hl5.out
                        case h1_t17 => intro u hu; simp at hu; rcases hu with rfl | rfl | rfl | rfl | rfl | rfl <;> rfl
                        case HO_t17 => exact HI5.out.row
                        case hbase_t17 => exact Nat.le_trans hszr G5.out.size
                        case hl_t17 => rw [rights_length]; simp; omega
                        intro v1 w6 ho6 hb6 hg6 hat6
                        obtain ⟨A6, c6, rfl, hle6⟩ := OwnRow.slice_ ho6
                        have e6 : Value.slice A6 (rights (l.take j) (true && !counts k) ++ [right y (!counts k)]).length c6 = Value.slice A6 ((rights (l.take j) (!counts k)).length + 1) c6 := by simp
                        rw [e6] at ho6 hat6
                        clear e6 hle6
                        replace ho6 := Aside0.mk ho6
                        replace hb6 := Aside0.mk hb6
                        replace hat6 := Aside0.mk hat6
                        have bx6 := Aside0.mk ((hg6.block B (Array.getElem?_eq_some_iff.1 HI5.out.box).1 (row_ne HI5.out hBl)).trans HI5.out.box)
                        have b86 := Aside0.mk ((hg6.block wr.heap.size (Array.getElem?_eq_some_iff.1 b85.out).1 (row_ne8 HI.out)).trans b85.out)
                        replace hg6 := Aside0.mk hg6
                        obtain ⟨c0, c1, c2, c3', c4', c5'⟩ := six bx6.out
                        have cf := blk_frozen bx6.out
                        obtain ⟨o0, o1, o2, o3, o4, o5⟩ := six b86.out
                        have p6 : w6.cell? ⟨W.heap.size, 0, none⟩ = some (.int .i64 k) := (hg6.out.cell_far _ hW5 (row_neW HI.out hsW)).trans p5
                        refine hK.out _ _ ?_ (fun hH02 => ?_)
                        · (try dsimp only)
                          go_keep
                        clear hK K hH0
                        have hH0 := hH02
                        clear hH02
                        try simp only [Act.put, List.setIfInBounds_toArray, List.set_cons_zero, List.set_cons_succ]
                        refine wpAnyH_take (i := 13) (oi := { dst := some 145, op := Op.fieldAddr 26 (Operand.tmp 6) 5, type := 0, pos := "formula.go:186", after := #[{ on := 0, ground := Ground.phase }, { on := 1, ground := Ground.phase }, { on := 2, ground := Ground.phase }, { on := 3, ground := Ground.phase }, { on := 4, ground := Ground.phase }, { on := 5, ground := Ground.phase }, { on := 6, ground := Ground.phase }, { on := 7, ground := Ground.phase }, { on := 8, ground := Ground.phase }, { on := 9, ground := Ground.phase }, { on := 10, ground := Ground.phase }, { on := 11, ground := Ground.phase }, { on := 12, ground := Ground.phase }], guard := none }) (v := ?vvt18) rfl (by kernel_rfl) (by kernel_rfl) (by kernel_rfl) (fun _ _ _ h => h) (Or.inl ⟨by rfl, ?hyt18⟩) (by assumption) ?_
                        case hyt18 =>
                          intro w hSw
                          (try dsimp only at hSw)
                          go_simp
                          all_goals (try with_reducible rfl)
                        simp only [Act.put, List.setIfInBounds_toArray, List.set_cons_zero, List.set_cons_succ]
                        refine wpAnyH_ready (rs := [14]) (by kernel_rfl) (by simp) ?_
                        refine AllReadyH.cons (o := { dst := none, op := Op.store 24 (Operand.tmp 145) (Operand.tmp 144), type := 0, pos := "formula.go:186", after := #[{ on := 13, ground := Ground.data }, { on := 12, ground := Ground.data }, { on := 12, ground := Ground.chain }, { on := 0, ground := Ground.phase }, { on := 1, ground := Ground.phase }, { on := 2, ground := Ground.phase }, { on := 3, ground := Ground.phase }, { on := 4, ground := Ground.phase }, { on := 5, ground := Ground.phase }, { on := 6, ground := Ground.phase }, { on := 7, ground := Ground.phase }, { on := 8, ground := Ground.phase }, { on := 9, ground := Ground.phase }, { on := 10, ground := Ground.phase }, { on := 11, ground := Ground.phase }, { on := 12, ground := Ground.phase }], guard := none }) rfl (fun K hK => ?_) ?_
                        · skip
                          go_simp
                          refine hK.out _ _ ?_ (fun hH02 => ?_)
                          · (try dsimp only)
                            go_keep
                          clear hK K hH0
                          have hH0 := hH02
                          clear hH02
                          try simp only [Act.put, List.setIfInBounds_toArray, List.set_cons_zero, List.set_cons_succ]
                          refine wpAnyH_done (by kernel_rfl) ?_ _
                          refine NoPanic.normal ?_
                          go_wp2_with fail
                          go_roundg (l.length - (j + 1))
                          case measure => omega
                          case rel => exact ⟨j + 1, by omega, by omega, by go_num, ⟨_, HI5.out.step hlt hsW hBl (by rw [hy.out]; exact ho6.out) (hb6.out.mono (Nat.zero_le _)) hg6.out hat6.out⟩⟩
                        exact AllReadyH.nil
                      exact AllReadyH.nil
                    exact AllReadyH.nil
                  exact AllReadyH.nil
                exact AllReadyH.nil
              exact AllReadyH.nil
          · have hltz : ¬ (j : Int) < (l.length : Int) := by omega
            obtain rfl : j = l.length := by omega
            have bz : wr.heap[W.heap.size + 1]? = _ := (HI.ag.2 (W.heap.size + 1) (by omega) (by omega)).trans T.out.two.b
            obtain ⟨r0, r1, r2, r3, r4, r5⟩ := six bz
            have rf := blk_frozen bz
            have bz' := Aside0.mk bz
            clear bz hj hg hlt
            have e : l.take l.length = l := List.take_length
            rw [e] at HI b5
            have hfin := Aside0.mk (fun wf (hf : Agree (fun i => i ≠ W.heap.size + 1) wr wf) => LI.fin T.out HI hs0 hf)
            clear e HI HJ
            go_wp2_with fail
            refine bodyPost_ret (results_cell26 rfl _ _ _ (set_six bz'.out _ _ _ _ _ _) rfl) rfl ?_
            obtain ⟨hbel, hlie⟩ := hfin.out _ (Agree.six wr _ _ _ _ _ _ _ _ (fun i hi => hi))
            exact ⟨V3, e3, V4, e4, A, c, rfl, hbel, hlie⟩
end Go.Proofs.YtmlcaecknocpoaaDoor.It
namespace Go.Proofs.YtmlcaecknocpoaaDoor.It
open Go Go.RowKit Go.Shelf Go.Proofs.YtmlcaecknocpoaaDoorW.PrintWords Go.Proofs.YtmlcaecknocpoaaDoorW.PrintLast Go.Proofs.YtmlcaecknocpoaaDoor.Pr Go.Proofs.YtmlcaecknocpoaaDoor.Sp
attribute [local go_sem ↓] Go.wp_at_zero Go.wp_at_succ
set_option maxRecDepth 100000 in
set_option maxHeartbeats 8000000 in
theorem right_leaf (k : Int) (nm : ByteArray) (n : Int) (ts : List S47) (bs : List S42) (l : List S26) (A3 : Option Addr) (c3 : Nat) (A4 : Option Addr) (c4 : Nat) (A5 : Option Addr) (c5 : Nat) (w0 W : World)
    (hat : At w0 ⟨k, nm, n, ts, bs, l⟩ A3 c3 A4 c4 A5 c5) (hb : Below w0.heap.size w0 W) (tn : Bool) (k1 : Int) (hk : always k n = true ∧ k1 = (if tn then 2 else 1) ∨ always k n = false ∧ k = 2 ∧ k1 = (if tn then 1 else 2)) :
    Calls Tryd.prog 60 #[.agg #[.int .i64 k, .string nm, .int .i64 n, .slice A3 ts.length c3, .slice A4 bs.length c4, .slice A5 l.length c5], .bool tn] W fun e w' =>
      e = .returned (.agg #[.int .i64 k1, .string ⟨#[]⟩, .int .i64 0, .slice none 0 0, .slice none 0 0, .slice none 0 0]) ∧ Below W.heap.size W w' := by
  have hu26 := Tryd.underlying26
  have HB := Aside0.mk hb
  have HA := Aside0.mk (fun W1 (h1 : Below w0.heap.size w0 W1) => always_calls ⟨k, nm, n, ts, bs, l⟩ A3 c3 A4 c4 A5 c5 W1 (hat.below h1))
  clear hat hb
  have T0 := Aside0.mk (Two.start HB.out k nm n ts bs l A3 c3 A4 c4 A5 c5)
  rcases hk with ⟨ha, hk1⟩ | ⟨ha, hk, hk1⟩
  · have h2 : k ≠ 2 := by rintro rfl; simp [always] at ha
    rw [ha] at HA
    clear ha
    cases tn
    · obtain rfl : k1 = 1 := by simpa using hk1
      clear hk1
      go_enter Tryd.func60, Tryd.ntmps60
      go_wp2_with (first
        | (go_at_call 93; refine (HA.out _ T0.out.h0).mono ?_; rintro e w1 ⟨rfl, g1⟩; have T1 := Aside0.mk (T0.out.below g1); clear T0 g1; obtain ⟨p0, p1, p2, p3, p4, p5⟩ := six T1.out.a; obtain ⟨r0, r1, r2, r3, r4, r5⟩ := six T1.out.b; have rf := blk_frozen T1.out.b; have ps := T1.out.s)
        | (go_at_call 93; refine (HA.out _ T1.out.h0).mono ?_; rintro e w2 ⟨rfl, g2⟩; have T2 := Aside0.mk (T1.out.below g2); clear T1 g2 p0 p1 p2 p3 p4 p5 ps r0 r1 r2 r3 r4 r5 rf; obtain ⟨q0, q1, q2, q3, q4, q5⟩ := six T2.out.a; obtain ⟨r0, r1, r2, r3, r4, r5⟩ := six T2.out.b; have rf := blk_frozen T2.out.b; have qs := T2.out.s))
      refine bodyPost_ret (results_cell26 rfl _ _ _ (set_six T2.out.b _ _ _ _ _ _) rfl) rfl ?_
      exact ⟨rfl, T2.out.h.trans ((Agree.six _ _ _ _ _ _ _ _ (fun i => i < W.heap.size) (fun i hi => by omega)).low (fun _ h => h) (by have := T2.out.s; omega))⟩
    · obtain rfl : k1 = 2 := by simpa using hk1
      clear hk1
      go_enter Tryd.func60, Tryd.ntmps60
      go_wp2_with (first
        | (go_at_call 93; refine (HA.out _ T0.out.h0).mono ?_; rintro e w1 ⟨rfl, g1⟩; have T1 := Aside0.mk (T0.out.below g1); clear T0 g1; obtain ⟨p0, p1, p2, p3, p4, p5⟩ := six T1.out.a; obtain ⟨r0, r1, r2, r3, r4, r5⟩ := six T1.out.b; have rf := blk_frozen T1.out.b; have ps := T1.out.s)
        | (go_at_call 93; refine (HA.out _ T1.out.h0).mono ?_; rintro e w2 ⟨rfl, g2⟩; have T2 := Aside0.mk (T1.out.below g2); clear T1 g2 p0 p1 p2 p3 p4 p5 ps r0 r1 r2 r3 r4 r5 rf; obtain ⟨q0, q1, q2, q3, q4, q5⟩ := six T2.out.a; obtain ⟨r0, r1, r2, r3, r4, r5⟩ := six T2.out.b; have rf := blk_frozen T2.out.b; have qs := T2.out.s))
      refine bodyPost_ret (results_cell26 rfl _ _ _ (set_six T1.out.b _ _ _ _ _ _) rfl) rfl ?_
      exact ⟨rfl, T1.out.h.trans ((Agree.six _ _ _ _ _ _ _ _ (fun i => i < W.heap.size) (fun i hi => by omega)).low (fun _ h => h) (by have := T1.out.s; omega))⟩
  · rw [ha] at HA
    clear ha
    subst hk
    cases tn
    · obtain rfl : k1 = 2 := by simpa using hk1
      clear hk1
      go_enter Tryd.func60, Tryd.ntmps60
      go_wp2_with (first
        | (go_at_call 93; refine (HA.out _ T0.out.h0).mono ?_; rintro e w1 ⟨rfl, g1⟩; have T1 := Aside0.mk (T0.out.below g1); clear T0 g1; obtain ⟨p0, p1, p2, p3, p4, p5⟩ := six T1.out.a; obtain ⟨r0, r1, r2, r3, r4, r5⟩ := six T1.out.b; have rf := blk_frozen T1.out.b; have ps := T1.out.s)
        | (go_at_call 93; refine (HA.out _ T1.out.h0).mono ?_; rintro e w2 ⟨rfl, g2⟩; have T2 := Aside0.mk (T1.out.below g2); clear T1 g2 p0 p1 p2 p3 p4 p5 ps r0 r1 r2 r3 r4 r5 rf; obtain ⟨q0, q1, q2, q3, q4, q5⟩ := six T2.out.a; obtain ⟨r0, r1, r2, r3, r4, r5⟩ := six T2.out.b; have rf := blk_frozen T2.out.b; have qs := T2.out.s))
      refine bodyPost_ret (results_cell26 rfl _ _ _ (set_six T1.out.b _ _ _ _ _ _) rfl) rfl ?_
      exact ⟨rfl, T1.out.h.trans ((Agree.six _ _ _ _ _ _ _ _ (fun i => i < W.heap.size) (fun i hi => by omega)).low (fun _ h => h) (by have := T1.out.s; omega))⟩
    · obtain rfl : k1 = 1 := by simpa using hk1
      clear hk1
      go_enter Tryd.func60, Tryd.ntmps60
      go_wp2_with (first
        | (go_at_call 93; refine (HA.out _ T0.out.h0).mono ?_; rintro e w1 ⟨rfl, g1⟩; have T1 := Aside0.mk (T0.out.below g1); clear T0 g1; obtain ⟨p0, p1, p2, p3, p4, p5⟩ := six T1.out.a; obtain ⟨r0, r1, r2, r3, r4, r5⟩ := six T1.out.b; have rf := blk_frozen T1.out.b; have ps := T1.out.s)
        | (go_at_call 93; refine (HA.out _ T1.out.h0).mono ?_; rintro e w2 ⟨rfl, g2⟩; have T2 := Aside0.mk (T1.out.below g2); clear T1 g2 p0 p1 p2 p3 p4 p5 ps r0 r1 r2 r3 r4 r5 rf; obtain ⟨q0, q1, q2, q3, q4, q5⟩ := six T2.out.a; obtain ⟨r0, r1, r2, r3, r4, r5⟩ := six T2.out.b; have rf := blk_frozen T2.out.b; have qs := T2.out.s))
      refine bodyPost_ret (results_cell26 rfl _ _ _ (set_six T2.out.b _ _ _ _ _ _) rfl) rfl ?_
      exact ⟨rfl, T2.out.h.trans ((Agree.six _ _ _ _ _ _ _ _ (fun i => i < W.heap.size) (fun i hi => by omega)).low (fun _ h => h) (by have := T2.out.s; omega))⟩
set_option maxRecDepth 100000 in
set_option maxHeartbeats 8000000 in
theorem right_not (s : Nat) (hS : RightOk s) (nm : ByteArray) (n : Int) (ts : List S47) (bs : List S42) (l : List S26) (A3 : Option Addr) (c3 : Nat) (A4 : Option Addr) (c4 : Nat) (A5 : Option Addr) (c5 : Nat) (w0 W : World)
    (hs : sizes l ≤ s) (hat : At w0 ⟨10, nm, n, ts, bs, l⟩ A3 c3 A4 c4 A5 c5) (hf : forms l = true) (hdp : ∀ y ∈ l, Deep y) (ht : Tabs w0) (hd : Duals w0) (hb : Below w0.heap.size w0 W) (hl : l.length = 1) (tn : Bool) :
    Calls Tryd.prog 60 #[.agg #[.int .i64 10, .string nm, .int .i64 n, .slice A3 ts.length c3, .slice A4 bs.length c4, .slice A5 l.length c5], .bool tn] W fun e w' => ∃ B3 d3 B4 d4 B5 d5,
      e = .returned (.agg #[.int .i64 (right (rd_T26 l 0) (!tn)).f0, .string (right (rd_T26 l 0) (!tn)).f1, .int .i64 (right (rd_T26 l 0) (!tn)).f2, .slice B3 (right (rd_T26 l 0) (!tn)).f3.length d3, .slice B4 (right (rd_T26 l 0) (!tn)).f4.length d4, .slice B5 (right (rd_T26 l 0) (!tn)).f5.length d5]) ∧
      Below W.heap.size W w' ∧ Lies (fun k => k < w0.heap.size ∨ W.heap.size ≤ k) w' (right (rd_T26 l 0) (!tn)) B3 d3 B4 d4 B5 d5 := by
  have hu26 := Tryd.underlying26
  have hlt : 0 < l.length := by omega
  have HA := Aside0.mk (fun W1 (h1 : Below w0.heap.size w0 W1) => always_calls ⟨10, nm, n, ts, bs, l⟩ A3 c3 A4 c4 A5 c5 W1 (hat.below h1))
  have ha : always 10 n = false := by simp [always]
  dsimp only at HA
  rw [ha] at HA
  clear ha
  obtain ⟨ad, B3, d3, B4, d4, B5, d5, hA5, hatj, x0, x1, x2, x3, x4, x5⟩ := formAt hat.g5 (Below.refl _ _) 0 hlt
  subst hA5
  obtain ⟨y, hy⟩ : ∃ y, rd_T26 l 0 = y := ⟨_, rfl⟩
  have hy' : rd_T26 l ((0 : Nat) : Int) = y := hy
  rw [hy'] at hatj x0 x1 x2 x3 x4 x5
  rw [hy]
  have HC := Aside0.mk (fun W1 (h1 : Below w0.heap.size w0 W1) => hS y (!tn) B3 d3 B4 d4 B5 d5 w0 W1 (by rw [← hy']; exact Nat.le_trans (by have := sizes_take l 0 hlt; omega) hs) hatj (by rw [← hy']; exact hdp _ (rd26_mem l 0 hlt)) (by rw [← hy']; exact forms_rd l hf 0 hlt) ht hd h1)
  have T0 := Aside0.mk (Two.start hb 10 nm n ts bs l A3 c3 A4 c4 (some ad) c5)
  have HX := Aside0.mk (And.intro x0 (And.intro x1 (And.intro x2 (And.intro x3 (And.intro x4 x5)))))
  have hsW := Aside0.mk hb.size
  clear hS hs hat hf hdp ht hd hatj hy hy' x0 x1 x2 x3 x4 x5 hb
  have hltz : (0 : Int) < (l.length : Int) := by omega
  clear hl hlt
  go_enter Tryd.func60, Tryd.ntmps60
  go_upto_region 6 with (first
        | (go_at_call 93; refine (HA.out _ T0.out.h0).mono ?_; rintro e w1 ⟨rfl, g1⟩; have T1 := Aside0.mk (T0.out.below g1); clear T0 g1; obtain ⟨p0, p1, p2, p3, p4, p5⟩ := six T1.out.a; obtain ⟨r0, r1, r2, r3, r4, r5⟩ := six T1.out.b; have rf := blk_frozen T1.out.b; have ps := T1.out.s)
        | (go_at_call 93; refine (HA.out _ T1.out.h0).mono ?_; rintro e w2 ⟨rfl, g2⟩; have T2 := Aside0.mk (T1.out.below g2); clear T1 g2 p0 p1 p2 p3 p4 p5 ps r0 r1 r2 r3 r4 r5 rf; obtain ⟨q0, q1, q2, q3, q4, q5⟩ := six T2.out.a; obtain ⟨r0, r1, r2, r3, r4, r5⟩ := six T2.out.b; have rf := blk_frozen T2.out.b; have qs := T2.out.s)
        | (go_at_call 60; refine (HC.out _ T2.out.h0).mono ?_; rintro e w3 ⟨D3, f3, D4, f4, D5, f5, rfl, g3, hl3⟩; have T3 := Aside0.mk (T2.out.below g3); replace hl3 := Aside0.mk hl3; clear q0 q1 q2 q3 q4 q5 r0 r1 r2 r3 r4 r5 rf; obtain ⟨r0, r1, r2, r3, r4, r5⟩ := six T3.out.b; have rf := blk_frozen T3.out.b; have ts := T3.out.s))
  obtain ⟨x0, x1, x2, x3, x4, x5⟩ := HX.out
  simp only [Nat.zero_mul, Addr.add_zero'] at x0 x1 x2 x3 x4 x5
  have up := T2.out.h0
  replace x0 := up_cell up x0
  replace x1 := up_cell up x1
  replace x2 := up_cell up x2
  replace x3 := up_cell up x3
  replace x4 := up_cell up x4
  replace x5 := up_cell up x5
  clear up HA HX
  go_wp2_with (go_at_call 60; refine (HC.out _ T2.out.h0).mono ?_; rintro e w3 ⟨D3, f3, D4, f4, D5, f5, rfl, g3, hl3⟩; have T3 := Aside0.mk (T2.out.below g3); replace hl3 := Aside0.mk hl3; clear q0 q1 q2 q3 q4 q5 r0 r1 r2 r3 r4 r5 rf x0 x1 x2 x3 x4 x5; obtain ⟨r0, r1, r2, r3, r4, r5⟩ := six T3.out.b; have rf := blk_frozen T3.out.b; have ts := T3.out.s)
  refine bodyPost_ret (results_cell26 rfl _ _ _ (set_six T3.out.b _ _ _ _ _ _) rfl) rfl ?_
  have hs0 := hsW.out
  exact ⟨D3, f3, D4, f4, D5, f5, rfl, T3.out.h.trans ((Agree.six _ _ _ _ _ _ _ _ (fun i => i < W.heap.size) (fun i hi => by omega)).low (fun _ h => h) (by omega)), hl3.out.move (Agree.six _ _ _ _ _ _ _ _ _ (fun i hi => by omega)) (fun i hi _ => by omega)⟩
theorem row_one {w : World} {B : Nat} {y : S26} {D3 : Option Addr} {f3 : Nat} {D4 : Option Addr} {f4 : Nat} {D5 : Option Addr} {f5 : Nat} (hB : w.heap[B]? = some (.cells #[.int .i64 y.f0, .string y.f1, .int .i64 y.f2, .slice D3 y.f3.length f3, .slice D4 y.f4.length f4, .slice D5 y.f5.length f5] 26 (0, 0))) (hat : At w y D3 f3 D4 f4 D5 f5) :
    Kd.C k26 w (some ⟨B, 0, none⟩) [y].length [y] := by
  refine ⟨rfl, by simp, fun _ => ⟨⟨B, 0, none⟩, rfl, fun j p hj => ?_⟩⟩
  cases j with
  | zero =>
    obtain rfl : y = p := by simpa using hj
    refine ⟨_, rfl, hat.K, fun i u hu => ?_⟩
    have := World.news_of_block hB i u (by simpa [cl] using hu)
    simpa using this
  | succ j => simp at hj
set_option maxRecDepth 100000 in
set_option maxHeartbeats 8000000 in
theorem right_atom (k : Int) (nm : ByteArray) (n : Int) (ts : List S47) (bs : List S42) (l : List S26) (A3 : Option Addr) (c3 : Nat) (A4 : Option Addr) (c4 : Nat) (A5 : Option Addr) (c5 : Nat) (w0 W : World)
    (hat : At w0 ⟨k, nm, n, ts, bs, l⟩ A3 c3 A4 c4 A5 c5) (hb : Below w0.heap.size w0 W) (hk : atom k = true) (h9 : k ≠ 9) :
    Calls Tryd.prog 60 #[.agg #[.int .i64 k, .string nm, .int .i64 n, .slice A3 ts.length c3, .slice A4 bs.length c4, .slice A5 l.length c5], .bool true] W fun e w' => ∃ B3 d3 B4 d4 B5 d5,
      e = .returned (.agg #[.int .i64 10, .string ⟨#[]⟩, .int .i64 0, .slice B3 0 d3, .slice B4 0 d4, .slice B5 1 d5]) ∧
      Below W.heap.size W w' ∧ Lies (fun k => k < w0.heap.size ∨ W.heap.size ≤ k) w' ⟨10, e0, 0, [], [], [⟨k, nm, n, ts, bs, l⟩]⟩ B3 d3 B4 d4 B5 d5 := by
  have hu26 := Tryd.underlying26
  have hk' : 3 ≤ k ∧ k ≤ 9 := by simpa [atom] using hk
  have h2 : k ≠ 2 := by omega
  have h10 : k ≠ 10 := by omega
  have h13 : k ≠ 13 := by omega
  have HA := Aside0.mk (fun W1 (h1 : Below w0.heap.size w0 W1) => always_calls ⟨k, nm, n, ts, bs, l⟩ A3 c3 A4 c4 A5 c5 W1 (hat.below h1))
  have ha : always k n = false := by simp [always]; omega
  dsimp only at HA
  rw [ha] at HA
  clear ha hk'
  have T0 := Aside0.mk (Two.start hb k nm n ts bs l A3 c3 A4 c4 A5 c5)
  have H := Aside0.mk (And.intro hat hb)
  clear hat hb
  go_enter Tryd.func60, Tryd.ntmps60
  go_wp2_with (first
        | (go_at_call 93; refine (HA.out _ T0.out.h0).mono ?_; rintro e w1 ⟨rfl, g1⟩; have T1 := Aside0.mk (T0.out.below g1); clear T0 g1; obtain ⟨p0, p1, p2, p3, p4, p5⟩ := six T1.out.a; obtain ⟨r0, r1, r2, r3, r4, r5⟩ := six T1.out.b; have rf := blk_frozen T1.out.b; have ps := T1.out.s)
        | (go_at_call 93; refine (HA.out _ T1.out.h0).mono ?_; rintro e w2 ⟨rfl, g2⟩; have T2 := Aside0.mk (T1.out.below g2); clear T1 g2 p0 p1 p2 p3 p4 p5 ps r0 r1 r2 r3 r4 r5 rf; obtain ⟨q0, q1, q2, q3, q4, q5⟩ := six T2.out.a; obtain ⟨r0, r1, r2, r3, r4, r5⟩ := six T2.out.b; have rf := blk_frozen T2.out.b; have qs := T2.out.s; have qt : W.heap.size + 1 < w2.heap.size := Nat.lt_of_lt_of_le (Nat.lt_succ_self _) T2.out.s)
        | (go_at_call 80; refine (atom_calls _ _).mono ?_; rintro e w3 ⟨rfl, rfl⟩))
  have hs0 := H.out.2.size
  have sA := fun ok h => Agree.six w2 (W.heap.size + 1) (.int .i64 10) (.string ⟨#[]⟩) (.int .i64 0) (.slice none 0 0) (.slice none 0 0) (.slice (some ⟨w2.heap.size, 0, none⟩) 1 1) ok h
  have sB := set_six T2.out.b (.int .i64 10) (.string ⟨#[]⟩) (.int .i64 0) (.slice none 0 0) (.slice none 0 0) (.slice (some ⟨w2.heap.size, 0, none⟩) 1 1)
  obtain ⟨ws, hws⟩ : ∃ ws, ((((((w2.setCell ⟨W.heap.size + 1, 0, none⟩ (.int .i64 10)).setCell ⟨W.heap.size + 1, 1, none⟩ (.string ⟨#[]⟩)).setCell ⟨W.heap.size + 1, 2, none⟩ (.int .i64 0)).setCell ⟨W.heap.size + 1, 3, none⟩ (.slice none 0 0)).setCell ⟨W.heap.size + 1, 4, none⟩ (.slice none 0 0)).setCell ⟨W.heap.size + 1, 5, none⟩ (.slice (some ⟨w2.heap.size, 0, none⟩) 1 1)) = ws := ⟨_, rfl⟩
  have hsz : ws.heap.size = w2.heap.size := by rw [← hws]; simp
  rw [hws] at sA sB ⊢
  clear hws
  have hn := heap_new ws (.cells #[.int .i64 k, .string nm, .int .i64 n, .slice A3 ts.length c3, .slice A4 bs.length c4, .slice A5 l.length c5] 26)
  rw [hsz] at hn
  refine bodyPost_ret (results_cell26 rfl _ _ _ (blk_below ((Below.refl _ _).alloc (Nat.le_refl _) _) sB) rfl) rfl ?_
  refine ⟨none, 0, none, 0, some ⟨w2.heap.size, 0, none⟩, 1, rfl, T2.out.h.trans (((sA (fun i => i < W.heap.size) (fun i hi => by omega)).low (fun _ h => h) (by omega)).alloc (by omega) _), fun w1 h1 => ?_⟩
  have hx : Lies (fun i => i < w0.heap.size) w2 ⟨k, nm, n, ts, bs, l⟩ A3 c3 A4 c4 A5 c5 := H.out.1.lies T2.out.h0 _ (fun _ h => h)
  have a1 : Agree (fun i => i < w0.heap.size ∨ W.heap.size + 2 ≤ i) w2 w1 := ((sA _ (fun i hi => by omega)).trans (Agree.alloc ws _ (fun _ => True)) (fun _ _ _ => trivial)).trans h1 (fun i hi _ => by omega)
  exact ⟨Nat.le_refl _, Kd.C_nil _ _, Nat.le_refl _, Kd.C_nil _ _, Nat.le_refl _, row_one ((h1.2 w2.heap.size (by omega) (by simp; omega)).trans hn) (hx w1 (a1.mono (fun i hi _ => .inl hi)))⟩
end Go.Proofs.YtmlcaecknocpoaaDoor.It
namespace Go.Proofs.YtmlcaecknocpoaaDoor.It
open Go Go.RowKit Go.Shelf Go.Proofs.YtmlcaecknocpoaaDoorW.PrintWords Go.Proofs.YtmlcaecknocpoaaDoorW.PrintLast Go.Proofs.YtmlcaecknocpoaaDoor.Pr Go.Proofs.YtmlcaecknocpoaaDoor.Sp
attribute [local go_sem ↓] Go.wp_at_zero Go.wp_at_succ
theorem up6 {w w1 : World} (hb : Below w.heap.size w w1) {a0 a1 a2 a3 a4 a5 : Addr} {v0 v1 v2 v3 v4 v5 : Value} (h : w.cell? a0 = some v0 ∧ w.cell? a1 = some v1 ∧ w.cell? a2 = some v2 ∧ w.cell? a3 = some v3 ∧ w.cell? a4 = some v4 ∧ w.cell? a5 = some v5) :
    w1.cell? a0 = some v0 ∧ w1.cell? a1 = some v1 ∧ w1.cell? a2 = some v2 ∧ w1.cell? a3 = some v3 ∧ w1.cell? a4 = some v4 ∧ w1.cell? a5 = some v5 :=
  ⟨up_cell hb h.1, up_cell hb h.2.1, up_cell hb h.2.2.1, up_cell hb h.2.2.2.1, up_cell hb h.2.2.2.2.1, up_cell hb h.2.2.2.2.2⟩
theorem ne_ad {w0 w : World} {b : Nat} (h : b < w0.heap.size) (hb : Below w0.heap.size w0 w) : w.heap.size ≠ b := by have := hb.size; omega
theorem heap_new_of {w ws : World} (h : ws.heap.size = w.heap.size) (o : Obj) : (ws.alloc o).heap[w.heap.size]? = some o := by rw [← h]; exact heap_new ws o
theorem row_two {w : World} {G : Nat} {y z : S26} {D3 : Option Addr} {f3 : Nat} {D4 : Option Addr} {f4 : Nat} {D5 : Option Addr} {f5 : Nat} {E3 : Option Addr} {g3 : Nat} {E4 : Option Addr} {g4 : Nat} {E5 : Option Addr} {g5 : Nat}
    (hG : w.heap[G]? = some (.cells #[.int .i64 y.f0, .string y.f1, .int .i64 y.f2, .slice D3 y.f3.length f3, .slice D4 y.f4.length f4, .slice D5 y.f5.length f5, .int .i64 z.f0, .string z.f1, .int .i64 z.f2, .slice E3 z.f3.length g3, .slice E4 z.f4.length g4, .slice E5 z.f5.length g5] 26 (0, 0)))
    (hy : At w y D3 f3 D4 f4 D5 f5) (hz : At w z E3 g3 E4 g4 E5 g5) : Kd.C k26 w (some ⟨G, 0, none⟩) 2 [y, z] := by
  refine ⟨rfl, by omega, fun _ => ⟨⟨G, 0, none⟩, rfl, fun j p hj => ?_⟩⟩
  have hn := World.news_of_block hG
  cases j with
  | zero =>
    obtain rfl : y = p := by simpa using hj
    refine ⟨_, rfl, hy.K, fun i u hu => ?_⟩
    rw [Nat.zero_mul, Nat.zero_add]
    refine hn i u ?_
    match i, hu with
    | 0, hu => exact hu
    | 1, hu => exact hu
    | 2, hu => exact hu
    | 3, hu => exact hu
    | 4, hu => exact hu
    | 5, hu => exact hu
    | i + 6, hu => simp [cl] at hu
  | succ j =>
    cases j with
    | zero =>
      obtain rfl : z = p := by simpa using hj
      refine ⟨_, rfl, hz.K, fun i u hu => ?_⟩
      refine hn (1 * 6 + i) u ?_
      match i, hu with
      | 0, hu => exact hu
      | 1, hu => exact hu
      | 2, hu => exact hu
      | 3, hu => exact hu
      | 4, hu => exact hu
      | 5, hu => exact hu
      | i + 6, hu => simp [cl] at hu
    | succ j => simp at hj
structure ImpSt (w0 W wx : World) (B G : Nat) (k : Int) (nm : ByteArray) (n : Int) (ts : List S47) (bs : List S42) (l : List S26) (A3 : Option Addr) (c3 : Nat) (A4 : Option Addr) (c4 : Nat) (A5 : Option Addr) (c5 : Nat) (k1 : Int) (y z : S26) : Prop where
  two : Two w0 W wx k nm n ts bs l A3 c3 A4 c4 A5 c5
  hB : W.heap.size + 2 ≤ B
  box : wx.heap[B]? = some (.cells #[.int .i64 k1, .string ⟨#[]⟩, .int .i64 0, .slice none 0 0, .slice none 0 0, .slice (some ⟨G, 0, none⟩) 2 2] 26 (0, 0))
  row : ∀ w1, Agree (fun i => (i < w0.heap.size ∨ W.heap.size + 2 ≤ i) ∧ i ≠ B) wx w1 → Kd.C k26 w1 (some ⟨G, 0, none⟩) 2 [y, z]
theorem ImpSt.mk' {w0 W w3 w4 wx : World} {B G : Nat} {k : Int} {nm : ByteArray} {n : Int} {ts : List S47} {bs : List S42} {l : List S26} {A3 : Option Addr} {c3 : Nat} {A4 : Option Addr} {c4 : Nat} {A5 : Option Addr} {c5 : Nat} {y z : S26} {D3 : Option Addr} {f3 : Nat} {D4 : Option Addr} {f4 : Nat} {D5 : Option Addr} {f5 : Nat} {E3 : Option Addr} {g3 : Nat} {E4 : Option Addr} {g4 : Nat} {E5 : Option Addr} {g5 : Nat} {na nb : Nat}
    (T : Two w0 W w4 k nm n ts bs l A3 c3 A4 c4 A5 c5) (hw : w0.heap.size ≤ W.heap.size) (hB : W.heap.size + 2 ≤ B) (hna : W.heap.size + 2 ≤ na) (hnb : W.heap.size + 2 ≤ nb) (hBa : B < na ∨ w3.heap.size ≤ B) (hBb : B < nb ∨ w4.heap.size ≤ B)
    (ly : Lies (fun i => i < w0.heap.size ∨ na ≤ i) w3 y D3 f3 D4 f4 D5 f5) (lz : Lies (fun i => i < w0.heap.size ∨ nb ≤ i) w4 z E3 g3 E4 g4 E5 g5) (h34 : Below w3.heap.size w3 w4) (ha : Agree (fun i => i ≠ B) w4 wx)
    (hbox : wx.heap[B]? = some (.cells #[.int .i64 12, .string ⟨#[]⟩, .int .i64 0, .slice none 0 0, .slice none 0 0, .slice (some ⟨G, 0, none⟩) 2 2] 26 (0, 0)))
    (hG : wx.heap[G]? = some (.cells #[.int .i64 y.f0, .string y.f1, .int .i64 y.f2, .slice D3 y.f3.length f3, .slice D4 y.f4.length f4, .slice D5 y.f5.length f5, .int .i64 z.f0, .string z.f1, .int .i64 z.f2, .slice E3 z.f3.length g3, .slice E4 z.f4.length g4, .slice E5 z.f5.length g5] 26 (0, 0)))
    (hGn : W.heap.size + 2 ≤ G) (hGB : G ≠ B) : ImpSt w0 W wx B G k nm n ts bs l A3 c3 A4 c4 A5 c5 12 y z :=
  ⟨T.agree hw (ha.mono (fun i hi _ => by omega)), hB, hbox, fun w1 h1 => row_two ((h1.2 G ⟨.inr hGn, hGB⟩ (Array.getElem?_eq_some_iff.1 hG).1).trans hG)
    (ly w1 (((Agree.of_below (ok := fun i => (i < w0.heap.size ∨ na ≤ i) ∧ i < w3.heap.size) h34 (fun _ _ h => h)).trans ha (fun i hi _ => by omega)).trans h1 (fun i hi _ => ⟨by omega, by omega⟩) |>.mono (fun i hi hl => ⟨hi, hl⟩)))
    (lz w1 (((ha.mono (ok' := fun i => (i < w0.heap.size ∨ nb ≤ i) ∧ i < w4.heap.size) (fun i hi _ => by omega)).trans h1 (fun i hi _ => ⟨by omega, by omega⟩)).mono (fun i hi hl => ⟨hi, hl⟩)))⟩
set_option maxRecDepth 100000 in
set_option maxHeartbeats 8000000 in
theorem right_imp (s : Nat) (hS : RightOk s) (nm : ByteArray) (n : Int) (ts : List S47) (bs : List S42) (l : List S26) (A3 : Option Addr) (c3 : Nat) (A4 : Option Addr) (c4 : Nat) (A5 : Option Addr) (c5 : Nat) (w0 W : World)
    (hs : sizes l ≤ s) (hat : At w0 ⟨13, nm, n, ts, bs, l⟩ A3 c3 A4 c4 A5 c5) (hf : forms l = true) (hdp : ∀ y ∈ l, Deep y) (ht : Tabs w0) (hd : Duals w0) (hb : Below w0.heap.size w0 W) (hl : l.length = 2) (tn : Bool) :
    Calls Tryd.prog 60 #[.agg #[.int .i64 13, .string nm, .int .i64 n, .slice A3 ts.length c3, .slice A4 bs.length c4, .slice A5 l.length c5], .bool tn] W fun e w' => ∃ B3 d3 B4 d4 B5 d5,
      e = .returned (.agg #[.int .i64 (if tn then 11 else 12), .string ⟨#[]⟩, .int .i64 0, .slice B3 0 d3, .slice B4 0 d4, .slice B5 2 d5]) ∧
      Below W.heap.size W w' ∧ Lies (fun k => k < w0.heap.size ∨ W.heap.size ≤ k) w' ⟨if tn then 11 else 12, e0, 0, [], [], [right (rd_T26 l 0) (!tn), right (rd_T26 l 1) tn]⟩ B3 d3 B4 d4 B5 d5 := by
  have hu26 := Tryd.underlying26
  have hl0 : 0 < l.length := by omega
  have hl1 : 1 < l.length := by omega
  have HA := Aside0.mk (fun W1 (h1 : Below w0.heap.size w0 W1) => always_calls ⟨13, nm, n, ts, bs, l⟩ A3 c3 A4 c4 A5 c5 W1 (hat.below h1))
  have ha : always 13 n = false := by simp [always]
  dsimp only at HA
  rw [ha] at HA
  clear ha
  obtain ⟨ad, B3, d3, B4, d4, B5, d5, hA5, hatj, x0, x1, x2, x3, x4, x5⟩ := formAt hat.g5 (Below.refl _ _) 0 hl0
  obtain ⟨ad', B6, d6, B7, d7, B8, d8, hA5', hatk, z0, z1, z2, z3, z4, z5⟩ := formAt hat.g5 (Below.refl _ _) 1 hl1
  subst hA5
  obtain rfl : ad = ad' := by injection hA5'
  clear hA5'
  obtain ⟨y, hy⟩ : ∃ y, rd_T26 l 0 = y := ⟨_, rfl⟩
  have hy' : rd_T26 l ((0 : Nat) : Int) = y := hy
  obtain ⟨z, hz⟩ : ∃ z, rd_T26 l 1 = z := ⟨_, rfl⟩
  have hz' : rd_T26 l ((1 : Nat) : Int) = z := hz
  rw [hy'] at hatj x0 x1 x2 x3 x4 x5
  rw [hz'] at hatk z0 z1 z2 z3 z4 z5
  rw [hy, hz]
  simp only [Nat.zero_mul, Nat.one_mul, Addr.add_zero'] at x0 x1 x2 x3 x4 x5 z0 z1 z2 z3 z4 z5
  have e6 : ad.add 6 = ⟨ad.block, ad.off + 6, none⟩ := rfl
  rw [e6] at z0 z1 z2 z3 z4 z5
  dsimp only at z0 z1 z2 z3 z4 z5
  clear e6
  have HC := Aside0.mk (fun W1 (h1 : Below w0.heap.size w0 W1) => hS y (!tn) B3 d3 B4 d4 B5 d5 w0 W1 (by rw [← hy']; exact Nat.le_trans (by have := sizes_take l 0 hl0; omega) hs) hatj (by rw [← hy']; exact hdp _ (rd26_mem l 0 hl0)) (by rw [← hy']; exact forms_rd l hf 0 hl0) ht hd h1)
  have HD := Aside0.mk (fun W1 (h1 : Below w0.heap.size w0 W1) => hS z tn B6 d6 B7 d7 B8 d8 w0 W1 (by rw [← hz']; exact Nat.le_trans (by have := sizes_take l 1 hl1; omega) hs) hatk (by rw [← hz']; exact hdp _ (rd26_mem l 1 hl1)) (by rw [← hz']; exact forms_rd l hf 1 hl1) ht hd h1)
  have T0 := Aside0.mk (Two.start hb 13 nm n ts bs l A3 c3 A4 c4 (some ad) c5)
  have hadl := Aside0.mk (show ad.block < w0.heap.size from World.block_lt_of_cell? w0 _ x0)
  have HX := Aside0.mk (And.intro x0 (And.intro x1 (And.intro x2 (And.intro x3 (And.intro x4 x5)))))
  have HY := Aside0.mk (And.intro z0 (And.intro z1 (And.intro z2 (And.intro z3 (And.intro z4 z5)))))
  have hsW := Aside0.mk hb.size
  clear hS hs hat hf hdp ht hd hatj hatk hy hy' hz hz' x0 x1 x2 x3 x4 x5 z0 z1 z2 z3 z4 z5 hb
  have hltz : (0 : Int) < (l.length : Int) := by omega
  have hltz1 : (1 : Int) < (l.length : Int) := by omega
  have hne : l ≠ [] := by rintro rfl; simp at hl0
  clear hl hl1
  obtain ⟨ry, hry⟩ : ∃ ry, right y (!tn) = ry := ⟨_, rfl⟩
  obtain ⟨rz, hrz⟩ : ∃ rz, right z tn = rz := ⟨_, rfl⟩
  rw [hry] at HC ⊢
  rw [hrz] at HD ⊢
  clear hry hrz
  go_enter Tryd.func60, Tryd.ntmps60
  go_upto_region 8 with (first
        | (go_at_call 93; refine (HA.out _ T0.out.h0).mono ?_; rintro e w1 ⟨rfl, g1⟩; have T1 := Aside0.mk (T0.out.below g1); clear T0 g1; obtain ⟨p0, p1, p2, p3, p4, p5⟩ := six T1.out.a; have ps := T1.out.s)
        | (go_at_call 93; refine (HA.out _ T1.out.h0).mono ?_; rintro e w2 ⟨rfl, g2⟩; have T2 := Aside0.mk (T1.out.below g2); clear T1 g2 p0 p1 p2 p3 p4 p5 ps; obtain ⟨q0, q1, q2, q3, q4, q5⟩ := six T2.out.a; have qs := T2.out.s))
  clear HA
  obtain ⟨u0, u1, u2, u3, u4, u5⟩ := up6 T2.out.h0 HX.out
  obtain ⟨v0, v1, v2, v3, v4, v5⟩ := up6 T2.out.h0 HY.out
  go_cut [5] (fun s5 wx => ∃ B G, s5 = .pointer (some ⟨B, 0, none⟩) ∧ Aside0 (ImpSt w0 W wx B G 13 nm n ts bs l A3 c3 A4 c4 (some ad) c5 12 ry rz))
  case first =>
    go_region_held3 (fun w' => w'.cell? ⟨W.heap.size, 5, none⟩ = some (.slice (some ad) l.length c5) ∧ w'.cell? ad = some (.int .i64 y.f0) ∧ w'.cell? ⟨ad.block, ad.off + 1, none⟩ = some (.string y.f1) ∧ w'.cell? ⟨ad.block, ad.off + 2, none⟩ = some (.int .i64 y.f2) ∧ w'.cell? ⟨ad.block, ad.off + 3, none⟩ = some (.slice B3 y.f3.length d3) ∧ w'.cell? ⟨ad.block, ad.off + 4, none⟩ = some (.slice B4 y.f4.length d4) ∧ w'.cell? ⟨ad.block, ad.off + 5, none⟩ = some (.slice B5 y.f5.length d5) ∧
        w'.cell? ⟨ad.block, ad.off + 6, none⟩ = some (.int .i64 z.f0) ∧ w'.cell? ⟨ad.block, ad.off + 6 + 1, none⟩ = some (.string z.f1) ∧ w'.cell? ⟨ad.block, ad.off + 6 + 2, none⟩ = some (.int .i64 z.f2) ∧ w'.cell? ⟨ad.block, ad.off + 6 + 3, none⟩ = some (.slice B6 z.f3.length d6) ∧ w'.cell? ⟨ad.block, ad.off + 6 + 4, none⟩ = some (.slice B7 z.f4.length d7) ∧ w'.cell? ⟨ad.block, ad.off + 6 + 5, none⟩ = some (.slice B8 z.f5.length d8)) (go_keep)
      (first
        | (go_at_call 60; with_reducible refine (HD.out _ T3.out.h0).mono ?_; rintro e w4 ⟨E3, h3, E4, h4, E5, h5, rfl, g4, l4⟩; have T4 := Aside0.mk (T3.out.below g4); replace l4 := Aside0.mk l4; have bz := Aside0.mk (blk_below g4 bx.out); obtain ⟨s0, s1, s2, s3, s4, s5⟩ := six T4.out.a; obtain ⟨u0, u1, u2, u3, u4, u5⟩ := up6 T4.out.h0 HX.out; obtain ⟨v0, v1, v2, v3, v4, v5⟩ := up6 T4.out.h0 HY.out; obtain ⟨z0, z1, z2, z3, z4, z5⟩ := six bz.out; have zf := blk_frozen bz.out; have zl : w2.heap.size < w4.heap.size := (Array.getElem?_eq_some_iff.1 bz.out).1; have zn := two_ne T2.out; have zn' := zn.symm; have za := ne_ad hadl.out T2.out.h0)
        | (go_at_call 60; with_reducible refine (HD.out _ (T3.out.alloc _).h0).mono ?_; rintro e w4 ⟨E3, h3, E4, h4, E5, h5, rfl, g4, l4⟩; have T4 := Aside0.mk ((T3.out.alloc _).below g4); replace l4 := Aside0.mk l4; have bz := Aside0.mk (blk_below g4 (heap_new w3 _)); obtain ⟨s0, s1, s2, s3, s4, s5⟩ := six T4.out.a; obtain ⟨u0, u1, u2, u3, u4, u5⟩ := up6 T4.out.h0 HX.out; obtain ⟨v0, v1, v2, v3, v4, v5⟩ := up6 T4.out.h0 HY.out; obtain ⟨z0, z1, z2, z3, z4, z5⟩ := six bz.out; have zf := blk_frozen bz.out; have zl : w3.heap.size < w4.heap.size := (Array.getElem?_eq_some_iff.1 bz.out).1; have zn := two_ne T3.out; have zn' := zn.symm; have za := ne_ad hadl.out T3.out.h0)
        | (go_at_call 60; with_reducible refine (HD.out _ T3.out.h0).mono ?_; rintro e w4 ⟨E3, h3, E4, h4, E5, h5, rfl, g4, l4⟩; have T4 := Aside0.mk (T3.out.below g4); replace l4 := Aside0.mk l4; obtain ⟨s0, s1, s2, s3, s4, s5⟩ := six T4.out.a; obtain ⟨u0, u1, u2, u3, u4, u5⟩ := up6 T4.out.h0 HX.out; obtain ⟨v0, v1, v2, v3, v4, v5⟩ := up6 T4.out.h0 HY.out)
        | (go_at_call 60; with_reducible refine (HC.out _ T2.out.drew.h0).mono ?_; rintro e w3 ⟨D3, f3, D4, f4, D5, f5, rfl, g3, l3⟩; have T3 := Aside0.mk (T2.out.drew.below g3); replace l3 := Aside0.mk l3; obtain ⟨s0, s1, s2, s3, s4, s5⟩ := six T3.out.a; obtain ⟨u0, u1, u2, u3, u4, u5⟩ := up6 T3.out.h0 HX.out; obtain ⟨v0, v1, v2, v3, v4, v5⟩ := up6 T3.out.h0 HY.out)
        | (go_at_call 60; with_reducible refine (HC.out _ (T2.out.alloc _).drew.h0).mono ?_; rintro e w3 ⟨D3, f3, D4, f4, D5, f5, rfl, g3, l3⟩; have T3 := Aside0.mk ((T2.out.alloc _).drew.below g3); replace l3 := Aside0.mk l3; obtain ⟨s0, s1, s2, s3, s4, s5⟩ := six T3.out.a; obtain ⟨u0, u1, u2, u3, u4, u5⟩ := up6 T3.out.h0 HX.out; obtain ⟨v0, v1, v2, v3, v4, v5⟩ := up6 T3.out.h0 HY.out; have bx := Aside0.mk (blk_below g3 (heap_new w2 _)); have by3 := Aside0.mk g3.size))
    · go_wp2_with fail
      go_meet
      exact ⟨_, _, rfl, ⟨ImpSt.mk' T4.out hsW.out (by have := T4.out.s; omega) T2.out.drew.s T3.out.s (.inr (by have := g4.size; omega)) (.inr (by omega)) l3.out l4.out g4
        ((Agree.alloc w4 _ (fun i => i ≠ w4.heap.size + 1)).trans (Agree.alloc _ _ (fun _ => True)) (fun _ _ _ => trivial)) (heap_new2b w4 _ _) (heap_new2a w4 _ _) T4.out.s (by omega)⟩⟩
    · go_wp2_with fail
      go_meet
      exact ⟨_, _, rfl, ⟨ImpSt.mk' T4.out hsW.out (by have := T4.out.s; omega) T2.out.drew.s T3.out.s (.inr (by have := g4.size; omega)) (.inr (by omega)) l3.out l4.out g4
        ((Agree.alloc w4 _ (fun i => i ≠ w4.heap.size)).trans (Agree.alloc _ _ (fun _ => True)) (fun _ _ _ => trivial)) (heap_new2a w4 _ _) (heap_new2b w4 _ _) (by have := T4.out.s; omega) (by omega)⟩⟩
    · go_wp2_with fail
      go_meet
      exact ⟨_, _, rfl, ⟨ImpSt.mk' T4.out hsW.out T3.out.s T2.out.drew.s (T3.out.alloc _).s (.inr (Nat.le_refl _)) (.inl (by simp)) l3.out l4.out (((Below.refl _ w3).alloc (Nat.le_refl _) _).trans (g4.mono (by simp)))
        ((Agree.six w4 _ _ _ _ _ _ _ _ (fun i hi => hi)).trans (Agree.alloc _ _ (fun _ => True)) (fun _ _ _ => trivial)) (blk_below ((Below.refl _ _).alloc (Nat.le_refl _) _) (set_six bz.out _ _ _ _ _ _)) (heap_new_of (by simp) _) T4.out.s (by omega)⟩⟩
    · go_wp2_with fail
      go_meet
      exact ⟨_, _, rfl, ⟨ImpSt.mk' T4.out hsW.out T2.out.s (T2.out.alloc _).drew.s T3.out.s (.inl (by simp)) (.inl (by have := by3.out; simp at this; omega)) l3.out l4.out g4
        ((Agree.six w4 _ _ _ _ _ _ _ _ (fun i hi => hi)).trans (Agree.alloc _ _ (fun _ => True)) (fun _ _ _ => trivial)) (blk_below ((Below.refl _ _).alloc (Nat.le_refl _) _) (set_six bz.out _ _ _ _ _ _)) (heap_new_of (by simp) _) T4.out.s (by omega)⟩⟩
  case rest =>
    obtain ⟨B, G, rfl, T⟩ := hcut
    clear T2 HC HD HX HY u0 u1 u2 u3 u4 u5 v0 v1 v2 v3 v4 v5 q0 q1 q2 q3 q4 q5 qs
    obtain ⟨b0, b1, b2, b3, b4, b5⟩ := six T.out.box
    obtain ⟨r0, r1, r2, r3, r4, r5⟩ := six T.out.two.b
    have bf := blk_frozen T.out.box
    have rf := blk_frozen T.out.two.b
    have hBW := T.out.hB
    have hsz := T.out.two.s
    have nb1 : B ≠ W.heap.size + 1 := by omega
    have nb2 : W.heap.size + 1 ≠ B := by omega
    have hs0 := hsW.out
    cases tn
    · go_wp2_with fail
      refine bodyPost_ret (results_cell26 rfl _ _ _ (set_six T.out.two.b _ _ _ _ _ _) rfl) rfl ?_
      refine ⟨none, 0, none, 0, some ⟨G, 0, none⟩, 2, rfl, T.out.two.h.trans ((Agree.six _ _ _ _ _ _ _ _ (fun i => i < W.heap.size) (fun i hi => by omega)).low (fun _ h => h) (by omega)), fun w1 h1 => ?_⟩
      exact ⟨Nat.le_refl _, Kd.C_nil _ _, Nat.le_refl _, Kd.C_nil _ _, Nat.le_refl _, T.out.row w1 ((Agree.six _ _ _ _ _ _ _ _ _ (fun i hi => by omega)).trans h1 (fun i hi _ => by omega))⟩
    · go_wp2_with fail
      have sB := (Agree.set wc B 0 (.int .i64 11) (fun i => i ≠ B) (fun _ h => h))
      have zb : (wc.setCell ⟨B, 0, none⟩ (.int .i64 11)).heap[W.heap.size + 1]? = _ := (sB.2 _ nb2 (by omega)).trans T.out.two.b
      refine bodyPost_ret (results_cell26 rfl _ _ _ (set_six zb _ _ _ _ _ _) rfl) rfl ?_
      refine ⟨none, 0, none, 0, some ⟨G, 0, none⟩, 2, rfl, T.out.two.h.trans ((sB.low (fun i hi => by omega) (by omega)).trans ((Agree.six _ _ _ _ _ _ _ _ (fun i => i < W.heap.size) (fun i hi => by omega)).low (fun _ h => h) (by simp; omega))), fun w1 h1 => ?_⟩
      exact ⟨Nat.le_refl _, Kd.C_nil _ _, Nat.le_refl _, Kd.C_nil _ _, Nat.le_refl _, T.out.row w1 (((sB.mono (fun i hi _ => hi.2)).trans (Agree.six _ (W.heap.size + 1) _ _ _ _ _ _ (fun i => i ≠ W.heap.size + 1) (fun i hi => hi)) (fun i hi _ => by omega)).trans h1 (fun i hi _ => by omega))⟩
end Go.Proofs.YtmlcaecknocpoaaDoor.It
