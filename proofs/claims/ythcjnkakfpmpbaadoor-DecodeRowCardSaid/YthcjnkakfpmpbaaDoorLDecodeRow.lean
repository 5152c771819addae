/- Law DecodeRow: instructions, encoded one behind the other, are handed out again. Conditions: none. -/
import Derived.Test.YthcjnkakfpmpbaaDoorG6
import Derived.Test.YthcjnkakfpmpbaaDoorD12
import Derived.Deep.CutRange
namespace Go.Proofs.YthcjnkakfpmpbaaDoor.decodeRow
open Go.RowKit Go.Shelf
set_option linter.unusedVariables false
set_option linter.unusedSimpArgs false
attribute [local go_sem] Oper.semAt_some

theorem all_any (L : List Ins) (N c : Nat) (hN : N ≤ 100) (hL : L.length = N) (hn : ∀ i ∈ L, I32 i.n) (w : World) (F : Option Addr) (hT : TabIs 0 w) (hs : Sl w w.heap.size 5 F N (insCells L)) :
    Calls Tryd.prog 23 #[.slice F N c] w fun e w' => ∃ Ax nx cx K E, e = .returned (.tuple #[.slice Ax nx cx, .int .i64 K, .int .i64 E]) ∧ Below w.heap.size w w' ∧
      ((E = 0 ∧ (∀ i ∈ L, i.chk = 0) ∧ nx ≤ cx ∧ Sl w' w'.heap.size 1 Ax nx (bs (encAll L))) ∨ (E ≠ 0 ∧ ∃ k : Nat, K = (k : Int) ∧ k < N ∧ ∀ j ∈ L.take k, j.chk = 0)) := by
  refine (all_gen L F N c w hT hL hs (by omega) hn).mono ?_
  rintro e w' (⟨h0, A, n, c', rfl, hc, ho, hb⟩ | ⟨k, i, hk, ht, hi, rfl, hb⟩)
  · exact ⟨A, n, c', 0, 0, rfl, hb, .inl ⟨rfl, h0, hc, Sl.of_own ho⟩⟩
  · exact ⟨none, 0, 0, k, i.chk, rfl, hb, .inr ⟨hi, k, rfl, by have := (List.getElem?_eq_some_iff.1 hk).1; omega, ht⟩⟩
theorem all_good (L : List Ins) (N c : Nat) (hN : N ≤ 100) (hL : L.length = N) (hn : ∀ i ∈ L, I32 i.n) (h : ∀ i ∈ L, i.chk = 0) (w : World) (F : Option Addr) (hT : TabIs 0 w) (hs : Sl w w.heap.size 5 F N (insCells L)) :
    Calls Tryd.prog 23 #[.slice F N c] w fun e w' => ∃ Ax nx cx, e = .returned (.tuple #[.slice Ax nx cx, .int .i64 0, .int .i64 0]) ∧ Below w.heap.size w w' ∧ nx ≤ cx ∧ Sl w' w'.heap.size 1 Ax nx (bs (encAll L)) := by
  refine (all_gen L F N c w hT hL hs (by omega) hn).mono ?_
  rintro e w' (⟨h0, A, n, c', rfl, hc, ho, hb⟩ | ⟨k, i, hk, ht, hi, rfl, hb⟩)
  · exact ⟨A, n, c', rfl, hb, hc, Sl.of_own ho⟩
  · exact absurd (h i (List.mem_of_getElem? hk)) hi
/-- behind the first if: the box holds at most 100 instructions -/
def Few (h : Nat) (A : Option Addr) (c : Nat) (w wc : World) : Prop :=
  ∃ (n : Nat) (l : List Ins), wc.heap.size = h + 2 ∧ Below h w wc ∧ Blk wc h 46 [.slice A n c] ∧ Blk wc (h + 1) 4 [.bool false] ∧ Sl wc h 5 A n (insCells l) ∧ l.length = n ∧ n ≤ 100 ∧ n ≤ c ∧ ∀ i ∈ l, I32 i.n
/-- behind the second if: the box holds right instructions, b their bytes -/
def Ready (h : Nat) (A : Option Addr) (c : Nat) (w : World) (b : Value) (wc : World) : Prop :=
  ∃ (n : Nat) (l : List Ins) (Ab : Option Addr) (nb cb : Nat), b = .slice Ab nb cb ∧ h + 2 ≤ wc.heap.size ∧ Below h w wc ∧ Blk wc h 46 [.slice A n c] ∧ Blk wc (h + 1) 4 [.bool false] ∧ Sl wc h 5 A n (insCells l) ∧ l.length = n ∧ n ≤ 100 ∧ (∀ i ∈ l, i.chk = 0 ∧ I32 i.n) ∧ nb ≤ cb ∧ Sl wc wc.heap.size 1 Ab nb (bs (encAll l))
theorem two (w : World) (v : Value) (t t' : TypeId) (u : Value) : Blk ((w.alloc (.cells #[v] t)).alloc (.cells #[u] t')) w.heap.size t [v] ∧ Blk ((w.alloc (.cells #[v] t)).alloc (.cells #[u] t')) (w.heap.size + 1) t' [u] ∧ ((w.alloc (.cells #[v] t)).alloc (.cells #[u] t')).heap.size = w.heap.size + 2 ∧
    Below w.heap.size w ((w.alloc (.cells #[v] t)).alloc (.cells #[u] t')) := by
  refine ⟨(Blk.new w t [v]).alloc _, ?_, by simp, ((Below.refl _ w).alloc (Nat.le_refl _) _).alloc (by simp) _⟩
  have := Blk.new (w.alloc (.cells #[v] t)) t' [u]
  rw [World.size_alloc] at this
  exact this
theorem four (w : World) (v0 v1 v2 v3 : Value) (t0 t1 t2 t3 : TypeId) : ∀ W, (((w.alloc (.cells #[v0] t0)).alloc (.cells #[v1] t1)).alloc (.cells #[v2] t2)).alloc (.cells #[v3] t3) = W →
    Blk W w.heap.size t0 [v0] ∧ Blk W (w.heap.size + 1) t1 [v1] ∧ Blk W (w.heap.size + 1 + 1) t2 [v2] ∧ Blk W (w.heap.size + 1 + 1 + 1) t3 [v3] ∧ W.heap.size = w.heap.size + 4 ∧ Below w.heap.size w W := by
  rintro W rfl
  have h1 := Blk.new (w.alloc (.cells #[v0] t0)) t1 [v1]
  have h2 := Blk.new ((w.alloc (.cells #[v0] t0)).alloc (.cells #[v1] t1)) t2 [v2]
  have h3 := Blk.new (((w.alloc (.cells #[v0] t0)).alloc (.cells #[v1] t1)).alloc (.cells #[v2] t2)) t3 [v3]
  simp only [World.size_alloc] at h1 h2 h3
  exact ⟨(((Blk.new w t0 [v0]).alloc _).alloc _).alloc _, (h1.alloc _).alloc _, h2.alloc _, h3, by simp, ((((Below.refl _ w).alloc (Nat.le_refl _) _).alloc (by simp) _).alloc (by simp; omega) _).alloc (by simp; omega) _⟩

set_option maxRecDepth 100000 in
set_option maxHeartbeats 8000000 in
theorem core (A : Option Addr) (n0 c : Nat) (l : List Ins) (w : World) (hT : TabIs 0 w) (hs : Sl w w.heap.size 5 A n0 (insCells l)) (hl : l.length = n0) (hnc : n0 ≤ c) (hn0 : n0 ≤ 140737488351232) (hn : ∀ i ∈ l, I32 i.n) :
    Calls Tryd.prog 7 #[.slice A n0 c] w fun e w' => e = .returned (.bool true) ∧ Below w.heap.size w w' := by
  refine (callsIn_wide (n := 5)).1 ?_
  refine callsIn_of_wp_marks Tryd.func7 rfl trivial ?_ rfl
  refine wpIn_wide.2 ?_
  simp only [Tryd.ntmps7, List.size_toArray, List.length_cons, List.length_nil, Nat.reduceAdd, Nat.reduceSub, Array.replicate_succ, Array.replicate_zero, List.push_toArray, List.append_toArray, List.nil_append, List.cons_append]
  go_upto_if 12 with fail
  go_cut [] from 13 to 14 (fun wc => Few w.heap.size A c w wc)
  case first =>
    by_cases h : 100 < n0
    · have h1 : ((100 : Int) < n0) = True := by simp; omega
      have h2 : decide ((100 : Int) < n0) = true := by simp; omega
      have hc5 : 100 ≤ c := by omega
      have hc6 : (100 : Int) ≤ c := by omega
      go_wp2_with fail
      go_meet
      obtain ⟨t1, t2, t3, t4⟩ := two w (.slice A 100 c) 46 4 (.bool false)
      refine ⟨100, l.take 100, t3, t4, t1, t2, ?_, by rw [List.length_take]; omega, Nat.le_refl _, hc5, fun i hi => hn i (List.mem_of_mem_take hi)⟩
      have := hs.front (k := 100) (by omega)
      rw [insCells_take] at this
      exact this.below t4
    · have h1 : ((100 : Int) < n0) = False := by simp; omega
      have h2 : decide ((100 : Int) < n0) = false := by simp; omega
      go_wp2_with fail
      go_meet
      obtain ⟨t1, t2, t3, t4⟩ := two w (.slice A n0 c) 46 4 (.bool false)
      exact ⟨n0, l, t3, t4, t1, t2, hs.below t4, hl, by omega, hnc, hn⟩
  case rest =>
    clear hs hl hnc hn0 hn
    obtain ⟨n, l, hz, hB, bL, bR, hs, hl, hn1, hnc, hn⟩ := hcut
    have hTc := hT.grow hB
    have c0 := bL.cell 0
    have f0 := bL.free 0
    simp only [List.getElem?_cons_zero] at c0
    have hall := all_any l n c hn1 hl hn wc A hTc (hs.more (by omega))
    have Hall := Lib.hid hall
    have Hl := Lib.hid hl
    clear hall hl
    go_upto_if 22 with (go_at_call 23; (with_reducible refine (Hall.out).mono ?_); rintro e w2 ⟨Ax, nx, cx, K, E, rfl, hb2, hE⟩)
    have bL2 := bL.below hb2 bL.lt
    have bR2 := bR.below hb2 bR.lt
    have hs2 : Sl w2 w.heap.size 5 A n (insCells l) := hs.below (hb2.mono (by omega))
    have hB2 : Below w.heap.size w w2 := hB.trans (hb2.mono (by omega))
    have hz2 := hb2.size
    have HE := Lib.hid hE
    clear hE
    go_cut [3] from 22 to 31 (fun b wc => Ready w.heap.size A c w b wc)
    case first =>
      rcases HE.out with ⟨rfl, h0, hcx, hsx⟩ | ⟨hE, k, rfl, hk, h0⟩
      · go_wp2_with fail
        go_meet
        exact ⟨n, l, Ax, nx, cx, rfl, by omega, hB2, bL2, bR2, hs2, Hl.out, hn1, fun i hi => ⟨h0 i hi, hn i hi⟩, hcx, hsx⟩
      · have e1 : (E != 0) = true := by simpa using hE
        have e2 : (E == 0) = false := by simpa using hE
        have c2 := bL2.cell 0
        have f2 := bL2.free 0
        simp only [List.getElem?_cons_zero] at c2
        have g1 : (k : Int) ≤ c := by omega
        have hT2 := hTc.grow hb2
        have hs3 : Sl w2 w.heap.size 5 A k (insCells (l.take k)) := by
          have := hs2.front (k := k) (by omega)
          rwa [insCells_take] at this
        have hgood := fun w' (hT : TabIs 0 w') hs => all_good (l.take k) k c (by omega) (by rw [List.length_take, Hl.out]; omega) (fun i hi => hn i (List.mem_of_mem_take hi)) h0 w' A hT hs
        have Hg := Lib.hid hgood
        have hT3 : TabIs 0 (w2.setCell ⟨w.heap.size, 0, none⟩ (.slice A k c)) := hT2.below (((Below.refl w.heap.size w2).setCell (p := ⟨w.heap.size, 0, none⟩) (Nat.le_refl _) _)) hT.lt
        have hs4 : Sl (w2.setCell ⟨w.heap.size, 0, none⟩ (.slice A k c)) (w2.setCell ⟨w.heap.size, 0, none⟩ (.slice A k c)).heap.size 5 A k (insCells (l.take k)) := (hs3.setCell (p := ⟨w.heap.size, 0, none⟩) (Nat.le_refl _) _).more (by rw [World.size_setCell]; omega)
        have H0 := Lib.hid h0
        clear hgood h0 hE
        go_wp2_with (go_at_call 23; (with_reducible refine (Hg.out _ hT3 hs4).mono ?_); rintro e w3 ⟨Ay, ny, cy, rfl, hb3, hcy, hsy⟩)
        go_meet
        have hz3 := hb3.size
        rw [World.size_setCell] at hz3 hb3
        have hBs : Below w.heap.size w2 w3 := ((Below.refl w.heap.size w2).setCell (p := ⟨w.heap.size, 0, none⟩) (Nat.le_refl _) _).trans (hb3.mono (by omega))
        exact ⟨k, l.take k, Ay, ny, cy, rfl, by omega, hB2.trans hBs, (bL2.set_ 0 _).below hb3 (by omega), (bR2.far (by simp) _).below hb3 (by omega), hs3.below hBs, by rw [List.length_take, Hl.out]; omega, by omega, fun i hi => ⟨H0.out i hi, hn i (List.mem_of_mem_take hi)⟩, hcy, hsy⟩
    case rest =>
      clear HE bL2 bR2 hs2 hB2 hz2 bL bR hs hB
      obtain ⟨n, l, Ab, nb, cb, rfl, hz, hB, bL, bR, hs, hl, hn1, hok, hcb, hsb⟩ := hcut
      have hTc := hT.grow hB
      have hsn := seq_not_nil
      go_wp2_with (go_at_call 20; refine (dall_make _ _ _ _ _).mono ?_; rintro e w3 ⟨rfl, rfl⟩)
      obtain ⟨W0, hW0⟩ : ∃ W0, (((World.alloc wc (.cells #[.slice Ab nb cb] 22)).alloc (.cells #[.int .i64 0] 3)).alloc (.cells #[.int .i64 0] 3)).alloc (.cells #[.int .i64 0] 3) = W0 := ⟨_, rfl⟩
      obtain ⟨d3, d4, k0, e0, hz0, hbA⟩ := four wc _ _ _ _ _ _ _ _ W0 hW0
      rw [hW0]
      clear hW0
      have hnb : nb ≤ 600 := by
        have h1 := encAll_le l (fun i hi => (hok i hi).1)
        have h2 := hsb.len
        rw [bs_length] at h2
        omega
      have hlb : (encAll l).length = nb := by have h2 := hsb.len; rw [bs_length] at h2; omega
      have hB0 : Below w.heap.size w W0 := hB.trans (hbA.mono (by omega))
      have L0 := bL.below hbA bL.lt
      have R0 := bR.below hbA bR.lt
      have hT0 := hT.grow hB0
      have hg0 := hT.lt
      have s0 : Sl W0 (wc.heap.size + 1 + 1) 1 Ab nb (bs (encAll l)) := (hsb.below hbA).more (by omega)
      have s5 : Sl W0 (wc.heap.size + 1 + 1) 5 A n (insCells l) := (hs.below (hbA.mono (by omega))).more (by omega)
      have HB := Lib.hid hlb
      clear hlb
      refine (wpIn_wide (n := 5)).1 ?_
      refine wpIn_rangeFunc_ownH (F := Fence.wide) (n := 5) (α := Stp) rfl (by omega) (gf := 53) (lb := #[.pointer (some ⟨wc.heap.size + 1, 0, none⟩), .pointer (some ⟨wc.heap.size, 0, none⟩)]) rfl trivial (enters_of Tryd.func53 (by kernel_rfl) rfl)
        (dall_stops 4 (wc.heap.size + 1) wc.heap.size (wc.heap.size + 1 + 1) (by omega) Ab nb cb (encAll l) 0 W0 hcb (by omega) (by omega) (by omega) (by omega) (d4.cell 0) (by omega) (d3.cell 0) (by omega) hT0 (by omega) s0)
        belowK_t (belowK_b (by omega)) (Below.refl _ _) (fun _ => rfl) (Mid (encAll l) (wc.heap.size + 1 + 1) W0) (Gone (encAll l)) (mid_own _ _ W0 (by omega)) (gone_own _ _)
        ⟨⟨0, k0, e0, fun e he => he⟩, Below.refl _ _⟩ (AtX w.heap.size (w.heap.size + 1) (wc.heap.size + 1 + 1)) (atX_own _ _ _ _) ?assign ?body ?done ?stop
      case assign =>
        intro lp pre x W K hi hK
        have hzW := hi.2.size
        dsimp only [Stp.encs, Stp.val]
        gi_wp2_with fail
        exact hK _ _ ((KeepsOthers.alloc _ _).from _) ((Below.refl _ W).alloc (by omega) _) ((mid_own _ _ W0 (by omega)).alloc _ hi) ⟨W.heap.size, _, _, _, _, _, _, _, _, _, _, _, _, _, _, _, _, _, _, _, _, _, _, _, _, _, _, _, _, _, _, _, _, _, _, _, _, _, _, _, _, _, _, _, _, _, _, _, _, _, _, _, _, _, _, _, _, _, _, _, _, _, _, _, _, _, _, _, _, _, _, _, _, by omega, Blk.new W _ _, rfl⟩
      case body =>
        intro lp pre x a' W hlp hr hM hX hlt
        exact wpIn_swap (by kernel_rfl) (round_any lp w.heap.size (w.heap.size + 1) _ W0 W A n c l pre x a' hok hn1 hl s5 L0 R0 (by omega) (by omega) hM hX (by omega))
      case stop =>
        rintro D cd pre W hD hS ⟨_, hno⟩ hK
        exact absurd hS hno
      case done =>
        rintro D xs W hD ⟨e, hrun, he⟩ ⟨⟨en, q0, q1, hen⟩, hbW⟩ hK
        obtain ⟨g1, g2⟩ := row_run0 hok hrun
        obtain rfl := hen e hrun
        have hxl : xs.length = n := by
          by_cases hx : xs.length < l.length
          · obtain ⟨i, hi⟩ : ∃ i, l[xs.length]? = some i := ⟨_, List.getElem?_eq_getElem hx⟩
            have := row_step hok hi
            rw [← g2] at this
            rw [this] at he
            simp at he
          · omega
        have hel : en = (nb : Int) := by rw [g2, List.take_of_length_le (by omega), HB.out]
        rw [hxl] at q0
        rw [hel] at q1
        have X0 := L0.below hbW (by omega)
        have R1 := R0.below hbW (by omega)
        have hTW := hT0.below hbW (by omega)
        have y0 := X0.cell 0
        have y5 := q0.cell 0
        have y4 := q1.cell 0
        have y6 := R1.cell 0
        have y7 := R1.free 0
        simp only [List.getElem?_cons_zero, List.getElem?_cons_succ] at y0 y4 y5 y6
        have hDW := (Array.getElem?_eq_some_iff.1 hK).1
        have HK := Lib.hid hK
        clear hK he hxl hel g2 hrun hen
        have zR := R1.lt
        dsimp only
        go_wp2_with (go_at_call 19; refine (known7_any _ hTW).mono ?_; rintro e w4 ⟨rfl, hb4⟩; obtain ⟨c4, f4⟩ := bcell hb4; have hz4 := hb4.size; have zR4 : w.heap.size + 1 < w4.heap.size := (by omega))
        have hR4 : Blk (w4.setCell ⟨w.heap.size + 1, 0, none⟩ (.bool true)) (w.heap.size + 1) 4 [.bool true] := (R1.below hb4 zR).set_ 0 _
        have hB4 : Below w.heap.size w (w4.setCell ⟨w.heap.size + 1, 0, none⟩ (.bool true)) := (((hB0.trans (hbW.mono (by omega))).trans (hb4.mono (by omega)))).setCell (p := ⟨w.heap.size + 1, 0, none⟩) (by simp) _
        have hK4 : (w4.setCell ⟨w.heap.size + 1, 0, none⟩ (.bool true)).heap[D]? = some (.deferred (some [])) := (KeepsOthers.setCell _ _ _).same _ _ ((hb4.block D hDW).trans HK.out) rfl
        refine ⟨by simp, .inl ⟨_, _, rfl, run_takeDeferred hK4, ?_⟩⟩
        have hp : Below (w.heap.size + 2) (w4.setCell ⟨w.heap.size + 1, 0, none⟩ (.bool true)) ((w4.setCell ⟨w.heap.size + 1, 0, none⟩ (.bool true)).putObj D (.deferred none)) := (Below.refl _ _).grown (grownBy_putObj' _ D _) (by rw [World.size_setCell]; omega) (fun k e => by cases e; omega)
        refine ⟨.bool true, ?_, rfl, hB4.trans (hp.mono (by omega))⟩
        have hc := (hR4.below hp (by omega)).cell 0
        simp only [List.getElem?_cons_zero] at hc
        simp [results, Tryd.results7, go_sem, hc]
theorem walk (w : World) (A : Option Addr) (n0 c0 : Nat) (l : List Ins) (hs : Sl w w.heap.size 5 A n0 (insCells l) ∧ ∀ i ∈ l, i.Ok) (hc : n0 ≤ c0) (hb : n0 * 40 ≤ 140737488351232) (hT : TabIs 0 w) :
    Calls Tryd.prog 7 #[.slice A n0 c0] w fun e w' => e = .returned (.bool true) ∧ Below w.heap.size w w' := by
  have hl : l.length = n0 := by have := hs.1.len; rw [insCells_length] at this; omega
  exact core A n0 c0 l w hT hs.1 hl hc (by omega) (fun i hi => (hs.2 i hi).2.2.2.1)
end Go.Proofs.YthcjnkakfpmpbaaDoor.decodeRow
