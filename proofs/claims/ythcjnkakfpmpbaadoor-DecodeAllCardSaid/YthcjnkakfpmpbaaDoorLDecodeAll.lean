/- Law DecodeAll: what decode.All hands out, gone over twice and left early, is what the document says. Conditions: none. -/
import Derived.Test.YthcjnkakfpmpbaaDoorG5
import Derived.Test.YthcjnkakfpmpbaaDoorD12
import Derived.Test.YthcjnkakfpmpbaaDoorW1
import Derived.Deep.CutRange
namespace Go.Proofs.YthcjnkakfpmpbaaDoor.decodeAll
open Go.RowKit Go.Shelf
set_option linter.unusedVariables false
set_option linter.unusedSimpArgs false
attribute [local go_sem] Oper.semAt_some

def AtTurn (h n0 : Nat) (A : Option Addr) (c : Nat) (at_ stop : Int) (W5 : World) (a : Act) (wr : World) : Prop :=
  ∃ (tb : Nat) (T : Int) (ds : List Deferred) (u9 u10 u11 u12 u13 u14 u15 u16 u17 u18 u19 u20 u21 u22 u23 u24 u25 u26 u27 u28 u29 u30 u31 u32 u33 u34 u35 u36 u37 u38 u39 u40 u41 u42 u43 u44 u45 u46 u47 u48 u49 u50 u51 u52 u53 u54 u55 u56 u57 u58 u59 u60 u61 u62 u63 u64 u65 u66 u67 u68 u69 u70 u71 u72 u73 u74 u75 u76 u77 u78 u79 u80 u81 : Value), (h + 5 ≤ tb ∧ 0 ≤ T ∧ T ≤ 2 ∧ (ds.length : Int) = T ∧ Blk wr tb 3 [.int .i64 T] ∧ Below (h + 5) W5 wr ∧ MarksOk (h + 5) wr wr.heap.size ds) ∧ a = lframe h n0 A c at_ stop tb ds u9 u10 u11 u12 u13 u14 u15 u16 u17 u18 u19 u20 u21 u22 u23 u24 u25 u26 u27 u28 u29 u30 u31 u32 u33 u34 u35 u36 u37 u38 u39 u40 u41 u42 u43 u44 u45 u46 u47 u48 u49 u50 u51 u52 u53 u54 u55 u56 u57 u58 u59 u60 u61 u62 u63 u64 u65 u66 u67 u68 u69 u70 u71 u72 u73 u74 u75 u76 u77 u78 u79 u80 u81
/-- what stands before the loop -/
def Before (h : Nat) (A : Option Addr) (c : Nat) (stop : Int) (w : World) (l : List UInt8) (wc : World) : Prop :=
  ∃ n', Blk wc h 22 [.slice A n' c] ∧ Blk wc (h + 1) 3 [.int .i64 stop] ∧ Blk wc (h + 2) 4 [.bool false] ∧ wc.heap.size = h + 3 ∧ Below h w wc ∧ (∃ l', Sl wc h 1 A n' (bs l')) ∧ n' ≤ c ∧ n' ≤ 500

set_option maxRecDepth 100000 in
set_option maxHeartbeats 4000000 in
theorem core (A : Option Addr) (n c : Nat) (l : List UInt8) (at_ stop : Int) (w : World) (hT : TabIs 0 w) (hs : Sl w w.heap.size 1 A n (bs l)) (hnc : n ≤ c) (hn : (n : Int) ≤ 140737488351232)
    (ha0 : -9223372036854775808 ≤ at_) (ha1 : at_ ≤ 9223372036854775807) (r : Int)
    (Hw : Hid (∀ w, Calls Tryd.prog 21 #[.int .i64 stop, .int .i64 0, .int .i64 20] w fun e w' => e = .returned (.int .i64 r) ∧ w = w')) :
    Calls Tryd.prog 5 #[.slice A n c, .int .i64 at_, .int .i64 stop] w fun e w' => e = .returned (.bool true) ∧ Below w.heap.size w w' := by
  refine (callsIn_wide (n := 5)).1 ?_
  refine callsIn_of_wp_marks Tryd.func5 rfl trivial ?_ rfl
  refine wpIn_wide.2 ?_
  simp only [Tryd.ntmps5, List.size_toArray, List.length_cons, List.length_nil, Nat.reduceAdd, Nat.reduceSub, Array.replicate_succ, Array.replicate_zero, List.push_toArray, List.append_toArray, List.nil_append, List.cons_append]
  go_upto_if 21 with fail
  go_cut [] from 22 to 23 (fun wc => Before w.heap.size A c stop w l wc)
  case first =>
    by_cases h : 500 < n
    · have h1 : ((500 : Int) < n) = True := by simp; omega
      have h2 : decide ((500 : Int) < n) = true := by simp; omega
      have hc5 : 500 ≤ c := by omega
      have hc6 : (500 : Int) ≤ c := by omega
      go_wp2_with fail
      go_meet
      refine ⟨500, (Blk.new w 22 [.slice A 500 c]).alloc _ |>.alloc _, ?_, ?_, by simp, (((Below.refl w.heap.size w).alloc (Nat.le_refl _) _).alloc (by simp) _).alloc (by simp; omega) _, ⟨l.take 500, ?_⟩, hc5, Nat.le_refl _⟩
      · have := (Blk.new (w.alloc (.cells #[.slice A 500 c] 22)) 3 [.int .i64 stop]).alloc (.cells #[.bool false] 4); simpa using this
      · have := (Blk.new ((w.alloc (.cells #[.slice A 500 c] 22)).alloc (.cells #[.int .i64 stop] 3)) 4 [.bool false]); simpa using this
      · have := hs.front (k := 500) (by omega)
        rw [Nat.mul_one, bs_take] at this
        exact this.below ((((Below.refl w.heap.size w).alloc (Nat.le_refl _) _).alloc (by simp) _).alloc (by simp; omega) _)
    · have h1 : ((500 : Int) < n) = False := by simp; omega
      have h2 : decide ((500 : Int) < n) = false := by simp; omega
      go_wp2_with fail
      go_meet
      refine ⟨n, (Blk.new w 22 [.slice A n c]).alloc _ |>.alloc _, ?_, ?_, by simp, (((Below.refl w.heap.size w).alloc (Nat.le_refl _) _).alloc (by simp) _).alloc (by simp; omega) _, ⟨l, ?_⟩, hnc, by omega⟩
      · have := (Blk.new (w.alloc (.cells #[.slice A n c] 22)) 3 [.int .i64 stop]).alloc (.cells #[.bool false] 4); simpa using this
      · have := (Blk.new ((w.alloc (.cells #[.slice A n c] 22)).alloc (.cells #[.int .i64 stop] 3)) 4 [.bool false]); simpa using this
      · exact hs.below ((((Below.refl w.heap.size w).alloc (Nat.le_refl _) _).alloc (by simp) _).alloc (by simp; omega) _)
  case rest =>
    obtain ⟨n', bB, bS, bR, hz, hB, ⟨l', hs'⟩, hnc', hn'⟩ := hcut
    have c0 := bB.cell 0
    have c1 := bS.cell 0
    have f1 := bS.free 0
    simp only [List.getElem?_cons_zero] at c0 c1
    have hsn := seq_not_nil
    go_wp2_with (first
      | (go_at_call 20; refine (dall_make A n' c at_ wc).mono ?_; rintro e w1 ⟨rfl, hw1⟩; have d3 : Blk w1 (w.heap.size + 3) 22 [.slice A n' c] := (by rw [hw1, ← hz]; exact (Blk.new wc 22 [.slice A n' c]).alloc _); have d4 : Blk w1 (w.heap.size + 4) 3 [.int .i64 at_] := (by rw [hw1, show w.heap.size + 4 = (wc.alloc (.cells #[.slice A n' c] 22)).heap.size by simp [hz]]; exact Blk.new _ 3 [.int .i64 at_]); have hz1 : w1.heap.size = w.heap.size + 5 := (by rw [hw1]; simp [hz]); have hb1 : Below wc.heap.size wc w1 := (by rw [hw1]; exact ((Below.refl _ wc).alloc (Nat.le_refl _) _).alloc (by simp) _); clear hw1; have d0 := bB.below hb1 bB.lt; have d1 := bS.below hb1 bS.lt; have d2 := bR.below hb1 bR.lt; have e1 := d1.cell 0; have e1f := d1.free 0; simp only [List.getElem?_cons_zero] at e1)
      | (go_at_call 21; refine (Hw.out _).mono ?_; rintro e w2 ⟨rfl, rfl⟩)
      | fail)
    have hTw : TabIs 0 w1 := (hT.grow hB).grow hb1
    have hsw : Sl w1 w.heap.size 1 A n' (bs l') := hs'.below (hb1.mono (by omega))
    have hBw : Below w.heap.size w w1 := hB.trans (hb1.mono (by omega))
    have hgz : 0 < w.heap.size := hT.lt
    obtain ⟨W5, hW5⟩ : ∃ W5, w1.setCell ⟨w.heap.size + 1, 0, none⟩ (.int .i64 r) = W5 := ⟨_, rfl⟩
    have g0 : Blk W5 w.heap.size 22 [.slice A n' c] := by rw [← hW5]; exact d0.far (by simp) _
    have g1 : Blk W5 (w.heap.size + 1) 3 [.int .i64 r] := by rw [← hW5]; exact d1.set_ 0 _
    have g2 : Blk W5 (w.heap.size + 2) 4 [.bool false] := by rw [← hW5]; exact d2.far (by simp) _
    have g3 : Blk W5 (w.heap.size + 3) 22 [.slice A n' c] := by rw [← hW5]; exact d3.far (by simp) _
    have g4 : Blk W5 (w.heap.size + 4) 3 [.int .i64 at_] := by rw [← hW5]; exact d4.far (by simp) _
    have gz : W5.heap.size = w.heap.size + 5 := by rw [← hW5]; simp [hz1]
    have gB : Below w.heap.size w W5 := by rw [← hW5]; exact hBw.setCell (p := ⟨w.heap.size + 1, 0, none⟩) (by simp) _
    have gT : TabIs 0 W5 := hT.grow gB
    have gS : Sl W5 w.heap.size 1 A n' (bs l') := by rw [← hW5]; exact hsw.setCell (p := ⟨w.heap.size + 1, 0, none⟩) (by simp) _
    rw [hW5]
    clear hW5 e1 e1f d0 d1 d2 d3 d4 hb1 hz1 hTw hsw hBw c0 c1 f1 bB bS bR
    refine wp_loop (AtTurn w.heap.size n A c at_ stop W5) (fun a' _ => 2 - a'.defers.length) ?_ ?_
    · exact ⟨w.heap.size + 5, 0, [], _, _, _, _, _, _, _, _, _, _, _, _, _, _, _, _, _, _, _, _, _, _, _, _, _, _, _, _, _, _, _, _, _, _, _, _, _, _, _, _, _, _, _, _, _, _, _, _, _, _, _, _, _, _, _, _, _, _, _, _, _, _, _, _, _, _, _, _, _, _, _, _, _, ⟨Nat.le_refl _, by omega, by omega, rfl, by rw [← gz]; exact Blk.new W5 3 [.int .i64 0], (Below.refl _ W5).alloc (by omega) _, trivial⟩, rfl⟩
    rintro a' wr ⟨tb, T, ds, u9, u10, u11, u12, u13, u14, u15, u16, u17, u18, u19, u20, u21, u22, u23, u24, u25, u26, u27, u28, u29, u30, u31, u32, u33, u34, u35, u36, u37, u38, u39, u40, u41, u42, u43, u44, u45, u46, u47, u48, u49, u50, u51, u52, u53, u54, u55, u56, u57, u58, u59, u60, u61, u62, u63, u64, u65, u66, u67, u68, u69, u70, u71, u72, u73, u74, u75, u76, u77, u78, u79, u80, u81, ⟨htb, hT0, hT2, hds, bT, hB5, hM⟩, rfl⟩
    have h0 := g0.below hB5 (by omega)
    have h1 := g1.below hB5 (by omega)
    have h2 := g2.below hB5 (by omega)
    have h3 := g3.below hB5 (by omega)
    have h4 := g4.below hB5 (by omega)
    have hzr := hB5.size
    have hTr := gT.below hB5 (by omega)
    have hsr : Sl wr (w.heap.size + 5) 1 A n' (bs l') := (gS.more (by omega)).below hB5
    by_cases hT3 : T < 2
    · refine wp_swap (by kernel_rfl) (turn w.heap.size n tb A n' c l' at_ stop T r ds u9 u10 u11 u12 u13 u14 u15 u16 u17 u18 u19 u20 u21 u22 u23 u24 u25 u26 u27 u28 u29 u30 u31 u32 u33 u34 u35 u36 u37 u38 u39 u40 u41 u42 u43 u44 u45 u46 u47 u48 u49 u50 u51 u52 u53 u54 u55 u56 u57 u58 u59 u60 u61 u62 u63 u64 u65 u66 u67 u68 u69 u70 u71 u72 u73 u74 u75 u76 u77 u78 u79 u80 u81 wr _ hsr hnc' hn' ha0 ha1 hTr hgz h0 h1 h2 h3 h4 bT htb hT0 hT3 ?_)
      intro tb' D v9 v10 v11 v12 v13 v14 v15 v16 v17 v18 v19 v20 v21 v22 v23 v24 v25 v26 v27 v28 v29 v30 v31 v32 v33 v34 v35 v36 v37 v38 v39 v40 v41 v42 v43 v44 v45 v46 v47 v48 v49 v50 v51 v52 v53 v54 v55 v56 v57 v58 v59 v60 v61 v62 v63 v64 v65 v66 v67 v68 v69 v70 v71 v72 v73 v74 v75 v76 v77 v78 v79 v80 v81 W' htb' bT' hb' hD hKD
      refine ⟨⟨tb', T + 1, { target := .collected D, args := #[] } :: ds, v9, v10, v11, v12, v13, v14, v15, v16, v17, v18, v19, v20, v21, v22, v23, v24, v25, v26, v27, v28, v29, v30, v31, v32, v33, v34, v35, v36, v37, v38, v39, v40, v41, v42, v43, v44, v45, v46, v47, v48, v49, v50, v51, v52, v53, v54, v55, v56, v57, v58, v59, v60, v61, v62, v63, v64, v65, v66, v67, v68, v69, v70, v71, v72, v73, v74, v75, v76, v77, v78, v79, v80, v81, ⟨by omega, by omega, by omega, by rw [List.length_cons]; omega, bT', hB5.trans (hb'.mono (by omega)), ⟨D, by omega, (Array.getElem?_eq_some_iff.1 hKD).1, rfl, hKD, (hM.below hb' (Nat.le_refl _)).more hD⟩⟩, rfl⟩, ?_⟩
      show 2 - (_ :: ds).length < 2 - ds.length
      simp
      omega
    · have hBw : Below w.heap.size w wr := gB.trans (hB5.mono (by omega))
      have cT := bT.cell 0
      have cR := h2.cell 0
      have fR := h2.free 0
      have lR := h2.lt
      simp only [List.getElem?_cons_zero] at cT cR
      have t1 : (T < 2) = False := by simp; omega
      have t2 : decide (T < 2) = false := by simp; omega
      unfold lframe
      go_wp2_with (go_at_call 19; refine (known7_any _ hTr).mono ?_; rintro e w3 ⟨rfl, hb3⟩; obtain ⟨c3, f3⟩ := bcell hb3)
      have hz3 := hb3.size
      have hM3 : MarksOk (w.heap.size + 5) (w3.setCell ⟨w.heap.size + 2, 0, none⟩ (.bool true)) wr.heap.size ds := (hM.below hb3 (Nat.le_refl _)).keep fun k o _ hk ho => (KeepsOthers.setCell _ _ _).same k o hk ho
      have hR3 : Blk (w3.setCell ⟨w.heap.size + 2, 0, none⟩ (.bool true)) (w.heap.size + 2) 4 [.bool true] := (h2.below hb3 lR).set_ 0 _
      have hB3 : Below w.heap.size w (w3.setCell ⟨w.heap.size + 2, 0, none⟩ (.bool true)) := (hBw.trans (hb3.mono (by omega))).setCell (p := ⟨w.heap.size + 2, 0, none⟩) (by simp) _
      refine hM3.leave (by rw [World.size_setCell]; omega) fun W' hb' => ⟨.bool true, ?_, rfl, hB3.trans (hb'.mono (by omega))⟩
      have hc := (hR3.below hb' (by omega)).cell 0
      simp only [List.getElem?_cons_zero] at hc
      simp [results, Tryd.results5, go_sem, hc]
theorem walk (w : World) (A : Option Addr) (n c : Nat) (l : List UInt8) (hs : Sl w w.heap.size 1 A n (bs l)) (hnc : n ≤ c) (hn : n * 1 ≤ 140737488351232) (at_ : Int) (hat : -9223372036854775808 ≤ at_ ∧ at_ ≤ 9223372036854775807) (stop : Int) (hst : -9223372036854775808 ≤ stop ∧ stop ≤ 9223372036854775807) (hT : TabIs 0 w) :
    Calls Tryd.prog 5 #[.slice A n c, .int .i64 at_, .int .i64 stop] w fun e w' => e = .returned (.bool true) ∧ Below w.heap.size w w' := by
  obtain ⟨r, _, _, hr⟩ := within_val stop 20 hst.1 hst.2 (by omega) (by omega)
  exact core A n c l at_ stop w hT hs hnc (by omega) hat.1 hat.2 r (Lib.hid hr)
end Go.Proofs.YthcjnkakfpmpbaaDoor.decodeAll
