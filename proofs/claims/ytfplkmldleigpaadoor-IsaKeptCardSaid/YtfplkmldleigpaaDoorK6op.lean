/- The walk of the book's Keep, at operations. Condition: a list's bytes are at most 2^47. -/
import Derived.Test.YtfplkmldleigpaaDoorK4op
import Derived.Test.YtfplkmldleigpaaDoorK5
import Derived.Test.YtfplkmldleigpaaDoorA2o
namespace Go.Proofs.YtfplkmldleigpaaDoor.bookop
open Go.RowKit
set_option linter.unusedVariables false
set_option linter.unusedSimpArgs false

/-- the table's operations -/
def Good (cs : List Value) : Prop := cs = tabCells
theorem Good.one {cs : List Value} (h : Good cs) : ∀ u ∈ cs, u.oneCell' = true := by
  rw [show cs = tabCells from h]
  exact tab_one
theorem same_good {A A' : Option Addr} {n c c' b : Nat} {cs : List Value} {W : World} (hg : Good cs) (h : Kept W b 25 3 A n c cs) (h' : Kept W b 25 3 A' n c' cs) :
    Calls Tryd.prog 47 #[.slice A n c, .slice A' n c'] W fun e w' => e = .returned (.bool true) ∧ ∃ k, w' = W.drewN k := by
  rw [show cs = tabCells from hg] at h h'
  exact same_op A A' n c c' W h.sl h'.sl

abbrev BAt (w : World) (gB : Nat) (U : Nat → Prop) : Prop := BookAt w 51 42 25 3 gB Good U

theorem wrap64_in (x : Int) : -9223372036854775808 ≤ wrap64 x ∧ wrap64 x ≤ 9223372036854775807 := by unfold wrap64; omega
def lenAt (w : World) (gB : Nat) : Nat := match w.cell? ⟨gB, 0, none⟩ with | some (.slice _ n _) => n | _ => 0
theorem lenAt_of {w : World} {gB n c : Nat} {A : Option Addr} (h : w.cell? ⟨gB, 0, none⟩ = some (.slice A n c)) : lenAt w gB = n := by unfold lenAt; rw [h]
/-- what goes on in the loop -/
structure In (w : World) (gB : Nat) (U : Nat → Prop) (A : Option Addr) (c : Nat) (o1 o2 : Option Nat) (wr : World) (N : Nat) (es : List Ent) (A1 : Option Addr) (c1 : Nat) (A2 : Option Addr) (c2 : Nat) (h : Int) : Prop where
  len : es.length = N + 1
  few : N ≤ 4000
  bk : BkW wr gB (.slice A1 (N + 1) c1) (.slice A2 (N + 1) c2) (N + 1) (N + 1) (es.map Ent.v) (es.map Ent.was) h es
  fr : BFr gB o1 o2 w (Value.ownBlock (.slice A1 (N + 1) c1)) (Value.ownBlock (.slice A2 (N + 1) c2)) wr
  h0 : -9223372036854775808 ≤ h
  h1 : h ≤ 9223372036854775807
  good : ∀ x ∈ es, Good x.cs
  used : ∀ x ∈ es, ∀ k, k < w.heap.size → blkOf x.A x.c = some k ∨ blkOf x.A' x.c' = some k → U k ∨ blkOf A c = some k
/-- a book whose rows and lists go on -/
theorem In.done {w : World} {gB : Nat} {U : Nat → Prop} {A : Option Addr} {c : Nat} {o1 o2 : Option Nat} {wr : World} {N : Nat} {es : List Ent} {A1 : Option Addr} {c1 : Nat} {A2 : Option Addr} {c2 : Nat} {h : Int}
    (i : In w gB U A c o1 o2 wr N es A1 c1 A2 c2 h) (hN : N + 1 ≤ 4000) (hgB : U gB) (h1 : ∀ k, o1 = some k → U k) (h2 : ∀ k, o2 = some k → U k) :
    ∃ U', BAt wr gB U' ∧ KFr U w wr ∧ ∀ k, k < w.heap.size → U' k → U k ∨ blkOf A c = some k := by
  have hl := i.len
  have hbk := i.bk
  rw [← hl] at hbk
  refine ⟨Bk.Used gB (.slice A1 es.length c1) (.slice A2 es.length c2) es, ⟨A1, c1, A2, c2, h, es, hbk, by omega, ⟨i.h0, i.h1⟩, i.good, fun k hk => hk, fun k hk => hbk.used_lt hk⟩, ⟨i.fr.os, i.fr.tape, i.fr.output, i.fr.size, fun k hk hu => ?_⟩, fun k hk hu => ?_⟩
  · exact i.fr.block k hk (fun e => hu (e ▸ hgB)) (fun e => hu (h1 k e)) (fun e => hu (h2 k e))
  · rcases hu with rfl | hu | hu | ⟨x, hx, hu⟩
    · exact .inl hgB
    · rw [hl] at hu
      rcases i.fr.own k hk (.inl hu) with e | e
      · exact .inl (h1 k e)
      · exact .inl (h2 k e)
    · rw [hl] at hu
      rcases i.fr.own k hk (.inr hu) with e | e
      · exact .inl (h1 k e)
      · exact .inl (h2 k e)
    · exact i.used x hx k hk hu

/-- the first list is let go -/
theorem In.next {w : World} {gB : Nat} {U : Nat → Prop} {A : Option Addr} {c : Nat} {p1 p2 : Option Nat} {wr W5 : World} {M : Nat} {x : Ent} {r : List Ent} {b1 o1 d1 b2 o2 d2 : Nat} {g g' : Int}
    (i : In w gB U A c p1 p2 wr (M + 1) (x :: r) (some ⟨b1, o1, none⟩) d1 (some ⟨b2, o2, none⟩) d2 g)
    (hB : BkW W5 gB (.slice (some ⟨b1, o1, none⟩) (M + 1 + 1) d1) (.slice (some ⟨b2, o2, none⟩) (M + 1 + 1) d2) (M + 1 + 1) (M + 1 + 1) ((x :: r).map Ent.v) ((x :: r).map Ent.was) g' (x :: r))
    (hF : BFr gB (Value.ownBlock (.slice (some ⟨b1, o1, none⟩) (M + 1 + 1) d1)) (Value.ownBlock (.slice (some ⟨b2, o2, none⟩) (M + 1 + 1) d2)) wr (Value.ownBlock (.slice (some ⟨b1, o1, none⟩) (M + 1 + 1) d1)) (Value.ownBlock (.slice (some ⟨b2, o2, none⟩) (M + 1 + 1) d2)) W5)
    (hg : -9223372036854775808 ≤ g' ∧ g' ≤ 9223372036854775807) (n1 : ¬ d1 = 1) (n2 : ¬ d2 = 1) :
    In w gB U A c p1 p2 ((W5.setCell ⟨gB, 0, none⟩ (.slice (some ⟨b1, o1 + 1, none⟩) (M + 1) (d1 - 1))).setCell ⟨gB, 1, none⟩ (.slice (some ⟨b2, o2 + 1, none⟩) (M + 1) (d2 - 1))) M r (some ⟨b1, o1 + 1, none⟩) (d1 - 1) (some ⟨b2, o2 + 1, none⟩) (d2 - 1) g' where
  len := by have := i.len; simpa using this
  few := by have := i.few; omega
  bk := by
    have h1 := hB.set_ 0 (.slice (some ⟨b1, o1 + 1, none⟩) (M + 1) (d1 - 1)) (v1' := .slice (some ⟨b1, o1 + 1, none⟩) (M + 1) (d1 - 1)) (v2' := .slice (some ⟨b2, o2, none⟩) (M + 1 + 1) d2) (h' := g') rfl (hB.lists.rest' n1) hB.was rfl rfl
    exact (h1.set_ 1 (.slice (some ⟨b2, o2 + 1, none⟩) (M + 1) (d2 - 1)) (v1' := .slice (some ⟨b1, o1 + 1, none⟩) (M + 1) (d1 - 1)) (v2' := .slice (some ⟨b2, o2 + 1, none⟩) (M + 1) (d2 - 1)) (h' := g') rfl h1.lists (h1.was.rest' n2) rfl rfl).tail
  fr := ((i.fr.trans hF).setB 0 _).setB 1 _
  h0 := hg.1
  h1 := hg.2
  good := fun y hy => i.good y (List.mem_cons_of_mem _ hy)
  used := fun y hy => i.used y (List.mem_cons_of_mem _ hy)

set_option maxRecDepth 100000 in
set_option maxHeartbeats 8000000 in
theorem keep_any (gB : Nat) (A : Option Addr) (n c : Nat) (cs : List Value) (U : Nat → Prop) (w : World) (hb : BAt w gB U) (hx : Kept w (gB + 1) 25 3 A n c cs) (hg : Good cs) (hfree : ∀ k, blkOf A c = some k → ¬ U k) (hn : n * 32 ≤ 140737488355328) :
    Calls Tryd.prog 31 #[.pointer (some ⟨gB, 0, none⟩), .slice A n c] w fun e w' => e = .returned (.tuple #[]) ∧ ∃ U', BAt w' gB U' ∧ KFr U w w' ∧ ∀ k, k < w.heap.size → U' k → U k ∨ blkOf A c = some k := by
  obtain ⟨A1, c1, A2, c2, h, es, bk, hfew, ⟨hh0, hh1⟩, hgood, hU, hbound⟩ := hb
  obtain ⟨i0, hi0, hz0, hz1, hz2⟩ := info_parts tl_info
  obtain ⟨N, hN⟩ : ∃ N, N = es.length := ⟨_, rfl⟩
  unfold Book at bk
  rw [← hN] at bk hU hfew
  have hxc := hx.le
  unfold maxLen at hxc
  have q0 := bk.blk.cell 0
  have hzB := bk.blk.lt
  simp only [List.getElem?_cons_zero] at q0
  have hfr := fun k hk hu => hfree k hk (hU k hu)
  have Hfr := Lib.hid hfr
  have Hbk := Lib.hid bk
  have HU := Lib.hid hU
  have Hbd := Lib.hid hbound
  have Hgood := Lib.hid hgood
  have Hg := Lib.hid hg
  have Hfree := Lib.hid hfree
  have HN := Lib.hid hN
  have Hx := Lib.hid hx
  clear hfr hU hbound hgood hg hfree bk hN hx
  go_enter Tryd.func31, Tryd.ntmps31
  go_wp2_with (first
    | (at_builtin
       refine wpList_row _ rfl (.tmp 8) (.tmp 10) _ rfl (gB + 1) 42 i0 (.slice none 0 0) 24 Tryd.underlying49 hi0 hz0 hz1 hz2 rfl (.slice A1 N c1) N (es.map Ent.v) rfl (Hbk.out.lists.keep fun k hk => Below.heap_alloc w _ k (Hbk.out.lists.lt k hk).2) w.heap.size 0 1 (.slice A n c) rfl (by simp) rfl (by unfold maxLen; omega) (by omega) (by simp; omega) ?_
       intro A1' c1' w1 hrow1 hg1 ho1
       obtain ⟨hB1, hF1, q1, f1⟩ := keep_first Hbk.out Hx.out Hfr.out hrow1 hg1 ho1
       have HB1 := Lib.hid hB1
       have HF1 := Lib.hid hF1
       clear hB1 hF1 hrow1 hg1 ho1)
    | fail)
  refine wp_region_swap (ops' := keepR1) (by kernel_rfl) (keep_r1 gB (N + 1) N n (.slice A1' (N + 1) c1') A2 c2 (es.map Ent.v ++ [.slice A n c]) (es.map Ent.was) h es A c cs _ _ _ _ _ _ _ _ _ _ _ _ _ _ _ _ _ _ _ _ _ _ _ _ _ _ _ _ _ _ _ _ _ _ _ _ _ _ _ _ _ _ _ _ _ _ _ _ _ _ _ _ _ _ _ _ _ _ _ _ _ _ _ _ _ _ _ _ _ _ _ _ _ _ _ _ _ _ _ _ _ _ _ _ _ _ _ _ _ _ _ _ _ _ _ _ _ _ _ _ _ _ _ _ _ _ _ _ _ _ _ _ HB1.out Hg.out.one (by omega) hn ?_)
  intro A2' c2' Ac cc w2 v14 v15 v16 v17 v18 v19 v20 v21 v22 v23 v24 hB2 hF2 hK2
  have q2 := hB2.blk.cell 2
  have f2 := hB2.blk.free 2
  simp only [List.getElem?_cons_zero, List.getElem?_cons_succ] at q2
  have HB2 := Lib.hid hB2
  have HF2 := Lib.hid hF2
  have HK2 := Lib.hid hK2
  clear hB2 hF2 hK2 q0 q1 f1
  go_wp2_with fail
  obtain ⟨H3, hH3⟩ : ∃ H, H = wrap64 (wrap64 (h + (c : Int)) + 1) := ⟨_, rfl⟩
  have w1b := wrap64_in (wrap64 (h + (c : Int)) + 1)
  rw [← hH3] at w1b ⊢
  have hB3 := HB2.out.set_ 2 (.int .i64 H3) (h' := H3) rfl HB2.out.lists HB2.out.was rfl rfl
  have hF3 := (HF1.out.trans HF2.out).setB 2 (.int .i64 H3)
  have hI0 : In w gB U A c (Value.ownBlock (.slice A1 N c1)) (Value.ownBlock (.slice A2 N c2)) (w2.setCell ⟨gB, 2, none⟩ (.int .i64 H3)) N (es ++ [⟨A, n, c, cs, Ac, cc⟩]) A1' c1' A2' c2' H3 := by
    refine ⟨by rw [List.length_append, ← HN.out]; rfl, hfew, ?_, hF3, w1b.1, w1b.2, fun x hx => ?_, fun x hx k hk hu => ?_⟩
    · rw [List.map_append, List.map_append]
      exact hB3
    · rcases List.mem_append.1 hx with hx | hx
      · exact Hgood.out x hx
      · obtain rfl := List.mem_singleton.1 hx
        exact Hg.out
    · rcases List.mem_append.1 hx with hx | hx
      · exact .inl (HU.out k (.inr (.inr (.inr ⟨x, hx, hu⟩))))
      · obtain rfl := List.mem_singleton.1 hx
        rcases hu with hu | hu
        · exact .inr hu
        · have := HK2.out k hu
          have := HF1.out.size
          omega
  clear hB3 hF3 w1b hH3 q2 f2
  have HI0 := Lib.hid hI0
  clear hI0 HB2 HF1 HF2 HK2 HB1
  go_loopw [] (fun wr => ∃ (N' : Nat) (es' : List Ent) (B1 : Option Addr) (d1 : Nat) (B2 : Option Addr) (d2 : Nat) (h' : Int), In w gB U A c (Value.ownBlock (.slice A1 N c1)) (Value.ownBlock (.slice A2 N c2)) wr N' es' B1 d1 B2 d2 h') (fun wr => lenAt wr gB)
  case atStart => exact ⟨_, _, _, _, _, _, _, HI0.out⟩
  case round =>
    obtain ⟨M, fs, B1, d1, B2, d2, g, hI⟩ := hrel
    have HI := Lib.hid hI
    have q0 := hI.bk.blk.cell 0
    have q2 := hI.bk.blk.cell 2
    simp only [List.getElem?_cons_zero, List.getElem?_cons_succ] at q0 q2
    have hM := hI.few
    have g0 := hI.h0
    have g1 := hI.h1
    clear hI
    have hend : ∀ wr, In w gB U A c (Value.ownBlock (.slice A1 N c1)) (Value.ownBlock (.slice A2 N c2)) wr M fs B1 d1 B2 d2 g → M + 1 ≤ 4000 → ∃ U', BAt wr gB U' ∧ KFr U w wr ∧ ∀ k, k < w.heap.size → U' k → U k ∨ blkOf A c = some k :=
      fun wr hi hm => hi.done hm (HU.out gB (.inl rfl)) (fun k e => HU.out k (.inr (.inl e))) (fun k e => HU.out k (.inr (.inr (.inl e))))
    have Hend := Lib.hid hend
    clear hend
    rcases M with _ | M
    · go_wp2_with fail
      (try simp only [Exit.inBlock, Exit.then])
      refine bodyPost_end (results_none rfl _ _ _) rfl ?_
      exact ⟨rfl, Hend.out _ HI.out (by omega)⟩
    · by_cases hcase : 1000000 < g ∨ 4000 < M + 1 + 1
      · obtain ⟨x, r, rfl⟩ : ∃ x r, fs = x :: r := by
          have := HI.out.len
          cases fs with
          | nil => simp at this
          | cons x r => exact ⟨x, r, rfl⟩
        obtain ⟨b1, o1, rfl, hb1, hb1', e1⟩ := HI.out.bk.lists.at_ (k := 0) (u := x.v) rfl
        obtain ⟨b2, o2, rfl, hb2, hb2', e2⟩ := HI.out.bk.was.at_ (k := 0) (u := x.was) rfl
        rw [Nat.add_zero] at e1 e2
        have c1b := HI.out.bk.lists.cap
        have c2b := HI.out.bk.was.cap
        unfold maxLen at c1b c2b
        have n1 : ¬ d1 = 1 := by omega
        have n2 : ¬ d2 = 1 := by omega
        have hs := fun (W : World) (b : BkW W gB (.slice (some ⟨b1, o1, none⟩) (M + 1 + 1) d1) (.slice (some ⟨b2, o2, none⟩) (M + 1 + 1) d2) (M + 1 + 1) (M + 1 + 1) ((x :: r).map Ent.v) ((x :: r).map Ent.was) g (x :: r)) =>
          same_good (HI.out.good x (by simp)) (b.ents x (by simp)).1 (b.ents x (by simp)).2
        have Hs := Lib.hid hs
        clear hs
        rcases (show 1000000 < g ∨ (g ≤ 1000000 ∧ (4000 : Int) < M + 1 + 1) by omega) with hgg | ⟨hgg, hMM⟩
        all_goals
          clear hcase
          go_wp2_with fail
          refine wp_region_swap (ops' := keepR4) (by kernel_rfl) (keep_r4 gB (M + 1 + 1) (M + 1 + 1) _ d1 _ d2 _ _ g (x :: r) b1 o1 b2 o2 x _ _ _ _ _ _ _ _ _ _ _ _ _ _ _ _ _ _ _ _ _ _ _ _ _ _ _ _ _ _ _ _ _ _ _ _ _ _ _ _ _ _ _ _ _ _ _ _ _ _ _ _ _ _ _ _ _ _ _ _ _ _ _ _ _ _ _ _ _ _ _ _ _ _ _ _ _ _ _ _ _ _ _ _ _ _ _ _ _ _ _ _ _ _ _ _ _ _ _ _ _ _ _ _ _ _ _ _ _ _ _ _ _ HI.out.bk rfl rfl (by omega) (by omega) e1 e2 (Lib.hid (Hs.out _ HI.out.bk.drew)) ?_)
          intro W4 v57 v58 v59 v60 v61 v62 v63 v64 v65 v66 v67 v68 v69 v70 v71 v72 v73 v74 v75 v76 v77 v78 v79 hB4 hF4
          go_wp2_with fail
          refine wp_region_swap (ops' := keepR5) (by kernel_rfl) (keep_r5 gB (M + 1 + 1) (M + 1 + 1) _ d1 _ _ _ g (x :: r) b1 o1 x _ _ _ _ _ _ _ _ _ _ _ _ _ _ _ _ _ _ _ _ _ _ _ _ _ _ _ _ _ _ _ _ _ _ _ _ _ _ _ _ _ _ _ _ _ _ _ _ _ _ _ _ _ _ _ _ _ _ _ _ _ _ _ _ _ _ _ _ _ _ _ _ _ _ _ _ _ _ _ _ _ _ _ _ _ _ _ _ _ _ _ _ _ _ _ _ _ _ _ _ _ _ _ _ _ _ _ _ _ _ _ _ _ hB4 rfl (by omega) (by omega) (by have := (hB4.lists.cell (k := 0) (u := x.v) rfl).2; rwa [Nat.add_zero] at this) ?_)
          intro g' W5 v80 v81 v82 v83 v84 v85 v86 v87 v88 v89 v90 v91 v92 v93 v94 v95 hB5 hg5 hF5
          have p0 := hB5.blk.cell 0
          have p1 := hB5.blk.cell 1
          have f0 := hB5.blk.free 0
          have f1 := hB5.blk.free 1
          simp only [List.getElem?_cons_zero, List.getElem?_cons_succ] at p0 p1
          have HB5 := Lib.hid hB5
          have HF := Lib.hid (hF4.trans hF5)
          clear hB4 hF4 hB5 hF5 q0 q2
          go_wp2_with fail
          have hN := HI.out.next HB5.out HF.out hg5 n1 n2
          refine ⟨⟨M, r, _, _, _, _, g', hN⟩, ?_⟩
          rw [lenAt_of (hN.bk.blk.cell 0), lenAt_of (HI.out.bk.blk.cell 0)]
          omega
      · go_wp2_with fail
        (try simp only [Exit.inBlock, Exit.then])
        refine bodyPost_end (results_none rfl _ _ _) rfl ?_
        exact ⟨rfl, Hend.out _ HI.out (by omega)⟩
/-- the same for a list in memory that is new behind the book -/
theorem keep_new {gB : Nat} {W W1 : World} {U : Nat → Prop} {cs : List Value} {A1 : Option Addr} {m c1 : Nat} (hB : BAt W gB U) (hb : Below W.heap.size W W1) (hk : Kept W1 W.heap.size 25 3 A1 m c1 cs) (hg : Good cs) (hn : m * 32 ≤ 140737488355328) :
    Calls Tryd.prog 31 #[.pointer (some ⟨gB, 0, none⟩), .slice A1 m c1] W1 fun e w' => e = .returned (.tuple #[]) ∧ ∃ U', BAt w' gB U' ∧ KFr U W1 w' := by
  refine (keep_any gB A1 m c1 cs U W1 (hB.below hb) (hk.more (by have := hB.at_.2; omega)) hg (fun k hk' hu => ?_) hn).mono fun e w' ⟨h1, U', h2, h3, _⟩ => ⟨h1, U', h2, h3⟩
  have h1 := (hk.lt k hk').1
  have h2 := (hB.bound k hu).2
  omega
/-- between two calls: the book at block gB, and all that was there before it is as it was -/
def At (w : World) (gB : Nat) (wr : World) : Prop := ∃ U, BAt wr gB U ∧ Below gB w wr
theorem At.put {gB : Nat} {w wr w1 w2 : World} {U U' : Nat → Prop} (h2 : Below gB w wr) (hb : Below wr.heap.size wr w1) (hz : gB ≤ wr.heap.size) (hU : ∀ k, U k → gB ≤ k) (hB : BAt w2 gB U') (hK : KFr U w1 w2) : At w gB w2 :=
  ⟨U', hB, (h2.trans (hb.mono hz)).trans (hK.below hU (Nat.le_trans hz hb.size))⟩
end Go.Proofs.YtfplkmldleigpaaDoor.bookop
