/- One turn of law DecodeAll's outer loop. Conditions: none. -/
import Derived.Test.YthcjnkakfpmpbaaDoorG4
namespace Go.Proofs.YthcjnkakfpmpbaaDoor.decodeAll
open Go.RowKit Go.Shelf
set_option linter.unusedVariables false
set_option linter.unusedSimpArgs false
attribute [local go_sem] Oper.semAt_some

theorem wp_swap {P : Program} {c c' : Code} {Q : Exit → Act → World → Prop} {a : Act} {w : World} (h : c = c') (hw : c'.wp P Q a w) : c.wp P Q a w := h ▸ hw

set_option maxRecDepth 100000 in
set_option maxHeartbeats 4000000 in
theorem turn (h n0 tb : Nat) (A : Option Addr) (n c : Nat) (l : List UInt8) (at_ stop T r : Int) (ds : List Deferred) (u9 u10 u11 u12 u13 u14 u15 u16 u17 u18 u19 u20 u21 u22 u23 u24 u25 u26 u27 u28 u29 u30 u31 u32 u33 u34 u35 u36 u37 u38 u39 u40 u41 u42 u43 u44 u45 u46 u47 u48 u49 u50 u51 u52 u53 u54 u55 u56 u57 u58 u59 u60 u61 u62 u63 u64 u65 u66 u67 u68 u69 u70 u71 u72 u73 u74 u75 u76 u77 u78 u79 u80 u81 : Value) (wr : World) (Q : Exit → Act → World → Prop)
    (hs : Sl wr (h + 5) 1 A n (bs l)) (hnc : n ≤ c) (hn : n ≤ 500) (ha0 : -9223372036854775808 ≤ at_) (ha1 : at_ ≤ 9223372036854775807)
    (hT : TabIs 0 wr) (hg : 0 < h)
    (bB : Blk wr h 22 [.slice A n c]) (bS : Blk wr (h + 1) 3 [.int .i64 r]) (bR : Blk wr (h + 2) 4 [.bool false])
    (b3 : Blk wr (h + 3) 22 [.slice A n c]) (b4 : Blk wr (h + 4) 3 [.int .i64 at_]) (bT : Blk wr tb 3 [.int .i64 T])
    (h3 : h + 5 ≤ tb) (hT0 : 0 ≤ T) (hT2 : T < 2)
    (hQ : ∀ (tb' D : Nat) (u9 u10 u11 u12 u13 u14 u15 u16 u17 u18 u19 u20 u21 u22 u23 u24 u25 u26 u27 u28 u29 u30 u31 u32 u33 u34 u35 u36 u37 u38 u39 u40 u41 u42 u43 u44 u45 u46 u47 u48 u49 u50 u51 u52 u53 u54 u55 u56 u57 u58 u59 u60 u61 u62 u63 u64 u65 u66 u67 u68 u69 u70 u71 u72 u73 u74 u75 u76 u77 u78 u79 u80 u81 : Value) (W' : World), wr.heap.size ≤ tb' → Blk W' tb' 3 [.int .i64 (T + 1)] → Below wr.heap.size wr W' → wr.heap.size ≤ D → W'.heap[D]? = some (.deferred (some [])) →
      Q .normal (lframe h n0 A c at_ stop tb' ({ target := .collected D, args := #[] } :: ds) u9 u10 u11 u12 u13 u14 u15 u16 u17 u18 u19 u20 u21 u22 u23 u24 u25 u26 u27 u28 u29 u30 u31 u32 u33 u34 u35 u36 u37 u38 u39 u40 u41 u42 u43 u44 u45 u46 u47 u48 u49 u50 u51 u52 u53 u54 u55 u56 u57 u58 u59 u60 u61 u62 u63 u64 u65 u66 u67 u68 u69 u70 u71 u72 u73 u74 u75 u76 u77 u78 u79 u80 u81) W') :
    turnC.wp Tryd.prog Q (lframe h n0 A c at_ stop tb ds u9 u10 u11 u12 u13 u14 u15 u16 u17 u18 u19 u20 u21 u22 u23 u24 u25 u26 u27 u28 u29 u30 u31 u32 u33 u34 u35 u36 u37 u38 u39 u40 u41 u42 u43 u44 u45 u46 u47 u48 u49 u50 u51 u52 u53 u54 u55 u56 u57 u58 u59 u60 u61 u62 u63 u64 u65 u66 u67 u68 u69 u70 u71 u72 u73 u74 u75 u76 u77 u78 u79 u80 u81) wr := by
  unfold lframe at hQ ⊢
  have HQ := Lib.hid hQ
  clear hQ
  conv in turnC => whnf
  have cT := bT.cell 0
  have hzT := bT.lt
  simp only [List.getElem?_cons_zero] at cT
  have t1 : (T < 2) = True := by simp [hT2]
  have t2 : decide (T < 2) = true := by simp [hT2]
  go_wp2_with fail
  obtain ⟨W0, hW0⟩ : ∃ W0, ((wr.alloc (.cells #[.int .i64 at_] 3)).alloc (.cells #[.int .i64 0] 3)).alloc (.cells #[.bool false] 4) = W0 := ⟨_, rfl⟩
  have b0 : Below wr.heap.size wr W0 := by rw [← hW0]; exact (((Below.refl _ wr).alloc (Nat.le_refl _) _).alloc (by simp) _).alloc (by simp; omega) _
  have z0 : W0.heap.size = wr.heap.size + 3 := by rw [← hW0]; simp
  have k0 : Blk W0 wr.heap.size 3 [.int .i64 at_] := by rw [← hW0]; exact ((Blk.new wr 3 [.int .i64 at_]).alloc _).alloc _
  have k1 : Blk W0 (wr.heap.size + 1) 3 [.int .i64 (([] : List Stp).length : Int)] := by rw [← hW0]; have := (Blk.new (wr.alloc (.cells #[.int .i64 at_] 3)) 3 [.int .i64 0]).alloc (.cells #[.bool false] 4); simpa using this
  have k2 : Blk W0 (wr.heap.size + 2) 4 [.bool false] := by rw [← hW0]; have := Blk.new ((wr.alloc (.cells #[.int .i64 at_] 3)).alloc (.cells #[.int .i64 0] 3)) 4 [.bool false]; simpa using this
  rw [hW0]
  have B0 := bB.below b0 (by omega)
  have B1 := bS.below b0 (by omega)
  have B2 := bR.below b0 (by omega)
  have B3 := b3.below b0 (by omega)
  have B4 := b4.below b0 (by omega)
  have BT := bT.below b0 (by omega)
  have hT0' := hT.below b0 hT.lt
  have hs0 : Sl W0 wr.heap.size 1 A n (bs l) := (hs.more (by omega)).below b0
  clear hW0 cT t1 t2
  refine (wpIn_wide (n := 5)).1 ?_
  refine wpIn_rangeFunc_ownH (F := Fence.wide) (n := 5) (α := Stp) rfl (by omega) (gf := 53) (lb := #[.pointer (some ⟨h + 4, 0, none⟩), .pointer (some ⟨h + 3, 0, none⟩)]) rfl trivial (enters_of Tryd.func53 (by kernel_rfl) rfl)
    (dall_stops 4 (h + 4) (h + 3) wr.heap.size (by omega) A n c l at_ W0 hnc (by omega) ha0 ha1 (by omega) (B4.cell 0) (by omega) (B3.cell 0) (by omega) hT0' (by omega) hs0)
    belowK_t (belowK_b (by omega)) (Below.refl _ _) (fun _ => rfl) (Mid l at_ wr.heap.size W0) (Gone l at_ wr.heap.size W0) (mid_own l at_ _ W0 (by omega)) (gone_own l at_ _ W0 (by omega))
    ⟨⟨at_, rfl, k0, k1, k2⟩, Below.refl _ _⟩ (AtX h tb wr.heap.size) (atX_own _ h tb _) ?assign ?body ?done ?stop
  case assign =>
    intro lp pre x W K hi hK
    have hzW := hi.2.size
    dsimp only [Stp.encs, Stp.val]
    gi_wp2_with fail
    exact hK _ _ ((KeepsOthers.alloc _ _).from _) ((Below.refl _ W).alloc (by omega) _) ((mid_own l at_ _ W0 (by omega)).alloc _ hi) ⟨W.heap.size, _, _, _, _, _, _, _, _, _, _, _, _, _, _, _, _, _, _, _, _, _, _, _, _, _, _, _, _, _, _, _, _, _, _, _, _, _, _, _, _, _, _, _, _, _, _, _, _, _, _, _, _, _, _, _, _, _, _, _, _, _, _, _, _, _, _, _, _, _, _, _, _, _, _, by omega, Blk.new W _ _, rfl⟩
  case body =>
    intro lp pre x a' W hlp hr hM hX hlt
    exact wpIn_swap (by kernel_rfl) (round_any lp h tb wr.heap.size A n c l at_ T r W0 W pre x a' hs0 hnc hn B0 B1 B2 BT (by omega) (by omega) (by omega) hlt hM hX)
  case done =>
    rintro D xs W hD ⟨e, hrun, he⟩ ⟨⟨k, hrun', q0, q1, q2⟩, hb⟩ hK
    rw [hrun.fun_ hrun'] at he
    have hf0 := fun w hw => refDecode_any A n c l k w hw hnc (by omega)
    obtain ⟨⟨⟨j0, j1, j2, j3, j4⟩, jn, je⟩, hr0⟩ : ∃ r0, r0 = decR l k := ⟨_, rfl⟩
    rw [← hr0] at hf0 he
    have hje : (je == 0) = false := by simpa using he
    have Hf := Lib.hid hf0
    clear hf0 hr0
    have C0 := B0.below hb (by omega)
    have CT := BT.below hb (by omega)
    have hsW : Sl W W.heap.size 1 A n (bs l) := (hs0.below hb).more (by have := hb.size; omega)
    have e0 := C0.cell 0
    have e1 := CT.cell 0
    have e2 := q0.cell 0
    have e3 := q2.cell 0
    simp only [List.getElem?_cons_zero] at e0 e1 e2 e3
    have y0 := C0.lt
    have y1 := CT.lt
    have y2 := q0.lt
    have y3 := q2.lt
    have hDW := (Array.getElem?_eq_some_iff.1 hK).1
    have HK := Lib.hid hK
    clear hK
    dsimp only
    go_wp2_with (first
      | (go_at_call 17; refine (Hf.out _ hsW).mono ?_; rintro e w1 ⟨rfl, hb1⟩; obtain ⟨c1, f1⟩ := bcell hb1; have hz1 := hb1.size; have z0 : h < w1.heap.size := (by omega); have z1 : tb < w1.heap.size := (by omega); have z2 : wr.heap.size < w1.heap.size := (by omega); have z3 : wr.heap.size + 2 < w1.heap.size := (by omega)))
    have hbb := ((hb1.alloc hb1.size (.cells #[.int .i64 j0, .int .i64 j1, .int .i64 j2, .int .i32 j3, .int .i64 j4] 25)).alloc (by rw [World.size_alloc]; omega) (.cells #[.int .i64 (T + 1)] 3))
    have hzW := hb.size
    exact HQ.out (w1.heap.size + 1) D _ _ _ _ _ _ _ _ _ _ _ _ _ _ _ _ _ _ _ _ _ _ _ _ _ _ _ _ _ _ _ _ _ _ _ _ _ _ _ _ _ _ _ _ _ _ _ _ _ _ _ _ _ _ _ _ _ _ _ _ _ _ _ _ _ _ _ _ _ _ _ _ _ _ (by omega) (by have := Blk.new (w1.alloc (.cells #[.int .i64 j0, .int .i64 j1, .int .i64 j2, .int .i32 j3, .int .i64 j4] 25)) 3 [.int .i64 (T + 1)]; rw [World.size_alloc] at this; exact this) ((b0.trans hb).trans (hbb.mono (by omega))) (by omega) ((hbb.block D hDW).trans HK.out)
  case stop =>
    rintro D cd pre W hD hS (⟨rfl, ⟨k, q0⟩, q2, hb⟩ | ⟨_, hno⟩) hK
    · have hf0 := fun w hw => refDecode_any A n c l k w hw hnc (by omega)
      obtain ⟨⟨⟨j0, j1, j2, j3, j4⟩, jn, je⟩, hr0⟩ : ∃ r0, r0 = decR l k := ⟨_, rfl⟩
      rw [← hr0] at hf0
      refine wpIn_wide.2 ?_
      have Hf := Lib.hid hf0
      clear hf0 hr0
      have C0 := B0.below hb (by omega)
      have CT := BT.below hb (by omega)
      have hsW : Sl W W.heap.size 1 A n (bs l) := (hs0.below hb).more (by have := hb.size; omega)
      have e0 := C0.cell 0
      have e1 := CT.cell 0
      have e2 := q0.cell 0
      have e3 := q2.cell 0
      simp only [List.getElem?_cons_zero] at e0 e1 e2 e3
      have y0 := C0.lt
      have y1 := CT.lt
      have y2 := q0.lt
      have y3 := q2.lt
      have hDW := (Array.getElem?_eq_some_iff.1 hK).1
      have HK := Lib.hid hK
      clear hK
      dsimp only
      go_wp2_with (first
        | (go_at_call 17; refine (Hf.out _ hsW).mono ?_; rintro e w1 ⟨rfl, hb1⟩; obtain ⟨c1, f1⟩ := bcell hb1; have hz1 := hb1.size; have z0 : h < w1.heap.size := (by omega); have z1 : tb < w1.heap.size := (by omega); have z2 : wr.heap.size < w1.heap.size := (by omega); have z3 : wr.heap.size + 2 < w1.heap.size := (by omega)))
      have hbb := ((hb1.alloc hb1.size (.cells #[.int .i64 j0, .int .i64 j1, .int .i64 j2, .int .i32 j3, .int .i64 j4] 25)).alloc (by rw [World.size_alloc]; omega) (.cells #[.int .i64 (T + 1)] 3))
      have hzW := hb.size
      exact HQ.out (w1.heap.size + 1) D _ _ _ _ _ _ _ _ _ _ _ _ _ _ _ _ _ _ _ _ _ _ _ _ _ _ _ _ _ _ _ _ _ _ _ _ _ _ _ _ _ _ _ _ _ _ _ _ _ _ _ _ _ _ _ _ _ _ _ _ _ _ _ _ _ _ _ _ _ _ _ _ _ _ (by omega) (by have := Blk.new (w1.alloc (.cells #[.int .i64 j0, .int .i64 j1, .int .i64 j2, .int .i32 j3, .int .i64 j4] 25)) 3 [.int .i64 (T + 1)]; rw [World.size_alloc] at this; exact this) ((b0.trans hb).trans (hbb.mono (by omega))) (by omega) ((hbb.block D hDW).trans HK.out)
    · exact absurd hS hno
end Go.Proofs.YthcjnkakfpmpbaaDoor.decodeAll
