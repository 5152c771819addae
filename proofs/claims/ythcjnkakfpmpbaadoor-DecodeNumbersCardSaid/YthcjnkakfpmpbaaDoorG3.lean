/- A round of law DecodeAll's range over decode.All: what it does with a step that is handed out. Conditions: none. -/
import Derived.Test.YthcjnkakfpmpbaaDoorG2
import Derived.Test.YthcjnkakfpmpbaaDoorD18
import Derived.Test.YthcjnkakfpmpbaaDoorR1
namespace Go.Proofs.YthcjnkakfpmpbaaDoor.decodeAll
open Go.RowKit Go.Shelf
set_option linter.unusedVariables false
set_option linter.unusedSimpArgs false
attribute [local go_sem] Oper.semAt_some

/-- the body of the first range over a function in a code -/
def rangeIn : Code → Option Code
  | .rangeFunc _ _ _ b => some b
  | .seq a b => match rangeIn a with | some o => some o | none => rangeIn b
  | .cond _ a b => match rangeIn a with | some o => some o | none => rangeIn b
  | .block _ b => rangeIn b
  | .loop b => rangeIn b
  | .scope b => rangeIn b
  | _ => none
def rangeOf (c : Option Code) : Code := match c with | some c => (match rangeIn c with | some o => o | none => .skip) | none => .skip
noncomputable def body : Code := rangeOf Tryd.f5.body
theorem wpIn_swap {F : Fence} {n : Nat} {P : Program} {c c' : Code} {Q : Exit → Act → World → Prop} {a : Act} {w : World} (h : c = c') (hw : c'.wpIn F n P Q a w) : c.wpIn F n P Q a w := h ▸ hw
def frame (bb sb rs tb s Bx : Nat) (u0 u1 u2 u4 u7 u13 u14 u15 u16 u17 u18 u19 u20 u21 u22 u23 u24 u25 u26 u27 u28 u29 u30 u31 u32 u33 u34 u35 u36 u37 u38 u39 u40 u41 u42 u43 u44 u45 u46 u47 u48 u49 u50 u51 u52 u53 u54 u55 u56 u57 u58 u59 u60 u61 u62 u63 u64 u65 u66 u67 u68 u69 u70 u71 u72 u73 u74 u75 u76 u77 u78 u79 u80 u81 : Value) : Act := { tmps := #[u0, u1, u2, .pointer (some ⟨bb, 0, none⟩), u4, .pointer (some ⟨sb, 0, none⟩), .pointer (some ⟨rs, 0, none⟩), u7, .pointer (some ⟨tb, 0, none⟩), .pointer (some ⟨s, 0, none⟩), .pointer (some ⟨s + 1, 0, none⟩), .pointer (some ⟨s + 2, 0, none⟩), .pointer (some ⟨Bx, 0, none⟩), u13, u14, u15, u16, u17, u18, u19, u20, u21, u22, u23, u24, u25, u26, u27, u28, u29, u30, u31, u32, u33, u34, u35, u36, u37, u38, u39, u40, u41, u42, u43, u44, u45, u46, u47, u48, u49, u50, u51, u52, u53, u54, u55, u56, u57, u58, u59, u60, u61, u62, u63, u64, u65, u66, u67, u68, u69, u70, u71, u72, u73, u74, u75, u76, u77, u78, u79, u80, u81], defers := [] }

set_option maxRecDepth 100000 in
set_option maxHeartbeats 4000000 in
theorem round_stay0 (lp bb sb rs tb s Bx : Nat) (A : Option Addr) (n c : Nat) (l : List UInt8) (W : World) (T r k : Int) (N : Nat) (xl x0 x1 x2 x3 x4 : Int) (u0 u1 u2 u4 u7 u13 u14 u15 u16 u17 u18 u19 u20 u21 u22 u23 u24 u25 u26 u27 u28 u29 u30 u31 u32 u33 u34 u35 u36 u37 u38 u39 u40 u41 u42 u43 u44 u45 u46 u47 u48 u49 u50 u51 u52 u53 u54 u55 u56 u57 u58 u59 u60 u61 u62 u63 u64 u65 u66 u67 u68 u69 u70 u71 u72 u73 u74 u75 u76 u77 u78 u79 u80 u81 : Value) (Q : Exit → Act → World → Prop)
    (hs : Sl W W.heap.size 1 A n (bs l)) (hnc : n ≤ c) (hn : (n : Int) ≤ 140737488351232)
    (bB : Blk W bb 22 [.slice A n c]) (bS : Blk W sb 3 [.int .i64 r]) (bR : Blk W rs 4 [.bool false]) (bT : Blk W tb 3 [.int .i64 T]) (bK : Blk W s 3 [.int .i64 k]) (bN : Blk W (s + 1) 3 [.int .i64 N]) (bL : Blk W (s + 2) 4 [.bool false])
    (bX : Blk W Bx 40 [.int .i64 k, .int .i64 xl, .int .i64 x0, .int .i64 x1, .int .i64 x2, .int .i32 x3, .int .i64 x4])
    (h1 : bb < s) (h2 : sb < s) (h3 : tb < s) (h4 : s + 2 < Bx) (h5 : rs < s) (hN : (N : Int) < 1000)
    (hk : 0 ≤ k ∧ k ≤ 140737488351232) (hxl : 0 ≤ xl ∧ xl ≤ 6) (hst : (T == 1) = false)
    (Hr : Hid (∀ w, Sl w w.heap.size 1 A n (bs l) → Calls Tryd.prog 17 #[.slice A n c, .int .i64 k] w fun e w' => e = .returned (.tuple #[.agg #[.int .i64 x0, .int .i64 x1, .int .i64 x2, .int .i32 x3, .int .i64 x4], .int .i64 xl, .int .i64 0]) ∧ Below w.heap.size w w'))
    (hQ : ∀ a' W', KeepsOthers W W' → Below s W W' → Blk W' s 3 [.int .i64 (k + xl)] → Blk W' (s + 1) 3 [.int .i64 ((N : Int) + 1)] → Blk W' (s + 2) 4 [.bool false] → Q .normal a' W') :
    body.wpIn (Fence.wide.inRound lp) 3 Tryd.prog Q (frame bb sb rs tb s Bx u0 u1 u2 u4 u7 u13 u14 u15 u16 u17 u18 u19 u20 u21 u22 u23 u24 u25 u26 u27 u28 u29 u30 u31 u32 u33 u34 u35 u36 u37 u38 u39 u40 u41 u42 u43 u44 u45 u46 u47 u48 u49 u50 u51 u52 u53 u54 u55 u56 u57 u58 u59 u60 u61 u62 u63 u64 u65 u66 u67 u68 u69 u70 u71 u72 u73 u74 u75 u76 u77 u78 u79 u80 u81) W := by
  unfold frame
  have HQ := Lib.hid hQ
  clear hQ
  have hzB := bX.lt
  conv in body => whnf
  have y0 := bB.lt
  have y1 := bS.lt
  have y2 := bT.lt
  have y3 := bK.lt
  have y4 := bN.lt
  have y5 := bL.lt
  have y7 := bR.lt
  have x_0 := bX.cell 0
  have x_1 := bX.cell 1
  have x_2 := bX.cell 2
  have x_3 := bX.cell 3
  have x_4 := bX.cell 4
  have x_5 := bX.cell 5
  have x_6 := bX.cell 6
  have b0 := bB.cell 0
  have k0 := bK.cell 0
  have n0 := bN.cell 0
  have s0 := bS.cell 0
  have t0 := bT.cell 0
  have kf := bK.free 0
  have nf := bN.free 0
  have lf := bL.free 0
  have l0 := bL.cell 0
  have r0 := bR.cell 0
  have rf := bR.free 0
  simp only [List.getElem?_cons_zero, List.getElem?_cons_succ] at x_0 x_1 x_2 x_3 x_4 x_5 x_6 b0 k0 n0 s0 t0 l0 r0
  gi_wp2_with (first
    | (refine ⟨trivial, ?_⟩; gi_at_call 17; refine (CallsIn.inRound lp (callsIn_wide.2 (Hr.out _ hs))).mono ?_; rintro e w1 ⟨rfl, hb1⟩; obtain ⟨c1, f1⟩ := bcell hb1; have hz1 := hb1.size; have z0 : bb < w1.heap.size := (by omega); have z1 : sb < w1.heap.size := (by omega); have z2 : tb < w1.heap.size := (by omega); have z3 : s < w1.heap.size := (by omega); have z4 : s + 1 < w1.heap.size := (by omega); have z5 : s + 2 < w1.heap.size := (by omega); have z6 : Bx < w1.heap.size := (by omega); have z7 : rs < w1.heap.size := (by omega)))
  have hbs : Below s W w1 := hb1.mono (by omega); have hzs := hb1.size; have q0 := bK.below hb1 (by omega); have q1 := bN.below hb1 (by omega); have q2 := bL.below hb1 (by omega)
  exact HQ.out _ _ ((((keeps_below hb1).trans (KeepsOthers.setCell _ _ _)).trans (KeepsOthers.setCell _ _ _)).trans (KeepsOthers.alloc _ _)) (((hbs.setCell (p := ⟨s, 0, none⟩) (Nat.le_refl _) _).setCell (p := ⟨s + 1, 0, none⟩) (Nat.le_succ _) _).alloc (by rw [World.size_setCell, World.size_setCell]; omega) _)
    (((q0.set_ 0 _).far (by simp) _).alloc _) (((q1.far (by simp) _).set_ 0 _).alloc _) (((q2.far (by simp) _).far (by simp) _).alloc _)

set_option maxRecDepth 100000 in
set_option maxHeartbeats 4000000 in
theorem round_stay1 (lp bb sb rs tb s Bx : Nat) (A : Option Addr) (n c : Nat) (l : List UInt8) (W : World) (T r k : Int) (N : Nat) (xl x0 x1 x2 x3 x4 : Int) (u0 u1 u2 u4 u7 u13 u14 u15 u16 u17 u18 u19 u20 u21 u22 u23 u24 u25 u26 u27 u28 u29 u30 u31 u32 u33 u34 u35 u36 u37 u38 u39 u40 u41 u42 u43 u44 u45 u46 u47 u48 u49 u50 u51 u52 u53 u54 u55 u56 u57 u58 u59 u60 u61 u62 u63 u64 u65 u66 u67 u68 u69 u70 u71 u72 u73 u74 u75 u76 u77 u78 u79 u80 u81 : Value) (Q : Exit → Act → World → Prop)
    (hs : Sl W W.heap.size 1 A n (bs l)) (hnc : n ≤ c) (hn : (n : Int) ≤ 140737488351232)
    (bB : Blk W bb 22 [.slice A n c]) (bS : Blk W sb 3 [.int .i64 r]) (bR : Blk W rs 4 [.bool false]) (bT : Blk W tb 3 [.int .i64 T]) (bK : Blk W s 3 [.int .i64 k]) (bN : Blk W (s + 1) 3 [.int .i64 N]) (bL : Blk W (s + 2) 4 [.bool false])
    (bX : Blk W Bx 40 [.int .i64 k, .int .i64 xl, .int .i64 x0, .int .i64 x1, .int .i64 x2, .int .i32 x3, .int .i64 x4])
    (h1 : bb < s) (h2 : sb < s) (h3 : tb < s) (h4 : s + 2 < Bx) (h5 : rs < s) (hN : (N : Int) < 1000)
    (hk : 0 ≤ k ∧ k ≤ 140737488351232) (hxl : 0 ≤ xl ∧ xl ≤ 6) (hT : (T == 1) = true) (hst : decide (r < (N : Int) + 1) = false) (hst' : (r < (N : Int) + 1) = False)
    (Hr : Hid (∀ w, Sl w w.heap.size 1 A n (bs l) → Calls Tryd.prog 17 #[.slice A n c, .int .i64 k] w fun e w' => e = .returned (.tuple #[.agg #[.int .i64 x0, .int .i64 x1, .int .i64 x2, .int .i32 x3, .int .i64 x4], .int .i64 xl, .int .i64 0]) ∧ Below w.heap.size w w'))
    (hQ : ∀ a' W', KeepsOthers W W' → Below s W W' → Blk W' s 3 [.int .i64 (k + xl)] → Blk W' (s + 1) 3 [.int .i64 ((N : Int) + 1)] → Blk W' (s + 2) 4 [.bool false] → Q .normal a' W') :
    body.wpIn (Fence.wide.inRound lp) 3 Tryd.prog Q (frame bb sb rs tb s Bx u0 u1 u2 u4 u7 u13 u14 u15 u16 u17 u18 u19 u20 u21 u22 u23 u24 u25 u26 u27 u28 u29 u30 u31 u32 u33 u34 u35 u36 u37 u38 u39 u40 u41 u42 u43 u44 u45 u46 u47 u48 u49 u50 u51 u52 u53 u54 u55 u56 u57 u58 u59 u60 u61 u62 u63 u64 u65 u66 u67 u68 u69 u70 u71 u72 u73 u74 u75 u76 u77 u78 u79 u80 u81) W := by
  unfold frame
  have HQ := Lib.hid hQ
  clear hQ
  have hzB := bX.lt
  conv in body => whnf
  have y0 := bB.lt
  have y1 := bS.lt
  have y2 := bT.lt
  have y3 := bK.lt
  have y4 := bN.lt
  have y5 := bL.lt
  have y7 := bR.lt
  have x_0 := bX.cell 0
  have x_1 := bX.cell 1
  have x_2 := bX.cell 2
  have x_3 := bX.cell 3
  have x_4 := bX.cell 4
  have x_5 := bX.cell 5
  have x_6 := bX.cell 6
  have b0 := bB.cell 0
  have k0 := bK.cell 0
  have n0 := bN.cell 0
  have s0 := bS.cell 0
  have t0 := bT.cell 0
  have kf := bK.free 0
  have nf := bN.free 0
  have lf := bL.free 0
  have l0 := bL.cell 0
  have r0 := bR.cell 0
  have rf := bR.free 0
  simp only [List.getElem?_cons_zero, List.getElem?_cons_succ] at x_0 x_1 x_2 x_3 x_4 x_5 x_6 b0 k0 n0 s0 t0 l0 r0
  gi_wp2_with (first
    | (refine ⟨trivial, ?_⟩; gi_at_call 17; refine (CallsIn.inRound lp (callsIn_wide.2 (Hr.out _ hs))).mono ?_; rintro e w1 ⟨rfl, hb1⟩; obtain ⟨c1, f1⟩ := bcell hb1; have hz1 := hb1.size; have z0 : bb < w1.heap.size := (by omega); have z1 : sb < w1.heap.size := (by omega); have z2 : tb < w1.heap.size := (by omega); have z3 : s < w1.heap.size := (by omega); have z4 : s + 1 < w1.heap.size := (by omega); have z5 : s + 2 < w1.heap.size := (by omega); have z6 : Bx < w1.heap.size := (by omega); have z7 : rs < w1.heap.size := (by omega)))
  have hbs : Below s W w1 := hb1.mono (by omega); have hzs := hb1.size; have q0 := bK.below hb1 (by omega); have q1 := bN.below hb1 (by omega); have q2 := bL.below hb1 (by omega)
  exact HQ.out _ _ ((((keeps_below hb1).trans (KeepsOthers.setCell _ _ _)).trans (KeepsOthers.setCell _ _ _)).trans (KeepsOthers.alloc _ _)) (((hbs.setCell (p := ⟨s, 0, none⟩) (Nat.le_refl _) _).setCell (p := ⟨s + 1, 0, none⟩) (Nat.le_succ _) _).alloc (by rw [World.size_setCell, World.size_setCell]; omega) _)
    (((q0.set_ 0 _).far (by simp) _).alloc _) (((q1.far (by simp) _).set_ 0 _).alloc _) (((q2.far (by simp) _).far (by simp) _).alloc _)

set_option maxRecDepth 100000 in
set_option maxHeartbeats 4000000 in
theorem round_leave (lp bb sb rs tb s Bx : Nat) (A : Option Addr) (n c : Nat) (l : List UInt8) (W : World) (T r k : Int) (N : Nat) (xl x0 x1 x2 x3 x4 : Int) (u0 u1 u2 u4 u7 u13 u14 u15 u16 u17 u18 u19 u20 u21 u22 u23 u24 u25 u26 u27 u28 u29 u30 u31 u32 u33 u34 u35 u36 u37 u38 u39 u40 u41 u42 u43 u44 u45 u46 u47 u48 u49 u50 u51 u52 u53 u54 u55 u56 u57 u58 u59 u60 u61 u62 u63 u64 u65 u66 u67 u68 u69 u70 u71 u72 u73 u74 u75 u76 u77 u78 u79 u80 u81 : Value) (Q : Exit → Act → World → Prop)
    (hs : Sl W W.heap.size 1 A n (bs l)) (hnc : n ≤ c) (hn : (n : Int) ≤ 140737488351232)
    (bB : Blk W bb 22 [.slice A n c]) (bS : Blk W sb 3 [.int .i64 r]) (bR : Blk W rs 4 [.bool false]) (bT : Blk W tb 3 [.int .i64 T]) (bK : Blk W s 3 [.int .i64 k]) (bN : Blk W (s + 1) 3 [.int .i64 N]) (bL : Blk W (s + 2) 4 [.bool false])
    (bX : Blk W Bx 40 [.int .i64 k, .int .i64 xl, .int .i64 x0, .int .i64 x1, .int .i64 x2, .int .i32 x3, .int .i64 x4])
    (h1 : bb < s) (h2 : sb < s) (h3 : tb < s) (h4 : s + 2 < Bx) (h5 : rs < s) (hN : (N : Int) < 1000)
    (hk : 0 ≤ k ∧ k ≤ 140737488351232) (hxl : 0 ≤ xl ∧ xl ≤ 6) (hT : (T == 1) = true) (hst : decide (r < (N : Int) + 1) = true) (hst' : (r < (N : Int) + 1) = True)
    (Hr : Hid (∀ w, Sl w w.heap.size 1 A n (bs l) → Calls Tryd.prog 17 #[.slice A n c, .int .i64 k] w fun e w' => e = .returned (.tuple #[.agg #[.int .i64 x0, .int .i64 x1, .int .i64 x2, .int .i32 x3, .int .i64 x4], .int .i64 xl, .int .i64 0]) ∧ Below w.heap.size w w'))
    (hQ : ∀ a' W', KeepsOthers W W' → Below s W W' → Blk W' s 3 [.int .i64 (k + xl)] → Blk W' (s + 2) 4 [.bool true] → Q (.exit 2) a' W') :
    body.wpIn (Fence.wide.inRound lp) 3 Tryd.prog Q (frame bb sb rs tb s Bx u0 u1 u2 u4 u7 u13 u14 u15 u16 u17 u18 u19 u20 u21 u22 u23 u24 u25 u26 u27 u28 u29 u30 u31 u32 u33 u34 u35 u36 u37 u38 u39 u40 u41 u42 u43 u44 u45 u46 u47 u48 u49 u50 u51 u52 u53 u54 u55 u56 u57 u58 u59 u60 u61 u62 u63 u64 u65 u66 u67 u68 u69 u70 u71 u72 u73 u74 u75 u76 u77 u78 u79 u80 u81) W := by
  unfold frame
  have HQ := Lib.hid hQ
  clear hQ
  have hzB := bX.lt
  conv in body => whnf
  have y0 := bB.lt
  have y1 := bS.lt
  have y2 := bT.lt
  have y3 := bK.lt
  have y4 := bN.lt
  have y5 := bL.lt
  have y7 := bR.lt
  have x_0 := bX.cell 0
  have x_1 := bX.cell 1
  have x_2 := bX.cell 2
  have x_3 := bX.cell 3
  have x_4 := bX.cell 4
  have x_5 := bX.cell 5
  have x_6 := bX.cell 6
  have b0 := bB.cell 0
  have k0 := bK.cell 0
  have n0 := bN.cell 0
  have s0 := bS.cell 0
  have t0 := bT.cell 0
  have kf := bK.free 0
  have nf := bN.free 0
  have lf := bL.free 0
  have l0 := bL.cell 0
  have r0 := bR.cell 0
  have rf := bR.free 0
  simp only [List.getElem?_cons_zero, List.getElem?_cons_succ] at x_0 x_1 x_2 x_3 x_4 x_5 x_6 b0 k0 n0 s0 t0 l0 r0
  gi_wp2_with (first
    | (refine ⟨trivial, ?_⟩; gi_at_call 17; refine (CallsIn.inRound lp (callsIn_wide.2 (Hr.out _ hs))).mono ?_; rintro e w1 ⟨rfl, hb1⟩; obtain ⟨c1, f1⟩ := bcell hb1; have hz1 := hb1.size; have z0 : bb < w1.heap.size := (by omega); have z1 : sb < w1.heap.size := (by omega); have z2 : tb < w1.heap.size := (by omega); have z3 : s < w1.heap.size := (by omega); have z4 : s + 1 < w1.heap.size := (by omega); have z5 : s + 2 < w1.heap.size := (by omega); have z6 : Bx < w1.heap.size := (by omega); have z7 : rs < w1.heap.size := (by omega)))
  have hbs : Below s W w1 := hb1.mono (by omega); have hzs := hb1.size; have q0 := bK.below hb1 (by omega); have q1 := bN.below hb1 (by omega); have q2 := bL.below hb1 (by omega)
  exact HQ.out _ _ (((((keeps_below hb1).trans (KeepsOthers.setCell _ _ _)).trans (KeepsOthers.setCell _ _ _)).trans (KeepsOthers.setCell _ _ _)).trans (KeepsOthers.alloc _ _)) ((((hbs.setCell (p := ⟨s, 0, none⟩) (Nat.le_refl _) _).setCell (p := ⟨s + 1, 0, none⟩) (Nat.le_succ _) _).setCell (p := ⟨s + 2, 0, none⟩) (by simp) _).alloc (by rw [World.size_setCell, World.size_setCell, World.size_setCell]; omega) _)
    ((((q0.set_ 0 _).far (by simp) _).far (by simp) _).alloc _) ((((q2.far (by simp) _).far (by simp) _).set_ 0 _).alloc _)

set_option maxRecDepth 100000 in
set_option maxHeartbeats 4000000 in
theorem round_none (lp bb sb rs tb s Bx : Nat) (A : Option Addr) (n c : Nat) (l : List UInt8) (W : World) (T r k : Int) (N : Nat) (xa xl x0 x1 x2 x3 x4 j0 j1 j2 j3 j4 jn je : Int) (u0 u1 u2 u4 u7 u13 u14 u15 u16 u17 u18 u19 u20 u21 u22 u23 u24 u25 u26 u27 u28 u29 u30 u31 u32 u33 u34 u35 u36 u37 u38 u39 u40 u41 u42 u43 u44 u45 u46 u47 u48 u49 u50 u51 u52 u53 u54 u55 u56 u57 u58 u59 u60 u61 u62 u63 u64 u65 u66 u67 u68 u69 u70 u71 u72 u73 u74 u75 u76 u77 u78 u79 u80 u81 : Value) (Q : Exit → Act → World → Prop)
    (hs : Sl W W.heap.size 1 A n (bs l)) (hnc : n ≤ c) (hn : (n : Int) ≤ 140737488351232)
    (bB : Blk W bb 22 [.slice A n c]) (bS : Blk W sb 3 [.int .i64 r]) (bR : Blk W rs 4 [.bool false]) (bT : Blk W tb 3 [.int .i64 T]) (bK : Blk W s 3 [.int .i64 k]) (bN : Blk W (s + 1) 3 [.int .i64 N]) (bL : Blk W (s + 2) 4 [.bool false])
    (bX : Blk W Bx 40 [.int .i64 xa, .int .i64 xl, .int .i64 x0, .int .i64 x1, .int .i64 x2, .int .i32 x3, .int .i64 x4])
    (h1 : bb < s) (h2 : sb < s) (h3 : tb < s) (h4 : s + 2 < Bx) (h5 : rs < s) (hN : (N : Int) < 1000)
    (he : (je != 0) = true)
    (Hr : Hid (∀ w, Sl w w.heap.size 1 A n (bs l) → Calls Tryd.prog 17 #[.slice A n c, .int .i64 k] w fun e w' => e = .returned (.tuple #[.agg #[.int .i64 j0, .int .i64 j1, .int .i64 j2, .int .i32 j3, .int .i64 j4], .int .i64 jn, .int .i64 je]) ∧ Below w.heap.size w w'))
    (hQ : ∀ a' W', KeepsOthers W W' → Q .ret a' W') :
    body.wpIn (Fence.wide.inRound lp) 3 Tryd.prog Q (frame bb sb rs tb s Bx u0 u1 u2 u4 u7 u13 u14 u15 u16 u17 u18 u19 u20 u21 u22 u23 u24 u25 u26 u27 u28 u29 u30 u31 u32 u33 u34 u35 u36 u37 u38 u39 u40 u41 u42 u43 u44 u45 u46 u47 u48 u49 u50 u51 u52 u53 u54 u55 u56 u57 u58 u59 u60 u61 u62 u63 u64 u65 u66 u67 u68 u69 u70 u71 u72 u73 u74 u75 u76 u77 u78 u79 u80 u81) W := by
  unfold frame
  have HQ := Lib.hid hQ
  clear hQ
  have hzB := bX.lt
  conv in body => whnf
  have y0 := bB.lt
  have y1 := bS.lt
  have y2 := bT.lt
  have y3 := bK.lt
  have y4 := bN.lt
  have y5 := bL.lt
  have y7 := bR.lt
  have x_0 := bX.cell 0
  have x_1 := bX.cell 1
  have x_2 := bX.cell 2
  have x_3 := bX.cell 3
  have x_4 := bX.cell 4
  have x_5 := bX.cell 5
  have x_6 := bX.cell 6
  have b0 := bB.cell 0
  have k0 := bK.cell 0
  have n0 := bN.cell 0
  have s0 := bS.cell 0
  have t0 := bT.cell 0
  have kf := bK.free 0
  have nf := bN.free 0
  have lf := bL.free 0
  have l0 := bL.cell 0
  have r0 := bR.cell 0
  have rf := bR.free 0
  simp only [List.getElem?_cons_zero, List.getElem?_cons_succ] at x_0 x_1 x_2 x_3 x_4 x_5 x_6 b0 k0 n0 s0 t0 l0 r0
  gi_wp2_with (first
    | (refine ⟨trivial, ?_⟩; gi_at_call 17; refine (CallsIn.inRound lp (callsIn_wide.2 (Hr.out _ hs))).mono ?_; rintro e w1 ⟨rfl, hb1⟩; obtain ⟨c1, f1⟩ := bcell hb1; have hz1 := hb1.size; have z0 : bb < w1.heap.size := (by omega); have z1 : sb < w1.heap.size := (by omega); have z2 : tb < w1.heap.size := (by omega); have z3 : s < w1.heap.size := (by omega); have z4 : s + 1 < w1.heap.size := (by omega); have z5 : s + 2 < w1.heap.size := (by omega); have z6 : Bx < w1.heap.size := (by omega); have z7 : rs < w1.heap.size := (by omega)))
  all_goals exact HQ.out _ _ (((keeps_below hb1).trans (KeepsOthers.setCell _ _ _)).trans (KeepsOthers.alloc _ _))

set_option maxRecDepth 100000 in
set_option maxHeartbeats 4000000 in
theorem round_other (lp bb sb rs tb s Bx : Nat) (A : Option Addr) (n c : Nat) (l : List UInt8) (W : World) (T r k : Int) (N : Nat) (xa xl x0 x1 x2 x3 x4 j0 j1 j2 j3 j4 jn je : Int) (u0 u1 u2 u4 u7 u13 u14 u15 u16 u17 u18 u19 u20 u21 u22 u23 u24 u25 u26 u27 u28 u29 u30 u31 u32 u33 u34 u35 u36 u37 u38 u39 u40 u41 u42 u43 u44 u45 u46 u47 u48 u49 u50 u51 u52 u53 u54 u55 u56 u57 u58 u59 u60 u61 u62 u63 u64 u65 u66 u67 u68 u69 u70 u71 u72 u73 u74 u75 u76 u77 u78 u79 u80 u81 : Value) (Q : Exit → Act → World → Prop)
    (hs : Sl W W.heap.size 1 A n (bs l)) (hnc : n ≤ c) (hn : (n : Int) ≤ 140737488351232)
    (bB : Blk W bb 22 [.slice A n c]) (bS : Blk W sb 3 [.int .i64 r]) (bR : Blk W rs 4 [.bool false]) (bT : Blk W tb 3 [.int .i64 T]) (bK : Blk W s 3 [.int .i64 k]) (bN : Blk W (s + 1) 3 [.int .i64 N]) (bL : Blk W (s + 2) 4 [.bool false])
    (bX : Blk W Bx 40 [.int .i64 xa, .int .i64 xl, .int .i64 x0, .int .i64 x1, .int .i64 x2, .int .i32 x3, .int .i64 x4])
    (h1 : bb < s) (h2 : sb < s) (h3 : tb < s) (h4 : s + 2 < Bx) (h5 : rs < s) (hN : (N : Int) < 1000)
    (he : (je != 0) = false) (hne : ¬ (xa = k ∧ xl = jn ∧ x0 = j0 ∧ x1 = j1 ∧ x2 = j2 ∧ x3 = j3 ∧ x4 = j4))
    (Hr : Hid (∀ w, Sl w w.heap.size 1 A n (bs l) → Calls Tryd.prog 17 #[.slice A n c, .int .i64 k] w fun e w' => e = .returned (.tuple #[.agg #[.int .i64 j0, .int .i64 j1, .int .i64 j2, .int .i32 j3, .int .i64 j4], .int .i64 jn, .int .i64 je]) ∧ Below w.heap.size w w'))
    (hQ : ∀ a' W', KeepsOthers W W' → Q .ret a' W') :
    body.wpIn (Fence.wide.inRound lp) 3 Tryd.prog Q (frame bb sb rs tb s Bx u0 u1 u2 u4 u7 u13 u14 u15 u16 u17 u18 u19 u20 u21 u22 u23 u24 u25 u26 u27 u28 u29 u30 u31 u32 u33 u34 u35 u36 u37 u38 u39 u40 u41 u42 u43 u44 u45 u46 u47 u48 u49 u50 u51 u52 u53 u54 u55 u56 u57 u58 u59 u60 u61 u62 u63 u64 u65 u66 u67 u68 u69 u70 u71 u72 u73 u74 u75 u76 u77 u78 u79 u80 u81) W := by
  unfold frame
  have HQ := Lib.hid hQ
  clear hQ
  have hzB := bX.lt
  conv in body => whnf
  have y0 := bB.lt
  have y1 := bS.lt
  have y2 := bT.lt
  have y3 := bK.lt
  have y4 := bN.lt
  have y5 := bL.lt
  have y7 := bR.lt
  have x_0 := bX.cell 0
  have x_1 := bX.cell 1
  have x_2 := bX.cell 2
  have x_3 := bX.cell 3
  have x_4 := bX.cell 4
  have x_5 := bX.cell 5
  have x_6 := bX.cell 6
  have b0 := bB.cell 0
  have k0 := bK.cell 0
  have n0 := bN.cell 0
  have s0 := bS.cell 0
  have t0 := bT.cell 0
  have kf := bK.free 0
  have nf := bN.free 0
  have lf := bL.free 0
  have l0 := bL.cell 0
  have r0 := bR.cell 0
  have rf := bR.free 0
  simp only [List.getElem?_cons_zero, List.getElem?_cons_succ] at x_0 x_1 x_2 x_3 x_4 x_5 x_6 b0 k0 n0 s0 t0 l0 r0
  gi_wp2_with (first
    | (refine ⟨trivial, ?_⟩; gi_at_call 17; refine (CallsIn.inRound lp (callsIn_wide.2 (Hr.out _ hs))).mono ?_; rintro e w1 ⟨rfl, hb1⟩; obtain ⟨c1, f1⟩ := bcell hb1; have hz1 := hb1.size; have z0 : bb < w1.heap.size := (by omega); have z1 : sb < w1.heap.size := (by omega); have z2 : tb < w1.heap.size := (by omega); have z3 : s < w1.heap.size := (by omega); have z4 : s + 1 < w1.heap.size := (by omega); have z5 : s + 2 < w1.heap.size := (by omega); have z6 : Bx < w1.heap.size := (by omega); have z7 : rs < w1.heap.size := (by omega)))
  all_goals exact HQ.out _ _ (((keeps_below hb1).trans (KeepsOthers.setCell _ _ _)).trans (KeepsOthers.alloc _ _))
end Go.Proofs.YthcjnkakfpmpbaaDoor.decodeAll
