/- The round of law DecodeRow's range over decode.All. Conditions: none. -/
import Derived.Test.YthcjnkakfpmpbaaDoorG2
import Derived.Test.YthcjnkakfpmpbaaDoorR4
import Derived.Test.YthcjnkakfpmpbaaDoorE3d
import Derived.Test.YthcjnkakfpmpbaaDoorP10
namespace Go.Proofs.YthcjnkakfpmpbaaDoor.decodeRow
open Go.RowKit Go.Shelf
set_option linter.unusedVariables false
set_option linter.unusedSimpArgs false
attribute [local go_sem] Oper.semAt_some

/-- the body of the first range over a function in a code -/
def rangeIn : Code → Option Code
  | .rangeFunc _ _ _ b => some b
  | .seq a b => match rangeIn a with | some o => some o | none => rangeIn b
  | .cond _ a b => match rangeIn a with | some o => some o | none => rangeIn b
  | .block _ b => rangeIn b
  | .loop b => rangeIn b
  | .scope b => rangeIn b
  | _ => none
def rangeOf (c : Option Code) : Code := match c with | some c => (match rangeIn c with | some o => o | none => .skip) | none => .skip
noncomputable def body : Code := rangeOf Tryd.f7.body
theorem wpIn_swap {F : Fence} {n : Nat} {P : Program} {c c' : Code} {Q : Exit → Act → World → Prop} {a : Act} {w : World} (h : c = c') (hw : c'.wpIn F n P Q a w) : c.wpIn F n P Q a w := h ▸ hw
theorem keepsN (W : World) (n : Nat) : KeepsOthers W (W.drewN n) := ⟨Nat.le_refl _, fun _ _ h _ => h⟩
def frame (lb rs s Bx : Nat) (u0 u3 u4 u5 u6 u10 u11 u12 u13 u14 u15 u16 u17 u18 u19 u20 u21 u22 u23 u24 u25 u26 u27 u28 u29 u30 u31 u32 u33 u34 u35 u36 u37 u38 u39 u40 u41 u42 u43 u44 u45 u46 u47 u48 u49 u50 u51 u52 u53 u54 u55 u56 u57 u58 u59 u60 u61 u62 u63 u64 u65 u66 u67 u68 u69 u70 u71 u72 u73 u74 u75 u76 : Value) : Act := { tmps := #[u0, .pointer (some ⟨lb, 0, none⟩), .pointer (some ⟨rs, 0, none⟩), u3, u4, u5, u6, .pointer (some ⟨s, 0, none⟩), .pointer (some ⟨s + 1, 0, none⟩), .pointer (some ⟨Bx, 0, none⟩), u10, u11, u12, u13, u14, u15, u16, u17, u18, u19, u20, u21, u22, u23, u24, u25, u26, u27, u28, u29, u30, u31, u32, u33, u34, u35, u36, u37, u38, u39, u40, u41, u42, u43, u44, u45, u46, u47, u48, u49, u50, u51, u52, u53, u54, u55, u56, u57, u58, u59, u60, u61, u62, u63, u64, u65, u66, u67, u68, u69, u70, u71, u72, u73, u74, u75, u76], defers := [] }

set_option maxRecDepth 100000 in
set_option maxHeartbeats 4000000 in
theorem round_end (lp lb rs s Bx : Nat) (W : World) (A : Option Addr) (N c k : Nat) (en xa xl x0 x1 x2 x3 x4 : Int) (u0 u3 u4 u5 u6 u10 u11 u12 u13 u14 u15 u16 u17 u18 u19 u20 u21 u22 u23 u24 u25 u26 u27 u28 u29 u30 u31 u32 u33 u34 u35 u36 u37 u38 u39 u40 u41 u42 u43 u44 u45 u46 u47 u48 u49 u50 u51 u52 u53 u54 u55 u56 u57 u58 u59 u60 u61 u62 u63 u64 u65 u66 u67 u68 u69 u70 u71 u72 u73 u74 u75 u76 : Value) (Q : Exit → Act → World → Prop)
    (bL : Blk W lb 46 [.slice A N c]) (bR : Blk W rs 4 [.bool false]) (bK : Blk W s 3 [.int .i64 k]) (bE : Blk W (s + 1) 3 [.int .i64 en])
    (bX : Blk W Bx 40 [.int .i64 xa, .int .i64 xl, .int .i64 x0, .int .i64 x1, .int .i64 x2, .int .i32 x3, .int .i64 x4]) (hN : N ≤ 100) (hk : N ≤ k)
    (hQ : ∀ a' W', KeepsOthers W W' → Q .ret a' W') :
    body.wpIn (Fence.wide.inRound lp) 3 Tryd.prog Q (frame lb rs s Bx u0 u3 u4 u5 u6 u10 u11 u12 u13 u14 u15 u16 u17 u18 u19 u20 u21 u22 u23 u24 u25 u26 u27 u28 u29 u30 u31 u32 u33 u34 u35 u36 u37 u38 u39 u40 u41 u42 u43 u44 u45 u46 u47 u48 u49 u50 u51 u52 u53 u54 u55 u56 u57 u58 u59 u60 u61 u62 u63 u64 u65 u66 u67 u68 u69 u70 u71 u72 u73 u74 u75 u76) W := by
  unfold frame
  have HQ := Lib.hid hQ
  clear hQ
  have hI : ((N : Int) ≤ k) = True := by simp; omega
  have hI1 : decide ((N : Int) ≤ k) = true := by simp; omega
  conv in body => whnf
  have x_0 := bX.cell 0
  have x_1 := bX.cell 1
  have x_2 := bX.cell 2
  have x_3 := bX.cell 3
  have x_4 := bX.cell 4
  have x_5 := bX.cell 5
  have x_6 := bX.cell 6
  have l0 := bL.cell 0
  have k0 := bK.cell 0
  have e0 := bE.cell 0
  have r0 := bR.cell 0
  have kf := bK.free 0
  have ef := bE.free 0
  have rf := bR.free 0
  simp only [List.getElem?_cons_zero, List.getElem?_cons_succ] at x_0 x_1 x_2 x_3 x_4 x_5 x_6 l0 k0 e0 r0
  gi_wp2_with fail
  refine wpIn_region_quiet_round (by kernel_rfl) (by kernel_rfl) (by kernel_rfl) ?_
  repeat (any_goals (first | go_big_quiet_step (fail) | (refine wpQuiet_step (fun K hK => ?_); go_simp; split <;> (refine hK _ ?_; clear hK K))))
  all_goals (refine wpQuiet_nil ?_; intro _ hw'; obtain ⟨nq, hw''⟩ := hw'; subst hw''; gi_wp2_with fail)
  all_goals exact HQ.out _ _ ((keepsN W nq).trans (KeepsOthers.setCell _ _ _))

set_option maxRecDepth 100000 in
set_option maxHeartbeats 4000000 in
theorem round_unlike (lp lb rs s Bx : Nat) (W : World) (A : Option Addr) (N c k : Nat) (en xa xl x0 x1 x2 x3 x4 : Int) (u0 u3 u4 u5 u6 u10 u11 u12 u13 u14 u15 u16 u17 u18 u19 u20 u21 u22 u23 u24 u25 u26 u27 u28 u29 u30 u31 u32 u33 u34 u35 u36 u37 u38 u39 u40 u41 u42 u43 u44 u45 u46 u47 u48 u49 u50 u51 u52 u53 u54 u55 u56 u57 u58 u59 u60 u61 u62 u63 u64 u65 u66 u67 u68 u69 u70 u71 u72 u73 u74 u75 u76 : Value) (Q : Exit → Act → World → Prop)
    (bL : Blk W lb 46 [.slice A N c]) (bR : Blk W rs 4 [.bool false]) (bK : Blk W s 3 [.int .i64 k]) (bE : Blk W (s + 1) 3 [.int .i64 en])
    (bX : Blk W Bx 40 [.int .i64 xa, .int .i64 xl, .int .i64 x0, .int .i64 x1, .int .i64 x2, .int .i32 x3, .int .i64 x4]) (hN : N ≤ 100) (hk : k < N) (b o : Nat) (hA : A = some ⟨b, o, none⟩) (y0 y1 y2 y3 y4 : Int) (c0 : W.cell? ⟨b, o + k * 5, none⟩ = some (.int .i64 y0)) (c1 : W.cell? ⟨b, o + k * 5 + 1, none⟩ = some (.int .i64 y1)) (c2 : W.cell? ⟨b, o + k * 5 + 2, none⟩ = some (.int .i64 y2)) (c3 : W.cell? ⟨b, o + k * 5 + 3, none⟩ = some (.int .i32 y3)) (c4 : W.cell? ⟨b, o + k * 5 + 4, none⟩ = some (.int .i64 y4)) (hne : ¬ (x0 = y0 ∧ x1 = y1 ∧ x2 = y2 ∧ x3 = y3 ∧ x4 = y4))
    (hQ : ∀ a' W', KeepsOthers W W' → Q .ret a' W') :
    body.wpIn (Fence.wide.inRound lp) 3 Tryd.prog Q (frame lb rs s Bx u0 u3 u4 u5 u6 u10 u11 u12 u13 u14 u15 u16 u17 u18 u19 u20 u21 u22 u23 u24 u25 u26 u27 u28 u29 u30 u31 u32 u33 u34 u35 u36 u37 u38 u39 u40 u41 u42 u43 u44 u45 u46 u47 u48 u49 u50 u51 u52 u53 u54 u55 u56 u57 u58 u59 u60 u61 u62 u63 u64 u65 u66 u67 u68 u69 u70 u71 u72 u73 u74 u75 u76) W := by
  unfold frame
  have HQ := Lib.hid hQ
  clear hQ
  subst hA
  have hI : ((N : Int) ≤ k) = False := by simp; omega
  have hI1 : decide ((N : Int) ≤ k) = false := by simp; omega
  have hI2 : (k : Int) < N := by omega
  rcases (show x0 ≠ y0 ∨ (x0 = y0 ∧ x1 ≠ y1) ∨ (x0 = y0 ∧ x1 = y1 ∧ x2 ≠ y2) ∨ (x0 = y0 ∧ x1 = y1 ∧ x2 = y2 ∧ x3 ≠ y3) ∨ (x0 = y0 ∧ x1 = y1 ∧ x2 = y2 ∧ x3 = y3 ∧ x4 ≠ y4) by omega) with h | ⟨rfl, h⟩ | ⟨rfl, rfl, h⟩ | ⟨rfl, rfl, rfl, h⟩ | ⟨rfl, rfl, rfl, rfl, h⟩
  all_goals have hb1 := beq_eq_false_iff_ne.2 h
  all_goals have hb2 := bne_iff_ne.2 h
  all_goals clear hne h
  all_goals conv in body => whnf
  all_goals (have x_0 := bX.cell 0)
  all_goals (have x_1 := bX.cell 1)
  all_goals (have x_2 := bX.cell 2)
  all_goals (have x_3 := bX.cell 3)
  all_goals (have x_4 := bX.cell 4)
  all_goals (have x_5 := bX.cell 5)
  all_goals (have x_6 := bX.cell 6)
  all_goals (have l0 := bL.cell 0)
  all_goals (have k0 := bK.cell 0)
  all_goals (have e0 := bE.cell 0)
  all_goals (have r0 := bR.cell 0)
  all_goals (have kf := bK.free 0)
  all_goals (have ef := bE.free 0)
  all_goals (have rf := bR.free 0)
  all_goals (simp only [List.getElem?_cons_zero, List.getElem?_cons_succ] at x_0 x_1 x_2 x_3 x_4 x_5 x_6 l0 k0 e0 r0)
  all_goals (gi_wp2_with fail)
  all_goals (refine wpIn_region_quiet_round (by kernel_rfl) (by kernel_rfl) (by kernel_rfl) ?_)
  all_goals (repeat (any_goals (first | go_big_quiet_step (fail) | (refine wpQuiet_step (fun K hK => ?_); go_simp; split <;> (refine hK _ ?_; clear hK K)))))
  all_goals (refine wpQuiet_nil ?_; intro _ hw'; obtain ⟨nq, hw''⟩ := hw'; subst hw''; gi_wp2_with fail)
  all_goals exact HQ.out _ _ ((keepsN W nq).trans (KeepsOthers.setCell _ _ _))

set_option maxRecDepth 100000 in
set_option maxHeartbeats 4000000 in
theorem round_place (lp lb rs s Bx : Nat) (W : World) (A : Option Addr) (N c k : Nat) (en xa xl y0 y1 y2 y3 y4 : Int) (u0 u3 u4 u5 u6 u10 u11 u12 u13 u14 u15 u16 u17 u18 u19 u20 u21 u22 u23 u24 u25 u26 u27 u28 u29 u30 u31 u32 u33 u34 u35 u36 u37 u38 u39 u40 u41 u42 u43 u44 u45 u46 u47 u48 u49 u50 u51 u52 u53 u54 u55 u56 u57 u58 u59 u60 u61 u62 u63 u64 u65 u66 u67 u68 u69 u70 u71 u72 u73 u74 u75 u76 : Value) (Q : Exit → Act → World → Prop)
    (bL : Blk W lb 46 [.slice A N c]) (bR : Blk W rs 4 [.bool false]) (bK : Blk W s 3 [.int .i64 k]) (bE : Blk W (s + 1) 3 [.int .i64 en])
    (bX : Blk W Bx 40 [.int .i64 xa, .int .i64 xl, .int .i64 y0, .int .i64 y1, .int .i64 y2, .int .i32 y3, .int .i64 y4]) (hN : N ≤ 100) (hk : k < N) (b o : Nat) (hA : A = some ⟨b, o, none⟩) (c0 : W.cell? ⟨b, o + k * 5, none⟩ = some (.int .i64 y0)) (c1 : W.cell? ⟨b, o + k * 5 + 1, none⟩ = some (.int .i64 y1)) (c2 : W.cell? ⟨b, o + k * 5 + 2, none⟩ = some (.int .i64 y2)) (c3 : W.cell? ⟨b, o + k * 5 + 3, none⟩ = some (.int .i32 y3)) (c4 : W.cell? ⟨b, o + k * 5 + 4, none⟩ = some (.int .i64 y4)) (hne : (xa == en) = false)
    (hQ : ∀ a' W', KeepsOthers W W' → Q .ret a' W') :
    body.wpIn (Fence.wide.inRound lp) 3 Tryd.prog Q (frame lb rs s Bx u0 u3 u4 u5 u6 u10 u11 u12 u13 u14 u15 u16 u17 u18 u19 u20 u21 u22 u23 u24 u25 u26 u27 u28 u29 u30 u31 u32 u33 u34 u35 u36 u37 u38 u39 u40 u41 u42 u43 u44 u45 u46 u47 u48 u49 u50 u51 u52 u53 u54 u55 u56 u57 u58 u59 u60 u61 u62 u63 u64 u65 u66 u67 u68 u69 u70 u71 u72 u73 u74 u75 u76) W := by
  unfold frame
  have HQ := Lib.hid hQ
  clear hQ
  subst hA
  have hI : ((N : Int) ≤ k) = False := by simp; omega
  have hI1 : decide ((N : Int) ≤ k) = false := by simp; omega
  have hI2 : (k : Int) < N := by omega
  conv in body => whnf
  have x_0 := bX.cell 0
  have x_1 := bX.cell 1
  have x_2 := bX.cell 2
  have x_3 := bX.cell 3
  have x_4 := bX.cell 4
  have x_5 := bX.cell 5
  have x_6 := bX.cell 6
  have l0 := bL.cell 0
  have k0 := bK.cell 0
  have e0 := bE.cell 0
  have r0 := bR.cell 0
  have kf := bK.free 0
  have ef := bE.free 0
  have rf := bR.free 0
  simp only [List.getElem?_cons_zero, List.getElem?_cons_succ] at x_0 x_1 x_2 x_3 x_4 x_5 x_6 l0 k0 e0 r0
  gi_wp2_with fail
  refine wpIn_region_quiet_round (by kernel_rfl) (by kernel_rfl) (by kernel_rfl) ?_
  repeat (any_goals (first | go_big_quiet_step (fail) | (refine wpQuiet_step (fun K hK => ?_); go_simp; split <;> (refine hK _ ?_; clear hK K))))
  all_goals (refine wpQuiet_nil ?_; intro _ hw'; obtain ⟨nq, hw''⟩ := hw'; subst hw''; gi_wp2_with fail)
  all_goals exact HQ.out _ _ ((keepsN W nq).trans (KeepsOthers.setCell _ _ _))

set_option maxRecDepth 100000 in
set_option maxHeartbeats 4000000 in
theorem round_good (lp lb rs s Bx : Nat) (W : World) (A : Option Addr) (N c k : Nat) (xa xl y0 y1 y2 y3 y4 : Int) (u0 u3 u4 u5 u6 u10 u11 u12 u13 u14 u15 u16 u17 u18 u19 u20 u21 u22 u23 u24 u25 u26 u27 u28 u29 u30 u31 u32 u33 u34 u35 u36 u37 u38 u39 u40 u41 u42 u43 u44 u45 u46 u47 u48 u49 u50 u51 u52 u53 u54 u55 u56 u57 u58 u59 u60 u61 u62 u63 u64 u65 u66 u67 u68 u69 u70 u71 u72 u73 u74 u75 u76 : Value) (Q : Exit → Act → World → Prop)
    (bL : Blk W lb 46 [.slice A N c]) (bR : Blk W rs 4 [.bool false]) (bK : Blk W s 3 [.int .i64 k]) (bE : Blk W (s + 1) 3 [.int .i64 xa])
    (bX : Blk W Bx 40 [.int .i64 xa, .int .i64 xl, .int .i64 y0, .int .i64 y1, .int .i64 y2, .int .i32 y3, .int .i64 y4]) (hN : N ≤ 100) (hk : k < N) (b o : Nat) (hA : A = some ⟨b, o, none⟩) (c0 : W.cell? ⟨b, o + k * 5, none⟩ = some (.int .i64 y0)) (c1 : W.cell? ⟨b, o + k * 5 + 1, none⟩ = some (.int .i64 y1)) (c2 : W.cell? ⟨b, o + k * 5 + 2, none⟩ = some (.int .i64 y2)) (c3 : W.cell? ⟨b, o + k * 5 + 3, none⟩ = some (.int .i32 y3)) (c4 : W.cell? ⟨b, o + k * 5 + 4, none⟩ = some (.int .i64 y4)) 
    (hQ : ∀ a' W', KeepsOthers W W' → Below s W W' → Blk W' s 3 [.int .i64 ((k : Int) + 1)] → Blk W' (s + 1) 3 [.int .i64 (wrap64 (xa + xl))] → Q .normal a' W') :
    body.wpIn (Fence.wide.inRound lp) 3 Tryd.prog Q (frame lb rs s Bx u0 u3 u4 u5 u6 u10 u11 u12 u13 u14 u15 u16 u17 u18 u19 u20 u21 u22 u23 u24 u25 u26 u27 u28 u29 u30 u31 u32 u33 u34 u35 u36 u37 u38 u39 u40 u41 u42 u43 u44 u45 u46 u47 u48 u49 u50 u51 u52 u53 u54 u55 u56 u57 u58 u59 u60 u61 u62 u63 u64 u65 u66 u67 u68 u69 u70 u71 u72 u73 u74 u75 u76) W := by
  unfold frame
  have HQ := Lib.hid hQ
  clear hQ
  subst hA
  have hI : ((N : Int) ≤ k) = False := by simp; omega
  have hI1 : decide ((N : Int) ≤ k) = false := by simp; omega
  have hI2 : (k : Int) < N := by omega
  conv in body => whnf
  have x_0 := bX.cell 0
  have x_1 := bX.cell 1
  have x_2 := bX.cell 2
  have x_3 := bX.cell 3
  have x_4 := bX.cell 4
  have x_5 := bX.cell 5
  have x_6 := bX.cell 6
  have l0 := bL.cell 0
  have k0 := bK.cell 0
  have e0 := bE.cell 0
  have r0 := bR.cell 0
  have kf := bK.free 0
  have ef := bE.free 0
  have rf := bR.free 0
  simp only [List.getElem?_cons_zero, List.getElem?_cons_succ] at x_0 x_1 x_2 x_3 x_4 x_5 x_6 l0 k0 e0 r0
  gi_wp2_with fail
  refine wpIn_region_quiet_round (by kernel_rfl) (by kernel_rfl) (by kernel_rfl) ?_
  repeat (any_goals (first | go_big_quiet_step (fail) | (refine wpQuiet_step (fun K hK => ?_); go_simp; split <;> (refine hK _ ?_; clear hK K))))
  all_goals (refine wpQuiet_nil ?_; intro _ hw'; obtain ⟨nq, hw''⟩ := hw'; subst hw''; gi_wp2_with fail)
  all_goals exact HQ.out _ _ (((keepsN W nq).trans (KeepsOthers.setCell _ _ _)).trans (KeepsOthers.setCell _ _ _)) (((below_drewN (Below.refl s W) nq).setCell (p := ⟨s + 1, 0, none⟩) (by simp) _).setCell (p := ⟨s, 0, none⟩) (Nat.le_refl _) _) ((((bK.drewN nq).far (by simp) _).set_ 0 _)) (((bE.drewN nq).set_ 0 _).far (by simp) _)

/-- the rows' bytes: what is handed out from their head on -/
theorem encAll_cut (L : List Ins) {k : Nat} {i : Ins} (h : L[k]? = some i) : encAll L = encAll (L.take k) ++ (i.enc ++ encAll (L.drop (k + 1))) := by
  have hk : k < L.length := (List.getElem?_eq_some_iff.1 h).1
  have h1 : L = L.take k ++ (i :: L.drop (k + 1)) := by
    conv => lhs; rw [← List.take_append_drop k L, List.drop_eq_getElem_cons hk]
    rw [(List.getElem?_eq_some_iff.1 h).2]
  conv => lhs; rw [h1]
  simp [encAll]
theorem row_step {L : List Ins} (hL : ∀ i ∈ L, i.chk = 0 ∧ I32 i.n) {k : Nat} {i : Ins} (h : L[k]? = some i) : decR (encAll L) ((encAll (L.take k)).length : Int) = (i, (i.enc.length : Int), 0) := by
  obtain ⟨h1, h2⟩ := hL i (List.mem_of_getElem? h)
  rw [encAll_cut L h]
  exact dec_enc (encAll (L.take k)) (encAll (L.drop (k + 1))) h1 h2
theorem row_end (l : List UInt8) : decR l (l.length : Int) = (ZI, 0, 10) := by
  unfold decR
  rw [if_neg (by omega), if_pos rfl]
theorem row_run {L : List Ins} (hL : ∀ i ∈ L, i.chk = 0 ∧ I32 i.n) : ∀ {pre : List Stp} {k : Nat} {e : Int}, k ≤ L.length → RunD (encAll L) ((encAll (L.take k)).length : Int) pre e →
    k + pre.length ≤ L.length ∧ e = ((encAll (L.take (k + pre.length))).length : Int)
  | [], k, e, hk, h => ⟨by simpa using hk, by obtain rfl : _ = e := h; simp⟩
  | x :: xs, k, e, hk, h => by
    by_cases hlt : k < L.length
    · obtain ⟨i, hi⟩ : ∃ i, L[k]? = some i := ⟨_, List.getElem?_eq_getElem hlt⟩
      have h1 := row_step hL hi
      rw [h.2.1] at h1
      simp only [Prod.mk.injEq] at h1
      have h2 := h.2.2
      have h3 : ((encAll (L.take k)).length : Int) + x.len = ((encAll (L.take (k + 1))).length : Int) := by rw [encAll_take hi, List.length_append, h1.2.1]; simp
      rw [h3] at h2
      obtain ⟨g1, g2⟩ := row_run hL (by omega) h2
      exact ⟨by rw [List.length_cons]; omega, by rw [g2, List.length_cons, show k + 1 + xs.length = k + (xs.length + 1) by omega]⟩
    · have hkl : L.take k = L := List.take_of_length_le (by omega)
      have h1 := h.2.1
      rw [hkl, row_end] at h1
      simp at h1
theorem row_run0 {L : List Ins} (hL : ∀ i ∈ L, i.chk = 0 ∧ I32 i.n) {pre : List Stp} {e : Int} (h : RunD (encAll L) 0 pre e) : pre.length ≤ L.length ∧ e = ((encAll (L.take pre.length)).length : Int) := by
  have := row_run hL (k := 0) (pre := pre) (e := e) (Nat.zero_le _) (by simpa [encAll] using h)
  simpa using this
/-- what the next step must be -/
theorem row_next {L : List Ins} (hL : ∀ i ∈ L, i.chk = 0 ∧ I32 i.n) {pre : List Stp} {x : Stp} (h : RunSome (encAll L) 0 (pre ++ [x])) :
    pre.length < L.length ∧ L[pre.length]? = some x.i ∧ RunD (encAll L) 0 pre x.at_ ∧ RunD (encAll L) 0 (pre ++ [x]) (x.at_ + x.len) ∧ 0 ≤ x.at_ ∧ 0 ≤ x.len ∧ x.at_ + x.len ≤ (encAll L).length := by
  obtain ⟨e, he⟩ := h
  obtain ⟨d, g1, g2, g3, g4⟩ := he.last
  obtain ⟨q1, q2⟩ := row_run0 hL g1
  have hok := decR_ok g3
  have hlt : pre.length < L.length := by
    by_cases hlt : pre.length < L.length
    · exact hlt
    · have hkl : L.take pre.length = L := List.take_of_length_le (by omega)
      rw [q2, hkl, row_end] at g3
      simp at g3
  obtain ⟨i, hi⟩ : ∃ i, L[pre.length]? = some i := ⟨_, List.getElem?_eq_getElem hlt⟩
  have h1 := row_step hL hi
  rw [← q2, g3] at h1
  simp only [Prod.mk.injEq] at h1
  refine ⟨hlt, by rw [hi, h1.1], by rw [g2]; exact g1, by rw [g2, ← g4]; exact he, by omega, by omega, by omega⟩

/-- what holds between two rounds -/
def Mid (B : List UInt8) (s : Nat) (W0 : World) (pre : List Stp) (W : World) : Prop :=
  (∃ en : Int, Blk W s 3 [.int .i64 (pre.length : Int)] ∧ Blk W (s + 1) 3 [.int .i64 en] ∧ ∀ e, RunD B 0 pre e → en = e) ∧ Below s W0 W
def Gone (B : List UInt8) (cd : Code) (pre : List Stp) (W : World) : Prop := cd = .ret ∧ ¬ RunSome B 0 pre
def AtX (lb rs s : Nat) (x : Stp) (a' : Act) (W : World) : Prop :=
  ∃ (Bx : Nat) (v0 v3 v4 v5 v6 v10 v11 v12 v13 v14 v15 v16 v17 v18 v19 v20 v21 v22 v23 v24 v25 v26 v27 v28 v29 v30 v31 v32 v33 v34 v35 v36 v37 v38 v39 v40 v41 v42 v43 v44 v45 v46 v47 v48 v49 v50 v51 v52 v53 v54 v55 v56 v57 v58 v59 v60 v61 v62 v63 v64 v65 v66 v67 v68 v69 v70 v71 v72 v73 v74 v75 v76 : Value), s + 1 < Bx ∧ Blk W Bx 40 [.int .i64 x.at_, .int .i64 x.len, .int .i64 x.i.op, .int .i64 x.i.a, .int .i64 x.i.b, .int .i32 x.i.n, .int .i64 x.i.f] ∧ a' = frame lb rs s Bx v0 v3 v4 v5 v6 v10 v11 v12 v13 v14 v15 v16 v17 v18 v19 v20 v21 v22 v23 v24 v25 v26 v27 v28 v29 v30 v31 v32 v33 v34 v35 v36 v37 v38 v39 v40 v41 v42 v43 v44 v45 v46 v47 v48 v49 v50 v51 v52 v53 v54 v55 v56 v57 v58 v59 v60 v61 v62 v63 v64 v65 v66 v67 v68 v69 v70 v71 v72 v73 v74 v75 v76
theorem blk_own {w w' : World} {row : Option Nat} {g : Nat} {t : TypeId} {cs : List Value} (h : Blk w g t cs) (hg : w.grownBy w' row) (hr : ∀ r, row = some r → ∃ o : Obj, w.heap[r]? = some o ∧ o.isCells = false) : Blk w' g t cs :=
  h.grown hg fun e => by obtain ⟨o, ho, hc⟩ := hr g e.symm; rw [show w.heap[g]? = _ from h] at ho; cases ho; cases hc
theorem mid_own (B : List UInt8) (s : Nat) (W0 : World) (hs : s ≤ W0.heap.size) : OwnFrom W0.heap.size (Mid B s W0) := fun pre X Y row hm hg hr => by
  have hr' := fun r e => (hr r e).2
  obtain ⟨⟨en, h1, h2, h3⟩, hb⟩ := hm
  exact ⟨⟨en, blk_own h1 hg hr', blk_own h2 hg hr', h3⟩, (ownFrom_below (β := Unit) (n₀ := s) hs hs) () X Y row hb hg hr⟩
theorem gone_own (B : List UInt8) (N : Nat) (cd : Code) : OwnFrom N (Gone B cd) := fun pre X Y row hm hg hr => hm
theorem atX_own (B lb rs s : Nat) (x : Stp) (a' : Act) : OwnFrom B (fun (_ : Unit) W => AtX lb rs s x a' W) := fun _ X Y row hm hg hr => by
  obtain ⟨Bx, v0, v3, v4, v5, v6, v10, v11, v12, v13, v14, v15, v16, v17, v18, v19, v20, v21, v22, v23, v24, v25, v26, v27, v28, v29, v30, v31, v32, v33, v34, v35, v36, v37, v38, v39, v40, v41, v42, v43, v44, v45, v46, v47, v48, v49, v50, v51, v52, v53, v54, v55, v56, v57, v58, v59, v60, v61, v62, v63, v64, v65, v66, v67, v68, v69, v70, v71, v72, v73, v74, v75, v76, h1, h2, h3⟩ := hm
  exact ⟨Bx, v0, v3, v4, v5, v6, v10, v11, v12, v13, v14, v15, v16, v17, v18, v19, v20, v21, v22, v23, v24, v25, v26, v27, v28, v29, v30, v31, v32, v33, v34, v35, v36, v37, v38, v39, v40, v41, v42, v43, v44, v45, v46, v47, v48, v49, v50, v51, v52, v53, v54, v55, v56, v57, v58, v59, v60, v61, v62, v63, v64, v65, v66, v67, v68, v69, v70, v71, v72, v73, v74, v75, v76, h1, blk_own h2 hg (fun r e => (hr r e).2), h3⟩
theorem wrap64_in {x : Int} (h0 : 0 ≤ x) (h1 : x ≤ 9223372036854775807) : wrap64 x = x := by unfold wrap64; omega
set_option maxRecDepth 100000 in
set_option maxHeartbeats 4000000 in
theorem round_any (lp lb rs s : Nat) (W0 W : World) (A : Option Addr) (N c : Nat) (L : List Ins) (pre : List Stp) (x : Stp) (a' : Act) (hL : ∀ i ∈ L, i.chk = 0 ∧ I32 i.n) (hN : N ≤ 100) (hln : L.length = N)
    (hs : Sl W0 s 5 A N (insCells L)) (bL : Blk W0 lb 46 [.slice A N c]) (bR : Blk W0 rs 4 [.bool false]) (h1 : rs < s) (h2 : lb < s) (hM : Mid (encAll L) s W0 pre W) (hX : AtX lb rs s x a' W) (hpre : pre.length < 1000) :
    body.wpIn (Fence.wide.inRound lp) 3 Tryd.prog (ownPostG W0.heap.size (Below s) (Mid (encAll L) s W0) (Gone (encAll L)) (pre ++ [x]) W) a' W := by
  obtain ⟨⟨en, bK, bE, hen⟩, hb⟩ := hM
  obtain ⟨Bx, v0, v3, v4, v5, v6, v10, v11, v12, v13, v14, v15, v16, v17, v18, v19, v20, v21, v22, v23, v24, v25, v26, v27, v28, v29, v30, v31, v32, v33, v34, v35, v36, v37, v38, v39, v40, v41, v42, v43, v44, v45, v46, v47, v48, v49, v50, v51, v52, v53, v54, v55, v56, v57, v58, v59, v60, v61, v62, v63, v64, v65, v66, v67, v68, v69, v70, v71, v72, v73, v74, v75, v76, hBx, bX, rfl⟩ := hX
  have bR' := bR.below hb h1
  have bL' := bL.below hb h2
  have hs' := hs.below hb
  have post : ¬ RunSome (encAll L) 0 (pre ++ [x]) → ∀ (a' : Act) W', KeepsOthers W W' → ownPostG W0.heap.size (Below s) (Mid (encAll L) s W0) (Gone (encAll L)) (pre ++ [x]) W .ret a' W' := fun hno a' W' k1 => ⟨k1.from _, rfl, hno⟩
  have hB6 := encAll_le L (fun i hi => (hL i hi).1)
  by_cases hk : pre.length < N
  · obtain ⟨y, hy⟩ : ∃ y, L[pre.length]? = some y := ⟨L[pre.length]'(by omega), List.getElem?_eq_getElem (by omega)⟩
    obtain ⟨b, o, rfl, hbs, hhas⟩ := hs'.at_ (by omega)
    obtain ⟨c0, c1, c2, c3, c4⟩ := ins_at hhas hy
    obtain ⟨xa, xl, ⟨x0, x1, x2, x3, x4⟩⟩ := x
    obtain ⟨y0, y1, y2, y3, y4⟩ := y
    simp only at bX c0 c1 c2 c3 c4
    by_cases hne : x0 = y0 ∧ x1 = y1 ∧ x2 = y2 ∧ x3 = y3 ∧ x4 = y4
    · obtain ⟨rfl, rfl, rfl, rfl, rfl⟩ := hne
      by_cases hp : xa = en
      · subst hp
        refine round_good lp lb rs s Bx W _ N c pre.length xa xl x0 x1 x2 x3 x4 v0 v3 v4 v5 v6 v10 v11 v12 v13 v14 v15 v16 v17 v18 v19 v20 v21 v22 v23 v24 v25 v26 v27 v28 v29 v30 v31 v32 v33 v34 v35 v36 v37 v38 v39 v40 v41 v42 v43 v44 v45 v46 v47 v48 v49 v50 v51 v52 v53 v54 v55 v56 v57 v58 v59 v60 v61 v62 v63 v64 v65 v66 v67 v68 v69 v70 v71 v72 v73 v74 v75 v76 _ bL' bR' bK bE bX hN hk b o rfl c0 c1 c2 c3 c4 ?_
        refine fun a' W' k1 k2 k3 k4 => ⟨k1.from _, k2, ⟨wrap64 (xa + xl), by rw [List.length_append, List.length_singleton]; exact k3, k4, ?_⟩, hb.trans k2⟩
        intro e he
        obtain ⟨_, _, g3, g4, g5, g6, g7⟩ := row_next hL ⟨e, he⟩
        simp only at g4 g5 g6 g7
        rw [wrap64_in (by omega) (by omega)]
        exact g4.fun_ he
      · refine round_place lp lb rs s Bx W _ N c pre.length en xa xl x0 x1 x2 x3 x4 v0 v3 v4 v5 v6 v10 v11 v12 v13 v14 v15 v16 v17 v18 v19 v20 v21 v22 v23 v24 v25 v26 v27 v28 v29 v30 v31 v32 v33 v34 v35 v36 v37 v38 v39 v40 v41 v42 v43 v44 v45 v46 v47 v48 v49 v50 v51 v52 v53 v54 v55 v56 v57 v58 v59 v60 v61 v62 v63 v64 v65 v66 v67 v68 v69 v70 v71 v72 v73 v74 v75 v76 _ bL' bR' bK bE bX hN hk b o rfl c0 c1 c2 c3 c4 (by simpa using hp) (post ?_)
        intro hr
        obtain ⟨_, _, g3, _⟩ := row_next hL hr
        exact hp (hen _ g3).symm
    · refine round_unlike lp lb rs s Bx W _ N c pre.length en xa xl x0 x1 x2 x3 x4 v0 v3 v4 v5 v6 v10 v11 v12 v13 v14 v15 v16 v17 v18 v19 v20 v21 v22 v23 v24 v25 v26 v27 v28 v29 v30 v31 v32 v33 v34 v35 v36 v37 v38 v39 v40 v41 v42 v43 v44 v45 v46 v47 v48 v49 v50 v51 v52 v53 v54 v55 v56 v57 v58 v59 v60 v61 v62 v63 v64 v65 v66 v67 v68 v69 v70 v71 v72 v73 v74 v75 v76 _ bL' bR' bK bE bX hN hk b o rfl y0 y1 y2 y3 y4 c0 c1 c2 c3 c4 hne (post ?_)
      intro hr
      obtain ⟨_, g2, _⟩ := row_next hL hr
      rw [hy] at g2
      simp only [Option.some.injEq, Ins.mk.injEq] at g2
      obtain ⟨rfl, rfl, rfl, rfl, rfl⟩ := g2
      exact hne ⟨rfl, rfl, rfl, rfl, rfl⟩
  · have hno : ¬ RunSome (encAll L) 0 (pre ++ [x]) := fun hr => by have := (row_next hL hr).1; omega
    obtain ⟨xa, xl, ⟨x0, x1, x2, x3, x4⟩⟩ := x
    simp only at bX
    exact round_end lp lb rs s Bx W A N c pre.length en xa xl x0 x1 x2 x3 x4 v0 v3 v4 v5 v6 v10 v11 v12 v13 v14 v15 v16 v17 v18 v19 v20 v21 v22 v23 v24 v25 v26 v27 v28 v29 v30 v31 v32 v33 v34 v35 v36 v37 v38 v39 v40 v41 v42 v43 v44 v45 v46 v47 v48 v49 v50 v51 v52 v53 v54 v55 v56 v57 v58 v59 v60 v61 v62 v63 v64 v65 v66 v67 v68 v69 v70 v71 v72 v73 v74 v75 v76 _ bL' bR' bK bE bX hN (by omega) (post hno)
end Go.Proofs.YthcjnkakfpmpbaaDoor.decodeRow
