/- The round of law DecodeNumbers' range over decode.All. Conditions: none. -/
import Derived.Test.YthcjnkakfpmpbaaDoorN1
import Derived.Test.YthcjnkakfpmpbaaDoorG4
namespace Go.Proofs.YthcjnkakfpmpbaaDoor.decodeNumbers
open Go.RowKit Go.Shelf
set_option linter.unusedVariables false
set_option linter.unusedSimpArgs false
attribute [local go_sem] Oper.semAt_some

noncomputable def body : Code := decodeAll.rangeOf Tryd.f4.body
def frame (rs s Bx : Nat) (u1 u2 u3 u4 u5 u6 u7 u8 u9 u10 u11 u14 u15 u16 u17 u18 u19 u20 u21 u22 u23 u24 u25 u26 u27 u28 u29 u30 u31 u32 u33 u34 u35 u36 u37 u38 u39 u40 u41 u42 u43 u44 u45 u46 u47 u48 u49 u50 u51 u52 u53 u54 u55 u56 u57 u58 u59 u60 u61 u62 u63 u64 u65 u66 u67 u68 u69 u70 u71 u72 u73 u74 u75 u76 u77 u78 u79 u80 u81 u82 u83 u84 u85 u86 u87 u88 u89 u90 u91 u92 u93 u94 : Value) : Act := { tmps := #[.pointer (some ⟨rs, 0, none⟩), u1, u2, u3, u4, u5, u6, u7, u8, u9, u10, u11, .pointer (some ⟨s, 0, none⟩), .pointer (some ⟨Bx, 0, none⟩), u14, u15, u16, u17, u18, u19, u20, u21, u22, u23, u24, u25, u26, u27, u28, u29, u30, u31, u32, u33, u34, u35, u36, u37, u38, u39, u40, u41, u42, u43, u44, u45, u46, u47, u48, u49, u50, u51, u52, u53, u54, u55, u56, u57, u58, u59, u60, u61, u62, u63, u64, u65, u66, u67, u68, u69, u70, u71, u72, u73, u74, u75, u76, u77, u78, u79, u80, u81, u82, u83, u84, u85, u86, u87, u88, u89, u90, u91, u92, u93, u94], defers := [] }

set_option maxRecDepth 100000 in
set_option maxHeartbeats 4000000 in
theorem round_good (lp rs s Bx : Nat) (W : World) (k : Int) (u1 u2 u3 u4 u5 u6 u7 u8 u9 u10 u11 u14 u15 u16 u17 u18 u19 u20 u21 u22 u23 u24 u25 u26 u27 u28 u29 u30 u31 u32 u33 u34 u35 u36 u37 u38 u39 u40 u41 u42 u43 u44 u45 u46 u47 u48 u49 u50 u51 u52 u53 u54 u55 u56 u57 u58 u59 u60 u61 u62 u63 u64 u65 u66 u67 u68 u69 u70 u71 u72 u73 u74 u75 u76 u77 u78 u79 u80 u81 u82 u83 u84 u85 u86 u87 u88 u89 u90 u91 u92 u93 u94 : Value) (Q : Exit → Act → World → Prop)
    (bR : Blk W rs 4 [.bool false]) (bK : Blk W s 3 [.int .i64 k])
    (bX : Blk W Bx 40 [.int .i64 k, .int .i64 1, .int .i64 1, .int .i64 0, .int .i64 0, .int .i32 0, .int .i64 0]) (hk : 0 ≤ k ∧ k ≤ 10)
    (hQ : ∀ a' W', KeepsOthers W W' → Below s W W' → Blk W' s 3 [.int .i64 (k + 1)] → Q .normal a' W') :
    body.wpIn (Fence.wide.inRound lp) 3 Tryd.prog Q (frame rs s Bx u1 u2 u3 u4 u5 u6 u7 u8 u9 u10 u11 u14 u15 u16 u17 u18 u19 u20 u21 u22 u23 u24 u25 u26 u27 u28 u29 u30 u31 u32 u33 u34 u35 u36 u37 u38 u39 u40 u41 u42 u43 u44 u45 u46 u47 u48 u49 u50 u51 u52 u53 u54 u55 u56 u57 u58 u59 u60 u61 u62 u63 u64 u65 u66 u67 u68 u69 u70 u71 u72 u73 u74 u75 u76 u77 u78 u79 u80 u81 u82 u83 u84 u85 u86 u87 u88 u89 u90 u91 u92 u93 u94) W := by
  unfold frame
  have HQ := Lib.hid hQ
  clear hQ
  conv in body => whnf
  have x_0 := bX.cell 0
  have x_1 := bX.cell 1
  have x_2 := bX.cell 2
  have x_3 := bX.cell 3
  have x_4 := bX.cell 4
  have x_5 := bX.cell 5
  have x_6 := bX.cell 6
  have k0 := bK.cell 0
  have kf := bK.free 0
  have r0 := bR.cell 0
  have rf := bR.free 0
  simp only [List.getElem?_cons_zero, List.getElem?_cons_succ] at x_0 x_1 x_2 x_3 x_4 x_5 x_6 k0 r0
  gi_wp2_with fail
  exact HQ.out _ _ (KeepsOthers.setCell _ _ _) ((Below.refl s W).setCell (p := ⟨s, 0, none⟩) (Nat.le_refl _) _) (bK.set_ 0 _)

set_option maxRecDepth 100000 in
set_option maxHeartbeats 4000000 in
theorem round_bad (lp rs s Bx : Nat) (W : World) (k xa xl x0 x1 x2 x3 x4 : Int) (u1 u2 u3 u4 u5 u6 u7 u8 u9 u10 u11 u14 u15 u16 u17 u18 u19 u20 u21 u22 u23 u24 u25 u26 u27 u28 u29 u30 u31 u32 u33 u34 u35 u36 u37 u38 u39 u40 u41 u42 u43 u44 u45 u46 u47 u48 u49 u50 u51 u52 u53 u54 u55 u56 u57 u58 u59 u60 u61 u62 u63 u64 u65 u66 u67 u68 u69 u70 u71 u72 u73 u74 u75 u76 u77 u78 u79 u80 u81 u82 u83 u84 u85 u86 u87 u88 u89 u90 u91 u92 u93 u94 : Value) (Q : Exit → Act → World → Prop)
    (bR : Blk W rs 4 [.bool false]) (bK : Blk W s 3 [.int .i64 k])
    (bX : Blk W Bx 40 [.int .i64 xa, .int .i64 xl, .int .i64 x0, .int .i64 x1, .int .i64 x2, .int .i32 x3, .int .i64 x4]) (hne : ¬ (xa = k ∧ xl = 1 ∧ x0 = 1 ∧ x1 = 0 ∧ x2 = 0 ∧ x3 = 0 ∧ x4 = 0))
    (hQ : ∀ a' W', KeepsOthers W W' → Q .ret a' W') :
    body.wpIn (Fence.wide.inRound lp) 3 Tryd.prog Q (frame rs s Bx u1 u2 u3 u4 u5 u6 u7 u8 u9 u10 u11 u14 u15 u16 u17 u18 u19 u20 u21 u22 u23 u24 u25 u26 u27 u28 u29 u30 u31 u32 u33 u34 u35 u36 u37 u38 u39 u40 u41 u42 u43 u44 u45 u46 u47 u48 u49 u50 u51 u52 u53 u54 u55 u56 u57 u58 u59 u60 u61 u62 u63 u64 u65 u66 u67 u68 u69 u70 u71 u72 u73 u74 u75 u76 u77 u78 u79 u80 u81 u82 u83 u84 u85 u86 u87 u88 u89 u90 u91 u92 u93 u94) W := by
  unfold frame
  have HQ := Lib.hid hQ
  clear hQ
  conv in body => whnf
  have x_0 := bX.cell 0
  have x_1 := bX.cell 1
  have x_2 := bX.cell 2
  have x_3 := bX.cell 3
  have x_4 := bX.cell 4
  have x_5 := bX.cell 5
  have x_6 := bX.cell 6
  have k0 := bK.cell 0
  have kf := bK.free 0
  have r0 := bR.cell 0
  have rf := bR.free 0
  simp only [List.getElem?_cons_zero, List.getElem?_cons_succ] at x_0 x_1 x_2 x_3 x_4 x_5 x_6 k0 r0
  gi_wp2_with fail
  all_goals exact HQ.out _ _ (KeepsOthers.setCell _ _ _)

def L3 : List UInt8 := [0, 0, 255]
theorem l3_0 : decR L3 0 = (⟨1, 0, 0, 0, 0⟩, 1, 0) := by kernel_rfl
theorem l3_1 : decR L3 1 = (⟨1, 0, 0, 0, 0⟩, 1, 0) := by kernel_rfl
theorem l3_2 : decR L3 2 = (ZI, 0, 11) := by kernel_rfl
theorem l3_ok {k m : Int} {j : Ins} (h : decR L3 k = (j, m, 0)) : 0 ≤ k ∧ k ≤ 1 ∧ m = 1 ∧ j = ⟨1, 0, 0, 0, 0⟩ := by
  have h1 := decR_ok h
  have hl : L3.length = 3 := rfl
  rcases (show k = 0 ∨ k = 1 ∨ k = 2 by omega) with rfl | rfl | rfl
  · rw [l3_0] at h; simp at h; exact ⟨by omega, by omega, h.2.symm, h.1.symm⟩
  · rw [l3_1] at h; simp at h; exact ⟨by omega, by omega, h.2.symm, h.1.symm⟩
  · rw [l3_2] at h; simp at h
theorem l3_run : ∀ {pre : List Stp} {j k : Int}, RunD L3 j pre k → 0 ≤ j → j ≤ 2 → k = j + pre.length ∧ k ≤ 2
  | [], j, k, h, h0, h1 => by obtain rfl : j = k := h; exact ⟨by simp, h1⟩
  | x :: xs, j, k, h, h0, h1 => by
    have := l3_ok h.2.1
    obtain ⟨g1, g2⟩ := l3_run h.2.2 (by omega) (by omega)
    exact ⟨by rw [List.length_cons]; omega, g2⟩
/-- what holds between two rounds -/
def Mid (s : Nat) (W0 : World) (pre : List Stp) (W : World) : Prop := Blk W s 3 [.int .i64 (pre.length : Int)] ∧ Below s W0 W
def Gone (cd : Code) (pre : List Stp) (W : World) : Prop := cd = .ret ∧ ¬ RunSome L3 0 pre
def AtX (rs s : Nat) (x : Stp) (a' : Act) (W : World) : Prop :=
  ∃ (Bx : Nat) (v1 v2 v3 v4 v5 v6 v7 v8 v9 v10 v11 v14 v15 v16 v17 v18 v19 v20 v21 v22 v23 v24 v25 v26 v27 v28 v29 v30 v31 v32 v33 v34 v35 v36 v37 v38 v39 v40 v41 v42 v43 v44 v45 v46 v47 v48 v49 v50 v51 v52 v53 v54 v55 v56 v57 v58 v59 v60 v61 v62 v63 v64 v65 v66 v67 v68 v69 v70 v71 v72 v73 v74 v75 v76 v77 v78 v79 v80 v81 v82 v83 v84 v85 v86 v87 v88 v89 v90 v91 v92 v93 v94 : Value), s < Bx ∧ Blk W Bx 40 [.int .i64 x.at_, .int .i64 x.len, .int .i64 x.i.op, .int .i64 x.i.a, .int .i64 x.i.b, .int .i32 x.i.n, .int .i64 x.i.f] ∧ a' = frame rs s Bx v1 v2 v3 v4 v5 v6 v7 v8 v9 v10 v11 v14 v15 v16 v17 v18 v19 v20 v21 v22 v23 v24 v25 v26 v27 v28 v29 v30 v31 v32 v33 v34 v35 v36 v37 v38 v39 v40 v41 v42 v43 v44 v45 v46 v47 v48 v49 v50 v51 v52 v53 v54 v55 v56 v57 v58 v59 v60 v61 v62 v63 v64 v65 v66 v67 v68 v69 v70 v71 v72 v73 v74 v75 v76 v77 v78 v79 v80 v81 v82 v83 v84 v85 v86 v87 v88 v89 v90 v91 v92 v93 v94
theorem mid_own (s : Nat) (W0 : World) (hs : s ≤ W0.heap.size) : OwnFrom W0.heap.size (Mid s W0) := fun pre X Y row hm hg hr =>
  ⟨decodeAll.blk_own hm.1 hg (fun r e => (hr r e).2), (ownFrom_below (β := Unit) (n₀ := s) hs hs) () X Y row hm.2 hg hr⟩
theorem gone_own (B : Nat) (cd : Code) : OwnFrom B (Gone cd) := fun pre X Y row hm hg hr => hm
theorem atX_own (B rs s : Nat) (x : Stp) (a' : Act) : OwnFrom B (fun (_ : Unit) W => AtX rs s x a' W) := fun _ X Y row hm hg hr => by
  obtain ⟨Bx, v1, v2, v3, v4, v5, v6, v7, v8, v9, v10, v11, v14, v15, v16, v17, v18, v19, v20, v21, v22, v23, v24, v25, v26, v27, v28, v29, v30, v31, v32, v33, v34, v35, v36, v37, v38, v39, v40, v41, v42, v43, v44, v45, v46, v47, v48, v49, v50, v51, v52, v53, v54, v55, v56, v57, v58, v59, v60, v61, v62, v63, v64, v65, v66, v67, v68, v69, v70, v71, v72, v73, v74, v75, v76, v77, v78, v79, v80, v81, v82, v83, v84, v85, v86, v87, v88, v89, v90, v91, v92, v93, v94, h1, h2, h3⟩ := hm
  exact ⟨Bx, v1, v2, v3, v4, v5, v6, v7, v8, v9, v10, v11, v14, v15, v16, v17, v18, v19, v20, v21, v22, v23, v24, v25, v26, v27, v28, v29, v30, v31, v32, v33, v34, v35, v36, v37, v38, v39, v40, v41, v42, v43, v44, v45, v46, v47, v48, v49, v50, v51, v52, v53, v54, v55, v56, v57, v58, v59, v60, v61, v62, v63, v64, v65, v66, v67, v68, v69, v70, v71, v72, v73, v74, v75, v76, v77, v78, v79, v80, v81, v82, v83, v84, v85, v86, v87, v88, v89, v90, v91, v92, v93, v94, h1, decodeAll.blk_own h2 hg (fun r e => (hr r e).2), h3⟩
set_option maxRecDepth 100000 in
set_option maxHeartbeats 4000000 in
theorem round_any (lp rs s : Nat) (W0 W : World) (pre : List Stp) (x : Stp) (a' : Act) (bR : Blk W0 rs 4 [.bool false]) (h1 : rs < s) (hpre : pre.length < 5) (hM : Mid s W0 pre W) (hX : AtX rs s x a' W) :
    body.wpIn (Fence.wide.inRound lp) 3 Tryd.prog (ownPostG W0.heap.size (Below s) (Mid s W0) Gone (pre ++ [x]) W) a' W := by
  obtain ⟨bK, hb⟩ := hM
  obtain ⟨Bx, v1, v2, v3, v4, v5, v6, v7, v8, v9, v10, v11, v14, v15, v16, v17, v18, v19, v20, v21, v22, v23, v24, v25, v26, v27, v28, v29, v30, v31, v32, v33, v34, v35, v36, v37, v38, v39, v40, v41, v42, v43, v44, v45, v46, v47, v48, v49, v50, v51, v52, v53, v54, v55, v56, v57, v58, v59, v60, v61, v62, v63, v64, v65, v66, v67, v68, v69, v70, v71, v72, v73, v74, v75, v76, v77, v78, v79, v80, v81, v82, v83, v84, v85, v86, v87, v88, v89, v90, v91, v92, v93, v94, hBx, bX, rfl⟩ := hX
  have bR' := bR.below hb h1
  obtain ⟨xa, xl, ⟨x0, x1, x2, x3, x4⟩⟩ := x
  simp only at bX
  by_cases hne : xa = (pre.length : Int) ∧ xl = 1 ∧ x0 = 1 ∧ x1 = 0 ∧ x2 = 0 ∧ x3 = 0 ∧ x4 = 0
  · obtain ⟨rfl, rfl, rfl, rfl, rfl, rfl, rfl⟩ := hne
    refine round_good lp rs s Bx W pre.length v1 v2 v3 v4 v5 v6 v7 v8 v9 v10 v11 v14 v15 v16 v17 v18 v19 v20 v21 v22 v23 v24 v25 v26 v27 v28 v29 v30 v31 v32 v33 v34 v35 v36 v37 v38 v39 v40 v41 v42 v43 v44 v45 v46 v47 v48 v49 v50 v51 v52 v53 v54 v55 v56 v57 v58 v59 v60 v61 v62 v63 v64 v65 v66 v67 v68 v69 v70 v71 v72 v73 v74 v75 v76 v77 v78 v79 v80 v81 v82 v83 v84 v85 v86 v87 v88 v89 v90 v91 v92 v93 v94 _ bR' bK bX (by omega) ?_
    exact fun a' W' k1 k2 k3 => ⟨k1.from _, k2, by rw [List.length_append, List.length_singleton]; exact k3, hb.trans k2⟩
  · refine round_bad lp rs s Bx W pre.length xa xl x0 x1 x2 x3 x4 v1 v2 v3 v4 v5 v6 v7 v8 v9 v10 v11 v14 v15 v16 v17 v18 v19 v20 v21 v22 v23 v24 v25 v26 v27 v28 v29 v30 v31 v32 v33 v34 v35 v36 v37 v38 v39 v40 v41 v42 v43 v44 v45 v46 v47 v48 v49 v50 v51 v52 v53 v54 v55 v56 v57 v58 v59 v60 v61 v62 v63 v64 v65 v66 v67 v68 v69 v70 v71 v72 v73 v74 v75 v76 v77 v78 v79 v80 v81 v82 v83 v84 v85 v86 v87 v88 v89 v90 v91 v92 v93 v94 _ bR' bK bX hne ?_
    refine fun a' W' k1 => ⟨k1.from _, rfl, ?_⟩
    rintro ⟨e, he⟩
    obtain ⟨d, g1, g2, g3, _⟩ := he.last
    have h3 := l3_ok g3
    have h4 := (l3_run g1 (by omega) (by omega)).1
    simp only [Ins.mk.injEq] at h3 g2
    exact hne ⟨by omega, h3.2.2.1, h3.2.2.2⟩
end Go.Proofs.YthcjnkakfpmpbaaDoor.decodeNumbers
