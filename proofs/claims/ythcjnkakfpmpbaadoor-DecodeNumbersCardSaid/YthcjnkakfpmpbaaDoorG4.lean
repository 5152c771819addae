/- One turn of law DecodeAll's outer loop: the range over decode.All, gone over or left early, and the question behind it. Conditions: none. -/
import Derived.Test.YthcjnkakfpmpbaaDoorG3
namespace Go.Proofs.YthcjnkakfpmpbaaDoor.decodeAll
open Go.RowKit Go.Shelf
set_option linter.unusedVariables false
set_option linter.unusedSimpArgs false
attribute [local go_sem] Oper.semAt_some

/-- the body of the first loop in a code -/
def loopIn : Code → Option Code
  | .loop b => some b
  | .rangeFunc _ _ _ b => loopIn b
  | .seq a b => match loopIn a with | some o => some o | none => loopIn b
  | .cond _ a b => match loopIn a with | some o => some o | none => loopIn b
  | .block _ b => loopIn b
  | .scope b => loopIn b
  | _ => none
def loopOf (c : Option Code) : Code := match c with | some c => (match loopIn c with | some o => o | none => .skip) | none => .skip
noncomputable def turnC : Code := loopOf Tryd.f5.body
def lframe (h n0 : Nat) (A : Option Addr) (c : Nat) (at_ stop : Int) (tb : Nat) (ds : List Deferred) (u9 u10 u11 u12 u13 u14 u15 u16 u17 u18 u19 u20 u21 u22 u23 u24 u25 u26 u27 u28 u29 u30 u31 u32 u33 u34 u35 u36 u37 u38 u39 u40 u41 u42 u43 u44 u45 u46 u47 u48 u49 u50 u51 u52 u53 u54 u55 u56 u57 u58 u59 u60 u61 u62 u63 u64 u65 u66 u67 u68 u69 u70 u71 u72 u73 u74 u75 u76 u77 u78 u79 u80 u81 : Value) : Act := { tmps := #[.slice A n0 c, .int .i64 at_, .int .i64 stop, .pointer (some ⟨h, 0, none⟩), undef, .pointer (some ⟨h + 1, 0, none⟩), .pointer (some ⟨h + 2, 0, none⟩), .func (.func 53) #[] #[.pointer (some ⟨h + 4, 0, none⟩), .pointer (some ⟨h + 3, 0, none⟩)], .pointer (some ⟨tb, 0, none⟩), u9, u10, u11, u12, u13, u14, u15, u16, u17, u18, u19, u20, u21, u22, u23, u24, u25, u26, u27, u28, u29, u30, u31, u32, u33, u34, u35, u36, u37, u38, u39, u40, u41, u42, u43, u44, u45, u46, u47, u48, u49, u50, u51, u52, u53, u54, u55, u56, u57, u58, u59, u60, u61, u62, u63, u64, u65, u66, u67, u68, u69, u70, u71, u72, u73, u74, u75, u76, u77, u78, u79, u80, u81], defers := ds }

/-- what holds between two rounds -/
def Mid (l : List UInt8) (at_ : Int) (s : Nat) (W0 : World) (pre : List Stp) (W : World) : Prop :=
  (∃ k, RunD l at_ pre k ∧ Blk W s 3 [.int .i64 k] ∧ Blk W (s + 1) 3 [.int .i64 (pre.length : Int)] ∧ Blk W (s + 2) 4 [.bool false]) ∧ Below s W0 W
/-- what holds where a round has left: by the break; by the return that never comes -/
def Gone (l : List UInt8) (at_ : Int) (s : Nat) (W0 : World) (cd : Code) (pre : List Stp) (W : World) : Prop :=
  (cd = .exit 2 ∧ (∃ k, Blk W s 3 [.int .i64 k]) ∧ Blk W (s + 2) 4 [.bool true] ∧ Below s W0 W) ∨ (cd = .ret ∧ ¬ RunSome l at_ pre)
/-- a round's frame, its step's box -/
def AtX (h tb s : Nat) (x : Stp) (a' : Act) (W : World) : Prop :=
  ∃ (Bx : Nat) (v0 v1 v2 v4 v7 v13 v14 v15 v16 v17 v18 v19 v20 v21 v22 v23 v24 v25 v26 v27 v28 v29 v30 v31 v32 v33 v34 v35 v36 v37 v38 v39 v40 v41 v42 v43 v44 v45 v46 v47 v48 v49 v50 v51 v52 v53 v54 v55 v56 v57 v58 v59 v60 v61 v62 v63 v64 v65 v66 v67 v68 v69 v70 v71 v72 v73 v74 v75 v76 v77 v78 v79 v80 v81 : Value), s + 2 < Bx ∧ Blk W Bx 40 [.int .i64 x.at_, .int .i64 x.len, .int .i64 x.i.op, .int .i64 x.i.a, .int .i64 x.i.b, .int .i32 x.i.n, .int .i64 x.i.f] ∧ a' = frame h (h + 1) (h + 2) tb s Bx v0 v1 v2 v4 v7 v13 v14 v15 v16 v17 v18 v19 v20 v21 v22 v23 v24 v25 v26 v27 v28 v29 v30 v31 v32 v33 v34 v35 v36 v37 v38 v39 v40 v41 v42 v43 v44 v45 v46 v47 v48 v49 v50 v51 v52 v53 v54 v55 v56 v57 v58 v59 v60 v61 v62 v63 v64 v65 v66 v67 v68 v69 v70 v71 v72 v73 v74 v75 v76 v77 v78 v79 v80 v81
theorem blk_own {w w' : World} {row : Option Nat} {g : Nat} {t : TypeId} {cs : List Value} (h : Blk w g t cs) (hg : w.grownBy w' row) (hr : ∀ r, row = some r → ∃ o : Obj, w.heap[r]? = some o ∧ o.isCells = false) : Blk w' g t cs :=
  h.grown hg fun e => by obtain ⟨o, ho, hc⟩ := hr g e.symm; rw [show w.heap[g]? = _ from h] at ho; cases ho; cases hc
theorem mid_own (l : List UInt8) (at_ : Int) (s : Nat) (W0 : World) (hs : s ≤ W0.heap.size) : OwnFrom W0.heap.size (Mid l at_ s W0) := fun pre X Y row hm hg hr => by
  have hr' := fun r e => (hr r e).2
  obtain ⟨⟨k, h1, h2, h3, h4⟩, hb⟩ := hm
  exact ⟨⟨k, h1, blk_own h2 hg hr', blk_own h3 hg hr', blk_own h4 hg hr'⟩, (ownFrom_below (β := Unit) (n₀ := s) hs hs) () X Y row hb hg hr⟩
theorem gone_own (l : List UInt8) (at_ : Int) (s : Nat) (W0 : World) (hs : s ≤ W0.heap.size) (cd : Code) : OwnFrom W0.heap.size (Gone l at_ s W0 cd) := fun pre X Y row hm hg hr => by
  have hr' := fun r e => (hr r e).2
  rcases hm with ⟨h1, ⟨k, h2⟩, h3, hb⟩ | h
  · exact .inl ⟨h1, ⟨k, blk_own h2 hg hr'⟩, blk_own h3 hg hr', (ownFrom_below (β := Unit) (n₀ := s) hs hs) () X Y row hb hg hr⟩
  · exact .inr h
theorem atX_own (B h tb s : Nat) (x : Stp) (a' : Act) : OwnFrom B (fun (_ : Unit) W => AtX h tb s x a' W) := fun _ X Y row hm hg hr => by
  obtain ⟨Bx, v0, v1, v2, v4, v7, v13, v14, v15, v16, v17, v18, v19, v20, v21, v22, v23, v24, v25, v26, v27, v28, v29, v30, v31, v32, v33, v34, v35, v36, v37, v38, v39, v40, v41, v42, v43, v44, v45, v46, v47, v48, v49, v50, v51, v52, v53, v54, v55, v56, v57, v58, v59, v60, v61, v62, v63, v64, v65, v66, v67, v68, v69, v70, v71, v72, v73, v74, v75, v76, v77, v78, v79, v80, v81, h1, h2, h3⟩ := hm
  exact ⟨Bx, v0, v1, v2, v4, v7, v13, v14, v15, v16, v17, v18, v19, v20, v21, v22, v23, v24, v25, v26, v27, v28, v29, v30, v31, v32, v33, v34, v35, v36, v37, v38, v39, v40, v41, v42, v43, v44, v45, v46, v47, v48, v49, v50, v51, v52, v53, v54, v55, v56, v57, v58, v59, v60, v61, v62, v63, v64, v65, v66, v67, v68, v69, v70, v71, v72, v73, v74, v75, v76, v77, v78, v79, v80, v81, h1, blk_own h2 hg (fun r e => (hr r e).2), h3⟩

theorem below_keepsFrom {B : Nat} {W W' : World} (h : KeepsOthers W W') : KeepsFrom B W W' := h.from B

set_option maxRecDepth 100000 in
set_option maxHeartbeats 4000000 in
theorem round_any (lp h tb s : Nat) (A : Option Addr) (n c : Nat) (l : List UInt8) (at_ T r : Int) (W0 W : World) (pre : List Stp) (x : Stp) (a' : Act)
    (hs : Sl W0 s 1 A n (bs l)) (hnc : n ≤ c) (hn : n ≤ 500)
    (bB : Blk W0 h 22 [.slice A n c]) (bS : Blk W0 (h + 1) 3 [.int .i64 r]) (bR : Blk W0 (h + 2) 4 [.bool false]) (bT : Blk W0 tb 3 [.int .i64 T])
    (h1 : h + 2 < s) (h3 : tb < s) (hsz : s ≤ W0.heap.size) (hpre : pre.length < n + 1)
    (hM : Mid l at_ s W0 pre W) (hX : AtX h tb s x a' W) :
    body.wpIn (Fence.wide.inRound lp) 3 Tryd.prog (ownPostG W0.heap.size (Below s) (Mid l at_ s W0) (Gone l at_ s W0) (pre ++ [x]) W) a' W := by
  obtain ⟨⟨k, hrun, bK, bN, bL⟩, hb⟩ := hM
  obtain ⟨Bx, v0, v1, v2, v4, v7, v13, v14, v15, v16, v17, v18, v19, v20, v21, v22, v23, v24, v25, v26, v27, v28, v29, v30, v31, v32, v33, v34, v35, v36, v37, v38, v39, v40, v41, v42, v43, v44, v45, v46, v47, v48, v49, v50, v51, v52, v53, v54, v55, v56, v57, v58, v59, v60, v61, v62, v63, v64, v65, v66, v67, v68, v69, v70, v71, v72, v73, v74, v75, v76, v77, v78, v79, v80, v81, hBx, bX, rfl⟩ := hX
  have hs' : Sl W W.heap.size 1 A n (bs l) := (hs.below hb).more (by have := hb.size; omega)
  have bB' := bB.below hb (by omega)
  have bS' := bS.below hb (by omega)
  have bR' := bR.below hb (by omega)
  have bT' := bT.below hb (by omega)
  have hD := fun w (hs : Sl w w.heap.size 1 A n (bs l)) => refDecode_any A n c l k w hs hnc (by omega)
  have hl : l.length = n := by have := hs.len; rw [bs_length] at this; omega
  obtain ⟨r0, hr0⟩ : ∃ r0, r0 = decR l k := ⟨_, rfl⟩
  rw [← hr0] at hD
  obtain ⟨⟨j0, j1, j2, j3, j4⟩, jn, je⟩ := r0
  by_cases hgood : x.at_ = k ∧ decR l k = (x.i, x.len, 0)
  · obtain ⟨hxk, hd⟩ := hgood
    obtain ⟨xa, xl, ⟨x0, x1, x2, x3, x4⟩⟩ := x
    simp only at hxk hd
    subst hxk
    have hrun2 := hrun.snoc (x := ⟨xa, xl, ⟨x0, x1, x2, x3, x4⟩⟩) rfl hd
    have hok := decR_ok hd
    rw [hd] at hr0
    simp only [Prod.mk.injEq, Ins.mk.injEq] at hr0
    obtain ⟨⟨rfl, rfl, rfl, rfl, rfl⟩, rfl, rfl⟩ := hr0
    have post : ∀ (a' : Act) W', KeepsOthers W W' → Below s W W' → Blk W' s 3 [.int .i64 (xa + jn)] → Blk W' (s + 1) 3 [.int .i64 ((pre.length : Int) + 1)] → Blk W' (s + 2) 4 [.bool false] →
        ownPostG W0.heap.size (Below s) (Mid l at_ s W0) (Gone l at_ s W0) (pre ++ [⟨xa, jn, ⟨j0, j1, j2, j3, j4⟩⟩]) W .normal a' W' := fun a' W' k1 k2 k3 k4 k5 =>
      ⟨k1.from _, k2, ⟨_, hrun2, k3, by rw [List.length_append, List.length_singleton]; exact k4, k5⟩, hb.trans k2⟩
    by_cases hT : T = 1
    · by_cases hL : r < (pre.length : Int) + 1
      · refine round_leave lp h (h + 1) (h + 2) tb s Bx A n c l W T r xa pre.length jn j0 j1 j2 j3 j4 v0 v1 v2 v4 v7 v13 v14 v15 v16 v17 v18 v19 v20 v21 v22 v23 v24 v25 v26 v27 v28 v29 v30 v31 v32 v33 v34 v35 v36 v37 v38 v39 v40 v41 v42 v43 v44 v45 v46 v47 v48 v49 v50 v51 v52 v53 v54 v55 v56 v57 v58 v59 v60 v61 v62 v63 v64 v65 v66 v67 v68 v69 v70 v71 v72 v73 v74 v75 v76 v77 v78 v79 v80 v81 _ hs' hnc (by omega) bB' bS' bR' bT' bK bN bL bX (by omega) (by omega) h3 hBx (by omega) (by omega) (by omega) (by omega) (by simpa using hT) (by simpa using hL) (by simpa using hL) (Lib.hid hD) ?_
        exact fun a' W' k1 k2 k3 k4 => ⟨k1.from _, .inl ⟨rfl, ⟨_, k3⟩, k4, hb.trans k2⟩⟩
      · exact round_stay1 lp h (h + 1) (h + 2) tb s Bx A n c l W T r xa pre.length jn j0 j1 j2 j3 j4 v0 v1 v2 v4 v7 v13 v14 v15 v16 v17 v18 v19 v20 v21 v22 v23 v24 v25 v26 v27 v28 v29 v30 v31 v32 v33 v34 v35 v36 v37 v38 v39 v40 v41 v42 v43 v44 v45 v46 v47 v48 v49 v50 v51 v52 v53 v54 v55 v56 v57 v58 v59 v60 v61 v62 v63 v64 v65 v66 v67 v68 v69 v70 v71 v72 v73 v74 v75 v76 v77 v78 v79 v80 v81 _ hs' hnc (by omega) bB' bS' bR' bT' bK bN bL bX (by omega) (by omega) h3 hBx (by omega) (by omega) (by omega) (by omega) (by simpa using hT) (by simpa using hL) (by simpa using hL) (Lib.hid hD) post
    · exact round_stay0 lp h (h + 1) (h + 2) tb s Bx A n c l W T r xa pre.length jn j0 j1 j2 j3 j4 v0 v1 v2 v4 v7 v13 v14 v15 v16 v17 v18 v19 v20 v21 v22 v23 v24 v25 v26 v27 v28 v29 v30 v31 v32 v33 v34 v35 v36 v37 v38 v39 v40 v41 v42 v43 v44 v45 v46 v47 v48 v49 v50 v51 v52 v53 v54 v55 v56 v57 v58 v59 v60 v61 v62 v63 v64 v65 v66 v67 v68 v69 v70 v71 v72 v73 v74 v75 v76 v77 v78 v79 v80 v81 _ hs' hnc (by omega) bB' bS' bR' bT' bK bN bL bX (by omega) (by omega) h3 hBx (by omega) (by omega) (by omega) (by omega) (by simpa using hT) (Lib.hid hD) post
  · have hno : ¬ RunSome l at_ (pre ++ [x]) := by
      rintro ⟨e, he⟩
      obtain ⟨d, g1, g2, g3, _⟩ := he.last
      obtain rfl := hrun.fun_ g1
      exact hgood ⟨g2, g3⟩
    obtain ⟨xa, xl, ⟨x0, x1, x2, x3, x4⟩⟩ := x
    have post : ∀ (a' : Act) W', KeepsOthers W W' → ownPostG W0.heap.size (Below s) (Mid l at_ s W0) (Gone l at_ s W0) (pre ++ [⟨xa, xl, ⟨x0, x1, x2, x3, x4⟩⟩]) W .ret a' W' := fun a' W' k1 => ⟨k1.from _, .inr ⟨rfl, hno⟩⟩
    by_cases he : je = 0
    · subst he
      refine round_other lp h (h + 1) (h + 2) tb s Bx A n c l W T r k pre.length xa xl x0 x1 x2 x3 x4 j0 j1 j2 j3 j4 jn 0 v0 v1 v2 v4 v7 v13 v14 v15 v16 v17 v18 v19 v20 v21 v22 v23 v24 v25 v26 v27 v28 v29 v30 v31 v32 v33 v34 v35 v36 v37 v38 v39 v40 v41 v42 v43 v44 v45 v46 v47 v48 v49 v50 v51 v52 v53 v54 v55 v56 v57 v58 v59 v60 v61 v62 v63 v64 v65 v66 v67 v68 v69 v70 v71 v72 v73 v74 v75 v76 v77 v78 v79 v80 v81 _ hs' hnc (by omega) bB' bS' bR' bT' bK bN bL bX (by omega) (by omega) h3 hBx (by omega) (by omega) (by simp) ?_ (Lib.hid hD) post
      rintro ⟨rfl, rfl, rfl, rfl, rfl, rfl, rfl⟩
      exact hgood ⟨rfl, hr0.symm⟩
    · exact round_none lp h (h + 1) (h + 2) tb s Bx A n c l W T r k pre.length xa xl x0 x1 x2 x3 x4 j0 j1 j2 j3 j4 jn je v0 v1 v2 v4 v7 v13 v14 v15 v16 v17 v18 v19 v20 v21 v22 v23 v24 v25 v26 v27 v28 v29 v30 v31 v32 v33 v34 v35 v36 v37 v38 v39 v40 v41 v42 v43 v44 v45 v46 v47 v48 v49 v50 v51 v52 v53 v54 v55 v56 v57 v58 v59 v60 v61 v62 v63 v64 v65 v66 v67 v68 v69 v70 v71 v72 v73 v74 v75 v76 v77 v78 v79 v80 v81 _ hs' hnc (by omega) bB' bS' bR' bT' bK bN bL bX (by omega) (by omega) h3 hBx (by omega) (by omega) (by simpa using he) (Lib.hid hD) post
end Go.Proofs.YthcjnkakfpmpbaaDoor.decodeAll
