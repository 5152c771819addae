/- The walks of cpu's one at print and push; how many prints and entries there are. Conditions: the table of operations is laid. -/
import Derived.Test.YthcjnkakfpmpbaaDoorC17
namespace Go.Proofs.YthcjnkakfpmpbaaDoor
open Go.RowKit
set_option linter.unusedVariables false
set_option linter.unusedSimpArgs false

theorem RG.setHi {c : List Value} (h : RG c) (j : Nat) (hj : 12 ≤ j) (v : Value) : RG (c.set j v) :=
  ⟨fun k hk => by rw [List.getElem?_set_ne (by omega)]; exact h.1 k hk, fun k hk => by rw [List.getElem?_set_ne (by omega)]; exact h.2 k hk⟩

set_option maxRecDepth 20000 in
set_option maxHeartbeats 4000000 in
theorem one_print (op b n f : Int) (a : Nat) (x : Int) (w : World) (g base : Nat) (cells : List Value) (AT : Option Addr) (cT nT : Nat) (xT : List Value) (AS : Option Addr) (cS nS : Nat) (xS : List Value) (m : MR w g base cells AT cT nT xT AS cS nS xS) (hT : TabIs 0 w) (hbw : base ≤ w.heap.size) (ha : a < 8) (hx : cells[a]? = some (.int .i32 x)) (hnm : opName op = [112, 114, 105, 110, 116]) (hl : nT < 4096) :
    Calls Tryd.prog 59 #[.pointer (some ⟨g, 0, none⟩), .agg #[.int .i64 op, .int .i64 a, .int .i64 b, .int .i32 n, .int .i64 f]] w fun e w' => e = .returned (.agg #[.int .i64 0, .int .i64 0, .int .u32 0]) ∧ PF w g (Value.ownBlock (.slice AT nT cT)) (Value.ownBlock (.slice AS nS cS)) w' ∧ MPost w g base (Value.ownBlock (.slice AT nT cT)) (Value.ownBlock (.slice AS nS cS)) (nT + 1) nS w' := by
  have hg := m.blk.lt
  have hlI : (nT : Int) < 4096 := by omega
  have Hn := Lib.hid (fun w hT => hnm ▸ cname_any op w hT)
  have HM := Lib.hid m
  have Hx := Lib.hid hx
  clear m hx
  have hB0 : Below w.heap.size w ((w.alloc (.cells #[.int .i64 op, .int .i64 a, .int .i64 b, .int .i32 n, .int .i64 f] 25)).alloc (.cells #[.int .i64 0, .int .i64 0, .int .u32 0] 56)) := ((Below.refl _ _).alloc (Nat.le_refl _) _).alloc (by simp) _
  have hX0 : Blk ((w.alloc (.cells #[.int .i64 op, .int .i64 a, .int .i64 b, .int .i32 n, .int .i64 f] 25)).alloc (.cells #[.int .i64 0, .int .i64 0, .int .u32 0] 56)) (w.heap.size + 1) 56 [.int .i64 0, .int .i64 0, .int .u32 0] := by
    have := Blk.new (w.alloc (.cells #[.int .i64 op, .int .i64 a, .int .i64 b, .int .i32 n, .int .i64 f] 25)) 56 [.int .i64 0, .int .i64 0, .int .u32 0]
    rw [World.size_alloc] at this
    exact this
  go_enter Tryd.func59, Tryd.ntmps59
  go_wp2_with fail
  go_quiet (fail)
  have hX1 : Blk (((w.alloc (.cells #[.int .i64 op, .int .i64 a, .int .i64 b, .int .i32 n, .int .i64 f] 25)).alloc (.cells #[.int .i64 0, .int .i64 0, .int .u32 0] 56)).drewN nq) (w.heap.size + 1) 56 [.int .i64 0, .int .i64 0, .int .u32 0] := hX0
  have hB1 : Below w.heap.size w (((w.alloc (.cells #[.int .i64 op, .int .i64 a, .int .i64 b, .int .i32 n, .int .i64 f] 25)).alloc (.cells #[.int .i64 0, .int .i64 0, .int .u32 0] 56)).drewN nq) := below_drewN hB0 nq
  go_wp2_with (first
    | (go_at_call 82; refine (Hn.out _ (((hT.alloc _).alloc _).drewN nq)).mono ?_; rintro e w2 ⟨rfl, hb2⟩; have hB2 := hB1.trans (hb2.mono hB1.size); have hX2 := hX1.below hb2 hX1.lt; have hM2 := HM.out.below hB2; have q2 := (hM2.blk.cell 269).trans HM.out.eT; have hz2 := hM2.blk.lt; have hX2l := hX2.lt)
    | fail)
  have hs2 := hB2.size
  refine wp_region_swap (ops' := oneR6) (by kernel_rfl) (one_r6 g a nT cT base AT xT cells x _ _ _ _ _ _ _ _ _ _ _ _ _ _ _ _ _ _ _ _ _ _ _ _ _ _ _ _ _ _ _ _ _ _ _ _ _ _ _ _ _ _ _ _ _ _ _ _ _ _ _ _ _ _ _ _ _ _ _ _ _ _ _ _ _ _ _ _ _ _ _ _ _ _ _ _ _ _ _ _ _ _ _ _ _ _ _ _ _ _ _ _ _ _ _ _ _ _ _ _ _ _ _ _ _ _ _ _ _ _ _ _ _ _ _ _ _ _ _ _ _ _ _ _ _ _ _ _ _ _ _ _ _ _ _ _ _ ha hM2.blk HM.out.eT Hx.out hM2.rT (by omega) (by omega) HM.out.gT ?_)
  intro A' c' w6 v25 v26 v27 v28 v29 v30 v31 v32 v33 v34 v35 v36 hrow6 hg6 ho6
  have hX6 : Blk w6 (w.heap.size + 1) 56 [.int .i64 0, .int .i64 0, .int .u32 0] := Blk.grown ((show Blk w2.drew (w.heap.size + 1) 56 _ from hX2).alloc _) hg6 (fun e => by have := (HM.out.rT.lt _ e.symm).2; omega)
  have hB6 : Blk w6 g 119 cells := Blk.grown ((show Blk w2.drew g 119 cells from hM2.blk).alloc _) hg6 (fun e => HM.out.gT e.symm)
  have hrS : Row w6 base 21 (.slice AS nS cS) nS xS := HM.out.rS.keep fun k e => (hg6.block k (by have := (HM.out.rS.lt k e).2; simp; omega) (fun h => HM.out.ap k h.symm e)).trans ((Below.heap_alloc w2.drew _ k (by have := (HM.out.rS.lt k e).2; show k < w2.heap.size; omega)).trans (hB2.block k (HM.out.rS.lt k e).2))
  have hng : Value.ownBlock (.slice A' (nT + 1) c') ≠ some g := fun e => by
    rcases ho6 g e with h | h
    · exact HM.out.gT h
    · simp at h; omega
  have ho7 : ∀ k, Value.ownBlock (.slice A' (nT + 1) c') = some k → (Value.ownBlock (.slice AT nT cT)) = some k ∨ w.heap.size ≤ k := fun k e => (ho6 k e).imp id (fun h => by simp at h; omega)
  have hX7 := fun u => hX6.other (p := ⟨g, 269, none⟩) (u := u) (by show w.heap.size + 1 ≠ g; omega)
  go_wp2_with (first
    | ((with_reducible show wpList _ _ _ (Oper.mk none (Op.store _ (Operand.tmp 4) (Operand.tmp 136)) _ _ _ _ :: _) _ _); refine wpList_st3 (hX7 _) rfl 56 (.tmp 4) (.tmp 136) (.int .i64 0) (.int .i64 0) (.int .u32 0) rfl (by kernel_rfl) (by kernel_rfl) (by simp [Value.oneCell']) (by kernel_rfl) ?_; rintro ⟨z0, z1, z2⟩)
    | fail)
  refine bodyPost_ret (v := .agg #[.int .i64 0, .int .i64 0, .int .u32 0]) (by simp [results, Tryd.results59, go_sem, z0, z1, z2]) rfl ⟨rfl, PF.farCells (by omega) _ _ _ ?_, cells.set 269 (.slice A' (nT + 1) c'), A', c', xT ++ [.int .i32 x], AS, cS, xS, MR.farCells (by omega) (fun e => ?_) (fun e => ?_) _ _ _ ?_, fun k e => ho7 k e, fun k e => .inl e⟩
  · have hPA : PF w g (Value.ownBlock (.slice AT nT cT)) (Value.ownBlock (.slice AS nS cS)) (w2.drew.alloc (.cells #[.int .i32 x] 21)) := ((PF.refl w g _ _).then_ hB2).then_ (Below.alloc (show Below w2.heap.size w2 w2.drew from below_drewN (Below.refl _ _) 1) (Nat.le_refl _) _)
    refine ⟨hg6.os.trans hPA.os, hg6.tape.trans hPA.tape, hg6.output.trans hPA.output, by have := hg6.size; have := hPA.size; simp at *; omega, fun k hk h1 h2 h3 => ?_⟩
    exact (Below.heap_setCell w6 _ _ k h1).trans ((hg6.block k (by simp; omega) (fun e => h2 e.symm)).trans (hPA.block k hk h1 h2 h3))
  · rcases ho6 _ e with h | h
    · have := (HM.out.rT.lt _ h).2; omega
    · simp at h; omega
  · have := (HM.out.rS.lt _ e).2
    omega
  · refine ⟨hB6.set_ 269 _, HM.out.rg.setHi 269 (by omega) _, get_set HM.out.eT, get_ne HM.out.eS (by omega), hrow6.keep fun k e => Below.heap_setCell w6 _ _ k (fun h => hng (e.trans (congrArg some h))), hrS.keep fun k e => Below.heap_setCell w6 _ _ k (fun h => HM.out.gS (e.trans (congrArg some h))), fun u hu => ?_, hng, HM.out.gS, fun k e e2 => ?_, HM.out.bg⟩
    · rcases List.mem_append.1 hu with hu | hu
      · exact HM.out.oT u hu
      · obtain rfl := List.mem_singleton.1 hu; rfl
    · rcases ho6 k e with h | h
      · exact HM.out.ap k h e2
      · have := (HM.out.rS.lt k e2).2; simp at h; omega

set_option maxRecDepth 20000 in
set_option maxHeartbeats 4000000 in
theorem one_print_full (op b n f : Int) (a : Nat) (x : Int) (w : World) (g : Nat) (cells : List Value) (AT : Option Addr) (cT nT : Nat) (AS : Option Addr) (cS nS : Nat) (hBk : Blk w g 119 cells) (heF : cells[269]? = some (.slice AT nT cT)) (hT : TabIs 0 w) (ha : a < 8) (hx : cells[a]? = some (.int .i32 x)) (hnm : opName op = [112, 114, 105, 110, 116]) (hl : nT = 4096) :
    Calls Tryd.prog 59 #[.pointer (some ⟨g, 0, none⟩), .agg #[.int .i64 op, .int .i64 a, .int .i64 b, .int .i32 n, .int .i64 f]] w fun e w' => e = .returned (.agg #[.int .i64 6, .int .i64 7, .int .u32 0]) ∧ Below w.heap.size w w' := by
  have hg := hBk.lt
  have hlI : (nT : Int) = 4096 := by omega
  have Hn := Lib.hid (fun w hT => hnm ▸ cname_any op w hT)
  have HM := Lib.hid hBk
  have HE := Lib.hid heF
  have Hx := Lib.hid hx
  clear hBk heF hx
  have hB0 : Below w.heap.size w ((w.alloc (.cells #[.int .i64 op, .int .i64 a, .int .i64 b, .int .i32 n, .int .i64 f] 25)).alloc (.cells #[.int .i64 0, .int .i64 0, .int .u32 0] 56)) := ((Below.refl _ _).alloc (Nat.le_refl _) _).alloc (by simp) _
  have hX0 : Blk ((w.alloc (.cells #[.int .i64 op, .int .i64 a, .int .i64 b, .int .i32 n, .int .i64 f] 25)).alloc (.cells #[.int .i64 0, .int .i64 0, .int .u32 0] 56)) (w.heap.size + 1) 56 [.int .i64 0, .int .i64 0, .int .u32 0] := by
    have := Blk.new (w.alloc (.cells #[.int .i64 op, .int .i64 a, .int .i64 b, .int .i32 n, .int .i64 f] 25)) 56 [.int .i64 0, .int .i64 0, .int .u32 0]
    rw [World.size_alloc] at this
    exact this
  go_enter Tryd.func59, Tryd.ntmps59
  go_wp2_with fail
  go_quiet (fail)
  have hX1 : Blk (((w.alloc (.cells #[.int .i64 op, .int .i64 a, .int .i64 b, .int .i32 n, .int .i64 f] 25)).alloc (.cells #[.int .i64 0, .int .i64 0, .int .u32 0] 56)).drewN nq) (w.heap.size + 1) 56 [.int .i64 0, .int .i64 0, .int .u32 0] := hX0
  have hB1 : Below w.heap.size w (((w.alloc (.cells #[.int .i64 op, .int .i64 a, .int .i64 b, .int .i32 n, .int .i64 f] 25)).alloc (.cells #[.int .i64 0, .int .i64 0, .int .u32 0] 56)).drewN nq) := below_drewN hB0 nq
  go_wp2_with (first
    | (go_at_call 82; refine (Hn.out _ (((hT.alloc _).alloc _).drewN nq)).mono ?_; rintro e w2 ⟨rfl, hb2⟩; have hB2 := hB1.trans (hb2.mono hB1.size); have hX2 := hX1.below hb2 hX1.lt; have hM2 := HM.out.below hB2 hg; have q2 := (hM2.cell 269).trans HE.out; have hz2 := hM2.lt; have hX2l := hX2.lt)
    | (go_at_call 57; refine (ctrap_any 7 w2).mono ?_; rintro e w4 ⟨rfl, hb4⟩; have hX4 := hX2.below hb4 hX2.lt)
    | ((with_reducible show wpList _ _ _ (Oper.mk none (Op.store _ (Operand.tmp 4) (Operand.tmp 24)) _ _ _ _ :: _) _ _); refine wpList_st3 hX4 rfl 56 (.tmp 4) (.tmp 24) (.int .i64 6) (.int .i64 7) (.int .u32 0) rfl (by kernel_rfl) (by kernel_rfl) (by simp [Value.oneCell']) (by kernel_rfl) ?_; rintro ⟨z0, z1, z2⟩)
    | fail)
  have hs2 := hB2.size
  have hB4 := hB2.trans (hb4.mono hs2)
  refine bodyPost_ret (v := .agg #[.int .i64 6, .int .i64 7, .int .u32 0]) (by simp [results, Tryd.results59, go_sem, z0, z1, z2]) rfl ⟨rfl, below_cells (by omega) _ _ _ hB4⟩

set_option maxRecDepth 20000 in
set_option maxHeartbeats 4000000 in
theorem one_push (op b n f : Int) (a : Nat) (x : Int) (w : World) (g base : Nat) (cells : List Value) (AT : Option Addr) (cT nT : Nat) (xT : List Value) (AS : Option Addr) (cS nS : Nat) (xS : List Value) (m : MR w g base cells AT cT nT xT AS cS nS xS) (hT : TabIs 0 w) (hbw : base ≤ w.heap.size) (ha : a < 8) (hx : cells[a]? = some (.int .i32 x)) (hnm : opName op = [112, 117, 115, 104]) (hl : nS < 256) :
    Calls Tryd.prog 59 #[.pointer (some ⟨g, 0, none⟩), .agg #[.int .i64 op, .int .i64 a, .int .i64 b, .int .i32 n, .int .i64 f]] w fun e w' => e = .returned (.agg #[.int .i64 0, .int .i64 0, .int .u32 0]) ∧ PF w g (Value.ownBlock (.slice AT nT cT)) (Value.ownBlock (.slice AS nS cS)) w' ∧ MPost w g base (Value.ownBlock (.slice AT nT cT)) (Value.ownBlock (.slice AS nS cS)) nT (nS + 1) w' := by
  have hg := m.blk.lt
  have hlI : (nS : Int) < 256 := by omega
  have Hn := Lib.hid (fun w hT => hnm ▸ cname_any op w hT)
  have HM := Lib.hid m
  have Hx := Lib.hid hx
  clear m hx
  have hB0 : Below w.heap.size w ((w.alloc (.cells #[.int .i64 op, .int .i64 a, .int .i64 b, .int .i32 n, .int .i64 f] 25)).alloc (.cells #[.int .i64 0, .int .i64 0, .int .u32 0] 56)) := ((Below.refl _ _).alloc (Nat.le_refl _) _).alloc (by simp) _
  have hX0 : Blk ((w.alloc (.cells #[.int .i64 op, .int .i64 a, .int .i64 b, .int .i32 n, .int .i64 f] 25)).alloc (.cells #[.int .i64 0, .int .i64 0, .int .u32 0] 56)) (w.heap.size + 1) 56 [.int .i64 0, .int .i64 0, .int .u32 0] := by
    have := Blk.new (w.alloc (.cells #[.int .i64 op, .int .i64 a, .int .i64 b, .int .i32 n, .int .i64 f] 25)) 56 [.int .i64 0, .int .i64 0, .int .u32 0]
    rw [World.size_alloc] at this
    exact this
  go_enter Tryd.func59, Tryd.ntmps59
  go_wp2_with fail
  go_quiet (fail)
  have hX1 : Blk (((w.alloc (.cells #[.int .i64 op, .int .i64 a, .int .i64 b, .int .i32 n, .int .i64 f] 25)).alloc (.cells #[.int .i64 0, .int .i64 0, .int .u32 0] 56)).drewN nq) (w.heap.size + 1) 56 [.int .i64 0, .int .i64 0, .int .u32 0] := hX0
  have hB1 : Below w.heap.size w (((w.alloc (.cells #[.int .i64 op, .int .i64 a, .int .i64 b, .int .i32 n, .int .i64 f] 25)).alloc (.cells #[.int .i64 0, .int .i64 0, .int .u32 0] 56)).drewN nq) := below_drewN hB0 nq
  go_wp2_with (first
    | (go_at_call 82; refine (Hn.out _ (((hT.alloc _).alloc _).drewN nq)).mono ?_; rintro e w2 ⟨rfl, hb2⟩; have hB2 := hB1.trans (hb2.mono hB1.size); have hX2 := hX1.below hb2 hX1.lt; have hM2 := HM.out.below hB2; have q2 := (hM2.blk.cell 268).trans HM.out.eS; have hz2 := hM2.blk.lt; have hX2l := hX2.lt)
    | fail)
  have hs2 := hB2.size
  refine wp_region_swap (ops' := oneR14) (by kernel_rfl) (one_r14 g a nS cS base AS xS cells x _ _ _ _ _ _ _ _ _ _ _ _ _ _ _ _ _ _ _ _ _ _ _ _ _ _ _ _ _ _ _ _ _ _ _ _ _ _ _ _ _ _ _ _ _ _ _ _ _ _ _ _ _ _ _ _ _ _ _ _ _ _ _ _ _ _ _ _ _ _ _ _ _ _ _ _ _ _ _ _ _ _ _ _ _ _ _ _ _ _ _ _ _ _ _ _ _ _ _ _ _ _ _ _ _ _ _ _ _ _ _ _ _ _ _ _ _ _ _ _ _ _ _ _ _ _ _ _ _ _ _ _ _ _ _ _ _ ha hM2.blk HM.out.eS Hx.out hM2.rS (by omega) (by omega) HM.out.gS ?_)
  intro A' c' w6 v71 v72 v73 v74 v75 v76 v77 v78 v79 v80 v81 v82 hrow6 hg6 ho6
  have hX6 : Blk w6 (w.heap.size + 1) 56 [.int .i64 0, .int .i64 0, .int .u32 0] := Blk.grown ((show Blk w2.drew (w.heap.size + 1) 56 _ from hX2).alloc _) hg6 (fun e => by have := (HM.out.rS.lt _ e.symm).2; omega)
  have hB6 : Blk w6 g 119 cells := Blk.grown ((show Blk w2.drew g 119 cells from hM2.blk).alloc _) hg6 (fun e => HM.out.gS e.symm)
  have hrT : Row w6 base 21 (.slice AT nT cT) nT xT := HM.out.rT.keep fun k e => (hg6.block k (by have := (HM.out.rT.lt k e).2; simp; omega) (fun h => HM.out.ap k e h.symm)).trans ((Below.heap_alloc w2.drew _ k (by have := (HM.out.rT.lt k e).2; show k < w2.heap.size; omega)).trans (hB2.block k (HM.out.rT.lt k e).2))
  have hng : Value.ownBlock (.slice A' (nS + 1) c') ≠ some g := fun e => by
    rcases ho6 g e with h | h
    · exact HM.out.gS h
    · simp at h; omega
  have ho7 : ∀ k, Value.ownBlock (.slice A' (nS + 1) c') = some k → (Value.ownBlock (.slice AS nS cS)) = some k ∨ w.heap.size ≤ k := fun k e => (ho6 k e).imp id (fun h => by simp at h; omega)
  have hX7 := fun u => hX6.other (p := ⟨g, 268, none⟩) (u := u) (by show w.heap.size + 1 ≠ g; omega)
  go_wp2_with (first
    | ((with_reducible show wpList _ _ _ (Oper.mk none (Op.store _ (Operand.tmp 4) (Operand.tmp 136)) _ _ _ _ :: _) _ _); refine wpList_st3 (hX7 _) rfl 56 (.tmp 4) (.tmp 136) (.int .i64 0) (.int .i64 0) (.int .u32 0) rfl (by kernel_rfl) (by kernel_rfl) (by simp [Value.oneCell']) (by kernel_rfl) ?_; rintro ⟨z0, z1, z2⟩)
    | fail)
  refine bodyPost_ret (v := .agg #[.int .i64 0, .int .i64 0, .int .u32 0]) (by simp [results, Tryd.results59, go_sem, z0, z1, z2]) rfl ⟨rfl, PF.farCells (by omega) _ _ _ ?_, cells.set 268 (.slice A' (nS + 1) c'), AT, cT, xT, A', c', xS ++ [.int .i32 x], MR.farCells (by omega) (fun e => ?_) (fun e => ?_) _ _ _ ?_, fun k e => .inl e, fun k e => ho7 k e⟩
  · have hPA : PF w g (Value.ownBlock (.slice AT nT cT)) (Value.ownBlock (.slice AS nS cS)) (w2.drew.alloc (.cells #[.int .i32 x] 21)) := ((PF.refl w g _ _).then_ hB2).then_ (Below.alloc (show Below w2.heap.size w2 w2.drew from below_drewN (Below.refl _ _) 1) (Nat.le_refl _) _)
    refine ⟨hg6.os.trans hPA.os, hg6.tape.trans hPA.tape, hg6.output.trans hPA.output, by have := hg6.size; have := hPA.size; simp at *; omega, fun k hk h1 h2 h3 => ?_⟩
    exact (Below.heap_setCell w6 _ _ k h1).trans ((hg6.block k (by simp; omega) (fun e => h3 e.symm)).trans (hPA.block k hk h1 h2 h3))
  · have := (HM.out.rT.lt _ e).2
    omega
  · rcases ho6 _ e with h | h
    · have := (HM.out.rS.lt _ h).2; omega
    · simp at h; omega
  · refine ⟨hB6.set_ 268 _, HM.out.rg.setHi 268 (by omega) _, get_ne HM.out.eT (by omega), get_set HM.out.eS, hrT.keep fun k e => Below.heap_setCell w6 _ _ k (fun h => HM.out.gT (e.trans (congrArg some h))), hrow6.keep fun k e => Below.heap_setCell w6 _ _ k (fun h => hng (e.trans (congrArg some h))), HM.out.oT, HM.out.gT, hng, fun k e2 e => ?_, HM.out.bg⟩
    · rcases ho6 k e with h | h
      · exact HM.out.ap k e2 h
      · have := (HM.out.rT.lt k e2).2; simp at h; omega

set_option maxRecDepth 20000 in
set_option maxHeartbeats 4000000 in
theorem one_push_full (op b n f : Int) (a : Nat) (x : Int) (w : World) (g : Nat) (cells : List Value) (AT : Option Addr) (cT nT : Nat) (AS : Option Addr) (cS nS : Nat) (hBk : Blk w g 119 cells) (heF : cells[268]? = some (.slice AS nS cS)) (hT : TabIs 0 w) (ha : a < 8) (hx : cells[a]? = some (.int .i32 x)) (hnm : opName op = [112, 117, 115, 104]) (hl : nS = 256) :
    Calls Tryd.prog 59 #[.pointer (some ⟨g, 0, none⟩), .agg #[.int .i64 op, .int .i64 a, .int .i64 b, .int .i32 n, .int .i64 f]] w fun e w' => e = .returned (.agg #[.int .i64 6, .int .i64 4, .int .u32 0]) ∧ Below w.heap.size w w' := by
  have hg := hBk.lt
  have hlI : (nS : Int) = 256 := by omega
  have Hn := Lib.hid (fun w hT => hnm ▸ cname_any op w hT)
  have HM := Lib.hid hBk
  have HE := Lib.hid heF
  have Hx := Lib.hid hx
  clear hBk heF hx
  have hB0 : Below w.heap.size w ((w.alloc (.cells #[.int .i64 op, .int .i64 a, .int .i64 b, .int .i32 n, .int .i64 f] 25)).alloc (.cells #[.int .i64 0, .int .i64 0, .int .u32 0] 56)) := ((Below.refl _ _).alloc (Nat.le_refl _) _).alloc (by simp) _
  have hX0 : Blk ((w.alloc (.cells #[.int .i64 op, .int .i64 a, .int .i64 b, .int .i32 n, .int .i64 f] 25)).alloc (.cells #[.int .i64 0, .int .i64 0, .int .u32 0] 56)) (w.heap.size + 1) 56 [.int .i64 0, .int .i64 0, .int .u32 0] := by
    have := Blk.new (w.alloc (.cells #[.int .i64 op, .int .i64 a, .int .i64 b, .int .i32 n, .int .i64 f] 25)) 56 [.int .i64 0, .int .i64 0, .int .u32 0]
    rw [World.size_alloc] at this
    exact this
  go_enter Tryd.func59, Tryd.ntmps59
  go_wp2_with fail
  go_quiet (fail)
  have hX1 : Blk (((w.alloc (.cells #[.int .i64 op, .int .i64 a, .int .i64 b, .int .i32 n, .int .i64 f] 25)).alloc (.cells #[.int .i64 0, .int .i64 0, .int .u32 0] 56)).drewN nq) (w.heap.size + 1) 56 [.int .i64 0, .int .i64 0, .int .u32 0] := hX0
  have hB1 : Below w.heap.size w (((w.alloc (.cells #[.int .i64 op, .int .i64 a, .int .i64 b, .int .i32 n, .int .i64 f] 25)).alloc (.cells #[.int .i64 0, .int .i64 0, .int .u32 0] 56)).drewN nq) := below_drewN hB0 nq
  go_wp2_with (first
    | (go_at_call 82; refine (Hn.out _ (((hT.alloc _).alloc _).drewN nq)).mono ?_; rintro e w2 ⟨rfl, hb2⟩; have hB2 := hB1.trans (hb2.mono hB1.size); have hX2 := hX1.below hb2 hX1.lt; have hM2 := HM.out.below hB2 hg; have q2 := (hM2.cell 268).trans HE.out; have hz2 := hM2.lt; have hX2l := hX2.lt)
    | (go_at_call 57; refine (ctrap_any 4 w2).mono ?_; rintro e w4 ⟨rfl, hb4⟩; have hX4 := hX2.below hb4 hX2.lt)
    | ((with_reducible show wpList _ _ _ (Oper.mk none (Op.store _ (Operand.tmp 4) (Operand.tmp 70)) _ _ _ _ :: _) _ _); refine wpList_st3 hX4 rfl 56 (.tmp 4) (.tmp 70) (.int .i64 6) (.int .i64 4) (.int .u32 0) rfl (by kernel_rfl) (by kernel_rfl) (by simp [Value.oneCell']) (by kernel_rfl) ?_; rintro ⟨z0, z1, z2⟩)
    | fail)
  have hs2 := hB2.size
  have hB4 := hB2.trans (hb4.mono hs2)
  refine bodyPost_ret (v := .agg #[.int .i64 6, .int .i64 4, .int .u32 0]) (by simp [results, Tryd.results59, go_sem, z0, z1, z2]) rfl ⟨rfl, below_cells (by omega) _ _ _ hB4⟩

end Go.Proofs.YthcjnkakfpmpbaaDoor
