/- The machine with its prints and its input; Do at print and at in. Conditions: the table of operations is laid. -/
import Derived.Test.YthcjnkakfpmpbaaDoorC18
import Derived.Test.YthcjnkakfpmpbaaDoorC26
import Derived.Test.YthcjnkakfpmpbaaDoorK5
namespace Go.Proofs.YthcjnkakfpmpbaaDoor
open Go.RowKit
set_option linter.unusedVariables false
set_option linter.unusedSimpArgs false

/-- the machine at block g; its prints and its input, each in a block of its own, none below base -/
structure MI (w : World) (g base : Nat) (cells : List Value) (AT : Option Addr) (cT nT : Nat) (xT : List Value) (AS : Option Addr) (cS nS : Nat) (xS : List Value) : Prop where
  blk : Blk w g 119 cells
  rg : RG cells
  eT : cells[269]? = some (.slice AT nT cT)
  eS : cells[270]? = some (.slice AS nS cS)
  rT : Row w base 21 (.slice AT nT cT) nT xT
  rS : Row w base 21 (.slice AS nS cS) nS xS
  oT : ∀ u ∈ xT, u.oneCell' = true
  gT : Value.ownBlock (.slice AT nT cT) ≠ some g
  gS : Value.ownBlock (.slice AS nS cS) ≠ some g
  ap : ∀ k, Value.ownBlock (.slice AT nT cT) = some k → Value.ownBlock (.slice AS nS cS) ≠ some k
  bg : base ≤ g

section
variable {w w' w'' : World} {g base : Nat} {cells : List Value} {AT AS : Option Addr} {cT nT cS nS : Nat} {xT xS : List Value} {o1 o2 : Option Nat}
theorem MI.keep (m : MI w g base cells AT cT nT xT AS cS nS xS) (hk : ∀ k, k < w.heap.size → w'.heap[k]? = w.heap[k]?) : MI w' g base cells AT cT nT xT AS cS nS xS :=
  ⟨(hk g m.blk.lt).trans m.blk, m.rg, m.eT, m.eS, m.rT.keep fun k e => hk k (m.rT.lt k e).2, m.rS.keep fun k e => hk k (m.rS.lt k e).2, m.oT, m.gT, m.gS, m.ap, m.bg⟩
theorem MI.below (m : MI w g base cells AT cT nT xT AS cS nS xS) (h : Below w.heap.size w w') : MI w' g base cells AT cT nT xT AS cS nS xS := m.keep h.block
theorem MI.alloc (m : MI w g base cells AT cT nT xT AS cS nS xS) (o : Obj) : MI (w.alloc o) g base cells AT cT nT xT AS cS nS xS := m.keep fun k hk => Below.heap_alloc w o k hk
theorem MI.drewN (m : MI w g base cells AT cT nT xT AS cS nS xS) (n : Nat) : MI (w.drewN n) g base cells AT cT nT xT AS cS nS xS := m.keep fun _ _ => rfl
theorem MI.far (m : MI w g base cells AT cT nT xT AS cS nS xS) {X : Nat} (hX : X ≠ g) (h1 : Value.ownBlock (.slice AT nT cT) ≠ some X) (h2 : Value.ownBlock (.slice AS nS cS) ≠ some X) (i : Nat) (u : Value) : MI (w.setCell ⟨X, i, none⟩ u) g base cells AT cT nT xT AS cS nS xS :=
  ⟨(Below.heap_setCell w _ u g (Ne.symm hX)).trans m.blk, m.rg, m.eT, m.eS, m.rT.keep fun k e => Below.heap_setCell w _ u k (fun h => h1 (e.trans (congrArg some h))), m.rS.keep fun k e => Below.heap_setCell w _ u k (fun h => h2 (e.trans (congrArg some h))), m.oT, m.gT, m.gS, m.ap, m.bg⟩
theorem MI.farCells {X : Nat} (hX : X ≠ g) (h1 : Value.ownBlock (.slice AT nT cT) ≠ some X) (h2 : Value.ownBlock (.slice AS nS cS) ≠ some X) : ∀ (vs : List Value) (o : Nat) (w : World), MI w g base cells AT cT nT xT AS cS nS xS → MI (w.setCells X o vs) g base cells AT cT nT xT AS cS nS xS
  | [], _, _, m => m
  | v :: r, o, w, m => MI.farCells hX h1 h2 r (o + 1) _ (m.far hX h1 h2 o v)
end
/-- the machine behind one instruction: its prints and its input; its rows lie where they lay, or in new memory -/
def MPostI (W : World) (g base : Nat) (o1 o2 : Option Nat) (nT nS : Nat) (xT xS : List Value) (G : List Value → Prop) (w' : World) : Prop :=
  ∃ cells AT cT AS cS, MI w' g base cells AT cT nT xT AS cS nS xS ∧ G cells ∧ (∀ k, Value.ownBlock (.slice AT nT cT) = some k → o1 = some k ∨ W.heap.size ≤ k) ∧ (∀ k, Value.ownBlock (.slice AS nS cS) = some k → o2 = some k ∨ W.heap.size ≤ k)

set_option maxRecDepth 20000 in
set_option maxHeartbeats 2000000 in
theorem do_oneI (op f n word from_ a b : Int) (M : Value) (K T To : Int) (nT' nS' : Nat) (yT yS : List Value) (G : List Value → Prop) (w : World) (g base : Nat) (cells : List Value) (AT AS : Option Addr) (cT nT cS nS : Nat) (xT xS : List Value) (m : MI w g base cells AT cT nT xT AS cS nS xS) (hT : TabIs 0 w) (htb : 0 < base) (hbw : base ≤ w.heap.size)
    (hn : -2147483648 ≤ n ∧ n ≤ 2147483647) (hc : checkR op a b n f = 0) (hs : opShape op = 2)
    (H : Hid (∀ W, TabIs 0 W → MI W g base cells AT cT nT xT AS cS nS xS → Calls Tryd.prog 59 #[.pointer (some ⟨g, 0, none⟩), .agg #[.int .i64 op, .int .i64 a, .int .i64 b, .int .i32 n, .int .i64 f]] W fun e w' => e = .returned (.agg #[.int .i64 K, .int .i64 T, .int .u32 To]) ∧
      PF W g (Value.ownBlock (.slice AT nT cT)) (Value.ownBlock (.slice AS nS cS)) w' ∧ MPostI W g base (Value.ownBlock (.slice AT nT cT)) (Value.ownBlock (.slice AS nS cS)) nT' nS' yT yS G w')) :
    Calls Tryd.prog 26 #[.pointer (some ⟨g, 0, none⟩), .agg #[.int .i64 op, .int .i64 a, .int .i64 b, .int .i32 n, .int .i64 f], .int .i32 word, M, .int .i64 from_] w fun e w' => e = .returned (.agg #[.int .i64 K, .int .i64 T, .int .u32 To]) ∧
      PF w g (Value.ownBlock (.slice AT nT cT)) (Value.ownBlock (.slice AS nS cS)) w' ∧ MPostI w g base (Value.ownBlock (.slice AT nT cT)) (Value.ownBlock (.slice AS nS cS)) nT' nS' yT yS G w' := by
  have hg := m.blk.lt
  obtain ⟨hiop, _, _, _⟩ := checkR_parts hc
  have hch : ∀ w, TabIs 0 w → Calls Tryd.prog 46 #[.agg #[.int .i64 op, .int .i64 a, .int .i64 b, .int .i32 n, .int .i64 f]] w fun e w' => e = .returned (.int .i64 0) ∧ Below w.heap.size w w' := fun w hT => hc ▸ check_any op a b n f w hn hT
  have hat : ∀ w, TabIs 0 w → Calls Tryd.prog 54 #[.int .i64 op] w fun e w' => e = .returned (.tuple #[.agg #[.string ⟨(opName op).toArray⟩, .int .u8 (opByte op), .int .i64 2], .bool true]) ∧ Below w.heap.size w w' := fun w hT => hiop ▸ hs ▸ at_any op w hT
  have Hch := Lib.hid hch
  have Hat := Lib.hid hat
  have HM := Lib.hid m
  have hB0 : Below w.heap.size w ((w.alloc (.cells #[.int .i64 op, .int .i64 a, .int .i64 b, .int .i32 n, .int .i64 f] 25)).alloc (.cells #[.int .i64 0, .int .i64 0, .int .u32 0] 56)) := ((Below.refl _ _).alloc (Nat.le_refl _) _).alloc (by simp) _
  have hI0 : Blk ((w.alloc (.cells #[.int .i64 op, .int .i64 a, .int .i64 b, .int .i32 n, .int .i64 f] 25)).alloc (.cells #[.int .i64 0, .int .i64 0, .int .u32 0] 56)) w.heap.size 25 [.int .i64 op, .int .i64 a, .int .i64 b, .int .i32 n, .int .i64 f] := (Blk.new w 25 [.int .i64 op, .int .i64 a, .int .i64 b, .int .i32 n, .int .i64 f]).alloc _
  have hX0 : Blk ((w.alloc (.cells #[.int .i64 op, .int .i64 a, .int .i64 b, .int .i32 n, .int .i64 f] 25)).alloc (.cells #[.int .i64 0, .int .i64 0, .int .u32 0] 56)) (w.heap.size + 1) 56 [.int .i64 0, .int .i64 0, .int .u32 0] := by
    have := Blk.new (w.alloc (.cells #[.int .i64 op, .int .i64 a, .int .i64 b, .int .i32 n, .int .i64 f] 25)) 56 [.int .i64 0, .int .i64 0, .int .u32 0]
    rw [World.size_alloc] at this
    exact this
  generalize opName op = nm at Hat
  generalize opByte op = by_ at Hat
  clear hch hat hc hiop hs hn m
  go_enter Tryd.func26, Tryd.ntmps26
  go_wp2_with (first
    | (go_at_call 46; refine (Hch.out _ ((hT.alloc _).alloc _)).mono ?_; rintro e w2 ⟨rfl, hb2⟩; have hI2 := hI0.below hb2 hI0.lt; have hX2 := hX0.below hb2 hX0.lt; have p0 := hI2.cell 0; simp only [List.getElem?_cons_zero] at p0; have hB2 := hB0.trans (hb2.mono hB0.size))
    | (go_at_call 54; refine (Hat.out _ (hT.grow hB2)).mono ?_; rintro e w3 ⟨rfl, hb3⟩; have hI3 := hI2.below hb3 hI2.lt; have hX3 := hX2.below hb3 hX2.lt; have r0 := hI3.cell 0; have r1 := hI3.cell 1; have r2 := hI3.cell 2; have r3 := hI3.cell 3; have r4 := hI3.cell 4; simp only [List.getElem?_cons_zero, List.getElem?_cons_succ] at r0 r1 r2 r3 r4; have hz3 := hI3.lt; have hB3 := hB2.trans (hb3.mono hB2.size))
    | (go_at_call 59; refine (H.out _ ((hT.grow hB3).alloc _) ((HM.out.below hB3).alloc _)).mono ?_; rintro e w5 ⟨rfl, hP5, hM5⟩; have hX5 : Blk w5 (w.heap.size + 1) 56 [.int .i64 0, .int .i64 0, .int .u32 0] := (hP5.block _ (by have := hX3.lt; simp; omega) (by omega) (fun e => by have := (HM.out.rT.lt _ e).2; omega) (fun e => by have := (HM.out.rS.lt _ e).2; omega)).trans (hX3.alloc _))
    | ((with_reducible show wpList _ _ _ (Oper.mk none (Op.store _ (Operand.tmp 10) (Operand.tmp 40)) _ _ _ _ :: _) _ _); refine wpList_st3 hX5 rfl 56 (.tmp 10) (.tmp 40) (.int .i64 K) (.int .i64 T) (.int .u32 To) rfl (by kernel_rfl) (by kernel_rfl) (by simp [Value.oneCell']) (by kernel_rfl) ?_; rintro ⟨z0, z1, z2⟩)
    | fail)
  refine bodyPost_ret (v := .agg #[.int .i64 K, .int .i64 T, .int .u32 To]) (by simp [results, Tryd.results26, go_sem, z0, z1, z2]) rfl ⟨rfl, ?_⟩
  have hX3' := hX3.lt
  have hPw := PF.farCells (X := w.heap.size + 1) (by omega) [.int .i64 K, .int .i64 T, .int .u32 To] 0 _ (PF.after (hB3.alloc hB3.size _) hP5)
  refine ⟨hPw, ?_⟩
  obtain ⟨cells', AT', cT', AS', cS', m5, hG5, f1, f2⟩ := hM5
  have hs3 := hB3.size
  have f1' : ∀ k, Value.ownBlock (.slice AT' nT' cT') = some k → Value.ownBlock (.slice AT nT cT) = some k ∨ w.heap.size + 2 ≤ k := fun k e => (f1 k e).imp id fun h => by rw [World.size_alloc] at h; omega
  have f2' : ∀ k, Value.ownBlock (.slice AS' nS' cS') = some k → Value.ownBlock (.slice AS nS cS) = some k ∨ w.heap.size + 2 ≤ k := fun k e => (f2 k e).imp id fun h => by rw [World.size_alloc] at h; omega
  refine ⟨cells', AT', cT', AS', cS', MI.farCells (by omega) (fun e => ?_) (fun e => ?_) _ _ _ m5, hG5, fun k e => (f1' k e).imp id (fun h => by omega), fun k e => (f2' k e).imp id (fun h => by omega)⟩
  · rcases f1' _ e with h | h
    · have := (HM.out.rT.lt _ h).2; omega
    · omega
  · rcases f2' _ e with h | h
    · have := (HM.out.rS.lt _ h).2; omega
    · omega

set_option maxRecDepth 20000 in
set_option maxHeartbeats 4000000 in
theorem one_printI (op b n f : Int) (a : Nat) (x : Int) (w : World) (g base : Nat) (cells : List Value) (AT : Option Addr) (cT nT : Nat) (xT : List Value) (AS : Option Addr) (cS nS : Nat) (xS : List Value) (m : MI w g base cells AT cT nT xT AS cS nS xS) (hT : TabIs 0 w) (hbw : base ≤ w.heap.size) (ha : a < 8) (hx : cells[a]? = some (.int .i32 x)) (hnm : opName op = [112, 114, 105, 110, 116]) (hl : nT < 4096) :
    Calls Tryd.prog 59 #[.pointer (some ⟨g, 0, none⟩), .agg #[.int .i64 op, .int .i64 a, .int .i64 b, .int .i32 n, .int .i64 f]] w fun e w' => e = .returned (.agg #[.int .i64 0, .int .i64 0, .int .u32 0]) ∧ PF w g (Value.ownBlock (.slice AT nT cT)) (Value.ownBlock (.slice AS nS cS)) w' ∧ MPostI w g base (Value.ownBlock (.slice AT nT cT)) (Value.ownBlock (.slice AS nS cS)) (nT + 1) nS (xT ++ [.int .i32 x]) xS (fun _ => True) w' := by
  have hg := m.blk.lt
  have hlI : (nT : Int) < 4096 := by omega
  have Hn := Lib.hid (fun w hT => hnm ▸ cname_any op w hT)
  have HM := Lib.hid m
  have Hx := Lib.hid hx
  clear m hx
  have hB0 : Below w.heap.size w ((w.alloc (.cells #[.int .i64 op, .int .i64 a, .int .i64 b, .int .i32 n, .int .i64 f] 25)).alloc (.cells #[.int .i64 0, .int .i64 0, .int .u32 0] 56)) := ((Below.refl _ _).alloc (Nat.le_refl _) _).alloc (by simp) _
  have hX0 : Blk ((w.alloc (.cells #[.int .i64 op, .int .i64 a, .int .i64 b, .int .i32 n, .int .i64 f] 25)).alloc (.cells #[.int .i64 0, .int .i64 0, .int .u32 0] 56)) (w.heap.size + 1) 56 [.int .i64 0, .int .i64 0, .int .u32 0] := by
    have := Blk.new (w.alloc (.cells #[.int .i64 op, .int .i64 a, .int .i64 b, .int .i32 n, .int .i64 f] 25)) 56 [.int .i64 0, .int .i64 0, .int .u32 0]
    rw [World.size_alloc] at this
    exact this
  go_enter Tryd.func59, Tryd.ntmps59
  go_wp2_with fail
  go_quiet (fail)
  have hX1 : Blk (((w.alloc (.cells #[.int .i64 op, .int .i64 a, .int .i64 b, .int .i32 n, .int .i64 f] 25)).alloc (.cells #[.int .i64 0, .int .i64 0, .int .u32 0] 56)).drewN nq) (w.heap.size + 1) 56 [.int .i64 0, .int .i64 0, .int .u32 0] := hX0
  have hB1 : Below w.heap.size w (((w.alloc (.cells #[.int .i64 op, .int .i64 a, .int .i64 b, .int .i32 n, .int .i64 f] 25)).alloc (.cells #[.int .i64 0, .int .i64 0, .int .u32 0] 56)).drewN nq) := below_drewN hB0 nq
  go_wp2_with (first
    | (go_at_call 82; refine (Hn.out _ (((hT.alloc _).alloc _).drewN nq)).mono ?_; rintro e w2 ⟨rfl, hb2⟩; have hB2 := hB1.trans (hb2.mono hB1.size); have hX2 := hX1.below hb2 hX1.lt; have hM2 := HM.out.below hB2; have q2 := (hM2.blk.cell 269).trans HM.out.eT; have hz2 := hM2.blk.lt; have hX2l := hX2.lt)
    | fail)
  have hs2 := hB2.size
  refine wp_region_swap (ops' := oneR6) (by kernel_rfl) (one_r6 g a nT cT base AT xT cells x _ _ _ _ _ _ _ _ _ _ _ _ _ _ _ _ _ _ _ _ _ _ _ _ _ _ _ _ _ _ _ _ _ _ _ _ _ _ _ _ _ _ _ _ _ _ _ _ _ _ _ _ _ _ _ _ _ _ _ _ _ _ _ _ _ _ _ _ _ _ _ _ _ _ _ _ _ _ _ _ _ _ _ _ _ _ _ _ _ _ _ _ _ _ _ _ _ _ _ _ _ _ _ _ _ _ _ _ _ _ _ _ _ _ _ _ _ _ _ _ _ _ _ _ _ _ _ _ _ _ _ _ _ _ _ _ _ ha hM2.blk HM.out.eT Hx.out hM2.rT (by omega) (by omega) HM.out.gT ?_)
  intro A' c' w6 v25 v26 v27 v28 v29 v30 v31 v32 v33 v34 v35 v36 hrow6 hg6 ho6
  have hX6 : Blk w6 (w.heap.size + 1) 56 [.int .i64 0, .int .i64 0, .int .u32 0] := Blk.grown ((show Blk w2.drew (w.heap.size + 1) 56 _ from hX2).alloc _) hg6 (fun e => by have := (HM.out.rT.lt _ e.symm).2; omega)
  have hB6 : Blk w6 g 119 cells := Blk.grown ((show Blk w2.drew g 119 cells from hM2.blk).alloc _) hg6 (fun e => HM.out.gT e.symm)
  have hrS : Row w6 base 21 (.slice AS nS cS) nS xS := HM.out.rS.keep fun k e => (hg6.block k (by have := (HM.out.rS.lt k e).2; simp; omega) (fun h => HM.out.ap k h.symm e)).trans ((Below.heap_alloc w2.drew _ k (by have := (HM.out.rS.lt k e).2; show k < w2.heap.size; omega)).trans (hB2.block k (HM.out.rS.lt k e).2))
  have hng : Value.ownBlock (.slice A' (nT + 1) c') ≠ some g := fun e => by
    rcases ho6 g e with h | h
    · exact HM.out.gT h
    · simp at h; omega
  have ho7 : ∀ k, Value.ownBlock (.slice A' (nT + 1) c') = some k → (Value.ownBlock (.slice AT nT cT)) = some k ∨ w.heap.size ≤ k := fun k e => (ho6 k e).imp id (fun h => by simp at h; omega)
  have hX7 := fun u => hX6.other (p := ⟨g, 269, none⟩) (u := u) (by show w.heap.size + 1 ≠ g; omega)
  go_wp2_with (first
    | ((with_reducible show wpList _ _ _ (Oper.mk none (Op.store _ (Operand.tmp 4) (Operand.tmp 136)) _ _ _ _ :: _) _ _); refine wpList_st3 (hX7 _) rfl 56 (.tmp 4) (.tmp 136) (.int .i64 0) (.int .i64 0) (.int .u32 0) rfl (by kernel_rfl) (by kernel_rfl) (by simp [Value.oneCell']) (by kernel_rfl) ?_; rintro ⟨z0, z1, z2⟩)
    | fail)
  refine bodyPost_ret (v := .agg #[.int .i64 0, .int .i64 0, .int .u32 0]) (by simp [results, Tryd.results59, go_sem, z0, z1, z2]) rfl ⟨rfl, PF.farCells (by omega) _ _ _ ?_, cells.set 269 (.slice A' (nT + 1) c'), A', c', AS, cS, MI.farCells (by omega) (fun e => ?_) (fun e => ?_) _ _ _ ?_, trivial, fun k e => ho7 k e, fun k e => .inl e⟩
  · have hPA : PF w g (Value.ownBlock (.slice AT nT cT)) (Value.ownBlock (.slice AS nS cS)) (w2.drew.alloc (.cells #[.int .i32 x] 21)) := ((PF.refl w g _ _).then_ hB2).then_ (Below.alloc (show Below w2.heap.size w2 w2.drew from below_drewN (Below.refl _ _) 1) (Nat.le_refl _) _)
    refine ⟨hg6.os.trans hPA.os, hg6.tape.trans hPA.tape, hg6.output.trans hPA.output, by have := hg6.size; have := hPA.size; simp at *; omega, fun k hk h1 h2 h3 => ?_⟩
    exact (Below.heap_setCell w6 _ _ k h1).trans ((hg6.block k (by simp; omega) (fun e => h2 e.symm)).trans (hPA.block k hk h1 h2 h3))
  · rcases ho6 _ e with h | h
    · have := (HM.out.rT.lt _ h).2; omega
    · simp at h; omega
  · have := (HM.out.rS.lt _ e).2
    omega
  · refine ⟨hB6.set_ 269 _, HM.out.rg.setHi 269 (by omega) _, get_set HM.out.eT, get_ne HM.out.eS (by omega), hrow6.keep fun k e => Below.heap_setCell w6 _ _ k (fun h => hng (e.trans (congrArg some h))), hrS.keep fun k e => Below.heap_setCell w6 _ _ k (fun h => HM.out.gS (e.trans (congrArg some h))), fun u hu => ?_, hng, HM.out.gS, fun k e e2 => ?_, HM.out.bg⟩
    · rcases List.mem_append.1 hu with hu | hu
      · exact HM.out.oT u hu
      · obtain rfl := List.mem_singleton.1 hu; rfl
    · rcases ho6 k e with h | h
      · exact HM.out.ap k h e2
      · have := (HM.out.rS.lt k e2).2; simp at h; omega



set_option maxRecDepth 20000 in
set_option maxHeartbeats 4000000 in
theorem one_inI (op b n f : Int) (a : Nat) (w : World) (g base : Nat) (cells : List Value) (AT : Option Addr) (cT nT : Nat) (xT : List Value) (AS : Option Addr) (cS nS : Nat) (xS : List Value) (x : Int) (m : MI w g base cells AT cT nT xT AS cS (nS + 1) (.int .i32 x :: xS)) (hT : TabIs 0 w) (hbw : base ≤ w.heap.size) (ha : a < 8) (hnm : opName op = [105, 110]) :
    Calls Tryd.prog 59 #[.pointer (some ⟨g, 0, none⟩), .agg #[.int .i64 op, .int .i64 a, .int .i64 b, .int .i32 n, .int .i64 f]] w fun e w' => e = .returned (.agg #[.int .i64 0, .int .i64 0, .int .u32 0]) ∧ PF w g (Value.ownBlock (.slice AT nT cT)) (Value.ownBlock (.slice AS (nS + 1) cS)) w' ∧ MPostI w g base (Value.ownBlock (.slice AT nT cT)) (Value.ownBlock (.slice AS (nS + 1) cS)) nT nS xT xS (fun c => c[a]? = some (.int .i32 x)) w' := by
  have hg := m.blk.lt
  have hne : ¬ ((nS : Int) + 1 = 0) := by omega
  have Hn := Lib.hid (fun w hT => hnm ▸ cname_any op w hT)
  obtain ⟨z, hz⟩ := m.rg.1 a ha
  obtain ⟨b', o', hA, hb', hbl', hc'⟩ := m.rS.at_ (k := 0) rfl
  subst hA
  have hcap := m.rS.cap
  unfold maxLen at hcap
  have HM := Lib.hid m
  clear m
  have hB0 : Below w.heap.size w ((w.alloc (.cells #[.int .i64 op, .int .i64 a, .int .i64 b, .int .i32 n, .int .i64 f] 25)).alloc (.cells #[.int .i64 0, .int .i64 0, .int .u32 0] 56)) := ((Below.refl _ _).alloc (Nat.le_refl _) _).alloc (by simp) _
  have hX0 : Blk ((w.alloc (.cells #[.int .i64 op, .int .i64 a, .int .i64 b, .int .i32 n, .int .i64 f] 25)).alloc (.cells #[.int .i64 0, .int .i64 0, .int .u32 0] 56)) (w.heap.size + 1) 56 [.int .i64 0, .int .i64 0, .int .u32 0] := by
    have := Blk.new (w.alloc (.cells #[.int .i64 op, .int .i64 a, .int .i64 b, .int .i32 n, .int .i64 f] 25)) 56 [.int .i64 0, .int .i64 0, .int .u32 0]
    rw [World.size_alloc] at this
    exact this
  go_enter Tryd.func59, Tryd.ntmps59
  go_wp2_with fail
  go_quiet (fail)
  have hX1 : Blk (((w.alloc (.cells #[.int .i64 op, .int .i64 a, .int .i64 b, .int .i32 n, .int .i64 f] 25)).alloc (.cells #[.int .i64 0, .int .i64 0, .int .u32 0] 56)).drewN nq) (w.heap.size + 1) 56 [.int .i64 0, .int .i64 0, .int .u32 0] := hX0
  have hB1 : Below w.heap.size w (((w.alloc (.cells #[.int .i64 op, .int .i64 a, .int .i64 b, .int .i32 n, .int .i64 f] 25)).alloc (.cells #[.int .i64 0, .int .i64 0, .int .u32 0] 56)).drewN nq) := below_drewN hB0 nq
  go_wp2_with (first
    | (go_at_call 82; refine (Hn.out _ (((hT.alloc _).alloc _).drewN nq)).mono ?_; rintro e w2 ⟨rfl, hb2⟩; have hB2 := hB1.trans (hb2.mono hB1.size); have hX2 := hX1.below hb2 hX1.lt; have hM2 := HM.out.below hB2; have q2 := (hM2.blk.cell 270).trans HM.out.eS; have hz2 := hM2.blk.lt; have hX2l := hX2.lt)
    | fail)
  have hs2 := hB2.size
  have hx2 := (hM2.rS.cell (k := 0) rfl).2
  obtain ⟨AS', HA⟩ : ∃ A : Option Addr, Hid (A = (if cS = 1 then some ⟨b', o', none⟩ else some ⟨b', o' + 1, none⟩)) := ⟨_, Lib.hid rfl⟩
  obtain ⟨T, HTd⟩ : ∃ T, Hid (T = Value.slice AS' nS (cS - 1)) := ⟨_, Lib.hid rfl⟩
  refine wp_region_swap (ops' := oneR10) (by kernel_rfl) (one_r10 g a nS cS b' o' T cells x (.int .i32 z) _ _ _ _ _ _ _ _ _ _ _ _ _ _ _ _ _ _ _ _ _ _ _ _ _ _ _ _ _ _ _ _ _ _ _ _ _ _ _ _ _ _ _ _ _ _ _ _ _ _ _ _ _ _ _ _ _ _ _ _ _ _ _ _ _ _ _ _ _ _ _ _ _ _ _ _ _ _ _ _ _ _ _ _ _ _ _ _ _ _ _ _ _ _ _ _ _ _ _ _ _ _ _ _ _ _ _ _ _ _ _ _ _ _ _ _ _ _ _ _ _ _ _ _ _ _ _ _ _ _ _ _ _ _ _ _ _ ha hM2.blk HM.out.eS hz hx2 (by omega) (by omega) (HTd.out.trans (by rw [HA.out])) ?_)
  intro v46 v47 v48 v49 v50 v51 v52 v53 v54 v55 v56 v57 v58 v59 v60 v61
  have hX5 : Blk ((w2.setCell ⟨g, a, none⟩ (.int .i32 x)).setCell ⟨g, 270, none⟩ T).drew (w.heap.size + 1) 56 [.int .i64 0, .int .i64 0, .int .u32 0] := (hX2.other (p := ⟨g, a, none⟩) (u := .int .i32 x) (by show w.heap.size + 1 ≠ g; omega)).other (p := ⟨g, 270, none⟩) (u := T) (by show w.heap.size + 1 ≠ g; omega)
  go_wp2_with (first
    | ((with_reducible show wpList _ _ _ (Oper.mk none (Op.store _ (Operand.tmp 4) (Operand.tmp 136)) _ _ _ _ :: _) _ _); refine wpList_st3 hX5 rfl 56 (.tmp 4) (.tmp 136) (.int .i64 0) (.int .i64 0) (.int .u32 0) rfl (by kernel_rfl) (by kernel_rfl) (by simp [Value.oneCell']) (by kernel_rfl) ?_; rintro ⟨z0, z1, z2⟩)
    | fail)
  have hrest : Row w2 base 21 (.slice AS' nS (cS - 1)) nS xS := by
    have h := hM2.rS.rest
    rw [Option.map_some, add_flat] at h
    rw [HA.out]
    exact h
  have hownS : Value.ownBlock (.slice (some ⟨b', o', none⟩) (nS + 1) cS) = some b' := rfl
  have hfr : ∀ k, Value.ownBlock (.slice AS' nS (cS - 1)) = some k → Value.ownBlock (.slice (some ⟨b', o', none⟩) (nS + 1) cS) = some k := fun k e => by
    rw [HA.out] at e
    rw [← e]
    split <;> rfl
  have hTd := HTd.out
  subst hTd
  refine bodyPost_ret (v := .agg #[.int .i64 0, .int .i64 0, .int .u32 0]) (by simp [results, Tryd.results59, go_sem, z0, z1, z2]) rfl ⟨rfl, PF.farCells (by omega) _ _ _ ?_, (cells.set a (.int .i32 x)).set 270 (.slice AS' nS (cS - 1)), AT, cT, AS', cS - 1, MI.farCells (by omega) (fun e => ?_) (fun e => ?_) _ _ _ ?_, ?_, fun k e => .inl e, fun k e => .inl (hfr k e)⟩
  · have hPA : PF w g (Value.ownBlock (.slice AT nT cT)) (Value.ownBlock (.slice (some ⟨b', o', none⟩) (nS + 1) cS)) w2 := (PF.refl w g _ _).then_ hB2
    refine ⟨hPA.os, hPA.tape, hPA.output, by have := hPA.size; simp; omega, fun k hk h1 h2 h3 => ?_⟩
    exact ((Below.heap_setCell _ _ _ k h1).trans (Below.heap_setCell w2 _ _ k h1)).trans (hPA.block k hk h1 h2 h3)
  · have := (HM.out.rT.lt _ e).2
    omega
  · have := (HM.out.rS.lt _ (hfr _ e)).2
    omega
  · have hk : ∀ k, k ≠ g → ((w2.setCell ⟨g, a, none⟩ (.int .i32 x)).setCell ⟨g, 270, none⟩ (.slice AS' nS (cS - 1))).drew.heap[k]? = w2.heap[k]? := fun k h1 => (Below.heap_setCell _ _ _ k h1).trans (Below.heap_setCell w2 _ _ k h1)
    refine ⟨(hM2.blk.set_ a _).set_ 270 _, (HM.out.rg.set32 a ha x).setHi 270 (by omega) _, ?_, ?_, hM2.rT.keep fun k e => hk k (fun h => HM.out.gT (e.trans (congrArg some h))), hrest.keep fun k e => hk k (fun h => HM.out.gS ((hfr k e).trans (congrArg some h))), HM.out.oT, HM.out.gT, fun e => HM.out.gS (hfr g e), fun k e e2 => HM.out.ap k e (hfr k e2), HM.out.bg⟩
    · rw [List.getElem?_set_ne (by omega), List.getElem?_set_ne (by omega)]; exact HM.out.eT
    · exact get_set (get_ne HM.out.eS (by omega))
  · show ((cells.set a (.int .i32 x)).set 270 (.slice AS' nS (cS - 1)))[a]? = _
    rw [List.getElem?_set_ne (by omega)]
    exact get_set hz

end Go.Proofs.YthcjnkakfpmpbaaDoor
