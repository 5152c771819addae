/- The machine with its rows of prints and entries; Do handing on to one, where a row may grow. Conditions: the table of operations is laid. -/
import Derived.Test.YthcjnkakfpmpbaaDoorC16
import Derived.Test.YthcjnkakfpmpbaaDoorC10
import Derived.Test.YthcjnkakfpmpbaaDoorP8
import Derived.Deep.QuietTactic
import Derived.BigQuiet
namespace Go.Proofs.YthcjnkakfpmpbaaDoor
open Go.RowKit
set_option linter.unusedVariables false
set_option linter.unusedSimpArgs false

/-- the machine at block g; its prints and its entries, each in a block of its own, none below base -/
structure MR (w : World) (g base : Nat) (cells : List Value) (AT : Option Addr) (cT nT : Nat) (xT : List Value) (AS : Option Addr) (cS nS : Nat) (xS : List Value) : Prop where
  blk : Blk w g 119 cells
  rg : RG cells
  eT : cells[269]? = some (.slice AT nT cT)
  eS : cells[268]? = some (.slice AS nS cS)
  rT : Row w base 21 (.slice AT nT cT) nT xT
  rS : Row w base 21 (.slice AS nS cS) nS xS
  oT : ∀ u ∈ xT, u.oneCell' = true
  gT : Value.ownBlock (.slice AT nT cT) ≠ some g
  gS : Value.ownBlock (.slice AS nS cS) ≠ some g
  ap : ∀ k, Value.ownBlock (.slice AT nT cT) = some k → Value.ownBlock (.slice AS nS cS) ≠ some k
  bg : base ≤ g
/-- only the machine and its rows have turned -/
structure PF (w : World) (g : Nat) (o1 o2 : Option Nat) (w' : World) : Prop where
  os : w'.os = w.os
  tape : w'.tape = w.tape
  output : w'.output = w.output
  size : w.heap.size ≤ w'.heap.size
  block : ∀ k, k < w.heap.size → k ≠ g → o1 ≠ some k → o2 ≠ some k → w'.heap[k]? = w.heap[k]?
section
variable {w w' w'' : World} {g base : Nat} {cells : List Value} {AT AS : Option Addr} {cT nT cS nS : Nat} {xT xS : List Value} {o1 o2 : Option Nat}
theorem MR.keep (m : MR w g base cells AT cT nT xT AS cS nS xS) (hk : ∀ k, k < w.heap.size → w'.heap[k]? = w.heap[k]?) : MR w' g base cells AT cT nT xT AS cS nS xS :=
  ⟨(hk g m.blk.lt).trans m.blk, m.rg, m.eT, m.eS, m.rT.keep fun k e => hk k (m.rT.lt k e).2, m.rS.keep fun k e => hk k (m.rS.lt k e).2, m.oT, m.gT, m.gS, m.ap, m.bg⟩
theorem MR.below (m : MR w g base cells AT cT nT xT AS cS nS xS) (h : Below w.heap.size w w') : MR w' g base cells AT cT nT xT AS cS nS xS := m.keep h.block
theorem MR.alloc (m : MR w g base cells AT cT nT xT AS cS nS xS) (o : Obj) : MR (w.alloc o) g base cells AT cT nT xT AS cS nS xS := m.keep fun k hk => Below.heap_alloc w o k hk
theorem MR.drewN (m : MR w g base cells AT cT nT xT AS cS nS xS) (n : Nat) : MR (w.drewN n) g base cells AT cT nT xT AS cS nS xS := m.keep fun _ _ => rfl
theorem MR.far (m : MR w g base cells AT cT nT xT AS cS nS xS) {X : Nat} (hX : X ≠ g) (h1 : Value.ownBlock (.slice AT nT cT) ≠ some X) (h2 : Value.ownBlock (.slice AS nS cS) ≠ some X) (i : Nat) (u : Value) : MR (w.setCell ⟨X, i, none⟩ u) g base cells AT cT nT xT AS cS nS xS :=
  ⟨(Below.heap_setCell w _ u g (Ne.symm hX)).trans m.blk, m.rg, m.eT, m.eS, m.rT.keep fun k e => Below.heap_setCell w _ u k (fun h => h1 (e.trans (congrArg some h))), m.rS.keep fun k e => Below.heap_setCell w _ u k (fun h => h2 (e.trans (congrArg some h))), m.oT, m.gT, m.gS, m.ap, m.bg⟩
theorem MR.farCells {X : Nat} (hX : X ≠ g) (h1 : Value.ownBlock (.slice AT nT cT) ≠ some X) (h2 : Value.ownBlock (.slice AS nS cS) ≠ some X) : ∀ (vs : List Value) (o : Nat) (w : World), MR w g base cells AT cT nT xT AS cS nS xS → MR (w.setCells X o vs) g base cells AT cT nT xT AS cS nS xS
  | [], _, _, m => m
  | v :: r, o, w, m => MR.farCells hX h1 h2 r (o + 1) _ (m.far hX h1 h2 o v)
theorem PF.refl (w : World) (g : Nat) (o1 o2 : Option Nat) : PF w g o1 o2 w := ⟨rfl, rfl, rfl, Nat.le_refl _, fun _ _ _ _ _ => rfl⟩
theorem PF.after (h : Below w.heap.size w w') (h' : PF w' g o1 o2 w'') : PF w g o1 o2 w'' :=
  ⟨h'.os.trans h.os, h'.tape.trans h.tape, h'.output.trans h.output, Nat.le_trans h.size h'.size, fun k hk a b c => (h'.block k (Nat.lt_of_lt_of_le hk h.size) a b c).trans (h.block k hk)⟩
theorem PF.then_ (h : PF w g o1 o2 w') (h' : Below w'.heap.size w' w'') : PF w g o1 o2 w'' :=
  ⟨h'.os.trans h.os, h'.tape.trans h.tape, h'.output.trans h.output, Nat.le_trans h.size h'.size, fun k hk a b c => (h'.block k (Nat.lt_of_lt_of_le hk h.size)).trans (h.block k hk a b c)⟩
theorem PF.far (h : PF w g o1 o2 w') {X : Nat} (hX : w.heap.size ≤ X) (i : Nat) (u : Value) : PF w g o1 o2 (w'.setCell ⟨X, i, none⟩ u) :=
  ⟨h.os, h.tape, h.output, Nat.le_trans h.size (by simp), fun k hk a b c => (Below.heap_setCell w' _ u k (by show k ≠ X; omega)).trans (h.block k hk a b c)⟩
theorem PF.farCells {X : Nat} (hX : w.heap.size ≤ X) : ∀ (vs : List Value) (o : Nat) (w' : World), PF w g o1 o2 w' → PF w g o1 o2 (w'.setCells X o vs)
  | [], _, _, h => h
  | v :: r, o, w', h => PF.farCells hX r (o + 1) _ (h.far hX o v)
theorem PF.bel (h : PF w g o1 o2 w') (hg : base ≤ g) (h1 : ∀ k, o1 = some k → base ≤ k) (h2 : ∀ k, o2 = some k → base ≤ k) (hz : base ≤ w.heap.size) : Below base w w' :=
  ⟨h.os, h.tape, h.output, h.size, fun k hk => h.block k (by omega) (by omega) (fun e => by have := h1 k e; omega) (fun e => by have := h2 k e; omega)⟩
end
/-- the machine behind one instruction: so many prints and entries; its rows lie where they lay, or in new memory -/
def MPost (W : World) (g base : Nat) (o1 o2 : Option Nat) (nT nS : Nat) (w' : World) : Prop :=
  ∃ cells AT cT xT AS cS xS, MR w' g base cells AT cT nT xT AS cS nS xS ∧ (∀ k, Value.ownBlock (.slice AT nT cT) = some k → o1 = some k ∨ W.heap.size ≤ k) ∧ (∀ k, Value.ownBlock (.slice AS nS cS) = some k → o2 = some k ∨ W.heap.size ≤ k)

set_option maxRecDepth 20000 in
set_option maxHeartbeats 2000000 in
theorem do_oneG (op f n word from_ a b : Int) (M : Value) (K T To : Int) (nT' nS' : Nat) (w : World) (g base : Nat) (cells : List Value) (AT AS : Option Addr) (cT nT cS nS : Nat) (xT xS : List Value) (m : MR w g base cells AT cT nT xT AS cS nS xS) (hT : TabIs 0 w) (htb : 0 < base) (hbw : base ≤ w.heap.size)
    (hn : -2147483648 ≤ n ∧ n ≤ 2147483647) (hc : checkR op a b n f = 0) (hs : opShape op = 2)
    (H : Hid (∀ W, TabIs 0 W → MR W g base cells AT cT nT xT AS cS nS xS → Calls Tryd.prog 59 #[.pointer (some ⟨g, 0, none⟩), .agg #[.int .i64 op, .int .i64 a, .int .i64 b, .int .i32 n, .int .i64 f]] W fun e w' => e = .returned (.agg #[.int .i64 K, .int .i64 T, .int .u32 To]) ∧
      PF W g (Value.ownBlock (.slice AT nT cT)) (Value.ownBlock (.slice AS nS cS)) w' ∧ MPost W g base (Value.ownBlock (.slice AT nT cT)) (Value.ownBlock (.slice AS nS cS)) nT' nS' w')) :
    Calls Tryd.prog 26 #[.pointer (some ⟨g, 0, none⟩), .agg #[.int .i64 op, .int .i64 a, .int .i64 b, .int .i32 n, .int .i64 f], .int .i32 word, M, .int .i64 from_] w fun e w' => e = .returned (.agg #[.int .i64 K, .int .i64 T, .int .u32 To]) ∧
      Below base w w' ∧ ∃ cells' AT' cT' xT' AS' cS' xS', MR w' g base cells' AT' cT' nT' xT' AS' cS' nS' xS' := by
  have hg := m.blk.lt
  obtain ⟨hiop, _, _, _⟩ := checkR_parts hc
  have hch : ∀ w, TabIs 0 w → Calls Tryd.prog 46 #[.agg #[.int .i64 op, .int .i64 a, .int .i64 b, .int .i32 n, .int .i64 f]] w fun e w' => e = .returned (.int .i64 0) ∧ Below w.heap.size w w' := fun w hT => hc ▸ check_any op a b n f w hn hT
  have hat : ∀ w, TabIs 0 w → Calls Tryd.prog 54 #[.int .i64 op] w fun e w' => e = .returned (.tuple #[.agg #[.string ⟨(opName op).toArray⟩, .int .u8 (opByte op), .int .i64 2], .bool true]) ∧ Below w.heap.size w w' := fun w hT => hiop ▸ hs ▸ at_any op w hT
  have Hch := Lib.hid hch
  have Hat := Lib.hid hat
  have HM := Lib.hid m
  have hB0 : Below w.heap.size w ((w.alloc (.cells #[.int .i64 op, .int .i64 a, .int .i64 b, .int .i32 n, .int .i64 f] 25)).alloc (.cells #[.int .i64 0, .int .i64 0, .int .u32 0] 56)) := ((Below.refl _ _).alloc (Nat.le_refl _) _).alloc (by simp) _
  have hI0 : Blk ((w.alloc (.cells #[.int .i64 op, .int .i64 a, .int .i64 b, .int .i32 n, .int .i64 f] 25)).alloc (.cells #[.int .i64 0, .int .i64 0, .int .u32 0] 56)) w.heap.size 25 [.int .i64 op, .int .i64 a, .int .i64 b, .int .i32 n, .int .i64 f] := (Blk.new w 25 [.int .i64 op, .int .i64 a, .int .i64 b, .int .i32 n, .int .i64 f]).alloc _
  have hX0 : Blk ((w.alloc (.cells #[.int .i64 op, .int .i64 a, .int .i64 b, .int .i32 n, .int .i64 f] 25)).alloc (.cells #[.int .i64 0, .int .i64 0, .int .u32 0] 56)) (w.heap.size + 1) 56 [.int .i64 0, .int .i64 0, .int .u32 0] := by
    have := Blk.new (w.alloc (.cells #[.int .i64 op, .int .i64 a, .int .i64 b, .int .i32 n, .int .i64 f] 25)) 56 [.int .i64 0, .int .i64 0, .int .u32 0]
    rw [World.size_alloc] at this
    exact this
  generalize opName op = nm at Hat
  generalize opByte op = by_ at Hat
  clear hch hat hc hiop hs hn m
  go_enter Tryd.func26, Tryd.ntmps26
  go_wp2_with (first
    | (go_at_call 46; refine (Hch.out _ ((hT.alloc _).alloc _)).mono ?_; rintro e w2 ⟨rfl, hb2⟩; have hI2 := hI0.below hb2 hI0.lt; have hX2 := hX0.below hb2 hX0.lt; have p0 := hI2.cell 0; simp only [List.getElem?_cons_zero] at p0; have hB2 := hB0.trans (hb2.mono hB0.size))
    | (go_at_call 54; refine (Hat.out _ (hT.grow hB2)).mono ?_; rintro e w3 ⟨rfl, hb3⟩; have hI3 := hI2.below hb3 hI2.lt; have hX3 := hX2.below hb3 hX2.lt; have r0 := hI3.cell 0; have r1 := hI3.cell 1; have r2 := hI3.cell 2; have r3 := hI3.cell 3; have r4 := hI3.cell 4; simp only [List.getElem?_cons_zero, List.getElem?_cons_succ] at r0 r1 r2 r3 r4; have hz3 := hI3.lt; have hB3 := hB2.trans (hb3.mono hB2.size))
    | (go_at_call 59; refine (H.out _ ((hT.grow hB3).alloc _) ((HM.out.below hB3).alloc _)).mono ?_; rintro e w5 ⟨rfl, hP5, hM5⟩; have hX5 : Blk w5 (w.heap.size + 1) 56 [.int .i64 0, .int .i64 0, .int .u32 0] := (hP5.block _ (by have := hX3.lt; simp; omega) (by omega) (fun e => by have := (HM.out.rT.lt _ e).2; omega) (fun e => by have := (HM.out.rS.lt _ e).2; omega)).trans (hX3.alloc _))
    | ((with_reducible show wpList _ _ _ (Oper.mk none (Op.store _ (Operand.tmp 10) (Operand.tmp 40)) _ _ _ _ :: _) _ _); refine wpList_st3 hX5 rfl 56 (.tmp 10) (.tmp 40) (.int .i64 K) (.int .i64 T) (.int .u32 To) rfl (by kernel_rfl) (by kernel_rfl) (by simp [Value.oneCell']) (by kernel_rfl) ?_; rintro ⟨z0, z1, z2⟩)
    | fail)
  refine bodyPost_ret (v := .agg #[.int .i64 K, .int .i64 T, .int .u32 To]) (by simp [results, Tryd.results26, go_sem, z0, z1, z2]) rfl ⟨rfl, ?_⟩
  have hX3' := hX3.lt
  have hPw := PF.farCells (X := w.heap.size + 1) (by omega) [.int .i64 K, .int .i64 T, .int .u32 To] 0 _ (PF.after (hB3.alloc hB3.size _) hP5)
  refine ⟨hPw.bel HM.out.bg (fun k e => (HM.out.rT.lt k e).1) (fun k e => (HM.out.rS.lt k e).1) hbw, ?_⟩
  obtain ⟨cells', AT', cT', xT', AS', cS', xS', m5, f1, f2⟩ := hM5
  refine ⟨cells', AT', cT', xT', AS', cS', xS', MR.farCells (by omega) (fun e => ?_) (fun e => ?_) _ _ _ m5⟩
  · rcases f1 _ e with h | h
    · have := (HM.out.rT.lt _ h).2; omega
    · rw [World.size_alloc] at h; omega
  · rcases f2 _ e with h | h
    · have := (HM.out.rS.lt _ h).2; omega
    · rw [World.size_alloc] at h; omega
end Go.Proofs.YthcjnkakfpmpbaaDoor
