/- The machine with its prints and its input, as the law CpuKept calls it; the book beside it. Conditions: the table of operations is laid. -/
import Derived.Test.YthcjnkakfpmpbaaDoorC27
import Derived.Test.YthcjnkakfpmpbaaDoorC19
import Derived.Test.YthcjnkakfpmpbaaDoorK8i32
namespace Go.Proofs.YthcjnkakfpmpbaaDoor
open Go.RowKit Go.Proofs.YthcjnkakfpmpbaaDoor.booki32
set_option linter.unusedVariables false
set_option linter.unusedSimpArgs false
set_option maxRecDepth 20000

theorem MI.keep3 {w w' : World} {g base : Nat} {cells : List Value} {AT AS : Option Addr} {cT nT cS nS : Nat} {xT xS : List Value} (m : MI w g base cells AT cT nT xT AS cS nS xS) (hg : w'.heap[g]? = w.heap[g]?)
    (h1 : ∀ k, Value.ownBlock (.slice AT nT cT) = some k → w'.heap[k]? = w.heap[k]?) (h2 : ∀ k, Value.ownBlock (.slice AS nS cS) = some k → w'.heap[k]? = w.heap[k]?) : MI w' g base cells AT cT nT xT AS cS nS xS :=
  ⟨hg.trans m.blk, m.rg, m.eT, m.eS, m.rT.keep h1, m.rS.keep h2, m.oT, m.gT, m.gS, m.ap, m.bg⟩
/-- the machine's blocks are none of the book's -/
structure Sep (U : Nat → Prop) (g : Nat) (o1 o2 : Option Nat) : Prop where
  g : ¬ U g
  a : ∀ k, o1 = some k → ¬ U k
  b : ∀ k, o2 = some k → ¬ U k
section
variable {U U' : Nat → Prop} {g gB : Nat} {o1 o2 p1 p2 : Option Nat} {w w' w1 : World}
theorem Sep.step (s : Sep U g o1 o2) (hb : ∀ k, U k → k < w.heap.size) (f1 : ∀ k, p1 = some k → o1 = some k ∨ w.heap.size ≤ k) (f2 : ∀ k, p2 = some k → o2 = some k ∨ w.heap.size ≤ k) : Sep U g p1 p2 :=
  ⟨s.g, fun k e hu => (f1 k e).elim (fun h => s.a k h hu) (fun h => by have := hb k hu; omega), fun k e hu => (f2 k e).elim (fun h => s.b k h hu) (fun h => by have := hb k hu; omega)⟩
theorem PF.book (b : BAt w gB U) (h : PF w g o1 o2 w') (s : Sep U g o1 o2) : BAt w' gB U :=
  b.keep h.size fun k hu => h.block k (b.bound k hu).2 (fun e => s.g (e ▸ hu)) (fun e => s.a k e hu) (fun e => s.b k e hu)
end
/-- what is kept is newer than the book's last turn -/
theorem keep_newU {gB : Nat} {W W1 : World} {U : Nat → Prop} {cs : List Value} {A1 : Option Addr} {m c1 : Nat} (hB : BAt W gB U) (hb : Below W.heap.size W W1) (hk : Kept W1 W.heap.size 21 1 A1 m c1 cs) (hg : booki32.Good cs) (hn : m * 4 ≤ 140737488355328) :
    Calls Tryd.prog 34 #[.pointer (some ⟨gB, 0, none⟩), .slice A1 m c1] W1 fun e w' => e = .returned (.tuple #[]) ∧ ∃ U', BAt w' gB U' ∧ KFr U W1 w' ∧ ∀ k, k < W.heap.size → U' k → U k := by
  refine (keep_any gB A1 m c1 cs U W1 (hB.below hb) (hk.more (by have := hB.at_.2; omega)) hg (fun k hk1 hu => ?_) hn).mono fun e w1 ⟨h1, U1, h2, h3, h4⟩ => ⟨h1, U1, h2, h3, fun k hk1 hu => ?_⟩
  · have h1 := (hk.lt k hk1).1
    have h2 := (hB.bound k hu).2
    omega
  · rcases h4 k (by have := hb.size; omega) hu with h | h
    · exact h
    · have := (hk.lt k h).1
      omega
/-- between two rounds: k numbers printed, the rest not yet read -/
def KS (w0 : World) (base gB g m k : Nat) (l : List Int) (wr : World) : Prop :=
  ∃ cells AT cT AI cI U, MI wr g base cells AT cT k (is32 (l.take k)) AI cI (m - k) (is32 (l.drop k)) ∧ BAt wr gB U ∧ Sep U g (Value.ownBlock (.slice AT k cT)) (Value.ownBlock (.slice AI (m - k) cI)) ∧ Below base w0 wr ∧ base ≤ wr.heap.size ∧ base ≤ gB

theorem zero_len : Tryd.zeroCells119.size = 271 := by kernel_rfl
theorem new_mi {w : World} {g base n c : Nat} {A : Option Addr} {cs : List Value} (hB : Blk w g 119 (cells0 (.slice A n c))) (ho : w.ownsRow base 21 1 (.slice A n c) n cs) (hne : ∀ k, Value.ownBlock (.slice A n c) = some k → k ≠ g) (hb : base ≤ g) : MI w g base (cells0 (.slice A n c)) none 0 0 [] A c n cs where
  blk := hB
  rg := cells0_rg _
  eT := by unfold cells0; rw [Array.getElem?_toList, Array.getElem?_setIfInBounds_ne (by omega)]; exact zero_269
  eS := by
    unfold cells0
    rw [Array.getElem?_toList, Array.getElem?_setIfInBounds_self_of_lt (by rw [zero_len]; omega)]
  rT := Row.nil_ _ _ _
  rS := Row.of_own ho
  oT := by simp
  gT := by simp [Value.ownBlock]
  gS := fun e => hne g e rfl
  ap := by intro k hk; simp [Value.ownBlock] at hk
  bg := hb
theorem traceI (w : World) (g base : Nat) (cells : List Value) (AT AS : Option Addr) (cT nT cS nS : Nat) (xT xS : List Value) (m : MI w g base cells AT cT nT xT AS cS nS xS) (hn : nT ≤ 1000000) :
    Calls Tryd.prog 35 #[.pointer (some ⟨g, 0, none⟩)] w fun e w' => ∃ A c, e = .returned (.slice A nT c) ∧ w'.ownsRow w.heap.size 21 1 (.slice A nT c) nT xT ∧ Below w.heap.size w w' := by
  have q := (m.blk.cell 269).trans m.eT
  have hnil : AT = none → nT = 0 ∧ cT = 0 := fun e => by
    rcases m.rT.2 with ⟨hv, h0⟩ | ⟨g', o, cap, cur, hv, _⟩
    · injection hv with _ _ h3; exact ⟨h0, h3⟩
    · injection hv with h3; rw [e] at h3; cases h3
  have hs := m.rT.sl
  have hone := m.oT
  clear m
  go_enter Tryd.func35, Tryd.ntmps35
  go_wp2_with (first
    | (go_at_call 64; refine (clone_any AT nT cT xT w hs hone hn hnil).mono ?_; rintro e w1 ⟨A1, c1, rfl, hown1, hb1⟩)
    | fail)
  go_ret
  exact ⟨A1, c1, rfl, hown1, hb1⟩
theorem m_inI (w : World) (g base : Nat) (cells : List Value) (AT AS : Option Addr) (cT nT cS nS : Nat) (xT xS : List Value) (x : Int) (m : MI w g base cells AT cT nT xT AS cS (nS + 1) (.int .i32 x :: xS)) (hT : TabIs 0 w) (htb : 0 < base) (hbw : base ≤ w.heap.size) :
    Calls Tryd.prog 26 #[.pointer (some ⟨g, 0, none⟩), .agg #[.int .i64 5, .int .i64 1, .int .i64 0, .int .i32 0, .int .i64 0], .int .i32 0, .slice none 0 0, .int .i64 0] w fun e w' => e = .returned (.agg #[.int .i64 0, .int .i64 0, .int .u32 0]) ∧
      PF w g (Value.ownBlock (.slice AT nT cT)) (Value.ownBlock (.slice AS (nS + 1) cS)) w' ∧ MPostI w g base (Value.ownBlock (.slice AT nT cT)) (Value.ownBlock (.slice AS (nS + 1) cS)) nT nS xT xS (fun c => c[1]? = some (.int .i32 x)) w' :=
  do_oneI 5 0 0 0 0 1 0 (.slice none 0 0) 0 0 0 nT nS xT xS (fun c => c[1]? = some (.int .i32 x)) w g base cells AT AS cT nT cS (nS + 1) xT (.int .i32 x :: xS) m hT htb hbw (by omega) (by kernel_rfl) (by kernel_rfl)
    (Lib.hid fun W hT' m' => one_inI 5 0 0 0 1 W g base cells AT cT nT xT AS cS nS xS x m' hT' (Nat.le_trans m.bg (Nat.le_of_lt m'.blk.lt)) (by omega) (by kernel_rfl))
theorem m_printI (w : World) (g base : Nat) (cells : List Value) (AT AS : Option Addr) (cT nT cS nS : Nat) (xT xS : List Value) (x : Int) (m : MI w g base cells AT cT nT xT AS cS nS xS) (hx : cells[1]? = some (.int .i32 x)) (hl : nT < 4096) (hT : TabIs 0 w) (htb : 0 < base) (hbw : base ≤ w.heap.size) :
    Calls Tryd.prog 26 #[.pointer (some ⟨g, 0, none⟩), .agg #[.int .i64 4, .int .i64 1, .int .i64 0, .int .i32 0, .int .i64 0], .int .i32 0, .slice none 0 0, .int .i64 0] w fun e w' => e = .returned (.agg #[.int .i64 0, .int .i64 0, .int .u32 0]) ∧
      PF w g (Value.ownBlock (.slice AT nT cT)) (Value.ownBlock (.slice AS nS cS)) w' ∧ MPostI w g base (Value.ownBlock (.slice AT nT cT)) (Value.ownBlock (.slice AS nS cS)) (nT + 1) nS (xT ++ [.int .i32 x]) xS (fun _ => True) w' :=
  do_oneI 4 0 0 0 0 1 0 (.slice none 0 0) 0 0 0 (nT + 1) nS (xT ++ [.int .i32 x]) xS (fun _ => True) w g base cells AT AS cT nT cS nS xT xS m hT htb hbw (by omega) (by kernel_rfl) (by kernel_rfl)
    (Lib.hid fun W hT' m' => one_printI 4 0 0 0 1 x W g base cells AT cT nT xT AS cS nS xS m' hT' (Nat.le_trans m.bg (Nat.le_of_lt m'.blk.lt)) (by omega) hx (by kernel_rfl) hl)
theorem op_in1 (w : World) : Calls Tryd.prog 27 #[.string ⟨#[105, 110]⟩, .int .i64 1, .int .i64 0, .int .i32 0] w fun e w' => e = .returned (.agg #[.int .i64 5, .int .i64 1, .int .i64 0, .int .i32 0, .int .i64 0]) ∧ Below w.heap.size w w' := by
  have h := op_any ⟨#[105, 110]⟩ 1 0 0 w
  rwa [show findR (ByteArray.toList ⟨#[105, 110]⟩) = 5 from by kernel_rfl] at h
theorem op_print1 (w : World) : Calls Tryd.prog 27 #[.string ⟨#[112, 114, 105, 110, 116]⟩, .int .i64 1, .int .i64 0, .int .i32 0] w fun e w' => e = .returned (.agg #[.int .i64 4, .int .i64 1, .int .i64 0, .int .i32 0, .int .i64 0]) ∧ Below w.heap.size w w' := by
  have h := op_any ⟨#[112, 114, 105, 110, 116]⟩ 1 0 0 w
  rwa [show findR (ByteArray.toList ⟨#[112, 114, 105, 110, 116]⟩) = 4 from by kernel_rfl] at h
/-- one round of the law, joined -/
theorem KS.next {w0 wr w2 w3 w4 : World} {base gB g m k : Nat} {l : List Int} {x : Int} {U U' : Nat → Prop} {AT AT2 AI AI2 : Option Addr} {cT cT2 cI cI2 : Nat} {cells2 : List Value}
    (hB : BAt wr gB U) (s : Sep U g (Value.ownBlock (.slice AT k cT)) (Value.ownBlock (.slice AI (m - k) cI))) (hbel : Below base w0 wr) (hbw : base ≤ wr.heap.size) (hgB : base ≤ gB)
    (hmk : m - k = m - (k + 1) + 1) (hlx : l[k]? = some x)
    (s1 : Sep U g (Value.ownBlock (.slice AT2 (k + 1) cT2)) (Value.ownBlock (.slice AI2 (m - (k + 1)) cI2)))
    (m2 : MI w2 g base cells2 AT2 cT2 (k + 1) (is32 (l.take k) ++ [.int .i32 x]) AI2 cI2 (m - (k + 1)) (is32 (l.drop (k + 1)))) (hb2 : Below base w0 w2) (hB2 : BAt w2 gB U)
    (hb3 : Below w2.heap.size w2 w3) (hB4 : BAt w4 gB U') (hK : KFr U w3 w4) (hU : ∀ k, k < w2.heap.size → U' k → U k) (hz2 : base ≤ w2.heap.size) : KS w0 base gB g m (k + 1) l w4 := by
  have m3 := m2.below hb3
  have hs3 := hb3.size
  have hgl := m2.blk.lt
  refine ⟨cells2, AT2, cT2, AI2, cI2, U', ?_, hB4, ⟨fun h => s1.g (hU _ hgl h), fun j e h => s1.a j e (hU _ (m2.rT.lt j e).2 h), fun j e h => s1.b j e (hU _ (m2.rS.lt j e).2 h)⟩, ?_, ?_, hgB⟩
  · have m4 := m3.keep3 (w' := w4) (hK.block g (by omega) s1.g) (fun j e => hK.block j (by have := (m2.rT.lt j e).2; omega) (s1.a j e)) (fun j e => hK.block j (by have := (m2.rS.lt j e).2; omega) (s1.b j e))
    rw [show is32 (l.take (k + 1)) = is32 (l.take k) ++ [.int .i32 x] from by rw [List.take_add_one, hlx, is32_append]; rfl]
    exact m4
  · exact (hb2.trans (hb3.mono hz2)).trans (hK.below (gB := base) (fun j hu => Nat.le_trans hgB (hB.bound j hu).1) (Nat.le_trans hz2 hs3))
  · exact Nat.le_trans hz2 (Nat.le_trans hs3 hK.size)
end Go.Proofs.YthcjnkakfpmpbaaDoor
