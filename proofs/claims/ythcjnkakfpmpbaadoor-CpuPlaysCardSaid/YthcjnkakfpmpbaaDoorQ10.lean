import Derived.Test.YthcjnkakfpmpbaaDoorQ4
import Derived.Test.YthcjnkakfpmpbaaDoorQ1
import Derived.Test.YthcjnkakfpmpbaaDoorQ5
import Derived.Test.YthcjnkakfpmpbaaDoorQ9
import Derived.Deep.QuietTactic
import Derived.BigQuiet
namespace Go.Proofs.YthcjnkakfpmpbaaDoor
open Go.RowKit
set_option linter.unusedVariables false
set_option linter.unusedSimpArgs false
def RG (cells : List Value) : Prop := (∀ k,k < 8 → ∃ x,cells[k]? = some (.int .i32 x)) ∧ ∀ k,k < 4 → ∃ p q,cells[8 + k]? = some (.complex .f64 p q)
theorem RG.set32 {cells : List Value} (h : RG cells) (j : Nat) (hj : j < 8) (v : Int) : RG (cells.set j (.int .i32 v)) := by
  refine ⟨fun k hk => ?_,fun k hk => ?_⟩
  · by_cases e : j = k
    · subst e
      obtain ⟨x,hx⟩ := h.1 j hk
      exact ⟨v,by rw [List.getElem?_set_self (List.getElem?_eq_some_iff.1 hx).1]⟩
    · rw [List.getElem?_set_ne e]; exact h.1 k hk
  · rw [List.getElem?_set_ne (by omega)]; exact h.2 k hk
theorem RG.setC {cells : List Value} (h : RG cells) (j : Nat) (hj : j < 4) (p q : Nat) : RG (cells.set (8 + j) (.complex .f64 p q)) := by
  refine ⟨fun k hk => ?_,fun k hk => ?_⟩
  · rw [List.getElem?_set_ne (by omega)]; exact h.1 k hk
  · by_cases e : j = k
    · subst e
      obtain ⟨x,y,hx⟩ := h.2 j hk
      exact ⟨p,q,by rw [List.getElem?_set_self (List.getElem?_eq_some_iff.1 hx).1]⟩
    · rw [List.getElem?_set_ne (by omega)]; exact h.2 k hk
theorem get_set {cells : List Value} {j : Nat} {u v : Value} (h : cells[j]? = some u) : (cells.set j v)[j]? = some v := List.getElem?_set_self (List.getElem?_eq_some_iff.1 h).1
theorem get_ne {cells : List Value} {j k : Nat} {u v : Value} (h : cells[k]? = some u) (hjk : j ≠ k) : (cells.set j v)[k]? = some u := by rw [List.getElem?_set_ne hjk]; exact h
noncomputable def cells0 (v : Value) : List Value := (Tryd.zeroCells119.setIfInBounds 270 v).toList
theorem zero_at (k : Nat) (hk : k < 8) : Tryd.zeroCells119[k]? = some (.int .i32 0) := by
  rcases (show k = 0 ∨ k = 1 ∨ k = 2 ∨ k = 3 ∨ k = 4 ∨ k = 5 ∨ k = 6 ∨ k = 7 by omega) with rfl | rfl | rfl | rfl | rfl | rfl | rfl | rfl <;> kernel_rfl
theorem zero_z (k : Nat) (hk : k < 4) : Tryd.zeroCells119[8 + k]? = some (.complex .f64 0 0) := by
  rcases (show k = 0 ∨ k = 1 ∨ k = 2 ∨ k = 3 by omega) with rfl | rfl | rfl | rfl <;> kernel_rfl
theorem cells0_rg (v : Value) : RG (cells0 v) := by
  refine ⟨fun k hk => ⟨0,?_⟩,fun k hk => ⟨0,0,?_⟩⟩
  · unfold cells0
    rw [Array.getElem?_toList,Array.getElem?_setIfInBounds_ne (by omega)]
    exact zero_at k hk
  · unfold cells0
    rw [Array.getElem?_toList,Array.getElem?_setIfInBounds_ne (by omega)]
    exact zero_z k hk
set_option maxRecDepth 100000 in
set_option maxHeartbeats 4000000 in
theorem new_any (A : Option Addr) (n c : Nat) (cs : List Value) (w : World) (hs : Sl w w.heap.size 1 A n cs) (h1 : ∀ u ∈ cs,u.oneCell' = true) (hn : n ≤ 4096) (hnil : A = none → n = 0 ∧ c = 0) :
    Calls Tryd.prog 33 #[.slice A n c] w fun e w' => ∃ g A' c',e = .returned (.tuple #[.pointer (some ⟨g,0,none⟩),.int .i64 0]) ∧ w.heap.size ≤ g ∧ Blk w' g 119 (cells0 (.slice A' n c')) ∧
      w'.ownsRow w.heap.size 21 1 (.slice A' n c') n cs ∧ (∀ k,Value.ownBlock (.slice A' n c') = some k → k ≠ g) ∧ Below w.heap.size w w' := by
  have hN : (n : Int) ≤ 4096 := by omega
  go_enter Tryd.func33,Tryd.ntmps33
  go_wp2_with (first
    | (go_at_call 64; refine (clone_any A n c cs w hs h1 (by omega) hnil).mono ?_; rintro e w1 ⟨A1,c1,rfl,hown1,hb1⟩)
    | fail)
  refine bodyPost_ret (v := .tuple #[.pointer (some ⟨w1.heap.size,0,none⟩),.int .i64 0]) (by simp [results,Tryd.results33,go_sem]) rfl ⟨w1.heap.size,A1,c1,rfl,hb1.size,?_,?_,?_,hb1.alloc hb1.size _⟩
  · unfold cells0 Blk
    rw [Array.toArray_toList]
    exact heap_alloc_new w1 _
  · refine ⟨hown1.1,?_⟩
    rcases hown1.2 with h0 | ⟨g,cap,cur,hv,hg,hh,h1⟩
    · exact .inl h0
    · exact .inr ⟨g,cap,cur,hv,hg,(Below.heap_alloc w1 _ g (Array.getElem?_eq_some_iff.1 hh).1).trans hh,h1⟩
  · intro k hk
    have := (hown1.lt k hk).2
    omega
end Go.Proofs.YthcjnkakfpmpbaaDoor
namespace Go.Proofs.YthcjnkakfpmpbaaDoor
open Go.RowKit
theorem checkR_parts {op a b n f : Int} (h : checkR op a b n f = 0) :
    isOp op = true ∧ regB (opShape op) a b n = true ∧ (spansB op = false → f = 0) ∧ numB (opShape op) n f = true := by
  unfold checkR at h
  split at h
  · cases h
  split at h
  · cases h
  split at h
  · cases h
  rename_i h1 h2 h3
  rw [not_or] at h3
  refine ⟨by simpa using h1,by simpa using h2,fun hs => ?_,by simpa using h3.2⟩
  have := h3.1
  simp only [hs,true_and,ne_eq,Classical.not_not] at this
  exact this
theorem okLim_bounds {x l : Int} (h : okLim x l = true) (hl : l = 0 ∨ l = 4 ∨ l = 8) : 0 ≤ x ∧ x < 8 := by
  unfold okLim at h
  split at h
  · have := of_decide_eq_true h; omega
  · have := of_decide_eq_true h; omega
theorem limA_cases (s : Int) : limA s = 0 ∨ limA s = 4 ∨ limA s = 8 := by unfold limA; split <;> (try split) <;> simp
theorem limB_cases (s : Int) : limB s = 0 ∨ limB s = 4 ∨ limB s = 8 := by unfold limB; split <;> (try split) <;> simp
theorem regB_bounds {s a b n : Int} (h : regB s a b n = true) : (0 ≤ a ∧ a < 8) ∧ (0 ≤ b ∧ b < 8) ∧ (s = 7 → 0 ≤ n ∧ n < 8) := by
  unfold regB at h
  simp only [Bool.and_eq_true,Bool.or_eq_true,decide_eq_true_eq] at h
  refine ⟨okLim_bounds h.1.1 (limA_cases s),okLim_bounds h.1.2 (limB_cases s),fun hs => ?_⟩
  rcases h.2 with h2 | h2
  · exact absurd hs h2
  · exact h2
end Go.Proofs.YthcjnkakfpmpbaaDoor
namespace Go.Proofs.YthcjnkakfpmpbaaDoor
open Go.RowKit
set_option linter.unusedVariables false
set_option linter.unusedSimpArgs false
structure MR (w : World) (g base : Nat) (cells : List Value) (AT : Option Addr) (cT nT : Nat) (xT : List Value) (AS : Option Addr) (cS nS : Nat) (xS : List Value) : Prop where
  blk : Blk w g 119 cells
  rg : RG cells
  eT : cells[269]? = some (.slice AT nT cT)
  eS : cells[268]? = some (.slice AS nS cS)
  rT : Row w base 21 (.slice AT nT cT) nT xT
  rS : Row w base 21 (.slice AS nS cS) nS xS
  oT : ∀ u ∈ xT,u.oneCell' = true
  gT : Value.ownBlock (.slice AT nT cT) ≠ some g
  gS : Value.ownBlock (.slice AS nS cS) ≠ some g
  ap : ∀ k,Value.ownBlock (.slice AT nT cT) = some k → Value.ownBlock (.slice AS nS cS) ≠ some k
  bg : base ≤ g
structure PF (w : World) (g : Nat) (o1 o2 : Option Nat) (w' : World) : Prop where
  os : w'.os = w.os
  tape : w'.tape = w.tape
  output : w'.output = w.output
  size : w.heap.size ≤ w'.heap.size
  block : ∀ k,k < w.heap.size → k ≠ g → o1 ≠ some k → o2 ≠ some k → w'.heap[k]? = w.heap[k]?
section
variable {w w' w'' : World} {g base : Nat} {cells : List Value} {AT AS : Option Addr} {cT nT cS nS : Nat} {xT xS : List Value} {o1 o2 : Option Nat}
theorem MR.keep (m : MR w g base cells AT cT nT xT AS cS nS xS) (hk : ∀ k,k < w.heap.size → w'.heap[k]? = w.heap[k]?) : MR w' g base cells AT cT nT xT AS cS nS xS :=
  ⟨(hk g m.blk.lt).trans m.blk,m.rg,m.eT,m.eS,m.rT.keep fun k e => hk k (m.rT.lt k e).2,m.rS.keep fun k e => hk k (m.rS.lt k e).2,m.oT,m.gT,m.gS,m.ap,m.bg⟩
theorem MR.below (m : MR w g base cells AT cT nT xT AS cS nS xS) (h : Below w.heap.size w w') : MR w' g base cells AT cT nT xT AS cS nS xS := m.keep h.block
theorem MR.alloc (m : MR w g base cells AT cT nT xT AS cS nS xS) (o : Obj) : MR (w.alloc o) g base cells AT cT nT xT AS cS nS xS := m.keep fun k hk => Below.heap_alloc w o k hk
theorem MR.drewN (m : MR w g base cells AT cT nT xT AS cS nS xS) (n : Nat) : MR (w.drewN n) g base cells AT cT nT xT AS cS nS xS := m.keep fun _ _ => rfl
theorem MR.far (m : MR w g base cells AT cT nT xT AS cS nS xS) {X : Nat} (hX : X ≠ g) (h1 : Value.ownBlock (.slice AT nT cT) ≠ some X) (h2 : Value.ownBlock (.slice AS nS cS) ≠ some X) (i : Nat) (u : Value) : MR (w.setCell ⟨X,i,none⟩ u) g base cells AT cT nT xT AS cS nS xS :=
  ⟨(Below.heap_setCell w _ u g (Ne.symm hX)).trans m.blk,m.rg,m.eT,m.eS,m.rT.keep fun k e => Below.heap_setCell w _ u k (fun h => h1 (e.trans (congrArg some h))),m.rS.keep fun k e => Below.heap_setCell w _ u k (fun h => h2 (e.trans (congrArg some h))),m.oT,m.gT,m.gS,m.ap,m.bg⟩
theorem MR.farCells {X : Nat} (hX : X ≠ g) (h1 : Value.ownBlock (.slice AT nT cT) ≠ some X) (h2 : Value.ownBlock (.slice AS nS cS) ≠ some X) : ∀ (vs : List Value) (o : Nat) (w : World),MR w g base cells AT cT nT xT AS cS nS xS → MR (w.setCells X o vs) g base cells AT cT nT xT AS cS nS xS
  | [],_,_,m => m
  | v :: r,o,w,m => MR.farCells hX h1 h2 r (o + 1) _ (m.far hX h1 h2 o v)
theorem PF.refl (w : World) (g : Nat) (o1 o2 : Option Nat) : PF w g o1 o2 w := ⟨rfl,rfl,rfl,Nat.le_refl _,fun _ _ _ _ _ => rfl⟩
theorem PF.after (h : Below w.heap.size w w') (h' : PF w' g o1 o2 w'') : PF w g o1 o2 w'' :=
  ⟨h'.os.trans h.os,h'.tape.trans h.tape,h'.output.trans h.output,Nat.le_trans h.size h'.size,fun k hk a b c => (h'.block k (Nat.lt_of_lt_of_le hk h.size) a b c).trans (h.block k hk)⟩
theorem PF.then_ (h : PF w g o1 o2 w') (h' : Below w'.heap.size w' w'') : PF w g o1 o2 w'' :=
  ⟨h'.os.trans h.os,h'.tape.trans h.tape,h'.output.trans h.output,Nat.le_trans h.size h'.size,fun k hk a b c => (h'.block k (Nat.lt_of_lt_of_le hk h.size)).trans (h.block k hk a b c)⟩
theorem PF.far (h : PF w g o1 o2 w') {X : Nat} (hX : w.heap.size ≤ X) (i : Nat) (u : Value) : PF w g o1 o2 (w'.setCell ⟨X,i,none⟩ u) :=
  ⟨h.os,h.tape,h.output,Nat.le_trans h.size (by simp),fun k hk a b c => (Below.heap_setCell w' _ u k (by show k ≠ X; omega)).trans (h.block k hk a b c)⟩
theorem PF.farCells {X : Nat} (hX : w.heap.size ≤ X) : ∀ (vs : List Value) (o : Nat) (w' : World),PF w g o1 o2 w' → PF w g o1 o2 (w'.setCells X o vs)
  | [],_,_,h => h
  | v :: r,o,w',h => PF.farCells hX r (o + 1) _ (h.far hX o v)
theorem PF.bel (h : PF w g o1 o2 w') (hg : base ≤ g) (h1 : ∀ k,o1 = some k → base ≤ k) (h2 : ∀ k,o2 = some k → base ≤ k) (hz : base ≤ w.heap.size) : Below base w w' :=
  ⟨h.os,h.tape,h.output,h.size,fun k hk => h.block k (by omega) (by omega) (fun e => by have := h1 k e; omega) (fun e => by have := h2 k e; omega)⟩
end
end Go.Proofs.YthcjnkakfpmpbaaDoor
