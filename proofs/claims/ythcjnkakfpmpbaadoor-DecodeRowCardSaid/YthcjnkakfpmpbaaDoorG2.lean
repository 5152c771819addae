/- Words for a function that holds ranges over decode.All: the marks among its deferred calls, what a round keeps, the iterator's contract in the laws' form. Conditions: none. -/
import Derived.Test.YthcjnkakfpmpbaaDoorG1
namespace Go.Proofs.YthcjnkakfpmpbaaDoor
open Go.RowKit Go.Shelf
set_option linter.unusedVariables false
set_option linter.unusedSimpArgs false

/-- the marks that the loops have left, the youngest first, each at a block of its own below M, from B on -/
def MarksOk (B : Nat) (W : World) : Nat → List Deferred → Prop
  | _, [] => True
  | M, d :: ds => ∃ D, B ≤ D ∧ D < M ∧ d = { target := .collected D, args := #[] } ∧ W.heap[D]? = some (.deferred (some [])) ∧ MarksOk B W D ds
theorem MarksOk.keep {B : Nat} {W W' : World} (h : ∀ k o, B ≤ k → W.heap[k]? = some o → o.isCells = false → W'.heap[k]? = some o) : ∀ {M : Nat} {ds : List Deferred}, MarksOk B W M ds → MarksOk B W' M ds
  | _, [], _ => trivial
  | _, _ :: _, ⟨D, h1, h2, h3, h4, h5⟩ => ⟨D, h1, h2, h3, h D _ h1 h4 rfl, h5.keep h⟩
theorem MarksOk.more {B : Nat} {W : World} : ∀ {M M' : Nat} {ds : List Deferred}, MarksOk B W M ds → M ≤ M' → MarksOk B W M' ds
  | _, _, [], _, _ => trivial
  | _, _, _ :: _, ⟨D, h1, h2, h3⟩, h => ⟨D, h1, by omega, h3⟩
theorem MarksOk.put {B : Nat} {W : World} {D0 : Nat} {o : Obj} : ∀ {M : Nat} {ds : List Deferred}, MarksOk B W M ds → M ≤ D0 → MarksOk B (W.putObj D0 o) M ds
  | _, [], _, _ => trivial
  | _, _ :: _, ⟨D, h1, h2, h3, h4, h5⟩, h => ⟨D, h1, h2, h3, (World.putObj_heap_other (by omega)).trans h4, h5.put (by omega)⟩
theorem MarksOk.below {B N : Nat} {W W' : World} {M : Nat} {ds : List Deferred} (h : MarksOk B W M ds) (hb : Below N W W') (hM : M ≤ N) : MarksOk B W' M ds := by
  induction ds generalizing M with
  | nil => trivial
  | cons d ds ih =>
    obtain ⟨D, h1, h2, h3, h4, h5⟩ := h
    exact ⟨D, h1, h2, h3, (hb.block D (by omega)).trans h4, ih h5 (by omega)⟩
/-- at the function's return each mark is taken up; no call is handed over -/
theorem MarksOk.leave {F : Fence} {n : Nat} {P : Program} {fn : Func} {tmps : Array Value} {R : Ending → World → Prop} {B : Nat} : ∀ {M : Nat} {ds : List Deferred} {W : World}, MarksOk B W M ds → B ≤ W.heap.size →
    (∀ W', Below B W W' → LeavesIn F n P fn tmps R [] .returning W') → LeavesInM F n P fn tmps R ds .returning W
  | _, [], W, _, _, hf => hf W (Below.refl _ _)
  | M, d :: ds, W, ⟨D, h1, h2, h3, h4, h5⟩, hB, hf => by
    subst h3
    have hp : Below B W (W.putObj D (.deferred none)) := (Below.refl B W).grown (grownBy_putObj' W D _) hB (fun k e => by cases e; exact h1)
    exact ⟨by simp, .inl ⟨D, _, rfl, run_takeDeferred h4, (h5.put (Nat.le_refl _)).leave (Nat.le_trans hB hp.size) fun W' hb => hf W' (hp.trans hb)⟩⟩

theorem keeps_below {W W' : World} (h : Below W.heap.size W W') : KeepsOthers W W' :=
  ⟨h.size, fun k o hk ho => (h.block k (Array.getElem?_eq_some_iff.1 hk).1).trans hk⟩
theorem ownFrom_of {β : Type} {B : Nat} {I : β → World → Prop} (hz : ∀ s X, I s X → B ≤ X.heap.size) (h : ∀ s X Y, I s X → Below B X Y → I s Y) : OwnFrom B I :=
  fun s X Y row hs hg hr => h s X Y hs ((Below.refl B X).grown hg (hz s X hs) (fun k e => (hr k e).1))
/-- what the iterator hands out in all; what it has handed out where a round has said 'no more' -/
def RunAll (l : List UInt8) (at_ : Int) (ys : List Stp) : Prop := ∃ k, RunD l at_ ys k ∧ (decR l k).2.2 ≠ 0
def RunSome (l : List UInt8) (at_ : Int) (ys : List Stp) : Prop := ∃ k, RunD l at_ ys k
/-- the contract of decode.All's value, in the laws' form -/
theorem dall_stops (m Ba Bb n₀ : Nat) (hm : 1 ≤ m) (A : Option Addr) (n c : Nat) (l : List UInt8) (at_ : Int) (w : World)
    (hnc : n ≤ c) (hn : (n : Int) ≤ 140737488351232) (ha0 : -9223372036854775808 ≤ at_) (ha1 : at_ ≤ 9223372036854775807) (hn₀ : n₀ ≤ w.heap.size)
    (hA : w.cell? ⟨Ba, 0, none⟩ = some (.int .i64 at_)) (hA0 : Ba < n₀) (hB : w.cell? ⟨Bb, 0, none⟩ = some (.slice A n c)) (hB0 : Bb < n₀)
    (hT : TabIs 0 w) (hT0 : 0 < n₀) (hs : Sl w n₀ 1 A n (bs l)) :
    SeqStopsK Fence.wide m Tryd.prog 53 #[.pointer (some ⟨Ba, 0, none⟩), .pointer (some ⟨Bb, 0, none⟩)] Stp.encs (Below n₀) (RunAll l at_) (RunSome l at_) (n + 1) w :=
  fun lp J Jx W hW hJ _ hY h0 => by
    have hW' := hW.mono hn₀
    exact dall_in m lp Ba Bb n₀ hm A n c l at_ J Jx W hJ hnc hn ha0 ha1 (Nat.le_trans hn₀ hW.size) hY ((hW'.cell (p := ⟨Ba, 0, none⟩) hA0).trans hA) hA0 ((hW'.cell (p := ⟨Bb, 0, none⟩) hB0).trans hB) hB0 (hT.below hW' hT0) hT0 (hs.below hW') h0
/-- a made function value is not nil -/
theorem seq_not_nil (fn : Fn) (x y : Array Value) (w : World) : (binOp BinOp.eql 37 (Value.func fn x y) Value.nilFunc).run Tryd.prog w = .ok (.bool false) w := by kernel_rfl
end Go.Proofs.YthcjnkakfpmpbaaDoor
