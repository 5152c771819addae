/- The iterator decode.All: what it makes, and what the value hands out: the right steps, one behind the other, till a round says 'no more' or nothing decodes. Conditions: none beyond what its law says. -/
import Derived.Test.YthcjnkakfpmpbaaDoorG0
import Derived.RangeFuncNested
import Derived.RangeFuncBound
import Derived.RangeFuncCalls
import Derived.RangeFuncLeaves
import Derived.Shelf.Abstract
import Derived.Shelf.RegionOpen
import Derived.WalkKit
import Derived.OwnWalkIn
import Derived.TacticsInMore
import Derived.LoopNIn
import Derived.LoopIn
namespace Go.Proofs.YthcjnkakfpmpbaaDoor
open Go.RowKit Go.Shelf
set_option linter.unusedVariables false
set_option linter.unusedSimpArgs false
attribute [local go_sem] Oper.semAt_some

theorem below_grown {w w' : World} (h : Below w.heap.size w w') : w.grownBy w' none :=
  ⟨h.os, h.tape, h.output, h.size, fun k hk _ => h.block k hk⟩
set_option maxHeartbeats 1000000 in
/-- decode.All boxes its two arguments and hands back the closure over both. -/
theorem dall_make (A : Option Addr) (n c : Nat) (at_ : Int) (w : World) :
    Calls Tryd.prog 20 #[.slice A n c, .int .i64 at_] w fun e w' => e = .returned (.func (.func 53) #[] #[.pointer (some ⟨w.heap.size + 1, 0, none⟩), .pointer (some ⟨w.heap.size, 0, none⟩)]) ∧ w' = (w.alloc (.cells #[.slice A n c] 22)).alloc (.cells #[.int .i64 at_] 3) := by
  go_enter Tryd.func20, Tryd.ntmps20
  go_wp2
  go_ret
  exact ⟨rfl, rfl⟩

set_option maxRecDepth 100000 in
set_option maxHeartbeats 4000000 in
/-- the closure's walk -/
theorem dall_in (m lp Ba Bb n₀ : Nat) (hm : 1 ≤ m) (A : Option Addr) (n c : Nat) (l : List UInt8) (at_ : Int) (J Jx : List Stp → World → Prop) (W : World) (hJ : AbidesFrom W.heap.size J)
    (hnc : n ≤ c) (hn : (n : Int) ≤ 140737488351232) (ha0 : -9223372036854775808 ≤ at_) (ha1 : at_ ≤ 9223372036854775807) (hn₀ : n₀ ≤ W.heap.size)
    (hY : ∀ pre x W, J pre W → pre.length < n + 1 → YieldAt Fence.wide (m - 1) Tryd.prog lp x.encs W fun e W' =>
      (e = .returned (.bool true) ∧ J (pre ++ [x]) W' ∧ Below n₀ W W') ∨ (e = .returned (.bool false) ∧ Jx (pre ++ [x]) W'))
    (hA : W.cell? ⟨Ba, 0, none⟩ = some (.int .i64 at_)) (hA0 : Ba < n₀) (hB : W.cell? ⟨Bb, 0, none⟩ = some (.slice A n c)) (hB0 : Bb < n₀)
    (hT : TabIs 0 W) (hT0 : 0 < n₀) (hs : Sl W n₀ 1 A n (bs l)) (h0 : J [] W) :
    CallsIn Fence.wide m Tryd.prog 53 #[.func (.yield lp) #[] #[], .pointer (some ⟨Ba, 0, none⟩), .pointer (some ⟨Bb, 0, none⟩)] W fun e W' => (∃ v, e = .returned v) ∧
      ((∃ ys, (∃ k, RunD l at_ ys k ∧ (decR l k).2.2 ≠ 0) ∧ J ys W') ∨ (∃ pre, (∃ k, RunD l at_ pre k) ∧ Jx pre W')) := by
  refine callsIn_of_wp Tryd.func53 rfl trivial ?_ rfl
  simp only [Tryd.ntmps53, List.size_toArray, List.length_cons, List.length_nil, Nat.reduceAdd, Nat.reduceSub, Array.replicate_succ, Array.replicate_zero, List.push_toArray, List.append_toArray, List.nil_append, List.cons_append]
  gi_wp2
  gi_loopw [4] (fun p wr => ∃ (pre : List Stp) (k : Int), p = .int .i64 k ∧ RunD l at_ pre k ∧ (-9223372036854775808 ≤ k ∧ k ≤ 9223372036854775807) ∧ Below n₀ W wr ∧ J pre wr)
    (fun p wr => (l.length - intOf p).toNat)
  case atStart =>
    exact ⟨[], at_, rfl, rfl, ⟨ha0, ha1⟩, Below.refl _ _, h0⟩
  case round =>
    obtain ⟨pre, k, rfl, hrun, hk, hbw, hJs⟩ := hrel
    have hTr : TabIs 0 wr := hT.below hbw hT0
    have hsr : Sl wr wr.heap.size 1 A n (bs l) := (hs.below hbw).more (by have := hbw.size; omega)
    have hBr : wr.cell? ⟨Bb, 0, none⟩ = some (.slice A n c) := (hbw.cell (p := ⟨Bb, 0, none⟩) hB0).trans hB
    have hl : l.length = n := by have := hs.len; rw [bs_length] at this; omega
    have hD := decode_any A n c l k wr hTr hsr hnc hn hk.1 hk.2
    obtain ⟨r, hrr⟩ : ∃ r, r = decR l k := ⟨_, rfl⟩
    rw [← hrr] at hD
    obtain ⟨⟨jo, ja, jb, jn, jf⟩, N, E⟩ := r
    have hD' : Calls Tryd.prog 16 #[.slice A n c, .int .i64 k] wr fun e w' => e = .returned (.tuple #[.agg #[.int .i64 jo, .int .i64 ja, .int .i64 jb, .int .i32 jn, .int .i64 jf], .int .i64 N, .int .i64 E]) ∧ Below wr.heap.size wr w' := hD
    clear hD
    have hzn : n₀ ≤ wr.heap.size := by have := hbw.size; omega
    by_cases hE : E = 0
    · subst hE
      have hok := decR_ok hrr.symm
      have hlen := hrun.len
      have hx1 : pre.length < n + 1 := by
        by_cases hp : pre = []
        · subst hp; simp
        · have := hlen.2 hp; omega
      have hrun2 := hrun.snoc (x := ⟨k, N, ⟨jo, ja, jb, jn, jf⟩⟩) rfl hrr.symm
      gi_wp2_with (first
        | (refine ⟨trivial, ?_⟩; gi_at_call 16; refine (callsIn_wide.2 hD').mono ?_; rintro e w2 ⟨rfl, hb2⟩; have hJ2 := hJ _ _ _ none hJs (below_grown hb2) (fun _ h => by cases h); have hJ3 := hJ _ _ _ none hJ2 (World.grownBy_alloc w2 (.cells #[.int .i64 jo, .int .i64 ja, .int .i64 jb, .int .i32 jn, .int .i64 jf] 25) none) (fun _ h => by cases h); obtain ⟨fn, tmps, assign, body, hy, hR⟩ := hY pre ⟨k, N, ⟨jo, ja, jb, jn, jf⟩⟩ _ hJ3 hx1; dsimp only [Stp.encs, Stp.val, Ins.val] at hy))
      refine hR.mono ?_
      rintro e W3 (⟨rfl, hJ3, hk3⟩ | ⟨rfl, hJx3⟩)
      · gi_wp2
        go_roundw
        case rel =>
          refine ⟨_, k + N, rfl, hrun2, ⟨by omega, by omega⟩, ((hbw.trans (hb2.mono hzn)).alloc (by have := hb2.size; omega) _).trans hk3, hJ3⟩
        case measure =>
          simp [intOf]; omega
      · gi_wp2
        refine bodyPost_ret (results_none rfl _ _ _) rfl ?_
        exact ⟨⟨_, rfl⟩, .inr ⟨_, ⟨_, hrun2⟩, hJx3⟩⟩
    · have hE' : (E == 0) = false := by simpa using hE
      gi_wp2_with (first
        | (refine ⟨trivial, ?_⟩; gi_at_call 16; refine (callsIn_wide.2 hD').mono ?_; rintro e w2 ⟨rfl, hb2⟩; have hJ2 := hJ _ _ _ none hJs (below_grown hb2) (fun _ h => by cases h); have hJ3 := hJ _ _ _ none hJ2 (World.grownBy_alloc w2 (.cells #[.int .i64 jo, .int .i64 ja, .int .i64 jb, .int .i32 jn, .int .i64 jf] 25) none) (fun _ h => by cases h)))
      refine ⟨fun _ h => (by cases h), ?_⟩
      gi_wp2
      refine bodyPost_ret (results_none rfl _ _ _) rfl ?_
      exact ⟨⟨_, rfl⟩, .inl ⟨pre, ⟨k, hrun, by rw [← hrr]; exact hE⟩, hJ3⟩⟩
end Go.Proofs.YthcjnkakfpmpbaaDoor
