/- The walks of Put, octet's and the reference's. -/
import Derived.Test.YtfplkmldleigpaaDoorA2
namespace Go.Proofs.YtfplkmldleigpaaDoor
open Go.RowKit
set_option linter.unusedVariables false

/-- the call returns a slice in new memory that owns these bytes -/
def GivesOwn (W : World) (l : List UInt8) (e : Ending) (w' : World) : Prop :=
  ∃ A n c, e = .returned (.slice A n c) ∧ n ≤ c ∧ w'.ownsRow W.heap.size 5 1 (.slice A n c) n (bs l) ∧ Below W.heap.size W w'
/-- the call returns a slice that reads as these bytes -/
def GivesSl (W : World) (l : List UInt8) (e : Ending) (w' : World) : Prop :=
  ∃ A n c, e = .returned (.slice A n c) ∧ n ≤ c ∧ Sl w' w'.heap.size 1 A n (bs l) ∧ Below W.heap.size W w'
theorem GivesOwn.sl {W : World} {l : List UInt8} {e : Ending} {w' : World} (h : GivesOwn W l e w') : GivesSl W l e w' := by
  obtain ⟨A, n, c, he, hc, ho, hb⟩ := h
  exact ⟨A, n, c, he, hc, Sl.of_own ho, hb⟩

theorem below_app {B : Nat} {a w w' : World} {v : Value} {n : Nat} {xs : List Value} {e : TypeId} {sz : Nat} (h : Below B a w) (ho : w.ownsRow B e sz v n xs) (hg : w.grownBy w' v.ownBlock) (hB : B ≤ w.heap.size) : Below B a w' :=
  h.grown hg hB fun k hk => (ho.lt k hk).1

set_option maxHeartbeats 400000 in
theorem put_yes (A : Option Addr) (n c : Nat) (l : List UInt8) (x : Int) (W : Nat) (w : World) (hW : W ≤ 4) (hl : legalB (W : Int) = true) (hs : Sl w w.heap.size 1 A n (bs l)) (hn : n + 8 ≤ 140737488355328)
    (h0 : 0 ≤ x) (h1 : x < 4294967296) :
    Calls Tryd.prog 50 #[.slice A n c, .int .u32 x, .int .i64 W] w (GivesOwn w (l ++ le x W)) := by
  obtain ⟨i0, hi0, hz0, hz1, hz2⟩ := info_parts u8_info
  have HW := Lib.hid (show GivesOwn w (l ++ le x W) = GivesOwn w (l ++ le x W) from rfl)
  go_enter Tryd.func50, Tryd.ntmps50
  go_wp2_with (first
    | (at_builtin
       refine wpList_app _ rfl (.const (.slice none 0 0)) (.tmp 8) _ rfl w.heap.size 5 i0 _ 1 1 Tryd.underlying55 hi0 hz0 hz1 hz2 rfl (by omega) (.slice none 0 0) 0 [] rfl (own_nil _ _ _ _) w.heap.size A n c (bs l) rfl hs (bs_one l) (by unfold maxLen; omega) (by omega) (Nat.le_refl _) n (by omega) (bs l) rfl ?_
       intro A1 c1 w1 hc1 hown1 hg1 _
       have hb1 : Below w.heap.size w w1 := below_app (Below.refl _ _) (own_nil w w.heap.size 5 1) hg1 (Nat.le_refl _))
    | (go_at_call 55; refine (legal_any _ _).mono ?_; rintro e w' ⟨rfl, rfl⟩))
  go_loopw [7, 1, 20] (fun out y i wr => ∃ (k : Nat) (A1 : Option Addr) (c1 : Nat) (q : Int), i = .int .i64 k ∧ k ≤ W ∧ y = .int .u32 q ∧ 0 ≤ q ∧ q < 4294967296 ∧ Hid (q = x / 256 ^ k) ∧ out = .slice A1 (n + k) c1 ∧ n + k ≤ c1 ∧
      wr.ownsRow w.heap.size 5 1 (.slice A1 (n + k) c1) (n + k) (bs (l ++ le x k)) ∧ Below w.heap.size w wr) (fun _ _ i _ => W - (intOf i).toNat)
  case atStart => exact ⟨0, A1, c1, x, rfl, Nat.zero_le _, rfl, h0, h1, Lib.hid (by simp), rfl, hc1, by simpa [le] using hown1, hb1⟩
  case round =>
    obtain ⟨k, A2, c2, q, rfl, hk, rfl, hq0, hq1, hq, rfl, hc2, hown2, hb2⟩ := hrel
    by_cases hlt : k < W
    · have hz2' := hb2.size
      go_wp2_with (first
        | (at_builtin
           refine wpList_app _ rfl (.tmp 22) (.tmp 25) _ rfl w.heap.size 5 i0 _ 1 1 Tryd.underlying55 hi0 hz0 hz1 hz2 rfl (by omega) (.slice A2 (n + k) c2) (n + k) (bs (l ++ le x k)) rfl (hown2.alloc _) (wr.heap.size + 1) (some ⟨wr.heap.size, 0, none⟩) 1 1 [.int .u8 (q % 256)] rfl (sl_one _ _ _) (by intro u hu; simp at hu; subst hu; rfl) (by unfold maxLen; omega) (by omega) (by simp; omega) (n + (k + 1)) (by omega) (bs (l ++ le x (k + 1))) (by rw [le_succ, ← List.append_assoc, bs_append _ [_], bs_lowB, ← hq.out]) ?_
           intro A3 c3 w3 hc3 hown3 hg3 _
           have hb3 : Below w.heap.size w w3 := below_app (hb2.alloc hz2' _) (hown2.alloc _) hg3 (by simp; omega)))
      go_roundw
      case rel => exact ⟨k + 1, A3, c3, q / 256, by go_num, by omega, rfl, by omega, by omega, Lib.hid (by rw [hq.out]; exact pow_step x k), rfl, hc3, hown3, hb3⟩
      case measure => simp [intOf]; omega
    · obtain rfl : k = W := by omega
      go_wp2
      go_ret
      exact ⟨A2, n + k, c2, rfl, hc2, hown2, hb2⟩
end Go.Proofs.YtfplkmldleigpaaDoor
