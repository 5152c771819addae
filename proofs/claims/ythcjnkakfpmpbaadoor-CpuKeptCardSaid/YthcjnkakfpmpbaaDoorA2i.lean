/- The walk of Same at numbers of 32 bits. Conditions: none. -/
import Derived.Test.YthcjnkakfpmpbaaDoorRows
import Derived.Test.YthcjnkakfpmpbaaDoorM2
import Derived.Test.YthcjnkakfpmpbaaDoorP2
import Derived.Deep.QuietTactic
import Derived.BigQuiet
namespace Go.Proofs.YthcjnkakfpmpbaaDoor
open Go.RowKit
set_option linter.unusedVariables false

/-- a list of numbers of 32 bits as cells -/
def is32 (l : List Int) : List Value := l.map fun x => .int .i32 x
theorem is32_length (l : List Int) : (is32 l).length = l.length := by simp [is32]
theorem is32_append (l r : List Int) : is32 (l ++ r) = is32 l ++ is32 r := by simp [is32]
theorem is32_one (l : List Int) : ∀ u ∈ is32 l, u.oneCell' = true := by
  intro u hu
  obtain ⟨x, _, rfl⟩ := List.mem_map.1 hu
  rfl
theorem is32_get (l : List Int) (k : Nat) : (is32 l)[k]? = (l[k]?).map fun x => Value.int .i32 x := by simp [is32]
theorem is32_take (l : List Int) (k : Nat) : (is32 l).take k = is32 (l.take k) := by simp [is32]
/-- number k of a slice -/
theorem Sl.num {w : World} {B n : Nat} {A : Option Addr} {l : List Int} (h : Sl w B 1 A n (is32 l)) {k : Nat} (hk : k < n) :
    ∃ b o x, A = some ⟨b, o, none⟩ ∧ b < B ∧ l[k]? = some x ∧ w.cell? ⟨b, o + k, none⟩ = some (.int .i32 x) := by
  obtain ⟨b, o, u, e, hb, hu, hc⟩ := h.get hk
  rw [is32_get] at hu
  obtain ⟨x, hx, rfl⟩ := Option.map_eq_some_iff.1 hu
  exact ⟨b, o, x, e, hb, hx, hc⟩
theorem same_i32 (A B : Option Addr) (n m c d : Nat) (xs ys : List Int) (w : World) (hx : Sl w w.heap.size 1 A n (is32 xs)) (hy : Sl w w.heap.size 1 B m (is32 ys)) (hn : n ≤ maxLen) :
    Calls Tryd.prog 38 #[.slice A n c, .slice B m d] w fun e w' => e = .returned (.bool (sameB xs ys)) ∧ ∃ k, w' = w.drewN k := by
  have lx : xs.length = n := by have := hx.len; rw [is32_length] at this; omega
  have ly : ys.length = m := by have := hy.len; rw [is32_length] at this; omega
  unfold maxLen at hn
  by_cases hnm : n = m
  · subst hnm
    have Lx := Lib.hid lx
    have Ly := Lib.hid ly
    clear lx ly
    obtain ⟨S, hS⟩ : ∃ S, S = sameB xs ys := ⟨_, rfl⟩
    rw [← hS]
    have HS := Lib.hid hS
    clear hS
    go_enter Tryd.func38, Tryd.ntmps38
    go_wp2
    go_loopw [5] (fun i wr => ∃ k : Nat, i = .int .i64 k ∧ k ≤ n ∧ Hid (xs.take k = ys.take k) ∧ ∃ j, wr = w.drewN j) (fun i _ => n - (intOf i).toNat)
    case atStart => exact ⟨0, rfl, Nat.zero_le _, Lib.hid rfl, 0, rfl⟩
    case round =>
      obtain ⟨k, rfl, hk, ht, j, rfl⟩ := hrel
      by_cases hlt : k < n
      · obtain ⟨b, o, x, rfl, hb, hgx, hcx⟩ := hx.num hlt
        obtain ⟨b', o', y, rfl, hb', hgy, hcy⟩ := hy.num hlt
        have Hx := Lib.hid hgx
        have Hy := Lib.hid hgy
        clear hgx hgy hx hy
        have hI : (k : Int) < (n : Int) := by omega
        go_wp2
        go_quiet (fail)
        go_wp2
        · go_ret
          have hne : (x != y) = true := by assumption
          exact ⟨ret_bool (by rw [HS.out]; exact (sameB_no (same_not Hx.out Hy.out (fun e => by subst e; simp at hne))).symm), _, World.drewN_drewN _ _ _⟩
        · have hne : (x != y) = false := by assumption
          obtain rfl : x = y := by simpa using hne
          go_roundw
          case rel => exact ⟨k + 1, by go_num, by omega, Lib.hid (same_step ht.out Hx.out Hy.out), j + nq, rfl⟩
          case measure => simp [intOf]; omega
      · go_wp2
        go_ret
        exact ⟨ret_bool (by rw [HS.out]; exact (sameB_yes (same_end (by rw [show k = n by omega] at ht; exact ht.out) Lx.out Ly.out)).symm), _, rfl⟩
  · have hne : sameB xs ys = false := sameB_no (fun e => hnm (by rw [← lx, ← ly, e]))
    rw [hne]
    have hI : ((n : Int) != (m : Int)) = true := by simp; omega
    clear lx ly hx hy hne
    go_enter Tryd.func38, Tryd.ntmps38
    go_wp2
    go_ret
    exact ⟨rfl, 0, rfl⟩
end Go.Proofs.YthcjnkakfpmpbaaDoor
