/- The walks of Same and Put (octet's and the reference's), at bytes. -/
import Derived.Test.YtfplkmldleigpaaDoorA0
import Derived.Test.YtfplkmldleigpaaDoorP2
import Derived.Deep.QuietTactic
import Derived.BigQuiet
namespace Go.Proofs.YtfplkmldleigpaaDoor
open Go.RowKit
set_option linter.unusedVariables false

theorem u8_info : (Tryd.prog.info? 5).map (fun i => (i.zero, i.size, i.bytes)) = some (some (.int .u8 0), 1, 1) := by kernel_rfl

theorem same_u8 (A B : Option Addr) (n m c d : Nat) (xs ys : List UInt8) (w : World) (hx : Sl w w.heap.size 1 A n (bs xs)) (hy : Sl w w.heap.size 1 B m (bs ys)) (hn : n ≤ maxLen) :
    Calls Tryd.prog 36 #[.slice A n c, .slice B m d] w fun e w' => e = .returned (.bool (sameB xs ys)) ∧ ∃ k, w' = w.drewN k := by
  have lx : xs.length = n := by have := hx.len; rw [bs_length] at this; omega
  have ly : ys.length = m := by have := hy.len; rw [bs_length] at this; omega
  unfold maxLen at hn
  by_cases hnm : n = m
  · subst hnm
    have Lx := Lib.hid lx
    have Ly := Lib.hid ly
    clear lx ly
    obtain ⟨S, hS⟩ : ∃ S, S = sameB xs ys := ⟨_, rfl⟩
    rw [← hS]
    have HS := Lib.hid hS
    clear hS
    go_enter Tryd.func36, Tryd.ntmps36
    go_wp2
    go_loopw [5] (fun i wr => ∃ k : Nat, i = .int .i64 k ∧ k ≤ n ∧ Hid (xs.take k = ys.take k) ∧ ∃ j, wr = w.drewN j) (fun i _ => n - (intOf i).toNat)
    case atStart => exact ⟨0, rfl, Nat.zero_le _, Lib.hid rfl, 0, rfl⟩
    case round =>
      obtain ⟨k, rfl, hk, ht, j, rfl⟩ := hrel
      by_cases hlt : k < n
      · obtain ⟨b, o, x, rfl, hb, hgx, hcx⟩ := hx.byte hlt
        obtain ⟨b', o', y, rfl, hb', hgy, hcy⟩ := hy.byte hlt
        have Hx := Lib.hid hgx
        have Hy := Lib.hid hgy
        clear hgx hgy hx hy
        have hI : (k : Int) < (n : Int) := by omega
        go_wp2
        go_quiet (fail)
        go_wp2
        · go_ret
          have hne : ((x.toNat : Int) != (y.toNat : Int)) = true := by assumption
          exact ⟨ret_bool (by rw [HS.out]; exact (sameB_no (same_not Hx.out Hy.out (fun e => by subst e; simp at hne))).symm), _, World.drewN_drewN _ _ _⟩
        · have hne : ((x.toNat : Int) != (y.toNat : Int)) = false := by assumption
          obtain rfl : x = y := UInt8.toNat_inj.1 (by simp at hne; omega)
          go_roundw
          case rel => exact ⟨k + 1, by go_num, by omega, Lib.hid (same_step ht.out Hx.out Hy.out), j + nq, rfl⟩
          case measure => simp [intOf]; omega
      · go_wp2
        go_ret
        exact ⟨ret_bool (by rw [HS.out]; exact (sameB_yes (same_end (by rw [show k = n by omega] at ht; exact ht.out) Lx.out Ly.out)).symm), _, rfl⟩
  · have hne : sameB xs ys = false := sameB_no (fun e => hnm (by rw [← lx, ← ly, e]))
    rw [hne]
    have hI : ((n : Int) != (m : Int)) = true := by simp; omega
    clear lx ly hx hy hne
    go_enter Tryd.func36, Tryd.ntmps36
    go_wp2
    go_ret
    exact ⟨rfl, 0, rfl⟩
end Go.Proofs.YtfplkmldleigpaaDoor
