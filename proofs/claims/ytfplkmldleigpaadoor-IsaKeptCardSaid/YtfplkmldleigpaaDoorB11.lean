/- The walk of isa's Ops: a copy of the table in memory of its own. -/
import Derived.Test.YtfplkmldleigpaaDoorB10
namespace Go.Proofs.YtfplkmldleigpaaDoor
open Go.RowKit
set_option linter.unusedVariables false

theorem opT_info : (Tryd.prog.info? 25).map (fun i => (i.zero, i.size, i.bytes)) = some (some (.agg #[.string ⟨#[]⟩, .int .u8 0, .int .i64 0]), 3, 32) := by kernel_rfl
theorem info_of {P : Program} {t : TypeId} {z : Value} {s b : Nat} (h : (P.info? t).map (fun i => (i.zero, i.size, i.bytes)) = some (some z, s, b)) : ∃ i, P.info? t = some i ∧ i.zero = some z ∧ i.size = s ∧ i.bytes = b := by
  obtain ⟨i, hi, h⟩ := Option.map_eq_some_iff.1 h
  simp only [Prod.mk.injEq] at h
  exact ⟨i, hi, h.1, h.2.1, h.2.2⟩
theorem tab_one : ∀ u ∈ tabCells, u.oneCell' = true := by
  have h : tabCells.all (fun u => u.oneCell') = true := by decide +kernel
  exact List.all_eq_true.1 h
theorem below_appB {B : Nat} {a w w' : World} {v : Value} {n : Nat} {xs : List Value} {e : TypeId} {sz : Nat} (h : Below B a w) (ho : w.ownsRow B e sz v n xs) (hg : w.grownBy w' v.ownBlock) (hB : B ≤ w.heap.size) : Below B a w' :=
  h.grown hg hB fun k hk => (ho.lt k hk).1
/-- what a slice of its own holds -/
theorem own_has {w : World} {base sz n c : Nat} {e : TypeId} {A : Option Addr} {cs : List Value} (h : w.ownsRow base e sz (.slice A n c) n cs) (hn : 0 < n) :
    ∃ b, A = some ⟨b, 0, none⟩ ∧ base ≤ b ∧ b < w.heap.size ∧ Has w b 0 cs := by
  have hS := Sl.of_own h
  rcases h.2 with ⟨hv, h0⟩ | ⟨g, cap, cur, hv, hbase, hg, _, _, _, ht⟩
  · omega
  · injection hv with h1 h2 h3
    subst h1
    obtain ⟨b, o, he, hb, hh⟩ := hS.at_ hn
    injection he with he
    injection he with h4 h5
    subst h4; subst h5
    exact ⟨g, rfl, hbase, hb, hh⟩

set_option maxHeartbeats 400000 in
theorem ops_any (w : World) (hT : TabIs 0 w) : Calls Tryd.prog 28 #[] w fun e w' =>
    ∃ b c, e = .returned (.slice (some ⟨b, 0, none⟩) 43 c) ∧ 43 ≤ c ∧ w.heap.size ≤ b ∧ b < w'.heap.size ∧ Has w' b 0 tabCells ∧ Below w.heap.size w w' := by
  obtain ⟨i0, hi0, hz0, hz1, hz2⟩ := info_of opT_info
  obtain ⟨tt, hB⟩ := hT
  have hs := hB.sl (sz := 3) (n := 43) tab_length
  go_enter Tryd.func28, Tryd.ntmps28
  go_wp2_with (first
    | (at_builtin
       refine wpList_app _ rfl (.const (.slice none 0 0)) (.tmp 1) _ rfl w.heap.size 25 i0 _ 3 32 Tryd.underlying42 hi0 hz0 hz1 hz2 rfl (by omega) (.slice none 0 0) 0 [] rfl (own_nil _ _ _ _) w.heap.size _ 43 43 tabCells rfl hs tab_one (by unfold maxLen; omega) (by omega) (Nat.le_refl _) 43 rfl tabCells rfl ?_
       intro A1 c1 w1 hc1 hown1 hg1 _
       have hb1 : Below w.heap.size w w1 := below_appB (Below.refl _ _) (own_nil w w.heap.size 25 3) hg1 (Nat.le_refl _)))
  go_ret
  obtain ⟨b, rfl, h1, h2, h3⟩ := own_has hown1 (by omega)
  exact ⟨b, c1, rfl, hc1, h1, h2, h3, hb1⟩
end Go.Proofs.YtfplkmldleigpaaDoor
