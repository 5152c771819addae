/- A region that draws its order: operations that make memory, and calls whose answer is not fixed. Conditions: none. -/
import Derived.Test.YtfplkmldleigpaaDoorR1
import Derived.Test.YtfplkmldleigpaaDoorM1
namespace Go.Proofs.YtfplkmldleigpaaDoor
open Go.RowKit

section
variable {P : Program} {ops : Array Oper} {R : Act → World → Prop} {S : World → Prop} {listed : Array Bool} {a : Act} {w : World}

theorem wp_region_swap {id : Nat} {d : Bool} {ops ops' : Array Oper} {Q : Exit → Act → World → Prop} (ho : ops = ops') (h : (Code.region id ops' d).wp P Q a w) : (Code.region id ops d).wp P Q a w := ho ▸ h

theorem held_run (i : Nat) {d : Option Tmp} {v : Value} {w' : World} (hk : oneOk ops listed i = true)
    (hw : Region.wanted (opOf ops i) (yielded ops a.tmps) = true) (hd : (opOf ops i).dst = d)
    (hx : S w → (execOp a.eval (opOf ops i)).run P w = .ok (.value v) w')
    (h : S w → S w' ∧ Held P ops R S (listed.setIfInBounds i true) (a.put d v) w') : HStep P ops R S listed i a w := fun hS => by
  simp only [oneOk, Bool.and_eq_true, Nat.blt_eq] at hk
  unfold wpOp
  rw [opOf_some hk.1]
  subst hd
  simp only [hw, if_true]
  refine Or.inl ?_
  simp only [Oper.wp, hx hS, Oper.upon]
  exact h hS

theorem held_mute (i : Nat) {d : Option Tmp} {w' : World} (hk : oneOk ops listed i = true)
    (hw : Region.wanted (opOf ops i) (yielded ops a.tmps) = true) (hd : (opOf ops i).dst = d)
    (hx : S w → (execOp a.eval (opOf ops i)).run P w = .ok .skip w')
    (h : S w → S w' ∧ Held P ops R S (listed.setIfInBounds i true) (a.put d undef) w') : HStep P ops R S listed i a w := fun hS => by
  simp only [oneOk, Bool.and_eq_true, Nat.blt_eq] at hk
  unfold wpOp
  rw [opOf_some hk.1]
  subst hd
  simp only [hw, if_true]
  refine Or.inl ?_
  simp only [Oper.wp, hx hS, Oper.upon]
  exact h hS

theorem held_callE (i : Nat) {d : Option Tmp} {f : FuncId} {args : Array Value} {B : Value → World → Prop} (hk : oneOk ops listed i = true)
    (hw : Region.wanted (opOf ops i) (yielded ops a.tmps) = true) (hd : (opOf ops i).dst = d)
    (hC : S w → Calls P f args w fun e w' => ∃ V, e = .returned V ∧ B V w')
    (hx : (execOp a.eval (opOf ops i)).run P w = .ok (.enter f args) w)
    (h : ∀ V w', S w → B V w' → S w' ∧ Held P ops R S (listed.setIfInBounds i true) (a.put d V) w') : HStep P ops R S listed i a w := fun hS => by
  simp only [oneOk, Bool.and_eq_true, Nat.blt_eq] at hk
  unfold wpOp
  rw [opOf_some hk.1]
  subst hd
  simp only [hw, if_true]
  refine Or.inl ?_
  simp only [Oper.wp, hx, Oper.upon]
  refine (hC hS).mono ?_
  rintro e w' ⟨V, rfl, hB⟩
  exact h V w' hS hB

theorem held_three (i j k : Nat) (hr : Region.ready .any ops listed = [i, j, k]) (hk : oneOk ops listed i = true) (hk' : oneOk ops listed j = true) (hk'' : oneOk ops listed k = true)
    (h : HStep P ops R S listed i a w) (h' : HStep P ops R S listed j a w) (h'' : HStep P ops R S listed k a w) : Held P ops R S listed a w := fun hS => by
  have e1 : leftOf listed = leftOf (listed.setIfInBounds i true) + 1 := by simp only [oneOk, Bool.and_eq_true, Nat.beq_eq] at hk; exact hk.2
  have e2 : leftOf listed = leftOf (listed.setIfInBounds j true) + 1 := by simp only [oneOk, Bool.and_eq_true, Nat.beq_eq] at hk'; exact hk'.2
  have e3 : leftOf listed = leftOf (listed.setIfInBounds k true) + 1 := by simp only [oneOk, Bool.and_eq_true, Nat.beq_eq] at hk''; exact hk''.2
  rw [e1]
  refine wpAnyH_all hr (by simp) (fun q hq => ?_)
  simp only [List.mem_cons, List.not_mem_nil, or_false] at hq
  rcases hq with rfl | rfl | rfl
  · exact wpOp_mono (fun a' w' h => ⟨h.1, h.2 h.1⟩) (h hS)
  · rw [show leftOf (listed.setIfInBounds i true) = leftOf (listed.setIfInBounds q true) by omega]
    exact wpOp_mono (fun a' w' h => ⟨h.1, h.2 h.1⟩) (h' hS)
  · rw [show leftOf (listed.setIfInBounds i true) = leftOf (listed.setIfInBounds q true) by omega]
    exact wpOp_mono (fun a' w' h => ⟨h.1, h.2 h.1⟩) (h'' hS)

/-- a store of a struct in a region that draws -/
theorem held_store (k : Nat) {d : Option Tmp} (hk : oneOk ops listed k = true) (hw : Region.wanted (opOf ops k) (yielded ops a.tmps) = true) (hd : (opOf ops k).dst = d)
    (ty : TypeId) (x y : Operand) (ho : (opOf ops k).op = .store ty x y) (b o : Nat) (cells : Array Value) (hx : a.eval x = .pointer (some ⟨b, o, none⟩)) (hy : a.eval y = .agg cells)
    (ht : S w → w.there b o cells.size) (hi : (P.info? ty).map (·.size) = some cells.size) (h1 : cells.all (·.oneCell') = true)
    (h : S w → S (w.setCells b o cells.toList) ∧ Held P ops R S (listed.setIfInBounds k true) (a.put d undef) (w.setCells b o cells.toList)) : HStep P ops R S listed k a w := fun hS => by
  simp only [oneOk, Bool.and_eq_true, Nat.blt_eq] at hk
  unfold wpOp
  rw [opOf_some hk.1]
  subst hd
  simp only [hw, if_true]
  exact Or.inl (wp_store_mid ty x y ho b o cells hx hy (ht hS) hi h1 (h hS))

/-- the builtin append in a region that draws -/
theorem held_app (k : Nat) {d : Option Tmp} (hk : oneOk ops listed k = true)
    (hw : Region.wanted (opOf ops k) (yielded ops a.tmps) = true) (hd : (opOf ops k).dst = d) (s x : Operand) (t : TypeId)
    (ho : (opOf ops k).op = .call { callee := .builtin .append, args := #[s, x], argTypes := #[t, t] })
    (base : Nat) (e : TypeId) (i : TypeInfo) (z : Value) (size bytes : Nat) (ht : P.underlying t = some (.slice e)) (hi : P.info? e = some i) (hz : i.zero = some z)
    (hsize : i.size = size) (hby : i.bytes = bytes) (hzs : z.cells.size = size) (hsz : 0 < size)
    (v : Value) (n : Nat) (xs : List Value) (hs : a.eval s = v) (hown : w.ownsRow base e size v n xs)
    (B : Nat) (A : Option Addr) (m c : Nat) (news : List Value) (hx : a.eval x = .slice A m c) (hr : Sl w B size A m news) (h1 : ∀ u ∈ news, u.oneCell' = true)
    (h63 : n + m ≤ maxLen) (hbytes : (n + m) * bytes ≤ 140737488355328) (hbase : base ≤ w.heap.size)
    (N : Nat) (hN : N = n + m) (ys : List Value) (hys : ys = xs ++ news)
    (h : ∀ A' c' w', S w → N ≤ c' → w'.ownsRow base e size (.slice A' N c') N ys → w.grownBy w' v.ownBlock → S w' ∧ Held P ops R S (listed.setIfInBounds k true) (a.put d (.slice A' N c')) w') :
    HStep P ops R S listed k a w := fun hS => by
  simp only [oneOk, Bool.and_eq_true, Nat.blt_eq] at hk
  unfold wpOp
  rw [opOf_some hk.1]
  subst hd
  simp only [hw, if_true]
  refine Or.inl ?_
  obtain ⟨v', w', hrun, h2, h3, h4⟩ := run_app (P := P) w base t (opOf ops k).type e i z size bytes ht hi hz hsize hby hzs hsz v n xs hown B A m c news hr h1 h63 hbytes hbase
  obtain ⟨A', c', rfl, hc⟩ := own_shape h2
  subst hN
  subst hys
  unfold Oper.wp execOp
  simp only [ho, resolve, invoke, builtin, Sem.run_bind, Sem.run_pure, Result.andThen_ok, List.map_toArray, List.map_cons, List.map_nil, hs, hx, hrun]
  exact h A' c' w' hS hc h2 h3
end
end Go.Proofs.YtfplkmldleigpaaDoor
