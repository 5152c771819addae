/- A region that draws its order, taken in an order of the prover's own: the operations and what follows are names here, so that no step looks into them. Conditions: none. -/
import Derived.Test.YtfplkmldleigpaaDoorP1
import Derived.Deep.RegionHeld3
namespace Go.Proofs.YtfplkmldleigpaaDoor
open Go.RowKit

/-- The operations of the region of that number in a code. -/
def regIn : Code → Nat → Option (Array Oper)
  | .region i ops _, n => if Nat.beq i n then some ops else none
  | .seq a b, n => match regIn a n with | some o => some o | none => regIn b n
  | .cond _ a b, n => match regIn a n with | some o => some o | none => regIn b n
  | .block _ b, n => regIn b n
  | .loop b, n => regIn b n
  | .scope b, n => regIn b n
  | .rangeFunc _ _ a b, n => match regIn a n with | some o => some o | none => regIn b n
  | _, _ => none
def regOf (c : Option Code) (n : Nat) : Array Oper := match c with | some c => (match regIn c n with | some o => o | none => #[]) | none => #[]
def opOf (ops : Array Oper) (i : Nat) : Oper := match ops[i]? with | some o => o | none => default
theorem opOf_some {ops : Array Oper} {i : Nat} (h : i < ops.size) : ops[i]? = some (opOf ops i) := by
  unfold opOf; rw [Array.getElem?_eq_getElem h]

/-- Q's way on, and no other. -/
def only (R : Act → World → Prop) : Exit → Act → World → Prop
  | .normal, a, w => R a w
  | _, _, _ => False

def leftOf (l : Array Bool) : Nat := (l.toList.filter (!·)).length

section
variable {P : Program} {ops : Array Oper} {R : Act → World → Prop} {S : World → Prop} {listed : Array Bool} {a : Act} {w : World}

def Held (P : Program) (ops : Array Oper) (R : Act → World → Prop) (S : World → Prop) (listed : Array Bool) (a : Act) (w : World) : Prop :=
  S w → wpAnyH P .any ops (only R) S (leftOf listed) listed a w
def HStep (P : Program) (ops : Array Oper) (R : Act → World → Prop) (S : World → Prop) (listed : Array Bool) (i : Nat) (a : Act) (w : World) : Prop :=
  S w → wpOp P ops (only R) i (fun a' w' => S w' ∧ Held P ops R S (listed.setIfInBounds i true) a' w') a w

def takeOk (ops : Array Oper) (listed : Array Bool) (i : Nat) : Bool :=
  Nat.blt i ops.size && Region.noSelect ops && Region.free .any ops listed i && (Region.ready .any ops listed).contains i && Nat.beq (leftOf listed) (leftOf (listed.setIfInBounds i true) + 1)
theorem takeOk_spec {i : Nat} (h : takeOk ops listed i = true) : i < ops.size ∧ Region.noSelect ops = true ∧ Region.free .any ops listed i = true ∧ (Region.ready .any ops listed).contains i = true ∧
    leftOf listed = leftOf (listed.setIfInBounds i true) + 1 := by
  simp only [takeOk, Bool.and_eq_true, Nat.beq_eq, Nat.blt_eq] at h
  exact ⟨h.1.1.1.1, h.1.1.1.2, h.1.1.2, h.1.2, h.2⟩

theorem held_start {id : Nat} {ops' : Array Oper} {l0 : Array Bool} {Q : Exit → Act → World → Prop} (ho : ops = ops') (hm : P.follows .mixedOrders = true)
    (h0 : Array.replicate ops'.size false = l0) (hl : leftOf (Array.replicate ops'.size false) = ops'.size) (hS : S w.drew)
    (h : ∀ R : Act → World → Prop, Shut (∀ a w, Q .normal a w → R a w) → Held P ops' R S l0 a w.drew) : (Code.region id ops true).wp P Q a w := by
  subst ho; subst h0
  have h1 := h (Q .normal) (fun _ _ h => h)
  refine Code.wp_mono (fun e a w he => ?_) (wp_region_held_drew (Q := only (Q .normal)) hm hS (fun hS => ?_))
  · cases e <;> first | exact he | exact he.elim
  · have h2 := h1 hS
    rw [hl] at h2
    exact h2

theorem held_take (i : Nat) {d : Option Tmp} {v : Value} (hk : takeOk ops listed i = true) (hw : Region.wanted (opOf ops i) (yielded ops a.tmps) = true)
    (hd : (opOf ops i).dst = d) (hy : ∀ w, S w → (execOp a.eval (opOf ops i)).run P w = .ok (.value v) w)
    (h : Held P ops R S (listed.setIfInBounds i true) (a.put d v) w) : Held P ops R S listed a w := fun hS => by
  obtain ⟨h1, h2, h3, h4, h5⟩ := takeOk_spec hk
  rw [h5]
  subst hd
  exact wpAnyH_take (opOf_some h1) h2 h3 h4 (fun _ _ _ h => h) (Or.inl ⟨hw, hy⟩) hS (h hS)

theorem held_skip (i : Nat) {d : Option Tmp} (hk : takeOk ops listed i = true) (hw : Region.wanted (opOf ops i) (yielded ops a.tmps) = false)
    (hd : (opOf ops i).dst = d) (h : Held P ops R S (listed.setIfInBounds i true) (a.put d undef) w) : Held P ops R S listed a w := fun hS => by
  obtain ⟨h1, h2, h3, h4, h5⟩ := takeOk_spec hk
  rw [h5]
  subst hd
  exact wpAnyH_take (opOf_some h1) h2 h3 h4 (fun _ _ _ h => h) (Or.inr ⟨hw, rfl⟩) hS (h hS)

def oneOk (ops : Array Oper) (listed : Array Bool) (i : Nat) : Bool :=
  Nat.blt i ops.size && Nat.beq (leftOf listed) (leftOf (listed.setIfInBounds i true) + 1)

theorem held_call (i : Nat) {d : Option Tmp} {f : FuncId} {args : Array Value} {V : Value} {B : World → Prop} (hk : oneOk ops listed i = true)
    (hw : Region.wanted (opOf ops i) (yielded ops a.tmps) = true) (hd : (opOf ops i).dst = d)
    (hC : S w → Calls P f args w fun e w' => e = .returned V ∧ B w')
    (hx : (execOp a.eval (opOf ops i)).run P w = .ok (.enter f args) w)
    (h : ∀ w', S w → B w' → S w' ∧ Held P ops R S (listed.setIfInBounds i true) (a.put d V) w') : HStep P ops R S listed i a w := fun hS => by
  simp only [oneOk, Bool.and_eq_true, Nat.blt_eq] at hk
  unfold wpOp
  rw [opOf_some hk.1]
  subst hd
  simp only [hw, if_true]
  refine Or.inl ?_
  simp only [Oper.wp, hx, Oper.upon]
  refine (hC hS).mono ?_
  rintro e w' ⟨rfl, hB⟩
  exact h w' hS hB

theorem held_one (i : Nat) (hr : Region.ready .any ops listed = [i]) (hk : oneOk ops listed i = true) (h : HStep P ops R S listed i a w) : Held P ops R S listed a w := fun hS => by
  have hk2 : leftOf listed = leftOf (listed.setIfInBounds i true) + 1 := by simp only [oneOk, Bool.and_eq_true, Nat.beq_eq] at hk; exact hk.2
  rw [hk2]
  refine wpAnyH_all hr (by simp) (fun j hj => ?_)
  simp only [List.mem_singleton] at hj
  subst hj
  exact wpOp_mono (fun a' w' h => ⟨h.1, h.2 h.1⟩) (h hS)

theorem held_two (i j : Nat) (hr : Region.ready .any ops listed = [i, j]) (hk : oneOk ops listed i = true) (hk' : oneOk ops listed j = true)
    (h : HStep P ops R S listed i a w) (h' : HStep P ops R S listed j a w) : Held P ops R S listed a w := fun hS => by
  have hk2 : leftOf listed = leftOf (listed.setIfInBounds i true) + 1 := by simp only [oneOk, Bool.and_eq_true, Nat.beq_eq] at hk; exact hk.2
  have hk3 : leftOf listed = leftOf (listed.setIfInBounds j true) + 1 := by simp only [oneOk, Bool.and_eq_true, Nat.beq_eq] at hk'; exact hk'.2
  rw [hk2]
  refine wpAnyH_all hr (by simp) (fun k hkk => ?_)
  simp only [List.mem_cons, List.not_mem_nil, or_false] at hkk
  rcases hkk with rfl | rfl
  · exact wpOp_mono (fun a' w' h => ⟨h.1, h.2 h.1⟩) (h hS)
  · have e : leftOf (listed.setIfInBounds i true) = leftOf (listed.setIfInBounds k true) := by omega
    rw [e]
    exact wpOp_mono (fun a' w' h => ⟨h.1, h.2 h.1⟩) (h' hS)

theorem held_done (hr : Region.ready .any ops listed = []) (h : S w → R a w) : Held P ops R S listed a w := fun hS => wpAnyH_done hr (h hS) _
end
end Go.Proofs.YtfplkmldleigpaaDoor
