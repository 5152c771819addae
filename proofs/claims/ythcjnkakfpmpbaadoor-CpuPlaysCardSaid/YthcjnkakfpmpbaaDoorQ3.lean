import Derived.Test.YthcjnkakfpmpbaaDoorQ1
import Derived.Deep.RegionHeld3
import Derived.Test.YthcjnkakfpmpbaaDoorQ2
import Derived.Laws.ComplexArith
import Derived.WalkLawsBesides
namespace Go.Proofs.YthcjnkakfpmpbaaDoor
open Go.RowKit
def regIn : Code → Nat → Option (Array Oper)
  | .region i ops _,n => if Nat.beq i n then some ops else none
  | .seq a b,n => match regIn a n with | some o => some o | none => regIn b n
  | .cond _ a b,n => match regIn a n with | some o => some o | none => regIn b n
  | .block _ b,n => regIn b n
  | .loop b,n => regIn b n
  | .scope b,n => regIn b n
  | .rangeFunc _ _ a b,n => match regIn a n with | some o => some o | none => regIn b n
  | _,_ => none
def regOf (c : Option Code) (n : Nat) : Array Oper := match c with | some c => (match regIn c n with | some o => o | none => #[]) | none => #[]
def opOf (ops : Array Oper) (i : Nat) : Oper := match ops[i]? with | some o => o | none => default
theorem opOf_some {ops : Array Oper} {i : Nat} (h : i < ops.size) : ops[i]? = some (opOf ops i) := by
  unfold opOf; rw [Array.getElem?_eq_getElem h]
def only (R : Act → World → Prop) : Exit → Act → World → Prop
  | .normal,a,w => R a w
  | _,_,_ => False
def leftOf (l : Array Bool) : Nat := (l.toList.filter (!·)).length
section
variable {P : Program} {ops : Array Oper} {R : Act → World → Prop} {S : World → Prop} {listed : Array Bool} {a : Act} {w : World}
def Held (P : Program) (ops : Array Oper) (R : Act → World → Prop) (S : World → Prop) (listed : Array Bool) (a : Act) (w : World) : Prop :=
  S w → wpAnyH P .any ops (only R) S (leftOf listed) listed a w
def HStep (P : Program) (ops : Array Oper) (R : Act → World → Prop) (S : World → Prop) (listed : Array Bool) (i : Nat) (a : Act) (w : World) : Prop :=
  S w → wpOp P ops (only R) i (fun a' w' => S w' ∧ Held P ops R S (listed.setIfInBounds i true) a' w') a w
def takeOk (ops : Array Oper) (listed : Array Bool) (i : Nat) : Bool :=
  Nat.blt i ops.size && Region.noSelect ops && Region.free .any ops listed i && (Region.ready .any ops listed).contains i && Nat.beq (leftOf listed) (leftOf (listed.setIfInBounds i true) + 1)
theorem takeOk_spec {i : Nat} (h : takeOk ops listed i = true) : i < ops.size ∧ Region.noSelect ops = true ∧ Region.free .any ops listed i = true ∧ (Region.ready .any ops listed).contains i = true ∧
    leftOf listed = leftOf (listed.setIfInBounds i true) + 1 := by
  simp only [takeOk,Bool.and_eq_true,Nat.beq_eq,Nat.blt_eq] at h
  exact ⟨h.1.1.1.1,h.1.1.1.2,h.1.1.2,h.1.2,h.2⟩
theorem held_start {id : Nat} {ops' : Array Oper} {l0 : Array Bool} {Q : Exit → Act → World → Prop} (ho : ops = ops') (hm : P.follows .mixedOrders = true)
    (h0 : Array.replicate ops'.size false = l0) (hl : leftOf (Array.replicate ops'.size false) = ops'.size) (hS : S w.drew)
    (h : ∀ R : Act → World → Prop,Shut (∀ a w,Q .normal a w → R a w) → Held P ops' R S l0 a w.drew) : (Code.region id ops true).wp P Q a w := by
  subst ho; subst h0
  have h1 := h (Q .normal) (fun _ _ h => h)
  refine Code.wp_mono (fun e a w he => ?_) (wp_region_held_drew (Q := only (Q .normal)) hm hS (fun hS => ?_))
  · cases e <;> first | exact he | exact he.elim
  · have h2 := h1 hS
    rw [hl] at h2
    exact h2
theorem held_take (i : Nat) {d : Option Tmp} {v : Value} (hk : takeOk ops listed i = true) (hw : Region.wanted (opOf ops i) (yielded ops a.tmps) = true)
    (hd : (opOf ops i).dst = d) (hy : ∀ w,S w → (execOp a.eval (opOf ops i)).run P w = .ok (.value v) w)
    (h : Held P ops R S (listed.setIfInBounds i true) (a.put d v) w) : Held P ops R S listed a w := fun hS => by
  obtain ⟨h1,h2,h3,h4,h5⟩ := takeOk_spec hk
  rw [h5]
  subst hd
  exact wpAnyH_take (opOf_some h1) h2 h3 h4 (fun _ _ _ h => h) (Or.inl ⟨hw,hy⟩) hS (h hS)
def oneOk (ops : Array Oper) (listed : Array Bool) (i : Nat) : Bool :=
  Nat.blt i ops.size && Nat.beq (leftOf listed) (leftOf (listed.setIfInBounds i true) + 1)
theorem held_call (i : Nat) {d : Option Tmp} {f : FuncId} {args : Array Value} {V : Value} {B : World → Prop} (hk : oneOk ops listed i = true)
    (hw : Region.wanted (opOf ops i) (yielded ops a.tmps) = true) (hd : (opOf ops i).dst = d)
    (hC : S w → Calls P f args w fun e w' => e = .returned V ∧ B w')
    (hx : (execOp a.eval (opOf ops i)).run P w = .ok (.enter f args) w)
    (h : ∀ w',S w → B w' → S w' ∧ Held P ops R S (listed.setIfInBounds i true) (a.put d V) w') : HStep P ops R S listed i a w := fun hS => by
  simp only [oneOk,Bool.and_eq_true,Nat.blt_eq] at hk
  unfold wpOp
  rw [opOf_some hk.1]
  subst hd
  simp only [hw,if_true]
  refine Or.inl ?_
  simp only [Oper.wp,hx,Oper.upon]
  refine (hC hS).mono ?_
  rintro e w' ⟨rfl,hB⟩
  exact h w' hS hB
theorem held_one (i : Nat) (hr : Region.ready .any ops listed = [i]) (hk : oneOk ops listed i = true) (h : HStep P ops R S listed i a w) : Held P ops R S listed a w := fun hS => by
  have hk2 : leftOf listed = leftOf (listed.setIfInBounds i true) + 1 := by simp only [oneOk,Bool.and_eq_true,Nat.beq_eq] at hk; exact hk.2
  rw [hk2]
  refine wpAnyH_all hr (by simp) (fun j hj => ?_)
  simp only [List.mem_singleton] at hj
  subst hj
  exact wpOp_mono (fun a' w' h => ⟨h.1,h.2 h.1⟩) (h hS)
theorem held_two (i j : Nat) (hr : Region.ready .any ops listed = [i,j]) (hk : oneOk ops listed i = true) (hk' : oneOk ops listed j = true)
    (h : HStep P ops R S listed i a w) (h' : HStep P ops R S listed j a w) : Held P ops R S listed a w := fun hS => by
  have hk2 : leftOf listed = leftOf (listed.setIfInBounds i true) + 1 := by simp only [oneOk,Bool.and_eq_true,Nat.beq_eq] at hk; exact hk.2
  have hk3 : leftOf listed = leftOf (listed.setIfInBounds j true) + 1 := by simp only [oneOk,Bool.and_eq_true,Nat.beq_eq] at hk'; exact hk'.2
  rw [hk2]
  refine wpAnyH_all hr (by simp) (fun k hkk => ?_)
  simp only [List.mem_cons,List.not_mem_nil,or_false] at hkk
  rcases hkk with rfl | rfl
  · exact wpOp_mono (fun a' w' h => ⟨h.1,h.2 h.1⟩) (h hS)
  · have e : leftOf (listed.setIfInBounds i true) = leftOf (listed.setIfInBounds k true) := by omega
    rw [e]
    exact wpOp_mono (fun a' w' h => ⟨h.1,h.2 h.1⟩) (h' hS)
theorem held_done (hr : Region.ready .any ops listed = []) (h : S w → R a w) : Held P ops R S listed a w := fun hS => wpAnyH_done hr (h hS) _
end
end Go.Proofs.YthcjnkakfpmpbaaDoor
namespace Go.Proofs.YthcjnkakfpmpbaaDoor
open Go.RowKit
section
variable {P : Program} {ops : Array Oper} {R : Act → World → Prop} {S : World → Prop} {listed : Array Bool} {a : Act} {w : World}
theorem wp_region_swap {id : Nat} {d : Bool} {ops ops' : Array Oper} {Q : Exit → Act → World → Prop} (ho : ops = ops') (h : (Code.region id ops' d).wp P Q a w) : (Code.region id ops d).wp P Q a w := ho ▸ h
theorem held_run (i : Nat) {d : Option Tmp} {v : Value} {w' : World} (hk : oneOk ops listed i = true)
    (hw : Region.wanted (opOf ops i) (yielded ops a.tmps) = true) (hd : (opOf ops i).dst = d)
    (hx : S w → (execOp a.eval (opOf ops i)).run P w = .ok (.value v) w')
    (h : S w → S w' ∧ Held P ops R S (listed.setIfInBounds i true) (a.put d v) w') : HStep P ops R S listed i a w := fun hS => by
  simp only [oneOk,Bool.and_eq_true,Nat.blt_eq] at hk
  unfold wpOp
  rw [opOf_some hk.1]
  subst hd
  simp only [hw,if_true]
  refine Or.inl ?_
  simp only [Oper.wp,hx hS,Oper.upon]
  exact h hS
theorem held_mute (i : Nat) {d : Option Tmp} {w' : World} (hk : oneOk ops listed i = true)
    (hw : Region.wanted (opOf ops i) (yielded ops a.tmps) = true) (hd : (opOf ops i).dst = d)
    (hx : S w → (execOp a.eval (opOf ops i)).run P w = .ok .skip w')
    (h : S w → S w' ∧ Held P ops R S (listed.setIfInBounds i true) (a.put d undef) w') : HStep P ops R S listed i a w := fun hS => by
  simp only [oneOk,Bool.and_eq_true,Nat.blt_eq] at hk
  unfold wpOp
  rw [opOf_some hk.1]
  subst hd
  simp only [hw,if_true]
  refine Or.inl ?_
  simp only [Oper.wp,hx hS,Oper.upon]
  exact h hS
theorem held_callE (i : Nat) {d : Option Tmp} {f : FuncId} {args : Array Value} {B : Value → World → Prop} (hk : oneOk ops listed i = true)
    (hw : Region.wanted (opOf ops i) (yielded ops a.tmps) = true) (hd : (opOf ops i).dst = d)
    (hC : S w → Calls P f args w fun e w' => ∃ V,e = .returned V ∧ B V w')
    (hx : (execOp a.eval (opOf ops i)).run P w = .ok (.enter f args) w)
    (h : ∀ V w',S w → B V w' → S w' ∧ Held P ops R S (listed.setIfInBounds i true) (a.put d V) w') : HStep P ops R S listed i a w := fun hS => by
  simp only [oneOk,Bool.and_eq_true,Nat.blt_eq] at hk
  unfold wpOp
  rw [opOf_some hk.1]
  subst hd
  simp only [hw,if_true]
  refine Or.inl ?_
  simp only [Oper.wp,hx,Oper.upon]
  refine (hC hS).mono ?_
  rintro e w' ⟨V,rfl,hB⟩
  exact h V w' hS hB
theorem held_store (k : Nat) {d : Option Tmp} (hk : oneOk ops listed k = true) (hw : Region.wanted (opOf ops k) (yielded ops a.tmps) = true) (hd : (opOf ops k).dst = d)
    (ty : TypeId) (x y : Operand) (ho : (opOf ops k).op = .store ty x y) (b o : Nat) (cells : Array Value) (hx : a.eval x = .pointer (some ⟨b,o,none⟩)) (hy : a.eval y = .agg cells)
    (ht : S w → w.there b o cells.size) (hi : (P.info? ty).map (·.size) = some cells.size) (h1 : cells.all (·.oneCell') = true)
    (h : S w → S (w.setCells b o cells.toList) ∧ Held P ops R S (listed.setIfInBounds k true) (a.put d undef) (w.setCells b o cells.toList)) : HStep P ops R S listed k a w := fun hS => by
  simp only [oneOk,Bool.and_eq_true,Nat.blt_eq] at hk
  unfold wpOp
  rw [opOf_some hk.1]
  subst hd
  simp only [hw,if_true]
  exact Or.inl (wp_store_mid ty x y ho b o cells hx hy (ht hS) hi h1 (h hS))
end
end Go.Proofs.YthcjnkakfpmpbaaDoor
namespace Go.Proofs.YthcjnkakfpmpbaaDoor
open Go.RowKit
set_option linter.unusedVariables false
section
variable {P : Program} (w : World)
end
section
variable {P : Program} {ops : Array Oper} {R : Act → World → Prop} {S : World → Prop} {listed : Array Bool} {a : Act} {w : World}
theorem held_row (k : Nat) {d : Option Tmp} (hk : oneOk ops listed k = true) (hw : Region.wanted (opOf ops k) (yielded ops a.tmps) = true) (hd : (opOf ops k).dst = d) (s x : Operand) (t : TypeId)
    (ho : (opOf ops k).op = .call { callee := .builtin .append,args := #[s,x],argTypes := #[t,t] })
    (base : Nat) (e : TypeId) (i : TypeInfo) (z : Value) (bytes : Nat) (ht : P.underlying t = some (.slice e)) (hi : P.info? e = some i) (hz : i.zero = some z)
    (hsize : i.size = 1) (hby : i.bytes = bytes) (hzs : z.cells.size = 1) (v : Value) (n : Nat) (xs : List Value) (hs : a.eval s = v) (hrow : Row w base e v n xs)
    (b off c : Nat) (u : Value) (hx : a.eval x = .slice (some ⟨b,off,none⟩) 1 c) (hu : w.cell? ⟨b,off,none⟩ = some u) (h1 : u.oneCell' = true) (h63 : n + 1 ≤ maxLen) (hbytes : (n + 1) * bytes ≤ 140737488355328) (hbase : base ≤ w.heap.size)
    (h : ∀ A' c' w',S w → Row w' base e (.slice A' (n + 1) c') (n + 1) (xs ++ [u]) → w.grownBy w' v.ownBlock → (∀ k,Value.ownBlock (.slice A' (n + 1) c') = some k → v.ownBlock = some k ∨ w.heap.size ≤ k) →
      S w' ∧ Held P ops R S (listed.setIfInBounds k true) (a.put d (.slice A' (n + 1) c')) w') : HStep P ops R S listed k a w := fun hS => by
  simp only [oneOk,Bool.and_eq_true,Nat.blt_eq] at hk
  unfold wpOp
  rw [opOf_some hk.1]
  subst hd
  simp only [hw,if_true]
  refine Or.inl ?_
  obtain ⟨v',w',hrun,h2,h3,h4⟩ := run_append_row (P := P) w base t (opOf ops k).type e i z bytes ht hi hz hsize hby hzs v n xs hrow ⟨b,off,none⟩ c u (by rw [add_flat]; exact hu) h1 h63 hbytes hbase
  obtain ⟨A',c',rfl,hc⟩ := h2.shape
  unfold Oper.wp execOp
  simp only [ho,resolve,invoke,builtin,Sem.run_bind,Sem.run_pure,Result.andThen_ok,List.map_toArray,List.map_cons,List.map_nil,hs,hx,hrun]
  exact h A' c' w' hS h2 h3 h4
end
end Go.Proofs.YthcjnkakfpmpbaaDoor
namespace Go.Proofs.YthcjnkakfpmpbaaDoor
open Go.RowKit
set_option linter.unusedVariables false
def BookAt (w : World) (tB tS e : TypeId) (sz gB : Nat) (good : List Value → Prop) (U : Nat → Prop) : Prop :=
  ∃ A1 c1 A2 c2 h es,Book w tB tS e sz gB A1 c1 A2 c2 h es ∧ es.length ≤ 4000 ∧ (-9223372036854775808 ≤ h ∧ h ≤ 9223372036854775807) ∧ (∀ x ∈ es,good x.cs) ∧
    (∀ k,Bk.Used gB (.slice A1 es.length c1) (.slice A2 es.length c2) es k → U k) ∧ ∀ k,U k → gB ≤ k ∧ k < w.heap.size
structure KFr (U : Nat → Prop) (w w' : World) : Prop where
  os : w'.os = w.os
  tape : w'.tape = w.tape
  output : w'.output = w.output
  size : w.heap.size ≤ w'.heap.size
  block : ∀ k,k < w.heap.size → ¬ U k → w'.heap[k]? = w.heap[k]?
section
variable {w w' w'' : World} {tB tS e : TypeId} {sz gB : Nat} {good : List Value → Prop} {U U' : Nat → Prop}
theorem KFr.refl (U : Nat → Prop) (w : World) : KFr U w w := ⟨rfl,rfl,rfl,Nat.le_refl _,fun _ _ _ => rfl⟩
theorem KFr.below (h : KFr U w w') (hU : ∀ k,U k → gB ≤ k) (hz : gB ≤ w.heap.size) : Below gB w w' :=
  ⟨h.os,h.tape,h.output,h.size,fun k hk => h.block k (by omega) (fun hu => by have := hU k hu; omega)⟩
theorem BookAt.bound (b : BookAt w tB tS e sz gB good U) : ∀ k,U k → gB ≤ k ∧ k < w.heap.size := by
  obtain ⟨_,_,_,_,_,_,_,_,_,_,_,h⟩ := b
  exact h
theorem BookAt.at_ (b : BookAt w tB tS e sz gB good U) : U gB ∧ gB < w.heap.size := by
  obtain ⟨_,_,_,_,_,_,_,_,_,_,h,h'⟩ := b
  have := h gB (.inl rfl)
  exact ⟨this,(h' gB this).2⟩
theorem BookAt.keep (b : BookAt w tB tS e sz gB good U) (hz : w.heap.size ≤ w'.heap.size) (hk : ∀ k,U k → w'.heap[k]? = w.heap[k]?) : BookAt w' tB tS e sz gB good U := by
  obtain ⟨A1,c1,A2,c2,h,es,hb,h1,h2,h3,h4,h5⟩ := b
  exact ⟨A1,c1,A2,c2,h,es,Bk.keep hb fun k hu => hk k (h4 k hu),h1,h2,h3,h4,fun k hu => ⟨(h5 k hu).1,Nat.lt_of_lt_of_le (h5 k hu).2 hz⟩⟩
theorem BookAt.below (b : BookAt w tB tS e sz gB good U) (h : Below w.heap.size w w') : BookAt w' tB tS e sz gB good U :=
  b.keep h.size fun k hu => h.block k (b.bound k hu).2
theorem BookAt.drewN (b : BookAt w tB tS e sz gB good U) (n : Nat) : BookAt (w.drewN n) tB tS e sz gB good U := b.keep (Nat.le_refl _) fun _ _ => rfl
theorem BookAt.alloc (b : BookAt w tB tS e sz gB good U) (o : Obj) : BookAt (w.alloc o) tB tS e sz gB good U :=
  b.keep (by simp) fun k hu => Below.heap_alloc w o k (b.bound k hu).2
end
section
variable {w w' : World} {base n : Nat} {e : TypeId} {v : Value} {xs : List Value}
theorem Row.at_ {A : Option Addr} {c : Nat} (h : Row w base e (.slice A n c) n xs) {k : Nat} {u : Value} (hk : xs[k]? = some u) : ∃ g o,A = some ⟨g,o,none⟩ ∧ base ≤ g ∧ g < w.heap.size ∧ w.cell? ⟨g,o + k,none⟩ = some u := by
  have hl : k < xs.length := (List.getElem?_eq_some_iff.1 hk).1
  rcases h.2 with ⟨hv,h0⟩ | ⟨g,o,cap,cur,hv,hb,hg,hc,hm,hs,ht⟩
  · have := h.1; omega
  · injection hv with h1 h2 h3
    subst h1
    exact ⟨g,o,rfl,hb,(Array.getElem?_eq_some_iff.1 hg).1,by rw [cell_of_row w g (o + k) cur e (0,0) hg]; exact ht k u hk⟩
theorem Row.cell {g o c : Nat} (h : Row w base e (.slice (some ⟨g,o,none⟩) n c) n xs) {k : Nat} {u : Value} (hk : xs[k]? = some u) : base ≤ g ∧ w.cell? ⟨g,o + k,none⟩ = some u := by
  obtain ⟨g',o',he,hb,_,hc⟩ := h.at_ hk
  injection he with he
  injection he with h1 h2
  subst h1
  subst h2
  exact ⟨hb,hc⟩
theorem Row.cap {A : Option Addr} {c : Nat} (h : Row w base e (.slice A n c) n xs) : n ≤ c ∧ c ≤ maxLen := by
  rcases h.2 with ⟨hv,h0⟩ | ⟨g,o,cap,cur,hv,hb,hg,hc,hm,hs,ht⟩
  · injection hv with h1 h2 h3
    subst h3
    exact ⟨by omega,Nat.zero_le _⟩
  · injection hv with h1 h2 h3
    subst h3
    exact ⟨hc,hm⟩
end
section
variable {w w1 : World} {tB tS e : TypeId} {sz gB : Nat} {v1 v2 : Value} {n1 n2 : Nat} {xs1 xs2 : List Value} {h : Int} {es : List Ent}
end
end Go.Proofs.YthcjnkakfpmpbaaDoor
namespace Go.Proofs.YthcjnkakfpmpbaaDoor
open Go.RowKit
set_option linter.unusedVariables false
set_option linter.unusedSimpArgs false
theorem cname_any (op : Int) (w : World) (hT : TabIs 0 w) : Calls Tryd.prog 82 #[.int .i64 op] w fun e w' => e = .returned (.string ⟨(opName op).toArray⟩) ∧ Below w.heap.size w w' := by
  go_enter Tryd.func82,Tryd.ntmps82
  go_wp2_with (first
    | (go_at_call 54; refine (at_any op w hT).mono ?_; rintro e w1 ⟨rfl,hb1⟩)
    | fail)
  go_ret
  exact ⟨rfl,hb1.alloc hb1.size _⟩
theorem there_of {w1 : World} {g : Nat} {t : TypeId} {cs : List Value} {n : Nat} (h : Blk w1 g t cs) (hn : cs.length = n) : w1.there g 0 n :=
  fun t ht => ⟨by rw [Nat.zero_add,h.cell,List.getElem?_eq_getElem (by omega)]; rfl,h.free _⟩
theorem wpList_st3 {P : Program} {w : World} {X : Nat} {t : TypeId} {z0 z1 z2 : Value} (hX : Blk w X t [z0,z1,z2]) {ops : Array Oper} {rest : List Oper} {a : Act} {o : Oper} {Q : Exit → Act → World → Prop} (hgd : o.guard = none) (ty : TypeId) (p y : Operand) (c0 c1 c2 : Value)
    (ho : o.op = .store ty p y) (hp : a.eval p = .pointer (some ⟨X,0,none⟩)) (hy : a.eval y = .agg #[c0,c1,c2]) (h1 : (#[c0,c1,c2] : Array Value).all (·.oneCell') = true) (hi : (P.info? ty).map (·.size) = some 3)
    (hn : ((w.setCells X 0 [c0,c1,c2]).cell? ⟨X,0,none⟩ = some c0 ∧ (w.setCells X 0 [c0,c1,c2]).cell? ⟨X,1,none⟩ = some c1 ∧ (w.setCells X 0 [c0,c1,c2]).cell? ⟨X,2,none⟩ = some c2) → wpList P ops Q rest (a.put o.dst undef) (w.setCells X 0 [c0,c1,c2])) : wpList P ops Q (o :: rest) a w := by
  have hB := ((hX.set_ 0 c0).set_ 1 c1).set_ 2 c2
  exact wpList_store_mid hgd ty p y ho X 0 #[c0,c1,c2] hp hy (there_of hX rfl) hi h1 (hn ⟨hB.cell 0,hB.cell 1,hB.cell 2⟩)
theorem wpList_st5 {P : Program} {w : World} {X : Nat} {t : TypeId} {z0 z1 z2 z3 z4 : Value} (hX : Blk w X t [z0,z1,z2,z3,z4]) {ops : Array Oper} {rest : List Oper} {a : Act} {o : Oper} {Q : Exit → Act → World → Prop} (hgd : o.guard = none) (ty : TypeId) (p y : Operand) (c0 c1 c2 c3 c4 : Value)
    (ho : o.op = .store ty p y) (hp : a.eval p = .pointer (some ⟨X,0,none⟩)) (hy : a.eval y = .agg #[c0,c1,c2,c3,c4]) (h1 : (#[c0,c1,c2,c3,c4] : Array Value).all (·.oneCell') = true) (hi : (P.info? ty).map (·.size) = some 5)
    (hn : ∀ w',w' = w.setCells X 0 [c0,c1,c2,c3,c4] → (w'.cell? ⟨X,0,none⟩ = some c0 ∧ w'.cell? ⟨X,1,none⟩ = some c1 ∧ w'.cell? ⟨X,2,none⟩ = some c2 ∧ w'.cell? ⟨X,3,none⟩ = some c3 ∧ w'.cell? ⟨X,4,none⟩ = some c4) → wpList P ops Q rest (a.put o.dst undef) w') : wpList P ops Q (o :: rest) a w := by
  have hB := ((((hX.set_ 0 c0).set_ 1 c1).set_ 2 c2).set_ 3 c3).set_ 4 c4
  exact wpList_store_mid hgd ty p y ho X 0 #[c0,c1,c2,c3,c4] hp hy (there_of hX rfl) hi h1 (hn _ rfl ⟨hB.cell 0,hB.cell 1,hB.cell 2,hB.cell 3,hB.cell 4⟩)
theorem below_cells {W : World} {g B : Nat} (hB : B ≤ g) : ∀ (vs : List Value) (o : Nat) (w1 : World),Below B W w1 → Below B W (w1.setCells g o vs)
  | [],_,_,h => h
  | v :: r,o,w1,h => below_cells hB r (o + 1) _ (h.setCell (p := ⟨g,o,none⟩) hB v)
theorem ctrap_any (n : Int) (w : World) : Calls Tryd.prog 57 #[.int .i64 n] w fun e w' => e = .returned (.agg #[.int .i64 6,.int .i64 n,.int .u32 0]) ∧ Below w.heap.size w w' := by
  go_enter Tryd.func57,Tryd.ntmps57
  go_wp2_with fail
  refine bodyPost_ret (v := .agg #[.int .i64 6,.int .i64 n,.int .u32 0]) (by simp [results,Tryd.results57,go_sem]) rfl ⟨rfl,?_⟩
  exact (Below.refl w.heap.size w).alloc (Nat.le_refl _) _
def b01 (b : Bool) : Int := if b then 1 else 0
theorem truth_any (b : Bool) (w : World) : Calls Tryd.prog 83 #[.bool b] w fun e w' => e = .returned (.int .i32 (b01 b)) ∧ w = w' := by
  cases b
  · go_enter Tryd.func83,Tryd.ntmps83
    go_wp2_with fail
    go_ret
    exact ⟨rfl,rfl⟩
  · go_enter Tryd.func83,Tryd.ntmps83
    go_wp2_with fail
    go_ret
    exact ⟨rfl,rfl⟩
set_option maxHeartbeats 1000000 in
theorem op_any (s : ByteArray) (a b n : Int) (w : World) : Calls Tryd.prog 27 #[.string s,.int .i64 a,.int .i64 b,.int .i32 n] w fun e w' => e = .returned (.agg #[.int .i64 (findR s.toList),.int .i64 a,.int .i64 b,.int .i32 n,.int .i64 0]) ∧ Below w.heap.size w w' := by
  go_enter Tryd.func27,Tryd.ntmps27
  go_wp2_with (first
    | (go_at_call 63; refine (refFind_any s _).mono ?_; rintro e w1 ⟨rfl,hb1⟩; have hX1 := (Blk.new w 25 [.int .i64 0,.int .i64 0,.int .i64 0,.int .i32 0,.int .i64 0]).below hb1 (by simp))
    | ((with_reducible show wpList _ _ _ (Oper.mk none (Op.store _ (Operand.tmp 8) (Operand.tmp 14)) _ _ _ _ :: _) _ _); refine wpList_st5 hX1 rfl 25 (.tmp 8) (.tmp 14) (.int .i64 (findR s.toList)) (.int .i64 a) (.int .i64 b) (.int .i32 n) (.int .i64 0) rfl (by kernel_rfl) (by kernel_rfl) (by simp [Value.oneCell']) (by kernel_rfl) ?_; rintro w8 rfl ⟨z0,z1,z2,z3,z4⟩)
    | fail)
  refine bodyPost_ret (v := .agg #[.int .i64 (findR s.toList),.int .i64 a,.int .i64 b,.int .i32 n,.int .i64 0]) (by simp [results,Tryd.results27,go_sem,z0,z1,z2,z3,z4]) rfl ⟨rfl,?_⟩
  exact below_cells (Nat.le_refl _) _ _ _ (((Below.refl w.heap.size w).alloc (Nat.le_refl _) _).trans (hb1.mono (by simp)))
theorem i32_info : (Tryd.prog.info? 21).map (fun i => (i.zero,i.size,i.bytes)) = some (some (.int .i32 0),1,4) := by kernel_rfl
theorem i32s_nil (a : Option Addr) (l c : Nat) (w : World) : (binOp BinOp.eql 67 (.slice a l c) (.slice none 0 0)).run Tryd.prog w = .ok (.bool a.isNone) w := by
  simp [binOp,run_equal_slice_nil w 67 21 a l c Tryd.underlying67]
set_option maxRecDepth 20000 in
theorem clone_any (A : Option Addr) (n c : Nat) (cs : List Value) (w : World) (hs : Sl w w.heap.size 1 A n cs) (h1 : ∀ u ∈ cs,u.oneCell' = true) (hn : n ≤ 1000000) (hnil : A = none → n = 0 ∧ c = 0) :
    Calls Tryd.prog 64 #[.slice A n c] w fun e w' => ∃ A' c',e = .returned (.slice A' n c') ∧ w'.ownsRow w.heap.size 21 1 (.slice A' n c') n cs ∧ Below w.heap.size w w' := by
  obtain ⟨i0,hi0,hz0,hz1,hz2⟩ := info_parts i32_info
  have hq := fun (a : Option Addr) (l c : Nat) => i32s_nil a l c
  rcases A with _ | a
  · obtain ⟨rfl,rfl⟩ := hnil rfl
    obtain rfl : cs = [] := List.eq_nil_of_length_eq_zero (by have := hs.len; omega)
    go_enter Tryd.func64,Tryd.ntmps64
    go_wp2_with fail
    go_ret
    exact ⟨none,0,rfl,own_nil _ _ _ _,Below.refl _ _⟩
  · go_enter Tryd.func64,Tryd.ntmps64
    go_wp2_with (first
      | (at_builtin
         refine wpList_app _ rfl (.tmp 5) (.tmp 6) _ rfl w.heap.size 21 i0 _ 1 4 Tryd.underlying67 hi0 hz0 hz1 hz2 rfl (by omega) (.slice (some ⟨w.heap.size,0,none⟩) 0 0) 0 [] rfl (own_empty _ _ _) w.heap.size (some a) n c cs rfl (hs.alloc (Nat.le_refl _) _) h1 (by unfold maxLen; omega) (by omega) (by simp) n (by omega) cs rfl ?_
         intro A1 c1 w1 hc1 hown1 hg1 _
         have hb1 : Below w.heap.size w w1 := ((Below.refl _ _).alloc (Nat.le_refl _) _).grown hg1 (by simp) (fun k hk => by simp [Value.ownBlock] at hk; omega))
      | fail)
    go_ret
    exact ⟨A1,c1,rfl,hown1,hb1⟩
end Go.Proofs.YthcjnkakfpmpbaaDoor
