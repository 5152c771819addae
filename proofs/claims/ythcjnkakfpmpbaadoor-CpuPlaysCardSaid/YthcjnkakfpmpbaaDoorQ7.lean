import Derived.Test.YthcjnkakfpmpbaaDoorQ3
namespace Go.Proofs.YthcjnkakfpmpbaaDoor
open Go.RowKit
theorem left_set : ∀ (l : List Bool) (i : Nat),l[i]? = some false → ((l.set i true).filter (!·)).length + 1 = (l.filter (!·)).length
  | [],i,h => by simp at h
  | b :: l,0,h => by
    simp only [List.getElem?_cons_zero,Option.some.injEq] at h
    subst h
    simp
  | b :: l,i + 1,h => by
    simp only [List.getElem?_cons_succ] at h
    have ih := left_set l i h
    cases b <;> simp [List.set_cons_succ] at ih ⊢ <;> omega
section
variable {P : Program} {ops : Array Oper}
theorem wpAny_inv {Q : Exit → Act → World → Prop} (J : Array Bool → Act → World → Prop)
    (hstep : ∀ l a w i,J l a w → i ∈ Region.ready .any ops l → wpOp P ops Q i (J (l.setIfInBounds i true)) a w)
    (hend : ∀ l a w,J l a w → Region.ready .any ops l = [] → Q .normal a w) :
    ∀ fuel l a w,J l a w → leftOf l ≤ fuel → wpAny P .any ops Q fuel l a w
  | 0,l,a,w,h,hl => by
    have hr : Region.ready .any ops l = [] := by
      rcases hc : Region.ready .any ops l with _ | ⟨j,r⟩
      · rfl
      have hj : j ∈ Region.ready .any ops l := by rw [hc]; simp
      obtain ⟨hj,_⟩ := mem_ready.1 hj
      have hf : l.toList[j]? = some false := by
        rw [Array.getElem?_toList]
        unfold Array.getD at hj
        split at hj
        · rename_i hlt
          rw [Array.getElem?_eq_getElem hlt]
          exact congrArg some hj
        · cases hj
      have := left_set _ _ hf
      unfold leftOf at hl
      omega
    exact ⟨hr,hend l a w h hr⟩
  | fuel + 1,l,a,w,h,hl => by
    refine ⟨fun hr => hend l a w h hr,fun i hi => ?_⟩
    obtain ⟨hj,_⟩ := mem_ready.1 hi
    have hf : l.toList[i]? = some false := by
      rw [Array.getElem?_toList]
      unfold Array.getD at hj
      split at hj
      · rename_i hlt
        rw [Array.getElem?_eq_getElem hlt]
        exact congrArg some hj
      · cases hj
    have h1 := left_set _ _ hf
    refine wpOp_mono (fun a' w' h' => wpAny_inv J hstep hend fuel _ a' w' h' ?_) (hstep l a w i h hi)
    unfold leftOf at hl ⊢
    rw [Array.toList_setIfInBounds]
    omega
inductive FStep (P : Program) (ops : Array Oper) (E : Nat → Value → Prop) (S' : World → Prop) (i : Nat) (a : Act) (w : World) : Prop where
  | val (v : Value) (w' : World) (hw : Region.wanted (opOf ops i) (yielded ops a.tmps) = true) (hx : (execOp a.eval (opOf ops i)).run P w = .ok (.value v) w') (hS : S' w') (hE : ∀ d,(opOf ops i).dst = some d → E d v)
  | mute (w' : World) (hw : Region.wanted (opOf ops i) (yielded ops a.tmps) = true) (hx : (execOp a.eval (opOf ops i)).run P w = .ok .skip w') (hS : S' w') (hE : ∀ d,(opOf ops i).dst = some d → E d undef)
  | not (hw : Region.wanted (opOf ops i) (yielded ops a.tmps) = false) (hS : S' w) (hE : ∀ d,(opOf ops i).dst = some d → E d undef)
  | call (f : FuncId) (args : Array Value) (hw : Region.wanted (opOf ops i) (yielded ops a.tmps) = true) (hx : (execOp a.eval (opOf ops i)).run P w = .ok (.enter f args) w)
      (hC : Calls P f args w fun e w' => ∃ v,e = .returned v ∧ S' w' ∧ ∀ d,(opOf ops i).dst = some d → E d v)
theorem FStep.wpOp {E : Nat → Value → Prop} {S' : World → Prop} {i : Nat} {a : Act} {w : World} {Q : Exit → Act → World → Prop} {K : Act → World → Prop} (hi : i < ops.size) (h : FStep P ops E S' i a w)
    (hK : ∀ v w',S' w' → (∀ d,(opOf ops i).dst = some d → E d v) → K (a.put (opOf ops i).dst v) w') : wpOp P ops Q i K a w := by
  unfold Go.wpOp
  rw [opOf_some hi]
  cases h with
  | val v w' hw hx hS hE =>
    simp only [hw,if_true]
    refine Or.inl ?_
    simp only [Oper.wp,hx,Oper.upon]
    exact hK v w' hS hE
  | mute w' hw hx hS hE =>
    simp only [hw,if_true]
    refine Or.inl ?_
    simp only [Oper.wp,hx,Oper.upon]
    exact hK undef w' hS hE
  | not hw hS hE =>
    simp only [hw,Bool.false_eq_true,if_false]
    exact hK undef w hS hE
  | call f args hw hx hC =>
    simp only [hw,if_true]
    refine Or.inl ?_
    simp only [Oper.wp,hx,Oper.upon]
    refine hC.mono ?_
    rintro e w' ⟨v,rfl,hS,hE⟩
    exact hK v w' hS hE
def dstsOf (ops : Array Oper) : List Nat := ops.toList.filterMap (·.dst)
def deps (ops : Array Oper) (i : Nat) : List Nat := ((opOf ops i).after.toList.filter (Region.binds .any)).map (·.on)
def upward (ops : Array Oper) : Bool := (List.range ops.size).all fun i => (deps ops i).all fun j => Nat.blt j i
def grow (ops : Array Oper) (l : List Nat) : List Nat := (l.flatMap (deps ops) ++ l).eraseDups
def reach (ops : Array Oper) : Nat → List Nat → List Nat
  | 0,l => l
  | k + 1,l => reach ops k (grow ops l)
def waitsAll (ops : Array Oper) (fuel last : Nat) : Bool := (List.range ops.size).all fun j => Nat.beq j last || (reach ops fuel (deps ops last)).contains j
theorem mem_deps {i j : Nat} : j ∈ deps ops i ↔ ∃ e ∈ (opOf ops i).after,Region.binds .any e = true ∧ e.on = j := by
  unfold deps
  simp only [List.mem_map,List.mem_filter,Array.mem_toList_iff,and_assoc]
theorem ready_deps {l : Array Bool} {i : Nat} (h : i ∈ Region.ready .any ops l) : i < ops.size ∧ l.getD i true = false ∧ ∀ j ∈ deps ops i,l.getD j false = true := by
  obtain ⟨h1,o,ho,h2⟩ := mem_ready.1 h
  have hi : i < ops.size := (Array.getElem?_eq_some_iff.1 ho).1
  have e : opOf ops i = o := by rw [opOf_some hi] at ho; exact Option.some.inj ho
  refine ⟨hi,h1,fun j hj => ?_⟩
  obtain ⟨e',he,hb,rfl⟩ := mem_deps.1 hj
  rw [e] at he
  exact h2 e' he hb
theorem ready_of {l : Array Bool} {i : Nat} (hi : i < ops.size) (h1 : l.getD i true = false) (h : ∀ j ∈ deps ops i,l.getD j false = true) : i ∈ Region.ready .any ops l :=
  mem_ready.2 ⟨h1,opOf ops i,opOf_some hi,fun e he hb => h _ (mem_deps.2 ⟨e,he,hb,rfl⟩)⟩
theorem all_up {l : Array Bool} (hu : upward ops = true) (hs : l.size = ops.size) (h : Region.ready .any ops l = []) : ∀ i,i < ops.size → l.getD i false = true := by
  intro i
  induction i using Nat.strongRecOn with
  | ind i ih =>
    intro hi
    rcases hc : l.getD i true with _ | _
    · have : i ∈ Region.ready .any ops l := ready_of hi hc fun j hj => by
        have h1 := List.all_eq_true.1 hu i (List.mem_range.2 hi)
        have h2 := List.all_eq_true.1 h1 j hj
        rw [Nat.blt_eq] at h2
        exact ih j h2 (by omega)
      rw [h] at this
      cases this
    · unfold Array.getD at hc ⊢
      rw [dif_pos (by omega)] at hc ⊢
      exact hc
theorem reach_up {l : Array Bool} (hd : ∀ i,l.getD i false = true → ∀ j ∈ deps ops i,l.getD j false = true) : ∀ (k : Nat) (s : List Nat),(∀ j ∈ s,l.getD j false = true) → ∀ j ∈ reach ops k s,l.getD j false = true
  | 0,s,h => h
  | k + 1,s,h => by
    refine reach_up hd k _ fun j hj => ?_
    unfold grow at hj
    rw [List.mem_eraseDups,List.mem_append,List.mem_flatMap] at hj
    rcases hj with ⟨i,hi,hj⟩ | hj
    · exact hd i (h i hi) j hj
    · exact h j hj
theorem getD_set {l : Array Bool} {i j : Nat} {b : Bool} (h : (l.setIfInBounds i true).getD j false = b) (hne : i ≠ j) : l.getD j false = b := by
  rw [← h]
  rw [Array.getD_eq_getD_getElem?,Array.getD_eq_getD_getElem?,Array.getElem?_setIfInBounds_ne hne]
theorem getD_set_self {l : Array Bool} {i : Nat} (h : i < l.size) : (l.setIfInBounds i true).getD i false = true := by
  rw [Array.getD_eq_getD_getElem?,Array.getElem?_setIfInBounds_self_of_lt h]
  rfl
structure FlowJ (ops : Array Oper) (a0 : Act) (E : Nat → Value → Prop) (S T : World → Prop) (last : Nat) (l : Array Bool) (a : Act) (w : World) : Prop where
  sz : l.size = ops.size
  dn : ∀ i,l.getD i false = true → ∀ j ∈ deps ops i,l.getD j false = true
  df : a.defers = a0.defers
  ts : a.tmps.size = a0.tmps.size
  old : ∀ t,t ∉ dstsOf ops → a.tmps[t]? = a0.tmps[t]?
  new : ∀ i,i < ops.size → l.getD i false = true → ∀ d,(opOf ops i).dst = some d → ∃ v,a.tmps[d]? = some v ∧ E d v
  wS : l.getD last false = false → S w
  wT : l.getD last false = true → T w
theorem mem_dsts {i d : Nat} (hi : i < ops.size) (h : (opOf ops i).dst = some d) : d ∈ dstsOf ops := by
  unfold dstsOf
  rw [List.mem_filterMap]
  refine ⟨opOf ops i,?_,h⟩
  rw [Array.mem_toList_iff]
  exact Array.mem_of_getElem? (opOf_some hi)
def apartD (ops : Array Oper) : Bool := (List.range ops.size).all fun i => (List.range ops.size).all fun j => Nat.beq i j || (match (opOf ops i).dst,(opOf ops j).dst with | some d,some d' => !(Nat.beq d d') | _,_ => true)
theorem apartD_spec (h : apartD ops = true) {i j d : Nat} (hi : i < ops.size) (hj : j < ops.size) (h1 : (opOf ops i).dst = some d) (h2 : (opOf ops j).dst = some d) : i = j := by
  have h3 := List.all_eq_true.1 (List.all_eq_true.1 h i (List.mem_range.2 hi)) j (List.mem_range.2 hj)
  rw [h1,h2] at h3
  simp only [Nat.beq_refl,Bool.not_true,Bool.or_false] at h3
  exact Nat.eq_of_beq_eq_true h3
structure Known (ops : Array Oper) (a0 : Act) (E : Nat → Value → Prop) (i : Nat) (a : Act) : Prop where
  old : ∀ t,t ∉ dstsOf ops → a.tmps[t]? = a0.tmps[t]?
  new : ∀ j,j ∈ deps ops i → j < ops.size → ∀ d,(opOf ops j).dst = some d → ∃ v,a.tmps[d]? = some v ∧ E d v
theorem put_ts {a : Act} {d : Option Tmp} {v : Value} : (a.put d v).tmps.size = a.tmps.size := by
  cases d <;> simp [Act.put]
theorem put_df {a : Act} {d : Option Tmp} {v : Value} : (a.put d v).defers = a.defers := by
  cases d <;> simp [Act.put]
theorem put_ne {a : Act} {d : Option Tmp} {v : Value} {t : Nat} (h : d ≠ some t) : (a.put d v).tmps[t]? = a.tmps[t]? := by
  cases d with
  | none => rfl
  | some d =>
    have hne : d ≠ t := fun e => h (e ▸ rfl)
    simp only [Act.put]
    rw [Array.getElem?_setIfInBounds_ne hne]
theorem put_self {a : Act} {d : Tmp} {v : Value} (h : d < a.tmps.size) : (a.put (some d) v).tmps[d]? = some v := by
  simp only [Act.put]
  rw [Array.getElem?_setIfInBounds_self_of_lt h]
theorem tmps_fold (xs : Nat → Value) : ∀ (ds : List Nat) (t u : Array Value),t.size = u.size → (∀ k,k ∉ ds → t[k]? = u[k]?) → (∀ k,k ∈ ds → k < t.size → t[k]? = some (xs k)) →
    t = ds.foldl (fun z d => z.setIfInBounds d (xs d)) u
  | [],t,u,hs,h1,_ => by
    apply Array.ext_getElem?
    intro k
    exact h1 k (by simp)
  | d :: ds,t,u,hs,h1,h2 => by
    rw [List.foldl_cons]
    refine tmps_fold xs ds t _ (by simp [hs]) (fun k hk => ?_) fun k hk hl => h2 k (by simp [hk]) hl
    by_cases e : k = d
    · subst e
      by_cases hl : k < t.size
      · rw [Array.getElem?_setIfInBounds_self_of_lt (by omega)]
        exact h2 k (by simp) hl
      · rw [Array.getElem?_eq_none (by omega),Array.getElem?_eq_none (by simp; omega)]
    · rw [Array.getElem?_setIfInBounds_ne (Ne.symm e)]
      exact h1 k (by simp [e,hk])
theorem wp_region_flow {id : Nat} {Q : Exit → Act → World → Prop} {a0 : Act} {w0 : World} (hm : P.follows .mixedOrders = true) (E : Nat → Value → Prop) (S T : World → Prop) (last fuel : Nat) (ds : List Nat)
    (hds : dstsOf ops = ds) (hb : (ds.all fun d => Nat.blt d a0.tmps.size) = true) (hap : apartD ops = true) (hup : upward ops = true) (hla : (Nat.ble ops.size last || waitsAll ops fuel last) = true)
    (h0 : S w0.drew)
    (hstep : ∀ i,i < ops.size → ∀ a w,S w → Known ops a0 E i a → FStep P ops E (if i = last then T else S) i a w)
    (hend : ∀ (xs : Nat → Value) w,(∀ i,i < ops.size → ∀ d,(opOf ops i).dst = some d → E d (xs d)) → (if last < ops.size then T w else S w) → Q .normal { tmps := ds.foldl (fun z d => z.setIfInBounds d (xs d)) a0.tmps,defers := a0.defers } w) :
    (Code.region id ops true).wp P Q a0 w0 := by
  refine wp_region_any hm (wpAny_inv (FlowJ ops a0 E S T last) ?_ ?_ ops.size _ a0 _ ?_ ?_)
  · intro l a w i hJ hi
    obtain ⟨hlt,hun,hdp⟩ := ready_deps hi
    have hls : i < l.size := by rw [hJ.sz]; exact hlt
    have hnl : l.getD last false = false := by
      rcases hc : l.getD last false with _ | _
      · rfl
      exfalso
      have hin : last < ops.size := by
        unfold Array.getD at hc
        split at hc
        · rename_i h; rw [hJ.sz] at h; exact h
        · cases hc
      have hw : waitsAll ops fuel last = true := by
        rw [Bool.or_eq_true] at hla
        rcases hla with h | h
        · rw [Nat.ble_eq] at h; omega
        · exact h
      have h1 := List.all_eq_true.1 hw i (List.mem_range.2 hlt)
      rw [Bool.or_eq_true] at h1
      have hif : l.getD i false = true := by
        rcases h1 with h1 | h1
        · rw [Nat.eq_of_beq_eq_true h1]; exact hc
        · exact reach_up hJ.dn fuel _ (hJ.dn last hc) i (by simpa using h1)
      unfold Array.getD at hun hif
      rw [dif_pos hls] at hun hif
      rw [hif] at hun
      cases hun
    have hk : Known ops a0 E i a := ⟨hJ.old,fun j hj hjl d hd => hJ.new j hjl (hdp j hj) d hd⟩
    refine (hstep i hlt a w (hJ.wS hnl) hk).wpOp hlt fun v w' hS' hE => ?_
    have hin : ∀ d,(opOf ops i).dst = some d → d < a.tmps.size := fun d hd => by
      rw [hJ.ts]
      have h1 := List.all_eq_true.1 hb d (hds ▸ mem_dsts hlt hd)
      rwa [Nat.blt_eq] at h1
    refine ⟨by simp [hJ.sz],?_,put_df.trans hJ.df,put_ts.trans hJ.ts,fun t ht => ?_,?_,?_,?_⟩
    · intro k hk j hj
      by_cases e : j = i
      · subst e; exact getD_set_self hls
      · have hj' : l.getD j false = true := by
          by_cases e2 : i = k
          · subst e2; exact hdp j hj
          · exact hJ.dn k (getD_set hk e2) j hj
        rw [Array.getD_eq_getD_getElem?,Array.getElem?_setIfInBounds_ne (Ne.symm e),← Array.getD_eq_getD_getElem?]
        exact hj'
    · rw [put_ne (fun e => ht (mem_dsts hlt e))]
      exact hJ.old t ht
    · intro k hk hl d hd
      by_cases e : i = k
      · subst e
        refine ⟨v,?_,hE d hd⟩
        rw [hd]
        exact put_self (hin d hd)
      · obtain ⟨u,h1,h2⟩ := hJ.new k hk (getD_set hl e) d hd
        refine ⟨u,?_,h2⟩
        rw [put_ne (fun e2 => e (apartD_spec hap hlt hk e2 hd))]
        exact h1
    · intro hf
      by_cases e : i = last
      · subst e
        rw [getD_set_self hls] at hf
        cases hf
      · rwa [if_neg e] at hS'
    · intro ht
      by_cases e : i = last
      · rwa [if_pos e] at hS'
      · rw [getD_set ht e] at hnl
        cases hnl
  · intro l a w hJ hr
    have hall := all_up hup hJ.sz hr
    have e1 : a.tmps = ds.foldl (fun z d => z.setIfInBounds d ((fun k => a.tmps.getD k undef) d)) a0.tmps := by
      refine tmps_fold _ ds _ _ hJ.ts (fun k hk => hJ.old k (by rw [hds]; exact hk)) fun k hk hl => ?_
      simp [Array.getD,hl]
    have e2 : a = { tmps := ds.foldl (fun z d => z.setIfInBounds d ((fun k => a.tmps.getD k undef) d)) a0.tmps,defers := a0.defers } := by
      rw [← e1,← hJ.df]
    rw [e2]
    refine hend _ w (fun i hi d hd => ?_) ?_
    · obtain ⟨v,h1,h2⟩ := hJ.new i hi (hall i hi) d hd
      show E d (a.tmps.getD d undef)
      have hv : a.tmps.getD d undef = v := by
        rw [Array.getD_eq_getD_getElem?,h1]; rfl
      rw [hv]
      exact h2
    · split
      · rename_i h; exact hJ.wT (hall last h)
      · rename_i h
        refine hJ.wS ?_
        unfold Array.getD
        rw [dif_neg (by rw [hJ.sz]; exact h)]
  · refine ⟨by simp,fun i hi => ?_,rfl,rfl,fun _ _ => rfl,fun i _ hi => ?_,fun _ => h0,fun ht => ?_⟩
    · unfold Array.getD at hi; split at hi <;> simp at hi
    · unfold Array.getD at hi; split at hi <;> simp at hi
    · unfold Array.getD at ht; split at ht <;> simp at ht
  · unfold leftOf
    simp
end
theorem FStep.at_ {P : Program} {ops : Array Oper} {E : Nat → Value → Prop} {S' : World → Prop} {i : Nat} {a : Act} {w : World} (d : Nat) (v : Value) {w' : World} (h : ((opOf ops i).guard.isNone && ((opOf ops i).dst == some d)) = true)
    (hx : (execOp a.eval (opOf ops i)).run P w = .ok (.value v) w') (hS : S' w') (hE : E d v) : FStep P ops E S' i a w := by
  rw [Bool.and_eq_true] at h
  have hd : (opOf ops i).dst = some d := by simpa using h.2
  have hg : (opOf ops i).guard = none := by simpa using h.1
  refine FStep.val v w' (by unfold Region.wanted; rw [hg]) hx hS fun d' hd' => ?_
  rw [hd] at hd'
  cases hd'
  exact hE
theorem FStep.st_ {P : Program} {ops : Array Oper} {E : Nat → Value → Prop} {S' : World → Prop} {i : Nat} {a : Act} {w : World} {w' : World} (h : ((opOf ops i).guard.isNone && (opOf ops i).dst.isNone) = true)
    (hx : (execOp a.eval (opOf ops i)).run P w = .ok .skip w') (hS : S' w') : FStep P ops E S' i a w := by
  rw [Bool.and_eq_true] at h
  have hd : (opOf ops i).dst = none := by simpa using h.2
  have hg : (opOf ops i).guard = none := by simpa using h.1
  exact FStep.mute w' (by unfold Region.wanted; rw [hg]) hx hS fun d' hd' => by rw [hd] at hd'; cases hd'
theorem FStep.call_ {P : Program} {ops : Array Oper} {E : Nat → Value → Prop} {S' : World → Prop} {i : Nat} {a : Act} {w : World} (d : Nat) (f : FuncId) (args : Array Value) (v : Value) (h : ((opOf ops i).guard.isNone && ((opOf ops i).dst == some d)) = true)
    (hx : (execOp a.eval (opOf ops i)).run P w = .ok (.enter f args) w) (hC : Calls P f args w fun e w' => e = .returned v ∧ w = w') (hS : S' w) (hE : E d v) : FStep P ops E S' i a w := by
  rw [Bool.and_eq_true] at h
  have hd : (opOf ops i).dst = some d := by simpa using h.2
  have hg : (opOf ops i).guard = none := by simpa using h.1
  refine FStep.call f args (by unfold Region.wanted; rw [hg]) hx (hC.mono ?_)
  rintro e w' ⟨rfl,rfl⟩
  exact ⟨v,rfl,hS,fun d' hd' => by rw [hd] at hd'; cases hd'; exact hE⟩
theorem wp_flow {P : Program} {ops : Array Oper} {id : Nat} {Q : Exit → Act → World → Prop} {a0 : Act} {W : World} (hm : P.follows .mixedOrders = true) (E : Nat → Value → Prop) (T : World → Prop) (last : Nat) (ds : List Nat) (hds : dstsOf ops = ds)
    (hck : ((ds.all fun d => Nat.blt d a0.tmps.size) && (apartD ops && (upward ops && (Nat.beq ops.size (last + 1) && waitsAll ops (last + 1) last)))) = true)
    (hstep : ∀ i,i < last → ∀ a k,Known ops a0 E i a → FStep P ops E (fun w => ∃ k,w = W.drewN k) i a (W.drewN k))
    (hlast : ∀ a k,Known ops a0 E last a → FStep P ops E T last a (W.drewN k))
    (hend : ∀ (xs : Nat → Value) w,T w → Q .normal { tmps := ds.foldl (fun z d => z.setIfInBounds d (xs d)) a0.tmps,defers := a0.defers } w) :
    (Code.region id ops true).wp P Q a0 W := by
  simp only [Bool.and_eq_true] at hck
  obtain ⟨h1,h2,h3,h4,h5⟩ := hck
  have hsz : ops.size = last + 1 := Nat.eq_of_beq_eq_true h4
  refine wp_region_flow hm E (fun w => ∃ k,w = W.drewN k) T last (last + 1) ds hds h1 h2 h3 (by rw [h5,Bool.or_true]) ⟨1,rfl⟩ (fun i hi a w hS hk => ?_) fun xs w _ hw => hend xs w (by rwa [if_pos (by omega)] at hw)
  obtain ⟨k,rfl⟩ := hS
  by_cases e : i = last
  · subst e
    rw [if_pos rfl]
    exact hlast a k hk
  · rw [if_neg e]
    exact hstep i (by omega) a k hk
def lookupE : List (Nat × (Value → Prop)) → Nat → Value → Prop
  | [],_,_ => True
  | (k,p) :: r,d,v => cond (Nat.beq k d) (p v) (lookupE r d v)
theorem World.drewN_drewN (w : World) (a b : Nat) : (w.drewN a).drewN b = w.drewN (a + b) := by
  unfold World.drewN
  simp [Nat.add_assoc]
theorem Known.arg {ops : Array Oper} {a0 : Act} {E : Nat → Value → Prop} {i : Nat} {a : Act} (hk : Known ops a0 E i a) (j d : Nat) (h1 : (deps ops i).contains j = true) (h2 : (opOf ops j).dst = some d) (h3 : Nat.blt j ops.size = true) :
    ∃ v,a.tmps[d]?.getD undef = v ∧ E d v := by
  obtain ⟨v,h,hE⟩ := hk.new j (by simpa using h1) (by rwa [Nat.blt_eq] at h3) d h2
  exact ⟨v,by rw [h]; rfl,hE⟩
theorem Known.eq {ops : Array Oper} {a0 : Act} {E : Nat → Value → Prop} {i : Nat} {a : Act} (hk : Known ops a0 E i a) (j d : Nat) (v : Value) (h : ((deps ops i).contains j && (((opOf ops j).dst == some d) && Nat.blt j ops.size)) = true) (hE : ∀ x,E d x → x = v) : a.tmps[d]?.getD undef = v := by
  simp only [Bool.and_eq_true] at h
  obtain ⟨x,h1,h2⟩ := hk.arg j d h.1 (by simpa using h.2.1) h.2.2
  rw [h1]
  exact hE x h2
theorem Known.ex {ops : Array Oper} {a0 : Act} {E : Nat → Value → Prop} {i : Nat} {a : Act} (hk : Known ops a0 E i a) (j d : Nat) (h : ((deps ops i).contains j && (((opOf ops j).dst == some d) && Nat.blt j ops.size)) = true) : ∃ v,a.tmps[d]?.getD undef = v ∧ E d v := by
  simp only [Bool.and_eq_true] at h
  exact hk.arg j d h.1 (by simpa using h.2.1) h.2.2
theorem Known.old_ {ops : Array Oper} {a0 : Act} {E : Nat → Value → Prop} {i : Nat} {a : Act} (hk : Known ops a0 E i a) (t : Nat) (v : Value) (h1 : (dstsOf ops).contains t = false) (h2 : a0.tmps[t]? = some v) : a.tmps[t]?.getD undef = v := by
  rw [(hk.old t (by simpa using h1)).trans h2]; rfl
end Go.Proofs.YthcjnkakfpmpbaaDoor
