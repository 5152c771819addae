import Derived.Test.YthcjnkakfpmpbaaDoorQ18
namespace Go.Proofs.YthcjnkakfpmpbaaDoor
open Go.RowKit
set_option linter.unusedVariables false
set_option linter.unusedSimpArgs false
def In32 (x : Int) : Prop := -2147483648 ≤ x ∧ x ≤ 2147483647
structure Lay where
  t : TypeId
  lay : Nat → Nat
  iS : Nat
  iT : Nat
  iI : Nat
def cpuL : Lay := ⟨119,fun k => k,268,269,270⟩
def refL : Lay := ⟨89,fun k => if k < 12 then k else k + 1,12,269,270⟩
structure Lay.Ok (L : Lay) : Prop where
  inj : ∀ j k,L.lay j = L.lay k → j = k
  s : ∀ j,j < 268 → L.lay j ≠ L.iS
  t : ∀ j,j < 268 → L.lay j ≠ L.iT
  i : ∀ j,j < 268 → L.lay j ≠ L.iI
  st : L.iS ≠ L.iT
  si : L.iS ≠ L.iI
  ti : L.iT ≠ L.iI
theorem cpuL_ok : cpuL.Ok := ⟨fun _ _ h => h,fun j h => by show j ≠ 268; omega,fun j h => by show j ≠ 269; omega,fun j h => by show j ≠ 270; omega,by decide,by decide,by decide⟩
theorem refL_ok : refL.Ok := by
  refine ⟨fun j k h => ?_,fun j h => ?_,fun j h => ?_,fun j h => ?_,by decide,by decide,by decide⟩
  · simp only [refL] at h; split at h <;> split at h <;> omega
  · simp only [refL]; split <;> omega
  · simp only [refL]; split <;> omega
  · simp only [refL]; split <;> omega
def Core (L : Lay) (cells K : List Value) : Prop := ∀ k,k < 268 → cells[L.lay k]? = K[k]?
theorem Core.set {L : Lay} (hL : L.Ok) {cells K : List Value} (h : Core L cells K) (j : Nat) (hj : j < 268) (v : Value) : Core L (cells.set (L.lay j) v) (K.set j v) := by
  intro k hk
  by_cases e : j = k
  · subst e
    have h1 := h j hk
    rw [List.getElem?_set_self',List.getElem?_set_self',h1]
  · rw [List.getElem?_set_ne (fun h => e (hL.inj _ _ h)),List.getElem?_set_ne e]
    exact h k hk
structure Mach (L : Lay) (w : World) (U : Nat → Prop) (g base : Nat) (cells : List Value) (AT AS AI : Option Addr) (cT cS cI : Nat) (K : List Value) (out st inp : List Int) : Prop where
  blk : Blk w g L.t cells
  core : Core L cells K
  eT : cells[L.iT]? = some (.slice AT out.length cT)
  eS : cells[L.iS]? = some (.slice AS st.length cS)
  eI : cells[L.iI]? = some (.slice AI inp.length cI)
  rT : Row w base 21 (.slice AT out.length cT) out.length (is32 out)
  rS : Row w base 21 (.slice AS st.length cS) st.length (is32 st)
  rI : Row w base 21 (.slice AI inp.length cI) inp.length (is32 inp)
  ug : U g
  uT : ∀ k,Value.ownBlock (.slice AT out.length cT) = some k → U k ∧ k ≠ g
  uS : ∀ k,Value.ownBlock (.slice AS st.length cS) = some k → U k ∧ k ≠ g
  uI : ∀ k,Value.ownBlock (.slice AI inp.length cI) = some k → U k ∧ k ≠ g
  ts : ∀ k,Value.ownBlock (.slice AT out.length cT) = some k → Value.ownBlock (.slice AS st.length cS) ≠ some k
  ti : ∀ k,Value.ownBlock (.slice AT out.length cT) = some k → Value.ownBlock (.slice AI inp.length cI) ≠ some k
  si : ∀ k,Value.ownBlock (.slice AS st.length cS) = some k → Value.ownBlock (.slice AI inp.length cI) ≠ some k
  ul : ∀ k,U k → base ≤ k ∧ k < w.heap.size
def MachE (L : Lay) (w : World) (U : Nat → Prop) (g base : Nat) (K : List Value) (out st inp : List Int) : Prop := ∃ cells AT AS AI cT cS cI,Mach L w U g base cells AT AS AI cT cS cI K out st inp
def Ext (U : Nat → Prop) (w w' : World) : Nat → Prop := fun k => U k ∨ (w.heap.size ≤ k ∧ k < w'.heap.size)
section
variable {L : Lay} {w w' : World} {U : Nat → Prop} {g base : Nat} {cells : List Value} {AT AS AI : Option Addr} {cT cS cI : Nat} {K K' : List Value} {out st inp : List Int}
theorem Mach.keep (m : Mach L w U g base cells AT AS AI cT cS cI K out st inp) (hz : w.heap.size ≤ w'.heap.size) (hk : ∀ k,U k → w'.heap[k]? = w.heap[k]?) : Mach L w' U g base cells AT AS AI cT cS cI K out st inp :=
  ⟨(hk g m.ug).trans m.blk,m.core,m.eT,m.eS,m.eI,m.rT.keep fun k e => hk k (m.uT k e).1,m.rS.keep fun k e => hk k (m.uS k e).1,m.rI.keep fun k e => hk k (m.uI k e).1,m.ug,m.uT,m.uS,m.uI,m.ts,m.ti,m.si,fun k hu => ⟨(m.ul k hu).1,Nat.lt_of_lt_of_le (m.ul k hu).2 hz⟩⟩
theorem MachE.keep (m : MachE L w U g base K out st inp) (hz : w.heap.size ≤ w'.heap.size) (hk : ∀ k,U k → w'.heap[k]? = w.heap[k]?) : MachE L w' U g base K out st inp := by
  obtain ⟨cells,AT,AS,AI,cT,cS,cI,m⟩ := m
  exact ⟨_,_,_,_,_,_,_,m.keep hz hk⟩
theorem MachE.ul (m : MachE L w U g base K out st inp) : ∀ k,U k → base ≤ k ∧ k < w.heap.size := by
  obtain ⟨cells,AT,AS,AI,cT,cS,cI,m⟩ := m
  exact m.ul
theorem MachE.below (m : MachE L w U g base K out st inp) (h : Below w.heap.size w w') : MachE L w' U g base K out st inp := m.keep h.size fun k hu => h.block k (m.ul k hu).2
theorem Mach.ext (m : Mach L w' U g base cells AT AS AI cT cS cI K out st inp) (hb : base ≤ w.heap.size) : Mach L w' (Ext U w w') g base cells AT AS AI cT cS cI K out st inp :=
  ⟨m.blk,m.core,m.eT,m.eS,m.eI,m.rT,m.rS,m.rI,.inl m.ug,fun k e => ⟨.inl (m.uT k e).1,(m.uT k e).2⟩,fun k e => ⟨.inl (m.uS k e).1,(m.uS k e).2⟩,fun k e => ⟨.inl (m.uI k e).1,(m.uI k e).2⟩,m.ts,m.ti,m.si,fun k hu => hu.elim (m.ul k) fun h => ⟨Nat.le_trans hb h.1,h.2⟩⟩
theorem Mach.cells_ (m : Mach L w U g base cells AT AS AI cT cS cI K out st inp) {cells' : List Value} (hf : KFr (· = g) w w') (hb : Blk w' g L.t cells') (hc : Core L cells' K') (h1 : cells'[L.iT]? = cells[L.iT]?) (h2 : cells'[L.iS]? = cells[L.iS]?) (h3 : cells'[L.iI]? = cells[L.iI]?) :
    Mach L w' U g base cells' AT AS AI cT cS cI K' out st inp := by
  have hk : ∀ k,U k ∧ k ≠ g → w'.heap[k]? = w.heap[k]? := fun k h => hf.block k (m.ul k h.1).2 h.2
  exact ⟨hb,hc,h1.trans m.eT,h2.trans m.eS,h3.trans m.eI,m.rT.keep fun k e => hk k (m.uT k e),m.rS.keep fun k e => hk k (m.uS k e),m.rI.keep fun k e => hk k (m.uI k e),m.ug,m.uT,m.uS,m.uI,m.ts,m.ti,m.si,fun k hu => ⟨(m.ul k hu).1,Nat.lt_of_lt_of_le (m.ul k hu).2 hf.size⟩⟩
end
def StepTo (L : Lay) (w : World) (U : Nat → Prop) (g base : Nat) (G : List Value → Prop) (out st inp : List Int) (w' : World) : Prop :=
  KFr U w w' ∧ ∃ K',G K' ∧ MachE L w' (Ext U w w') g base K' out st inp
theorem KFr.mono' {U V : Nat → Prop} {w w' : World} (h : KFr U w w') (hv : ∀ k,U k → V k) : KFr V w w' := ⟨h.os,h.tape,h.output,h.size,fun k hk hu => h.block k hk fun h' => hu (hv k h')⟩
section
variable {L : Lay} {w w' : World} {U : Nat → Prop} {g base : Nat} {cells : List Value} {AT AS AI : Option Addr} {cT cS cI : Nat} {K K' : List Value} {out st inp : List Int} {G : List Value → Prop}
theorem Mach.to_cells (m : Mach L w U g base cells AT AS AI cT cS cI K out st inp) (hbw : base ≤ w.heap.size) {cells' : List Value} (hf : KFr (· = g) w w') (hb : Blk w' g L.t cells') (hG : G K') (hc : Core L cells' K') (h1 : cells'[L.iT]? = cells[L.iT]?) (h2 : cells'[L.iS]? = cells[L.iS]?) (h3 : cells'[L.iI]? = cells[L.iI]?) :
    StepTo L w U g base G out st inp w' :=
  ⟨hf.mono' fun k e => by rw [e]; exact m.ug,K',hG,_,_,_,_,_,_,_,(m.cells_ hf hb hc h1 h2 h3).ext hbw⟩
theorem Mach.to_same (m : Mach L w U g base cells AT AS AI cT cS cI K out st inp) (hbw : base ≤ w.heap.size) (hf : KFr (· = g) w w') (hb : Blk w' g L.t cells) (hG : G K) : StepTo L w U g base G out st inp w' :=
  m.to_cells hbw hf hb hG m.core rfl rfl rfl
theorem Mach.to_set (hL : L.Ok) (m : Mach L w U g base cells AT AS AI cT cS cI K out st inp) (hbw : base ≤ w.heap.size) {j : Nat} (hj : j < 268) {v : Value} (hf : KFr (· = g) w w') (hb : Blk w' g L.t (cells.set (L.lay j) v)) (hG : G (K.set j v)) : StepTo L w U g base G out st inp w' :=
  m.to_cells hbw hf hb hG (m.core.set hL j hj v) (List.getElem?_set_ne (hL.t j hj)) (List.getElem?_set_ne (hL.s j hj)) (List.getElem?_set_ne (hL.i j hj))
theorem Mach.to_print (hL : L.Ok) (m : Mach L w U g base cells AT AS AI cT cS cI K out st inp) (hbw : base ≤ w.heap.size) (x : Int) (A' : Option Addr) (c' : Nat)
    (hp : PF w g (Value.ownBlock (.slice AT out.length cT)) (Value.ownBlock (.slice AT out.length cT)) w') (hb : Blk w' g L.t (cells.set L.iT (.slice A' (out.length + 1) c'))) (hr : Row w' base 21 (.slice A' (out.length + 1) c') (out.length + 1) (is32 out ++ [.int .i32 x]))
    (ho : ∀ k,Value.ownBlock (.slice A' (out.length + 1) c') = some k → Value.ownBlock (.slice AT out.length cT) = some k ∨ w.heap.size ≤ k) (hG : G K) : StepTo L w U g base G (out ++ [x]) st inp w' := by
  have hlen : (out ++ [x]).length = out.length + 1 := by simp
  have hk : ∀ k,U k → k ≠ g → Value.ownBlock (.slice AT out.length cT) ≠ some k → w'.heap[k]? = w.heap[k]? := fun k hu h1 h2 => hp.block k (m.ul k hu).2 h1 h2 h2
  refine ⟨⟨hp.os,hp.tape,hp.output,hp.size,fun k hk hu => hp.block k hk (fun e => hu (e ▸ m.ug)) (fun e => hu (m.uT k e).1) (fun e => hu (m.uT k e).1)⟩,K,hG,cells.set L.iT (.slice A' (out.length + 1) c'),A',AS,AI,c',cS,cI,hb,?_,?_,?_,?_,?_,?_,?_,.inl m.ug,?_,?_,?_,?_,?_,m.si,?_⟩
  · intro k hk
    rw [List.getElem?_set_ne (Ne.symm (hL.t k hk))]
    exact m.core k hk
  · rw [hlen,List.getElem?_set_self (List.getElem?_eq_some_iff.1 m.eT).1]
  · rw [List.getElem?_set_ne (Ne.symm hL.st)]; exact m.eS
  · rw [List.getElem?_set_ne hL.ti]; exact m.eI
  · rw [hlen,is32_append]; exact hr
  · exact m.rS.keep fun k e => hk k (m.uS k e).1 (m.uS k e).2 fun h => m.ts k h e
  · exact m.rI.keep fun k e => hk k (m.uI k e).1 (m.uI k e).2 fun h => m.ti k h e
  · intro k e
    rw [hlen] at e
    rcases ho k e with h | h
    · exact ⟨.inl (m.uT k h).1,(m.uT k h).2⟩
    · exact ⟨.inr ⟨h,(hr.lt k e).2⟩,fun e2 => by have := (m.ul g m.ug).2; omega⟩
  · exact fun k e => ⟨.inl (m.uS k e).1,(m.uS k e).2⟩
  · exact fun k e => ⟨.inl (m.uI k e).1,(m.uI k e).2⟩
  · intro k e e2
    rw [hlen] at e
    rcases ho k e with h | h
    · exact m.ts k h e2
    · have := (m.ul k (m.uS k e2).1).2; omega
  · intro k e e2
    rw [hlen] at e
    rcases ho k e with h | h
    · exact m.ti k h e2
    · have := (m.ul k (m.uI k e2).1).2; omega
  · exact fun k hu => hu.elim (fun h => ⟨(m.ul k h).1,Nat.lt_of_lt_of_le (m.ul k h).2 hp.size⟩) fun h => ⟨Nat.le_trans hbw h.1,h.2⟩
theorem Mach.to_push (hL : L.Ok) (m : Mach L w U g base cells AT AS AI cT cS cI K out st inp) (hbw : base ≤ w.heap.size) (x : Int) (A' : Option Addr) (c' : Nat)
    (hp : PF w g (Value.ownBlock (.slice AS st.length cS)) (Value.ownBlock (.slice AS st.length cS)) w') (hb : Blk w' g L.t (cells.set L.iS (.slice A' (st.length + 1) c'))) (hr : Row w' base 21 (.slice A' (st.length + 1) c') (st.length + 1) (is32 st ++ [.int .i32 x]))
    (ho : ∀ k,Value.ownBlock (.slice A' (st.length + 1) c') = some k → Value.ownBlock (.slice AS st.length cS) = some k ∨ w.heap.size ≤ k) (hG : G K) : StepTo L w U g base G out (st ++ [x]) inp w' := by
  have hlen : (st ++ [x]).length = st.length + 1 := by simp
  have hk : ∀ k,U k → k ≠ g → Value.ownBlock (.slice AS st.length cS) ≠ some k → w'.heap[k]? = w.heap[k]? := fun k hu h1 h2 => hp.block k (m.ul k hu).2 h1 h2 h2
  refine ⟨⟨hp.os,hp.tape,hp.output,hp.size,fun k hk hu => hp.block k hk (fun e => hu (e ▸ m.ug)) (fun e => hu (m.uS k e).1) (fun e => hu (m.uS k e).1)⟩,K,hG,cells.set L.iS (.slice A' (st.length + 1) c'),AT,A',AI,cT,c',cI,hb,?_,?_,?_,?_,?_,?_,?_,.inl m.ug,?_,?_,?_,?_,m.ti,?_,?_⟩
  · intro k hk
    rw [List.getElem?_set_ne (Ne.symm (hL.s k hk))]
    exact m.core k hk
  · rw [List.getElem?_set_ne hL.st]; exact m.eT
  · rw [hlen,List.getElem?_set_self (List.getElem?_eq_some_iff.1 m.eS).1]
  · rw [List.getElem?_set_ne hL.si]; exact m.eI
  · exact m.rT.keep fun k e => hk k (m.uT k e).1 (m.uT k e).2 fun h => m.ts k e h
  · rw [hlen,is32_append]; exact hr
  · exact m.rI.keep fun k e => hk k (m.uI k e).1 (m.uI k e).2 fun h => m.si k h e
  · exact fun k e => ⟨.inl (m.uT k e).1,(m.uT k e).2⟩
  · intro k e
    rw [hlen] at e
    rcases ho k e with h | h
    · exact ⟨.inl (m.uS k h).1,(m.uS k h).2⟩
    · exact ⟨.inr ⟨h,(hr.lt k e).2⟩,fun e2 => by have := (m.ul g m.ug).2; omega⟩
  · exact fun k e => ⟨.inl (m.uI k e).1,(m.uI k e).2⟩
  · intro k e e2
    rw [hlen] at e2
    rcases ho k e2 with h | h
    · exact m.ts k e h
    · have := (m.ul k (m.uT k e).1).2; omega
  · intro k e e2
    rw [hlen] at e
    rcases ho k e with h | h
    · exact m.si k h e2
    · have := (m.ul k (m.uI k e2).1).2; omega
  · exact fun k hu => hu.elim (fun h => ⟨(m.ul k h).1,Nat.lt_of_lt_of_le (m.ul k h).2 hp.size⟩) fun h => ⟨Nat.le_trans hbw h.1,h.2⟩
theorem Mach.to_in (hL : L.Ok) {x : Int} (m : Mach L w U g base cells AT AS AI cT cS cI K out st (x :: inp)) (hbw : base ≤ w.heap.size) {j : Nat} (hj : j < 268) (A' : Option Addr) (c' : Nat)
    (hf : KFr (· = g) w w') (hb : Blk w' g L.t ((cells.set (L.lay j) (.int .i32 x)).set L.iI (.slice A' inp.length c'))) (hr : Row w base 21 (.slice A' inp.length c') inp.length (is32 inp))
    (ho : ∀ k,Value.ownBlock (.slice A' inp.length c') = some k → Value.ownBlock (.slice AI (x :: inp).length cI) = some k) (hG : G (K.set j (.int .i32 x))) : StepTo L w U g base G out st inp w' := by
  have hk : ∀ k,U k ∧ k ≠ g → w'.heap[k]? = w.heap[k]? := fun k h => hf.block k (m.ul k h.1).2 h.2
  have hcs := m.core.set hL j hj (.int .i32 x)
  refine ⟨hf.mono' fun k e => by rw [e]; exact m.ug,_,hG,_,AT,AS,A',cT,cS,c',Mach.ext (w := w) ⟨hb,?_,?_,?_,?_,?_,?_,?_,m.ug,m.uT,m.uS,?_,m.ts,?_,?_,?_⟩ hbw⟩
  · intro k hk
    rw [List.getElem?_set_ne (Ne.symm (hL.i k hk))]
    exact hcs k hk
  · rw [List.getElem?_set_ne (Ne.symm hL.ti),List.getElem?_set_ne (hL.t j hj)]; exact m.eT
  · rw [List.getElem?_set_ne (Ne.symm hL.si),List.getElem?_set_ne (hL.s j hj)]; exact m.eS
  · rw [List.getElem?_set_self]
    rw [List.length_set]
    exact (List.getElem?_eq_some_iff.1 m.eI).1
  · exact m.rT.keep fun k e => hk k (m.uT k e)
  · exact m.rS.keep fun k e => hk k (m.uS k e)
  · exact hr.keep fun k e => hk k (m.uI k (ho k e))
  · exact fun k e => m.uI k (ho k e)
  · exact fun k e e2 => m.ti k e (ho k e2)
  · exact fun k e e2 => m.si k e (ho k e2)
  · exact fun k hu => ⟨(m.ul k hu).1,Nat.lt_of_lt_of_le (m.ul k hu).2 hf.size⟩
theorem Mach.to_pop (hL : L.Ok) {x : Int} (m : Mach L w U g base cells AT AS AI cT cS cI K out (st ++ [x]) inp) (hbw : base ≤ w.heap.size) {j : Nat} (hj : j < 268)
    (hf : KFr (· = g) w w') (hb : Blk w' g L.t ((cells.set (L.lay j) (.int .i32 x)).set L.iS (.slice AS st.length cS))) (hG : G (K.set j (.int .i32 x))) : StepTo L w U g base G out st inp w' := by
  have hk : ∀ k,U k ∧ k ≠ g → w'.heap[k]? = w.heap[k]? := fun k h => hf.block k (m.ul k h.1).2 h.2
  have hcs := m.core.set hL j hj (.int .i32 x)
  have hr : Row w base 21 (.slice AS st.length cS) st.length (is32 st) := by
    have h := m.rS
    refine ⟨is32_length _,?_⟩
    rcases h.2 with ⟨_,h0⟩ | ⟨g',o,cap,cur,hv,hb',hg',hc,hm,hs,ht⟩
    · simp at h0
    · injection hv with h1 h2 h3
      subst h1
      subst h3
      simp only [List.length_append,List.length_cons,List.length_nil] at hc
      refine .inr ⟨g',o,cS,cur,rfl,hb',hg',by omega,hm,hs,fun i u hu => ht i u ?_⟩
      rw [is32_append,List.getElem?_append_left]
      · exact hu
      · exact (List.getElem?_eq_some_iff.1 hu).1
  have ho : ∀ k,Value.ownBlock (.slice AS st.length cS) = some k → Value.ownBlock (.slice AS (st ++ [x]).length cS) = some k := fun k e => by
    cases AS with
    | none => simp [Value.ownBlock] at e
    | some A => exact e
  refine ⟨hf.mono' fun k e => by rw [e]; exact m.ug,_,hG,_,AT,AS,AI,cT,cS,cI,Mach.ext (w := w) ⟨hb,?_,?_,?_,?_,?_,?_,?_,m.ug,m.uT,?_,m.uI,?_,m.ti,?_,?_⟩ hbw⟩
  · intro k hk
    rw [List.getElem?_set_ne (Ne.symm (hL.s k hk))]
    exact hcs k hk
  · rw [List.getElem?_set_ne hL.st,List.getElem?_set_ne (hL.t j hj)]; exact m.eT
  · rw [List.getElem?_set_self]
    rw [List.length_set]
    exact (List.getElem?_eq_some_iff.1 m.eS).1
  · rw [List.getElem?_set_ne hL.si,List.getElem?_set_ne (hL.i j hj)]; exact m.eI
  · exact m.rT.keep fun k e => hk k (m.uT k e)
  · exact hr.keep fun k e => hk k (m.uS k (ho k e))
  · exact m.rI.keep fun k e => hk k (m.uI k e)
  · exact fun k e => m.uS k (ho k e)
  · exact fun k e e2 => m.ts k e (ho k e2)
  · exact fun k e e2 => m.si k (ho k e) e2
  · exact fun k hu => ⟨(m.ul k hu).1,Nat.lt_of_lt_of_le (m.ul k hu).2 hf.size⟩
end
structure KR (K Kr : List Value) : Prop where
  r : ∀ k,k < 8 → ∃ x,In32 x ∧ K[k]? = some (.int .i32 x) ∧ Kr[k]? = some (.int .i32 x)
  z : ∀ k,k < 4 → ∃ p q p' q',ZR p p' ∧ ZR q q' ∧ K[8 + k]? = some (.complex .f64 p q) ∧ Kr[8 + k]? = some (.complex .f64 p' q')
  m : ∀ k,k < 256 → ∃ x,In32 x ∧ K[12 + k]? = some (.int .i32 x) ∧ Kr[12 + k]? = some (.int .i32 x)
theorem set_at {K : List Value} {j : Nat} {u v : Value} (h : K[j]? = some u) : (K.set j v)[j]? = some v := List.getElem?_set_self (List.getElem?_eq_some_iff.1 h).1
theorem KR.setR {K Kr : List Value} (h : KR K Kr) {a : Nat} (ha : a < 8) {x : Int} (hx : In32 x) : KR (K.set a (.int .i32 x)) (Kr.set a (.int .i32 x)) := by
  refine ⟨fun k hk => ?_,fun k hk => ?_,fun k hk => ?_⟩
  · by_cases e : a = k
    · subst e
      obtain ⟨y,_,h1,h2⟩ := h.r a hk
      exact ⟨x,hx,set_at h1,set_at h2⟩
    · rw [List.getElem?_set_ne e,List.getElem?_set_ne e]; exact h.r k hk
  · rw [List.getElem?_set_ne (by omega),List.getElem?_set_ne (by omega)]; exact h.z k hk
  · rw [List.getElem?_set_ne (by omega),List.getElem?_set_ne (by omega)]; exact h.m k hk
theorem KR.setM {K Kr : List Value} (h : KR K Kr) {a : Nat} (ha : a < 256) {x : Int} (hx : In32 x) : KR (K.set (12 + a) (.int .i32 x)) (Kr.set (12 + a) (.int .i32 x)) := by
  refine ⟨fun k hk => ?_,fun k hk => ?_,fun k hk => ?_⟩
  · rw [List.getElem?_set_ne (by omega),List.getElem?_set_ne (by omega)]; exact h.r k hk
  · rw [List.getElem?_set_ne (by omega),List.getElem?_set_ne (by omega)]; exact h.z k hk
  · by_cases e : a = k
    · subst e
      obtain ⟨y,_,h1,h2⟩ := h.m a hk
      exact ⟨x,hx,set_at h1,set_at h2⟩
    · rw [List.getElem?_set_ne (by omega),List.getElem?_set_ne (by omega)]; exact h.m k hk
theorem KR.setZ {K Kr : List Value} (h : KR K Kr) {a : Nat} (ha : a < 4) {p q p' q' : Nat} (h1 : ZR p p') (h2 : ZR q q') : KR (K.set (8 + a) (.complex .f64 p q)) (Kr.set (8 + a) (.complex .f64 p' q')) := by
  refine ⟨fun k hk => ?_,fun k hk => ?_,fun k hk => ?_⟩
  · rw [List.getElem?_set_ne (by omega),List.getElem?_set_ne (by omega)]; exact h.r k hk
  · by_cases e : a = k
    · subst e
      obtain ⟨_,_,_,_,_,_,h3,h4⟩ := h.z a hk
      exact ⟨p,q,p',q',h1,h2,set_at h3,set_at h4⟩
    · rw [List.getElem?_set_ne (by omega),List.getElem?_set_ne (by omega)]; exact h.z k hk
  · rw [List.getElem?_set_ne (by omega),List.getElem?_set_ne (by omega)]; exact h.m k hk
theorem CW.mw {w w' : World} {g : Nat} {cells : List Value} (h : CW w g cells w') : KFr (· = g) w w' ∧ Blk w' g cpuL.t cells := ⟨h.fr,h.blk⟩
theorem RW.mw {w w' : World} {g : Nat} {cells : List Value} (h : RW w g cells w') : KFr (· = g) w w' ∧ Blk w' g refL.t cells := ⟨h.fr,h.blk⟩
end Go.Proofs.YthcjnkakfpmpbaaDoor
