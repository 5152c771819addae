import Derived.Test.YthcjnkakfpmpbaaDoorQ3
import Derived.Laws.FloatArith
namespace Go.Proofs.YthcjnkakfpmpbaaDoor
open Go.RowKit
set_option linter.unusedVariables false
def Wide (w : World) (e : TypeId) (gB : Nat) (x : Ent) : Prop :=
  x.n ≤ x.c ∧ x.c ≤ maxLen ∧ (x.c = 0 ∨ ∃ g cur,x.A = some ⟨g,0,none⟩ ∧ gB + 1 ≤ g ∧ w.heap[g]? = some (.cells cur e (0,0)) ∧ x.c ≤ cur.size)
def Marked (w : World) (mk : Nat → Nat → Value) (k : Nat) (x : Ent) (m : Nat) : Prop := ∀ j,j < m → ∃ g,x.A = some ⟨g,0,none⟩ ∧ w.cell? ⟨g,j,none⟩ = some (mk k j)
structure Fl (w : World) (tB tS e : TypeId) (gB : Nat) (A1 : Option Addr) (c1 N : Nat) (v2 : Value) (h : Int) (es : List Ent) (mk : Nat → Nat → Value) (i j : Nat) : Prop where
  len : es.length = N
  blk : Blk w gB tB [.slice A1 N c1,v2,.int .i64 h,.bool false]
  row : Row w (gB + 1) tS (.slice A1 N c1) N (es.map Ent.v)
  wide : ∀ x ∈ es,Wide w e gB x
  off : ∀ x ∈ es,∀ k,blkOf x.A x.c = some k → Value.ownBlock (.slice A1 N c1) ≠ some k
  apart : ∀ (a b : Nat) (x y : Ent),a < b → es[a]? = some x → es[b]? = some y → ∀ k,blkOf x.A x.c = some k → blkOf y.A y.c ≠ some k
  done : ∀ k x,k < i → es[k]? = some x → Marked w mk k x x.c
  now : ∀ x,es[i]? = some x → Marked w mk i x j
section
variable {w w' : World} {tB tS e : TypeId} {gB : Nat} {A1 : Option Addr} {c1 N : Nat} {v2 : Value} {h : Int} {es : List Ent} {mk : Nat → Nat → Value} {i j : Nat}
theorem Kept.wide {base : Nat} {x : Ent} (h : Kept w (gB + 1) e 1 x.A x.n x.c x.cs) : Wide w e gB x := by
  refine ⟨h.le.1,h.le.2,?_⟩
  rcases h.2 with ⟨h0,_⟩ | ⟨g,cur,hA,hb,hg,_,_,_,hs,_⟩
  · exact .inl h0
  · exact .inr ⟨g,cur,hA,hb,hg,by omega⟩
theorem Fl.start {xs2 : List Value} {n2 : Nat} (b : Bk w tB tS e 1 gB (.slice A1 N c1) v2 N n2 (es.map Ent.v) xs2 h es) (hN : es.length = N) (mk : Nat → Nat → Value) : Fl w tB tS e gB A1 c1 N v2 h es mk 0 0 where
  len := hN
  blk := b.blk
  row := b.lists
  wide := fun x hx => Kept.wide (base := 0) (b.ents x hx).1
  off := fun x hx k hk => (b.off x hx k (.inl hk)).1
  apart := fun a c x y hac hx hy k hk => by
    have := List.pairwise_iff_getElem.1 b.apart a c (List.getElem?_eq_some_iff.1 hx).1 (List.getElem?_eq_some_iff.1 hy).1 hac
    rw [(List.getElem?_eq_some_iff.1 hx).2,(List.getElem?_eq_some_iff.1 hy).2] at this
    exact this k hk
  done := fun k x hk => by omega
  now := fun x hx j hj => by omega
theorem blkOf_some {g c : Nat} (hc : 0 < c) : blkOf (some ⟨g,0,none⟩) c = some g := by unfold blkOf; rw [if_neg (by omega)]; rfl
theorem Fl.store (f : Fl w tB tS e gB A1 c1 N v2 h es mk i j) {x : Ent} (hx : es[i]? = some x) (hj : j < x.c) {g : Nat} (hA : x.A = some ⟨g,0,none⟩) :
    Fl (w.setCell ⟨g,j,none⟩ (mk i j)) tB tS e gB A1 c1 N v2 h es mk i (j + 1) := by
  have hxm := List.mem_of_getElem? hx
  have hxb : blkOf x.A x.c = some g := by rw [hA]; exact blkOf_some (by omega)
  have hw : gB + 1 ≤ g ∧ ∃ cur,w.heap[g]? = some (.cells cur e (0,0)) ∧ x.c ≤ cur.size := by
    obtain ⟨_,_,h0 | ⟨g',cur,hA',hb,hg,hs⟩⟩ := f.wide x hxm
    · omega
    · rw [hA] at hA'; injection hA' with hA'; injection hA' with e1; subst e1; exact ⟨hb,cur,hg,hs⟩
  obtain ⟨hgB,cur,hg,hs⟩ := hw
  have hoth : ∀ k,k ≠ g → (w.setCell ⟨g,j,none⟩ (mk i j)).heap[k]? = w.heap[k]? := fun k hk => Below.heap_setCell w _ _ k hk
  have hself : (w.setCell ⟨g,j,none⟩ (mk i j)).heap[g]? = some (.cells (cur.setIfInBounds j (mk i j)) e (0,0)) := heap_setCell_same w g j cur e (mk i j) hg
  have hnew : (w.setCell ⟨g,j,none⟩ (mk i j)).cell? ⟨g,j,none⟩ = some (mk i j) := by
    rw [cell_of_row _ g j _ e (0,0) hself,Array.getElem?_setIfInBounds_self_of_lt (by omega)]
  have hcell : ∀ k t u,(k ≠ g ∨ t ≠ j) → w.cell? ⟨k,t,none⟩ = some u → (w.setCell ⟨g,j,none⟩ (mk i j)).cell? ⟨k,t,none⟩ = some u := fun k t u hk hc => by
    rw [World.cell?_setCell_other _ _ _ _ (fun e => by injection e with e1 e2; omega)]
    exact hc
  have hfar : ∀ k y,k < i → es[k]? = some y → ∀ b,blkOf y.A y.c = some b → b ≠ g := fun k y hk hy b hb e => f.apart k i y x hk hy hx b hb (e ▸ hxb)
  refine ⟨f.len,(hoth gB (by omega)).trans f.blk,f.row.keep fun k hk => hoth k (fun e => f.off x hxm g hxb (e ▸ hk)),fun y hy => ?_,f.off,f.apart,fun k y hk hy j' hj' => ?_,fun y hy j' hj' => ?_⟩
  · obtain ⟨a1,a2,h0 | ⟨g',cur',hA',hb',hg',hs'⟩⟩ := f.wide y hy
    · exact ⟨a1,a2,.inl h0⟩
    · refine ⟨a1,a2,.inr ?_⟩
      by_cases e1 : g' = g
      · subst e1
        rw [hg] at hg'
        injection hg' with hg'
        injection hg' with hc
        subst hc
        exact ⟨g',_,hA',hb',hself,by simpa using hs'⟩
      · exact ⟨g',cur',hA',hb',(hoth g' e1).trans hg',hs'⟩
  · obtain ⟨g',hA',hc'⟩ := f.done k y hk hy j' hj'
    have hne := hfar k y hk hy g' (by rw [hA']; exact blkOf_some (by omega))
    exact ⟨g',hA',hcell g' j' _ (.inl hne) hc'⟩
  · obtain rfl : y = x := by rw [hx] at hy; injection hy with hy; exact hy.symm
    by_cases hjj : j' = j
    · subst hjj
      exact ⟨g,hA,hnew⟩
    · obtain ⟨g',hA',hc'⟩ := f.now y hy j' (by omega)
      exact ⟨g',hA',hcell g' j' _ (.inr hjj) hc'⟩
theorem Fl.keep (f : Fl w tB tS e gB A1 c1 N v2 h es mk i j) (hk : ∀ k : Nat,w'.heap[k]? = w.heap[k]?) : Fl w' tB tS e gB A1 c1 N v2 h es mk i j := by
  have hc : ∀ (g t : Nat) (u : Value),w.cell? ⟨g,t,none⟩ = some u → w'.cell? ⟨g,t,none⟩ = some u := fun g t u hu => (World.cell?_of_block (w := w) (a := ⟨g,t,none⟩) (hk g)).trans hu
  refine ⟨f.len,(hk gB).trans f.blk,f.row.keep fun k _ => hk k,fun x hx => ?_,f.off,f.apart,fun k y hki hy j' hj' => ?_,fun y hy j' hj' => ?_⟩
  · obtain ⟨a1,a2,h0 | ⟨g',cur',hA',hb',hg',hs'⟩⟩ := f.wide x hx
    · exact ⟨a1,a2,.inl h0⟩
    · exact ⟨a1,a2,.inr ⟨g',cur',hA',hb',(hk g').trans hg',hs'⟩⟩
  · obtain ⟨g',hA',hc'⟩ := f.done k y hki hy j' hj'
    exact ⟨g',hA',hc _ _ _ hc'⟩
  · obtain ⟨g',hA',hc'⟩ := f.now y hy j' hj'
    exact ⟨g',hA',hc _ _ _ hc'⟩
theorem Fl.drewN (f : Fl w tB tS e gB A1 c1 N v2 h es mk i j) (n : Nat) : Fl (w.drewN n) tB tS e gB A1 c1 N v2 h es mk i j := f.keep fun _ => rfl
theorem Fl.slice (f : Fl w tB tS e gB A1 c1 N v2 h es mk i j) {k : Nat} {x : Ent} (hx : es[k]? = some x) : ∃ b o,A1 = some ⟨b,o,none⟩ ∧ w.cell? ⟨b,o + k,none⟩ = some (.slice x.A x.n x.c) := by
  obtain ⟨b,o,hA,_,_,hc⟩ := f.row.at_ (k := k) (u := x.v) (by rw [List.getElem?_map,hx]; rfl)
  exact ⟨b,o,hA,hc⟩
theorem KFr.trans {U : Nat → Prop} {w'' : World} (h : KFr U w w') (h' : KFr U w' w'') : KFr U w w'' where
  os := h'.os.trans h.os
  tape := h'.tape.trans h.tape
  output := h'.output.trans h.output
  size := Nat.le_trans h.size h'.size
  block := fun k hk hu => (h'.block k (Nat.lt_of_lt_of_le hk h.size) hu).trans (h.block k hk hu)
theorem KFr.drewN {U : Nat → Prop} (h : KFr U w w') (n : Nat) : KFr U w (w'.drewN n) := ⟨h.os,h.tape,h.output,h.size,h.block⟩
theorem KFr.set_ {U : Nat → Prop} (h : KFr U w w') {g j : Nat} (u : Value) (hg : U g) : KFr U w (w'.setCell ⟨g,j,none⟩ u) :=
  h.trans ⟨rfl,rfl,rfl,by simp,fun k hk hu => Below.heap_setCell w' _ u k (fun e => hu (e ▸ hg))⟩
end
end Go.Proofs.YthcjnkakfpmpbaaDoor
namespace Go.Proofs.YthcjnkakfpmpbaaDoor
open Go.RowKit
set_option linter.unusedVariables false
theorem Blk.other {w : World} {X : Nat} {t : TypeId} {cs : List Value} (h : Blk w X t cs) {p : Addr} {u : Value} (hp : X ≠ p.block) : Blk (w.setCell p u) X t cs := (Below.heap_setCell w p u X hp).trans h
structure CW (w0 : World) (g : Nat) (cells : List Value) (w : World) : Prop where
  fr : KFr (· = g) w0 w
  blk : Blk w g 119 cells
  lt : g < w0.heap.size
section
variable {w0 w w' w'' : World} {g : Nat} {cells cells' : List Value}
theorem CW.start (hB : Blk w g 119 cells) : CW w g cells w := ⟨KFr.refl _ _,hB,hB.lt⟩
theorem CW.below (h : CW w0 g cells w) (hb : Below w.heap.size w w') : CW w0 g cells w' :=
  ⟨⟨hb.os.trans h.fr.os,hb.tape.trans h.fr.tape,hb.output.trans h.fr.output,Nat.le_trans h.fr.size hb.size,fun k hk hu => (hb.block k (Nat.lt_of_lt_of_le hk h.fr.size)).trans (h.fr.block k hk hu)⟩,h.blk.below hb h.blk.lt,h.lt⟩
theorem CW.alloc (h : CW w0 g cells w) (o : Obj) : CW w0 g cells (w.alloc o) := h.below ((Below.refl _ _).alloc (Nat.le_refl _) o)
theorem CW.drewN (h : CW w0 g cells w) (n : Nat) : CW w0 g cells (w.drewN n) := ⟨⟨h.fr.os,h.fr.tape,h.fr.output,h.fr.size,h.fr.block⟩,h.blk,h.lt⟩
theorem CW.setReg (h : CW w0 g cells w) (i : Nat) (u : Value) : CW w0 g (cells.set i u) (w.setCell ⟨g,i,none⟩ u) :=
  ⟨h.fr.trans ⟨rfl,rfl,rfl,by simp,fun k hk hu => Below.heap_setCell w _ u k hu⟩,h.blk.set_ i u,h.lt⟩
theorem CW.far (h : CW w0 g cells w) {k : Nat} (hk : w0.heap.size ≤ k) (i : Nat) (u : Value) : CW w0 g cells (w.setCell ⟨k,i,none⟩ u) := by
  have hlt := h.lt
  exact ⟨⟨h.fr.os,h.fr.tape,h.fr.output,Nat.le_trans h.fr.size (by simp),fun j hj hu => (Below.heap_setCell w _ u j (by show j ≠ k; omega)).trans (h.fr.block j hj hu)⟩,(Below.heap_setCell w _ u g (by show g ≠ k; omega)).trans h.blk,h.lt⟩
theorem CW.farCells {k : Nat} (hk : w0.heap.size ≤ k) : ∀ (vs : List Value) (o : Nat) (w : World),CW w0 g cells w → CW w0 g cells (w.setCells k o vs)
  | [],_,_,h => h
  | v :: r,o,w,h => CW.farCells hk r (o + 1) _ (h.far hk o v)
theorem CW.trans (h : CW w0 g cells w) (h' : CW w g cells' w') : CW w0 g cells' w' := ⟨h.fr.trans h'.fr,h'.blk,h.lt⟩
theorem CW.tab {t : Nat} (h : CW w0 g cells w) (hT : TabIs t w0) (ht : t ≠ g) : TabIs t w := by
  obtain ⟨ty,hb⟩ := hT
  exact ⟨ty,(h.fr.block t hb.lt ht).trans hb⟩
theorem CW.bel {B : Nat} (h : CW w0 g cells w) (hB : B ≤ g) : Below B w0 w :=
  ⟨h.fr.os,h.fr.tape,h.fr.output,h.fr.size,fun k hk => h.fr.block k (by have := h.lt; omega) (by omega)⟩
theorem CW.sl {B sz n : Nat} {A : Option Addr} {cs : List Value} (h : CW w0 g cells w) (hs : Sl w0 B sz A n cs) (hB : B ≤ g) : Sl w B sz A n cs := hs.below (h.bel hB)
theorem CW.size (h : CW w0 g cells w) : w0.heap.size ≤ w.heap.size := h.fr.size
end
section
variable {P : Program} {ops : Array Oper} {R : Act → World → Prop} {S : World → Prop} {listed : Array Bool} {a : Act} {w : World}
theorem held_many (l : List Nat) (hr : Region.ready .any ops listed = l) (hne : l ≠ []) (hk : ∀ i ∈ l,oneOk ops listed i = true) (h : ∀ i ∈ l,HStep P ops R S listed i a w) : Held P ops R S listed a w := fun hS => by
  obtain ⟨i0,hi0⟩ : ∃ i,i ∈ l := List.exists_mem_of_ne_nil l hne
  have hk2 : ∀ i ∈ l,leftOf listed = leftOf (listed.setIfInBounds i true) + 1 := fun i hi => by have := hk i hi; simp only [oneOk,Bool.and_eq_true,Nat.beq_eq] at this; exact this.2
  rw [hk2 i0 hi0]
  refine wpAnyH_all hr hne (fun j hj => ?_)
  have e : leftOf (listed.setIfInBounds i0 true) = leftOf (listed.setIfInBounds j true) := by have h1 := hk2 i0 hi0; have h2 := hk2 j hj; omega
  rw [e]
  exact wpOp_mono (fun a' w' h => ⟨h.1,h.2 h.1⟩) (h j hj hS)
end
theorem run_store_complex {P : Program} {w : World} {a : Addr} {m : Mode} (k : FloatKind) (x y : Nat) : (store a (.complex k x y) m).run P w = stored P w a (.complex k x y) m := run_store P w a _ m rfl
end Go.Proofs.YthcjnkakfpmpbaaDoor
namespace Go.Proofs.YthcjnkakfpmpbaaDoor
set_option linter.unusedVariables false
def sg (s : Bool) : Int := if s then -1 else 1
def IsN (s : Bool) (m : Nat) (e : Int) (n : Int) : Prop := ∃ B : Nat,0 ≤ e + B ∧ sg s * (m : Int) * 2 ^ (e + B).toNat = n * 2 ^ B
def Rep (x : Nat) (n : Int) : Prop := ∃ s m e,Ieee.double.read x = .number s m e ∧ IsN s m e n
theorem pow_pos_ (k : Nat) : (0 : Int) < 2 ^ k := Int.pow_pos (by decide)
theorem pow_cancel {a b : Int} (k : Nat) (h : a * 2 ^ k = b * 2 ^ k) : a = b := Int.eq_of_mul_eq_mul_right (Int.ne_of_gt (pow_pos_ k)) h
theorem signed_eq (s : Bool) (m k : Nat) : Ieee.signed s m k = sg s * (m : Int) * 2 ^ k := by
  unfold Ieee.signed sg
  rw [Nat.shiftLeft_eq]
  cases s <;> simp [Int.neg_mul]
theorem IsN.at_ {s : Bool} {m : Nat} {e n : Int} (h : IsN s m e n) (B : Nat) (hB : 0 ≤ e + B) : sg s * (m : Int) * 2 ^ (e + B).toNat = n * 2 ^ B := by
  obtain ⟨C,hC,hc⟩ := h
  apply pow_cancel C
  have e1 : (2 : Int) ^ (e + B).toNat * 2 ^ C = 2 ^ (e + C).toNat * 2 ^ B := by
    rw [← Int.pow_add,← Int.pow_add]
    congr 1
    omega
  rw [Int.mul_assoc,e1,← Int.mul_assoc,hc,Int.mul_assoc,Int.mul_assoc,Int.mul_comm (2 ^ C)]
theorem IsN.of_int (n : Int) : IsN (n < 0) n.natAbs 0 n := by
  refine ⟨0,by simp,?_⟩
  unfold sg
  by_cases h : n < 0
  · simp [h]; omega
  · simp [h]; omega
theorem IsN.opp {s : Bool} {m : Nat} {e n : Int} (h : IsN s m e n) : IsN (!s) m e (-n) := by
  obtain ⟨B,hB,hb⟩ := h
  refine ⟨B,hB,?_⟩
  rw [Int.neg_mul,← hb]
  cases s <;> simp [sg,Int.neg_mul]
theorem IsN.mul {s t : Bool} {m m' : Nat} {e e' n n' : Int} (h : IsN s m e n) (h' : IsN t m' e' n') : IsN (s ^^ t) (m * m') (e + e') (n * n') := by
  obtain ⟨B,hB,hb⟩ := h
  obtain ⟨C,hC,hc⟩ := h'
  refine ⟨B + C,by omega,?_⟩
  have e1 : (e + e' + ((B + C : Nat) : Int)).toNat = (e + B).toNat + (e' + C).toNat := by omega
  have e2 : sg (s ^^ t) = sg s * sg t := by cases s <;> cases t <;> rfl
  rw [e1,e2,Int.pow_add,Int.pow_add,Int.natCast_mul]
  calc sg s * sg t * (↑m * ↑m') * (2 ^ (e + ↑B).toNat * 2 ^ (e' + ↑C).toNat) = (sg s * ↑m * 2 ^ (e + ↑B).toNat) * (sg t * ↑m' * 2 ^ (e' + ↑C).toNat) := by ac_rfl
    _ = n * 2 ^ B * (n' * 2 ^ C) := by rw [hb,hc]
    _ = n * n' * (2 ^ B * 2 ^ C) := by ac_rfl
theorem IsN.add {s t : Bool} {m m' : Nat} {e e' n n' : Int} (h : IsN s m e n) (h' : IsN t m' e' n') (z : Bool)
    (total : Int) (ht : total = Ieee.signed s m (e - min e e').toNat + Ieee.signed t m' (e' - min e e').toNat) :
    IsN (if total = 0 then z else total < 0) total.natAbs (min e e') (n + n') := by
  obtain ⟨B,hB⟩ : ∃ B : Nat,0 ≤ min e e' + B := ⟨e.natAbs + e'.natAbs,by omega⟩
  refine ⟨B,hB,?_⟩
  have h1 := h.at_ B (by omega)
  have h2 := h'.at_ B (by omega)
  have e0 : sg (if total = 0 then z else total < 0) * (total.natAbs : Int) = total := by
    by_cases h0 : total = 0
    · simp [h0]
    · simp only [h0,if_false]
      by_cases h1 : total < 0
      · simp [sg,h1]; omega
      · simp [sg,h1]; omega
  rw [e0,ht,signed_eq,signed_eq,Int.add_mul,Int.add_mul,← h1,← h2,Int.mul_assoc,← Int.pow_add,Int.mul_assoc (sg t * ↑m'),← Int.pow_add]
  congr 3 <;> congr 1 <;> omega
theorem IsN.order {s t : Bool} {m m' : Nat} {e e' n n' : Int} (h : IsN s m e n) (h' : IsN t m' e' n') :
    (Ieee.signed s m (e - min e e').toNat < Ieee.signed t m' (e' - min e e').toNat ↔ n < n') ∧ (Ieee.signed s m (e - min e e').toNat = Ieee.signed t m' (e' - min e e').toNat ↔ n = n') := by
  obtain ⟨B,hB⟩ : ∃ B : Nat,0 ≤ min e e' + B := ⟨e.natAbs + e'.natAbs,by omega⟩
  have h1 := h.at_ B (by omega)
  have h2 := h'.at_ B (by omega)
  have e1 : Ieee.signed s m (e - min e e').toNat * 2 ^ (min e e' + B).toNat = n * 2 ^ B := by
    rw [signed_eq,Int.mul_assoc,← Int.pow_add,← h1]
    congr 2
    omega
  have e2 : Ieee.signed t m' (e' - min e e').toNat * 2 ^ (min e e' + B).toNat = n' * 2 ^ B := by
    rw [signed_eq,Int.mul_assoc,← Int.pow_add,← h2]
    congr 2
    omega
  have p1 := pow_pos_ (min e e' + B).toNat
  have p2 := pow_pos_ B
  refine ⟨⟨fun hl => ?_,fun hl => ?_⟩,⟨fun hl => ?_,fun hl => ?_⟩⟩
  · have := Int.mul_lt_mul_of_pos_right hl p1
    rw [e1,e2] at this
    exact Int.lt_of_mul_lt_mul_right this (Int.le_of_lt p2)
  · have := Int.mul_lt_mul_of_pos_right hl p2
    rw [← e1,← e2] at this
    exact Int.lt_of_mul_lt_mul_right this (Int.le_of_lt p1)
  · rw [hl,e2] at e1
    exact (pow_cancel B e1).symm
  · rw [hl,← e2] at e1
    exact pow_cancel _ e1
theorem IsN.mag {s : Bool} {m : Nat} {e n : Int} (h : IsN s m e n) (he : e ≤ 0) : m = n.natAbs * 2 ^ (-e).toNat := by
  have h1 := h.at_ (-e).toNat (by omega)
  rw [show (e + ((-e).toNat : Int)).toNat = 0 by omega,Int.pow_zero,Int.mul_one] at h1
  have h2 := congrArg Int.natAbs h1
  rw [Int.natAbs_mul,Int.natAbs_mul,Int.natAbs_pow] at h2
  have e1 : (sg s).natAbs = 1 := by cases s <;> rfl
  rw [e1,Nat.one_mul] at h2
  simpa using h2
theorem IsN.mag' {s : Bool} {m : Nat} {e n : Int} (h : IsN s m e n) (he : 0 ≤ e) : m * 2 ^ e.toNat = n.natAbs := by
  have h1 := h.at_ 0 (by omega)
  rw [Int.pow_zero,Int.mul_one] at h1
  have h2 := congrArg Int.natAbs h1
  rw [Int.natAbs_mul,Int.natAbs_mul,Int.natAbs_pow] at h2
  have e1 : (sg s).natAbs = 1 := by cases s <;> rfl
  rw [e1,Nat.one_mul] at h2
  simpa using h2
theorem IsN.sign {s : Bool} {m : Nat} {e n : Int} (h : IsN s m e n) (h0 : n ≠ 0) : sg s * (n.natAbs : Int) = n := by
  obtain ⟨B,hB,hb⟩ := h
  have p1 := pow_pos_ (e + B).toNat
  have p2 := pow_pos_ B
  have hm : 0 ≤ (m : Int) * 2 ^ (e + B).toNat := Int.mul_nonneg (Int.natCast_nonneg _) (Int.le_of_lt p1)
  rw [Int.mul_assoc] at hb
  cases s
  · have : 0 ≤ n := by
      rcases Int.lt_or_le n 0 with h | h
      · have := Int.mul_neg_of_neg_of_pos h p2
        simp [sg] at hb
        omega
      · exact h
    simp [sg]; omega
  · have : n ≤ 0 := by
      rcases Int.lt_or_le 0 n with h | h
      · have := Int.mul_pos h p2
        simp [sg,Int.neg_mul] at hb
        omega
      · exact h
    simp [sg]; omega
theorem log2_shift (a k : Nat) (h : a ≠ 0) : (a * 2 ^ k).log2 = a.log2 + k := by
  induction k with
  | zero => simp
  | succ k ih =>
    rw [Nat.pow_succ,← Nat.mul_assoc]
    have := Nat.log2_two_mul (n := a * 2 ^ k) (Nat.mul_ne_zero h (Nat.ne_of_gt (Nat.two_pow_pos k)))
    rw [Nat.mul_comm,this,ih]; omega
theorem log2_of {s : Bool} {m : Nat} {e n : Int} (h : IsN s m e n) (h0 : n ≠ 0) : m ≠ 0 ∧ e + (m.log2 : Int) = (n.natAbs.log2 : Int) := by
  have hn : n.natAbs ≠ 0 := by omega
  rcases Int.le_total e 0 with he | he
  · have hm := h.mag he
    refine ⟨by rw [hm]; exact Nat.mul_ne_zero hn (Nat.ne_of_gt (Nat.two_pow_pos _)),?_⟩
    rw [hm,log2_shift _ _ hn]; omega
  · have hm := h.mag' he
    have h1 : m ≠ 0 := fun h => by rw [h,Nat.zero_mul] at hm; omega
    refine ⟨h1,?_⟩
    rw [← hm,log2_shift _ _ h1]; omega
theorem cut_exact (way : Ieee.Toward) (s : Bool) (a drop : Nat) (hd : a ≠ 0 ∨ way = .zero) (h : a = 0 ∨ drop ≤ a.log2 + 2) (q : Nat) (hq : a = q * 2 ^ drop) (hw : way = .even ∨ way = .zero) : way.cut s a drop = q := by
  have hp := Nat.two_pow_pos drop
  unfold Ieee.Toward.cut
  rcases Nat.eq_zero_or_pos a with h0 | h0
  · subst h0
    have hq0 : q = 0 := by
      rcases Nat.eq_zero_or_pos q with h | h
      · exact h
      · have := Nat.mul_pos h hp; omega
    subst hq0
    rcases hd with hd | rfl
    · exact absurd rfl hd
    · simp
  · have hmin : min drop (a.log2 + 2) = drop := by rcases h with h | h <;> omega
    simp only [hmin,Nat.shiftLeft_eq,Nat.one_mul]
    have e1 : a / 2 ^ drop = q := by rw [hq,Nat.mul_div_cancel _ hp]
    have e2 : a % 2 ^ drop = 0 := by rw [hq,Nat.mul_mod_left]
    rw [e1,e2]
    rcases hw with rfl | rfl
    · have : (2 ^ drop == 0) = false := by simp
      simp
    · simp
theorem IsN.integral {s : Bool} {m : Nat} {e n : Int} (h : IsN s m e n) : (Ieee.Datum.number s m e).integral .zero = .number s n.natAbs 0 := by
  have key : (Ieee.Toward.zero).cut s (m <<< e.toNat) (-e).toNat = n.natAbs := by
    refine cut_exact .zero s _ _ (.inr rfl) ?_ _ ?_ (.inr rfl)
    · rcases Int.le_total e 0 with he | he
      · have hm := h.mag he
        rw [show e.toNat = 0 by omega,Nat.shiftLeft_zero]
        by_cases h0 : n = 0
        · left; rw [hm,h0]; simp
        · right
          have := (log2_of h h0).2
          omega
      · right; omega
    · rcases Int.le_total e 0 with he | he
      · rw [show e.toNat = 0 by omega,Nat.shiftLeft_zero]; exact h.mag he
      · rw [show (-e).toNat = 0 by omega,Nat.shiftLeft_eq,h.mag' he]; simp
  unfold Ieee.Datum.integral; simp only [key]
theorem IsN.toInt {s : Bool} {m : Nat} {e n : Int} (h : IsN s m e n) : (Ieee.Datum.number s m e).toInt .zero = some n := by
  unfold Ieee.Datum.toInt
  rw [h.integral]
  simp only [signed_eq]
  by_cases h0 : n = 0
  · simp [h0]
  · rw [Int.pow_zero,Int.mul_one,h.sign h0]
theorem rung_of (L K : Nat) (hL : L ≤ 52) (k1 : 4503599627370496 ≤ K) (k2 : K < 9007199254740992) :
    min ((L + 1022) * 4503599627370496 + K) 9218868437227405312 = (L + 1022) * 4503599627370496 + K ∧ (L + 1022) * 4503599627370496 + K < 9223372036854775808 ∧
    (L + 1022) * 4503599627370496 + K < 9218868437227405312 ∧ ¬ (L + 1022) * 4503599627370496 + K < 4503599627370496 ∧
    ((L + 1022) * 4503599627370496 + K) % 4503599627370496 = K - 4503599627370496 ∧ ((L + 1022) * 4503599627370496 + K) / 4503599627370496 = L + 1023 ∧ 4503599627370496 + (K - 4503599627370496) = K := by
  obtain ⟨d,rfl⟩ : ∃ d,K = 4503599627370496 + d := ⟨K - 4503599627370496,by omega⟩
  have hd : d < 4503599627370496 := by omega
  have e : (L + 1022) * 4503599627370496 + (4503599627370496 + d) = 4503599627370496 * (L + 1023) + d := by omega
  have hm : 4503599627370496 * (L + 1023) ≤ 4503599627370496 * 1075 := Nat.mul_le_mul_left _ (by omega)
  have h1 : 4503599627370496 * (L + 1023) + d < 9218868437227405312 := by omega
  rw [e]
  refine ⟨Nat.min_eq_left (Nat.le_of_lt h1),Nat.lt_trans h1 (by decide),h1,?_,?_,?_,?_⟩
  · have : 4503599627370496 * 1 ≤ 4503599627370496 * (L + 1023) := Nat.mul_le_mul_left _ (by omega)
    omega
  · rw [Nat.mul_add_mod,Nat.mod_eq_of_lt hd,Nat.add_sub_cancel_left]
  · rw [Nat.mul_add_div (by decide),Nat.div_eq_of_lt hd,Nat.add_zero]
  · rw [Nat.add_sub_cancel_left]
theorem rung_at (L K : Nat) (hL : L ≤ 52) (k1 : 4503599627370496 ≤ K) (k2 : K < 9007199254740992) :
    ∃ R,min ((L + 1022) * 4503599627370496 + K) 9218868437227405312 = R ∧ R < 9223372036854775808 ∧ R < 9218868437227405312 ∧ ¬ R < 4503599627370496 ∧
    R % 4503599627370496 = K - 4503599627370496 ∧ R / 4503599627370496 = L + 1023 ∧ 4503599627370496 + (K - 4503599627370496) = K := ⟨_,rung_of L K hL k1 k2⟩
theorem rep_write {s : Bool} {m : Nat} {e n : Int} (h : IsN s m e n) (hn : n.natAbs < 2 ^ 53) : Rep (Ieee.double.write (.number s m e)) n := by
  have hb : Ieee.double.binade = 4503599627370496 := by decide
  have hs : Ieee.double.signWeight = 9223372036854775808 := by decide
  have hi : Ieee.double.infRung = 9218868437227405312 := by decide
  have hl : Ieee.double.leastPlace = -1074 := by decide
  unfold Ieee.Format.write
  simp only
  unfold Ieee.Format.nearest
  by_cases h0 : n = 0
  · have hm : m = 0 := by
      rcases Int.le_total e 0 with he | he
      · rw [h.mag he,h0]; simp
      · have := h.mag' he
        rw [h0] at this
        rcases Nat.eq_zero_or_pos m with h | h
        · exact h
        · have := Nat.mul_pos h (Nat.two_pow_pos e.toNat); omega
    rw [if_pos hm]
    refine ⟨s,0,-1074,?_,1074,by decide,by rw [h0,Int.zero_mul,show ((0 : Nat) : Int) = 0 from rfl,Int.mul_zero,Int.zero_mul]⟩
    unfold Ieee.Format.read Ieee.Format.word
    cases s <;> decide
  · obtain ⟨hm,hlog⟩ := log2_of h h0
    have hL : n.natAbs.log2 ≤ 52 := by
      have := (Nat.log2_lt (n := n.natAbs) (k := 53) (by omega)).2 hn
      omega
    obtain ⟨L,hLd⟩ : ∃ L,L = n.natAbs.log2 := ⟨_,rfl⟩
    rw [← hLd] at hlog hL
    rw [if_neg hm]
    have hf : (Ieee.double.fractionBits : Int) = 52 := rfl
    have hlast : max (e + (m.log2 : Int) - Ieee.double.fractionBits) Ieee.double.leastPlace = (L : Int) - 52 := by rw [hl,hf,hlog]; omega
    simp only [hlast]
    have hlo : 2 ^ L ≤ n.natAbs := hLd ▸ Nat.log2_self_le (by omega)
    have hhi : n.natAbs < 2 ^ (L + 1) := hLd ▸ Nat.lt_log2_self
    have e53 : (2 : Nat) ^ L * 2 ^ (52 - L) = 4503599627370496 := by rw [← Nat.pow_add,show L + (52 - L) = 52 by omega]
    have e54 : (2 : Nat) ^ (L + 1) * 2 ^ (52 - L) = 9007199254740992 := by rw [← Nat.pow_add,show L + 1 + (52 - L) = 53 by omega]
    obtain ⟨K,hK⟩ : ∃ K,K = n.natAbs * 2 ^ (52 - L) := ⟨_,rfl⟩
    have k1 : 4503599627370496 ≤ K := by rw [hK,← e53]; exact Nat.mul_le_mul_right _ hlo
    have k2 : K < 9007199254740992 := by rw [hK,← e54]; exact Nat.mul_lt_mul_of_pos_right hhi (Nat.two_pow_pos _)
    have hcut : Ieee.Toward.even.cut s (m <<< (e - ((L : Int) - 52)).toNat) ((L : Int) - 52 - e).toNat = K := by
      have hm0 : 0 < m := by omega
      refine cut_exact .even s _ _ (.inl ?_) (.inr ?_) _ ?_ (.inl rfl)
      · rw [Nat.shiftLeft_eq]; exact Nat.mul_ne_zero hm (Nat.ne_of_gt (Nat.two_pow_pos _))
      · rw [Nat.shiftLeft_eq,log2_shift _ _ hm]; omega
      · rw [Nat.shiftLeft_eq,hK]
        rcases Int.le_total e 0 with he | he
        · rw [h.mag he,Nat.mul_assoc,Nat.mul_assoc,← Nat.pow_add,← Nat.pow_add]
          congr 2
          omega
        · rw [← h.mag' he,Nat.mul_assoc,Nat.mul_assoc,← Nat.pow_add,← Nat.pow_add]
          congr 2
          omega
    rw [hcut,hl,hb,hi]
    clear hcut e53 e54 hlo hhi hn hlast hf hlog
    obtain ⟨R,hr,hRS,hRi,hRb,r2,r3,hKK⟩ := rung_at L K hL k1 k2
    have hto : ((L : Int) - 52 - -1074).toNat = L + 1022 := by clear hr hRS hRi hRb r2 r3 hKK k1 k2 hK hLd; omega
    rw [hto,hr]
    refine ⟨s,K,(L : Int) - 52,?_,52,by omega,?_⟩
    · unfold Ieee.Format.read Ieee.Format.word
      rw [hs,hb,hi,hl]
      have w1 : (if s = true then 9223372036854775808 + R else R) % 9223372036854775808 = R := by
        cases s
        · simp only [Bool.false_eq_true,if_false]; exact Nat.mod_eq_of_lt hRS
        · simp only [if_true]; rw [Nat.add_mod_left]; exact Nat.mod_eq_of_lt hRS
      have w2 : ((if s = true then 9223372036854775808 + R else R) / 9223372036854775808 % 2 == 1) = s := by
        cases s
        · simp only [Bool.false_eq_true,if_false]; rw [Nat.div_eq_of_lt hRS]; rfl
        · simp only [if_true]; rw [Nat.add_div_left _ (by decide),Nat.div_eq_of_lt hRS]; rfl
      simp only [w1,w2,r2,r3]
      rw [if_neg hRb,if_pos hRi]
      rw [hKK,show (-1074 : Int) + ((L + 1023 - 1 : Nat) : Int) = (L : Int) - 52 by clear r2 r3 hKK k1 k2 hRS hRi hRb w1 w2 hK hLd; omega]
    · have hsg := h.sign h0
      rw [show ((L : Int) - 52 + ((52 : Nat) : Int)).toNat = L by omega,hK,Int.natCast_mul,Int.natCast_pow,← hsg]
      have : (2 : Int) ^ 52 = 2 ^ (52 - L) * 2 ^ L := by rw [← Int.pow_add,show 52 - L + L = 52 by omega]
      rw [this]
      have hab : (sg s * (n.natAbs : Int)).natAbs = n.natAbs := by cases s <;> simp [sg]
      rw [hab]
      rw [show ((2 : Nat) : Int) = 2 from rfl]
      ac_rfl
theorem rep_int {n : Int} (hn : n.natAbs < 2 ^ 53) : Rep (FloatKind.nearest .f64 n) n := rep_write (IsN.of_int n) hn
section
variable {x y : Nat} {a b : Int}
theorem Rep.add (hx : Rep x a) (hy : Rep y b) (h : (a + b).natAbs < 2 ^ 53) : ∃ z,Ieee.double.add x y = some z ∧ Rep z (a + b) := by
  obtain ⟨s,m,e,h1,h2⟩ := hx
  obtain ⟨t,m',e',h3,h4⟩ := hy
  refine ⟨_,by unfold Ieee.Format.add; rw [h1,h3]; rfl,rep_write (h2.add h4 (s && t) _ rfl) h⟩
theorem Rep.sub (hx : Rep x a) (hy : Rep y b) (h : (a - b).natAbs < 2 ^ 53) : ∃ z,Ieee.double.sub x y = some z ∧ Rep z (a - b) := by
  obtain ⟨s,m,e,h1,h2⟩ := hx
  obtain ⟨t,m',e',h3,h4⟩ := hy
  refine ⟨_,by unfold Ieee.Format.sub; rw [h1,h3]; rfl,rep_write (h2.add h4.opp (s && !t) _ rfl) h⟩
theorem Rep.mul (hx : Rep x a) (hy : Rep y b) (h : (a * b).natAbs < 2 ^ 53) : ∃ z,Ieee.double.mul x y = some z ∧ Rep z (a * b) := by
  obtain ⟨s,m,e,h1,h2⟩ := hx
  obtain ⟨t,m',e',h3,h4⟩ := hy
  refine ⟨_,by unfold Ieee.Format.mul; rw [h1,h3]; rfl,rep_write (h2.mul h4) h⟩
theorem Rep.toInt (hx : Rep x a) : ((FloatKind.decode .f64 x).toInt .zero) = some a := by
  obtain ⟨s,m,e,h1,h2⟩ := hx
  show ((Ieee.double.read x).toInt .zero) = some a
  rw [h1]
  exact h2.toInt
theorem Rep.order (hx : Rep x a) (hy : Rep y b) : Ieee.double.order x y = some (compare a b) := by
  obtain ⟨s,m,e,h1,h2⟩ := hx
  obtain ⟨t,m',e',h3,h4⟩ := hy
  unfold Ieee.Format.order Ieee.Datum.order
  rw [h1,h3]
  simp only [Option.some.injEq]
  obtain ⟨k1,k2⟩ := h2.order h4
  simp only [compare,compareOfLessAndEq,k1,k2]
end
end Go.Proofs.YthcjnkakfpmpbaaDoor
