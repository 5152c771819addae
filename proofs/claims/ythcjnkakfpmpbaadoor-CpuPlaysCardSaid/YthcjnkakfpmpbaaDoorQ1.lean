import Derived.WalkKit
import Derived.RegionTactic
import Derived.Maps.AppendAt
import Derived.Deep.Draws
import Derived.Lib.Hide
import Derived.Laws.CopyOwn
import Derived.RowKit
import Derived.Test.YthcjnkakfpmpbaaDoorRows
import Derived.Outline
import Derived.WalkLawsBesides
namespace Go.Proofs.YthcjnkakfpmpbaaDoor
open Go.RowKit
theorem add_flat (b o k : Nat) : (⟨b,o,none⟩ : Addr).add k = ⟨b,o + k,none⟩ := by
  unfold Addr.add; split <;> simp_all
def Has (w : World) (b o : Nat) (cs : List Value) : Prop := ∀ j u,cs[j]? = some u → w.cell? ⟨b,o + j,none⟩ = some u
structure Sl (w : World) (B sz : Nat) (A : Option Addr) (n : Nat) (cs : List Value) : Prop where
  len : cs.length = n * sz
  at_ : 0 < n → ∃ b o,A = some ⟨b,o,none⟩ ∧ b < B ∧ Has w b o cs
section
variable {w w' : World} {B B' sz n : Nat} {A : Option Addr} {cs : List Value}
theorem Has.get {b o : Nat} (h : Has w b o cs) {k : Nat} (hk : k < cs.length) : w.cell? ⟨b,o + k,none⟩ = some cs[k] := h k _ (List.getElem?_eq_getElem hk)
theorem Has.keep {b o : Nat} (h : Has w b o cs) (hk : ∀ i,w'.cell? ⟨b,i,none⟩ = w.cell? ⟨b,i,none⟩) : Has w' b o cs := fun j u hu => (hk _).trans (h j u hu)
theorem Sl.nil_ (w : World) (B sz : Nat) (A : Option Addr) : Sl w B sz A 0 [] := ⟨by simp,fun h => absurd h (by omega)⟩
theorem Sl.get (h : Sl w B 1 A n cs) {k : Nat} (hk : k < n) : ∃ b o u,A = some ⟨b,o,none⟩ ∧ b < B ∧ cs[k]? = some u ∧ w.cell? ⟨b,o + k,none⟩ = some u := by
  obtain ⟨b,o,e,hb,hc⟩ := h.at_ (by omega)
  have hl : k < cs.length := by have := h.len; omega
  exact ⟨b,o,cs[k],e,hb,List.getElem?_eq_getElem hl,hc.get hl⟩
theorem Sl.keep (h : Sl w B sz A n cs) (hk : ∀ b i,b < B → w'.cell? ⟨b,i,none⟩ = w.cell? ⟨b,i,none⟩) : Sl w' B sz A n cs :=
  ⟨h.len,fun hn => by obtain ⟨b,o,e,hb,hc⟩ := h.at_ hn; exact ⟨b,o,e,hb,hc.keep fun i => hk b i hb⟩⟩
theorem Sl.more (h : Sl w B sz A n cs) (hB : B ≤ B') : Sl w B' sz A n cs :=
  ⟨h.len,fun hn => by obtain ⟨b,o,e,hb,hc⟩ := h.at_ hn; exact ⟨b,o,e,by omega,hc⟩⟩
theorem Sl.below (h : Sl w B sz A n cs) (hb : Below B w w') : Sl w' B sz A n cs := h.keep fun b i hp => hb.cell (p := ⟨b,i,none⟩) hp
theorem Sl.drew (h : Sl w B sz A n cs) : Sl w.drew B sz A n cs := h.keep fun _ _ _ => rfl
theorem Sl.drewN (h : Sl w B sz A n cs) (k : Nat) : Sl (w.drewN k) B sz A n cs := h.keep fun _ _ _ => rfl
theorem Sl.alloc (h : Sl w B sz A n cs) (hB : B ≤ w.heap.size) (o : Obj) : Sl (w.alloc o) B sz A n cs := h.keep fun b i hp => World.cell?_alloc_lt w o ⟨b,i,none⟩ (by show b < _; omega)
theorem Sl.setCell (h : Sl w B sz A n cs) {p : Addr} (hB : B ≤ p.block) (u : Value) : Sl (w.setCell p u) B sz A n cs :=
  h.keep fun b i hq => World.cell?_setCell_other w p ⟨b,i,none⟩ u (fun e => by subst e; simp at hB; omega)
theorem Sl.grown (h : Sl w B sz A n cs) {row : Option Nat} (hg : w.grownBy w' row) (hB : B ≤ w.heap.size) (hr : ∀ g,row = some g → B ≤ g) : Sl w' B sz A n cs :=
  h.keep fun b i hp => World.cell?_of_block (w := w) (a := ⟨b,i,none⟩) (hg.block b (by omega) (fun e => by have := hr _ e.symm; omega))
theorem Sl.of_own {base : Nat} {e : TypeId} {c : Nat} (h : w.ownsRow base e sz (.slice A n c) n cs) : Sl w w.heap.size sz A n cs := by
  refine ⟨h.1,fun hn => ?_⟩
  rcases h.2 with ⟨hv,h0⟩ | ⟨g,cap,cur,hv,_,hg,_,_,_,ht⟩
  · omega
  · injection hv with h1 h2 h3
    subst h1
    refine ⟨g,0,rfl,(Array.getElem?_eq_some_iff.1 hg).1,fun j u hu => ?_⟩
    rw [cell_of_row w g (0 + j) cur e (0,0) hg]
    rw [← ht,List.getElem?_take] at hu
    split at hu
    · simpa using hu
    · cases hu
theorem Sl.front (h : Sl w B sz A n cs) {k : Nat} (hk : k ≤ n) : Sl w B sz A k (cs.take (k * sz)) := by
  refine ⟨by rw [List.length_take,h.len]; exact Nat.min_eq_left (Nat.mul_le_mul_right _ hk),fun hn => ?_⟩
  obtain ⟨b,o,e,hb,hc⟩ := h.at_ (by omega)
  refine ⟨b,o,e,hb,fun j u hu => hc j u ?_⟩
  rw [List.getElem?_take] at hu
  split at hu
  · exact hu
  · cases hu
end
theorem own_shape {w : World} {base sz n : Nat} {e : TypeId} {v : Value} {cs : List Value} (h : w.ownsRow base e sz v n cs) : ∃ A c,v = .slice A n c ∧ n ≤ c := by
  rcases h.2 with ⟨rfl,rfl⟩ | ⟨g,cap,cur,rfl,_,_,hc,_⟩
  · exact ⟨none,0,rfl,Nat.le_refl _⟩
  · exact ⟨_,cap,rfl,hc⟩
theorem sl_new (w : World) (cs : List Value) (sz n : Nat) (hn : cs.length = n * sz) (t : TypeId) : Sl (w.alloc (.cells cs.toArray t)) (w.heap.size + 1) sz (some ⟨w.heap.size,0,none⟩) n cs := by
  refine ⟨hn,fun _ => ⟨_,0,rfl,Nat.lt_succ_self _,fun j u hu => ?_⟩⟩
  rw [World.cell?_alloc_new]
  simpa using hu
theorem own_nil (w : World) (base : Nat) (e : TypeId) (sz : Nat) : w.ownsRow base e sz (.slice none 0 0) 0 [] := ⟨by simp,.inl ⟨rfl,rfl⟩⟩
theorem own_empty (w : World) (e : TypeId) (sz : Nat) : (w.alloc (.cells #[] e)).ownsRow w.heap.size e sz (.slice (some ⟨w.heap.size,0,none⟩) 0 0) 0 [] :=
  ⟨by simp,.inr ⟨w.heap.size,0,#[],rfl,Nat.le_refl _,heap_alloc_new w _,Nat.le_refl _,Nat.zero_le _,by simp,by simp⟩⟩
section
variable {P : Program} (w : World)
theorem run_app_nil (base : Nat) (t ty e : TypeId) (i : TypeInfo) (size : Nat) (ht : P.underlying t = some (.slice e)) (hi : P.info? e = some i)
    (v : Value) (n : Nat) (xs : List Value) (hown : w.ownsRow base e size v n xs) (c : Nat) : (Builtin.append_ #[t,t] ty #[v,.slice none 0 c]).run P w = .ok v w := by
  rcases hown.2 with ⟨rfl,rfl⟩ | ⟨g,cap,cur,rfl,_,_,hnc,_⟩
  · simp [Builtin.append_,run_underlying ht,sizeOf,typeInfo,hi,Builtin.lenOf,Builtin.firstCells]
  · simp [Builtin.append_,run_underlying ht,sizeOf,typeInfo,hi,Builtin.lenOf,Builtin.firstCells,hnc,storeCells]
theorem run_app (base : Nat) (t ty e : TypeId) (i : TypeInfo) (z : Value) (size bytes : Nat) (ht : P.underlying t = some (.slice e)) (hi : P.info? e = some i) (hz : i.zero = some z)
    (hsize : i.size = size) (hby : i.bytes = bytes) (hzs : z.cells.size = size) (hsz : 0 < size)
    (v : Value) (n : Nat) (xs : List Value) (hown : w.ownsRow base e size v n xs)
    (B : Nat) (A : Option Addr) (m c : Nat) (news : List Value) (hr : Sl w B size A m news) (h1 : ∀ u ∈ news,u.oneCell' = true)
    (h63 : n + m ≤ maxLen) (hbytes : (n + m) * bytes ≤ 140737488355328) (hbase : base ≤ w.heap.size) :
    ∃ v' w',(Builtin.append_ #[t,t] ty #[v,.slice A m c]).run P w = .ok v' w' ∧ w'.ownsRow base e size v' (n + m) (xs ++ news) ∧ w.grownBy w' v.ownBlock ∧
      (v'.ownBlock = v.ownBlock ∨ v'.ownBlock = some w.heap.size) := by
  have hz0 : m = 0 → news = [] := fun h => List.eq_nil_of_length_eq_zero (by rw [hr.len,h]; simp)
  cases A with
  | none =>
    have hm : m = 0 := by
      rcases Nat.eq_zero_or_pos m with h0 | h0
      · exact h0
      · obtain ⟨_,_,h,_⟩ := hr.at_ h0
        cases h
    subst hm
    rw [hz0 rfl]
    exact ⟨v,w,run_app_nil w base t ty e i size ht hi v n xs hown c,by simpa using hown,World.grownBy.refl w _,.inl rfl⟩
  | some ad =>
    have hcells : ∀ j u,news[j]? = some u → w.cell? (ad.add j) = some u := by
      intro j u hu
      rcases Nat.eq_zero_or_pos m with h0 | h0
      · rw [hz0 h0] at hu
        simp at hu
      · obtain ⟨b,o,h,_,hc⟩ := hr.at_ h0
        injection h with h
        subst h
        rw [add_flat]
        exact hc j u hu
    obtain ⟨v',w',hrun,h2,h3,_,h5⟩ := run_append_own_at (P := P) w base t ty e i z size bytes ht hi hz hsize hby hzs hsz v n xs hown ad m c news hr.len hcells h1 h63 hbytes hbase
    exact ⟨v',w',hrun,h2,h3,h5⟩
theorem wpList_app {ops : Array Oper} {rest : List Oper} {o : Oper} {a : Act} {Q : Exit → Act → World → Prop} (hgd : o.guard = none) (s x : Operand) (t : TypeId)
    (ho : o.op = .call { callee := .builtin .append,args := #[s,x],argTypes := #[t,t] })
    (base : Nat) (e : TypeId) (i : TypeInfo) (z : Value) (size bytes : Nat) (ht : P.underlying t = some (.slice e)) (hi : P.info? e = some i) (hz : i.zero = some z)
    (hsize : i.size = size) (hby : i.bytes = bytes) (hzs : z.cells.size = size) (hsz : 0 < size)
    (v : Value) (n : Nat) (xs : List Value) (hs : a.eval s = v) (hown : w.ownsRow base e size v n xs)
    (B : Nat) (A : Option Addr) (m c : Nat) (news : List Value) (hx : a.eval x = .slice A m c) (hr : Sl w B size A m news) (h1 : ∀ u ∈ news,u.oneCell' = true)
    (h63 : n + m ≤ maxLen) (hbytes : (n + m) * bytes ≤ 140737488355328) (hbase : base ≤ w.heap.size)
    (N : Nat) (hN : N = n + m) (ys : List Value) (hys : ys = xs ++ news)
    (h : ∀ A' c' w',N ≤ c' → w'.ownsRow base e size (.slice A' N c') N ys → w.grownBy w' v.ownBlock → (Value.ownBlock (.slice A' N c') = v.ownBlock ∨ Value.ownBlock (.slice A' N c') = some w.heap.size) → wpList P ops Q rest (a.put o.dst (.slice A' N c')) w') : wpList P ops Q (o :: rest) a w :=
  wpList_plain hgd fun K hK => by
    obtain ⟨v',w',hrun,h2,h3,h4⟩ := run_app (P := P) w base t o.type e i z size bytes ht hi hz hsize hby hzs hsz v n xs hown B A m c news hr h1 h63 hbytes hbase
    obtain ⟨A',c',rfl,hc⟩ := own_shape h2
    subst hN
    subst hys
    unfold Oper.wp execOp
    simp only [ho,resolve,invoke,builtin,Sem.run_bind,Sem.run_pure,Result.andThen_ok,List.map_toArray,List.map_cons,List.map_nil,hs,hx,hrun]
    exact hK _ _ (h A' c' w' hc h2 h3 h4)
end
def bs (l : List UInt8) : List Value := l.map fun x => .int .u8 x.toNat
theorem bs_length (l : List UInt8) : (bs l).length = l.length := by simp [bs]
theorem bs_append (l r : List UInt8) : bs (l ++ r) = bs l ++ bs r := by simp [bs]
theorem bs_one (l : List UInt8) : ∀ u ∈ bs l,u.oneCell' = true := by
  intro u hu
  obtain ⟨x,_,rfl⟩ := List.mem_map.1 hu
  rfl
theorem bs_get (l : List UInt8) (k : Nat) : (bs l)[k]? = (l[k]?).map fun x => Value.int .u8 x.toNat := by simp [bs]
theorem bs_take (l : List UInt8) (k : Nat) : (bs l).take k = bs (l.take k) := by simp [bs]
theorem Sl.byte {w : World} {B n : Nat} {A : Option Addr} {l : List UInt8} (h : Sl w B 1 A n (bs l)) {k : Nat} (hk : k < n) :
    ∃ b o x,A = some ⟨b,o,none⟩ ∧ b < B ∧ l[k]? = some x ∧ w.cell? ⟨b,o + k,none⟩ = some (.int .u8 (UInt8.toNat x)) := by
  obtain ⟨b,o,u,e,hb,hu,hc⟩ := h.get hk
  rw [bs_get] at hu
  obtain ⟨x,hx,rfl⟩ := Option.map_eq_some_iff.1 hu
  exact ⟨b,o,x,e,hb,hx,hc⟩
end Go.Proofs.YthcjnkakfpmpbaaDoor
namespace Go.Proofs.YthcjnkakfpmpbaaDoor
open Go.RowKit
theorem below_drewN {B : Nat} {a w : World} (h : Below B a w) (n : Nat) : Below B a (w.drewN n) := ⟨h.os,h.tape,h.output,h.size,h.block⟩
theorem bcell {W w1 : World} (hb : Below W.heap.size W w1) : (∀ b o,b < W.heap.size → w1.cell? ⟨b,o,none⟩ = W.cell? ⟨b,o,none⟩) ∧ (∀ b o,b < W.heap.size → w1.frozen? ⟨b,o,none⟩ = W.frozen? ⟨b,o,none⟩) :=
  ⟨fun b o h => hb.cell (p := ⟨b,o,none⟩) h,fun b o h => hb.frozen (p := ⟨b,o,none⟩) h⟩
def Blk (w : World) (g : Nat) (t : TypeId) (cs : List Value) : Prop := w.heap[g]? = some (.cells cs.toArray t (0,0))
section
variable {w w' : World} {g : Nat} {t : TypeId} {cs : List Value}
theorem Blk.lt (h : Blk w g t cs) : g < w.heap.size := (Array.getElem?_eq_some_iff.1 h).1
theorem Blk.cell (h : Blk w g t cs) (i : Nat) : w.cell? ⟨g,i,none⟩ = cs[i]? := by rw [cell_of_row w g i cs.toArray t (0,0) h]; simp
theorem Blk.free (h : Blk w g t cs) (i : Nat) : w.frozen? ⟨g,i,none⟩ = false := frozen_of_row w g i cs.toArray t h
theorem Blk.new (w : World) (t : TypeId) (cs : List Value) : Blk (w.alloc (.cells cs.toArray t)) w.heap.size t cs := heap_alloc_new w _
theorem Blk.drewN (h : Blk w g t cs) (n : Nat) : Blk (w.drewN n) g t cs := h
theorem Blk.alloc (h : Blk w g t cs) (o : Obj) : Blk (w.alloc o) g t cs := (Below.heap_alloc w o g h.lt).trans h
theorem Blk.set_ (h : Blk w g t cs) (i : Nat) (u : Value) : Blk (w.setCell ⟨g,i,none⟩ u) g t (cs.set i u) := by
  unfold Blk
  rw [heap_setCell_same w g i cs.toArray t u h]
  simp
theorem Blk.far (h : Blk w g t cs) {p : Addr} (hp : g ≠ p.block) (u : Value) : Blk (w.setCell p u) g t cs := (Below.heap_setCell w p u g hp).trans h
theorem Blk.below {B : Nat} (h : Blk w g t cs) (hb : Below B w w') (hg : g < B) : Blk w' g t cs := (hb.block g hg).trans h
theorem Blk.grown {row : Option Nat} (h : Blk w g t cs) (hb : w.grownBy w' row) (hg : some g ≠ row) : Blk w' g t cs := (hb.block g h.lt hg).trans h
theorem Blk.has (h : Blk w g t cs) : Has w g 0 cs := fun j u hu => by rw [Nat.zero_add,h.cell j,hu]
theorem Blk.sl (h : Blk w g t cs) {sz n : Nat} (hn : cs.length = n * sz) : Sl w w.heap.size sz (some ⟨g,0,none⟩) n cs := ⟨hn,fun _ => ⟨g,0,rfl,h.lt,h.has⟩⟩
theorem own_blk {base : Nat} {e : TypeId} {sz n : Nat} (h : w.ownsRow base e sz (.slice (some ⟨g,0,none⟩) n n) n cs) : Blk w g e cs := by
  rcases h.2 with ⟨hv,_⟩ | ⟨g',cap,cur,hv,_,hg,_,_,hs,ht⟩
  · cases hv
  · injection hv with h1 h2 h3
    subst h3
    injection h1 with h1
    injection h1 with h1
    subst h1
    unfold Blk
    rw [hg,← ht,List.take_of_length_le (by rw [Array.length_toList,hs]; exact Nat.le_refl _)]
end
def fillV {α : Type} (xs : List α) (z m : α) (j : Nat) : List α := xs ++ (List.replicate (j - xs.length) m ++ List.replicate (xs.length + 80 - j) z)
theorem fillV_length {α : Type} (xs : List α) (z m : α) (j : Nat) (h0 : xs.length ≤ j) (h1 : j ≤ xs.length + 80) : (fillV xs z m j).length = xs.length + 80 := by
  simp [fillV]; omega
theorem fillV_first {α : Type} (xs : List α) (z m : α) : fillV xs z m xs.length = xs ++ List.replicate 80 z := by simp [fillV]
theorem fillV_last {α : Type} (xs : List α) (z m : α) : fillV xs z m (xs.length + 80) = xs ++ List.replicate 80 m := by simp [fillV]
theorem fillV_step {α : Type} (xs : List α) (z m : α) (j : Nat) (h0 : xs.length ≤ j) (h1 : j < xs.length + 80) : (fillV xs z m j).set j m = fillV xs z m (j + 1) := by
  unfold fillV
  rw [List.set_append_right _ _ h0,List.set_append_right _ _ (by simp)]
  congr 1
  rw [List.length_replicate,Nat.sub_self,show xs.length + 80 - j = (xs.length + 80 - (j + 1)) + 1 by omega,List.replicate_succ,List.set_cons_zero,show j + 1 - xs.length = (j - xs.length) + 1 by omega,List.replicate_succ',List.append_assoc]
  rfl
theorem splice_first {α : Type} (xs : List α) (z : α) (n : Nat) (hn : xs.length = n) : splice (List.replicate (n + 80) z) 0 xs = xs ++ List.replicate 80 z := by
  subst hn
  simp only [splice,List.take_zero,List.nil_append,Nat.zero_add,List.drop_replicate]
  congr 2
  omega
end Go.Proofs.YthcjnkakfpmpbaaDoor
namespace Go.Proofs.YthcjnkakfpmpbaaDoor
open Go.RowKit
def fitsB (n width : Int) : Bool :=
  if width = 1 then decide (-128 ≤ n ∧ n ≤ 127) else if width = 2 then decide (-32768 ≤ n ∧ n ≤ 32767) else decide (width = 4)
theorem ret_int {k : IntKind} {a b : Int} (h : a = b) : Ending.returned (.int k a) = .returned (.int k b) := by rw [h]
theorem ret_bool {a b : Bool} (h : a = b) : Ending.returned (.bool a) = .returned (.bool b) := by rw [h]
theorem wrap_i8 (n : Int) : IntKind.i8.wrap n = (n + 128) % 256 - 128 := by simp [IntKind.wrap,IntKind.bits,IntKind.signed]; split <;> omega
theorem wrap_i16 (n : Int) : IntKind.i16.wrap n = (n + 32768) % 65536 - 32768 := by simp [IntKind.wrap,IntKind.bits,IntKind.signed]; split <;> omega
theorem width_cases (w : Int) : w = 1 ∨ w = 2 ∨ w = 4 ∨ (w ≠ 1 ∧ w ≠ 2 ∧ w ≠ 4) := by omega
theorem fitsB_not {n w : Int} (h : w ≠ 1 ∧ w ≠ 2 ∧ w ≠ 4) : fitsB n w = false := by simp [fitsB,h]
end Go.Proofs.YthcjnkakfpmpbaaDoor
namespace Go.Proofs.YthcjnkakfpmpbaaDoor
open Go.RowKit
def opTab : List (List UInt8 × Int × Int) := [([110,111,112],0,1),([104,97,108,116],1,1),([114,101,116],2,1),([112,114,105,110,116],3,2),([105,110],4,2),([112,117,115,104],5,2),([112,111,112],6,2),([106,114],7,2),([110,101,103],8,2),([110,111,116],9,2),([122,116,117,114,110],10,3),([122,99,111,110,106],11,3),([109,111,118],16,4),([97,100,100],17,4),([115,117,98],18,4),([109,117,108],19,4),([100,105,118],20,4),([97,110,100],21,4),([111,114],22,4),([120,111,114],23,4),([115,104,108],24,4),([115,104,114],25,4),([108,116],26,4),([101,113],27,4),([108,100,98],28,4),([108,100,119],29,4),([108,100,109],30,4),([115,116,109],31,4),([122,109,111,118],32,5),([122,97,100,100],33,5),([122,115,117,98],34,5),([122,109,117,108],35,5),([122,114,101],36,6),([122,105,109],37,6),([122,115,101,116],38,7),([108,105,115],48,8),([116,114,97,112],49,9),([108,105],50,10),([108,100,112],51,11),([106,109,112],64,12),([99,97,108,108],67,12),([106,122],70,13),([106,110,122],73,13)]
def opCells (x : List UInt8 × Int × Int) : List Value := [.string ⟨x.1.toArray⟩,.int .u8 x.2.1,.int .i64 x.2.2]
def tabCells : List Value := opTab.flatMap opCells
def isOp (op : Int) : Bool := decide (1 ≤ op ∧ op ≤ 43)
def opAt (op : Int) : List UInt8 × Int × Int := if 1 ≤ op ∧ op ≤ 43 then opTab.getD (op - 1).toNat ([],0,0) else ([],0,0)
def opName (op : Int) : List UInt8 := (opAt op).1
def opByte (op : Int) : Int := (opAt op).2.1
def opShape (op : Int) : Int := (opAt op).2.2
def opVal (op : Int) : Value := .agg #[.string ⟨(opName op).toArray⟩,.int .u8 (opByte op),.int .i64 (opShape op)]
theorem opAt_yes (k : Nat) (hk : k < 43) : opAt ((k : Int) + 1) = opTab.getD k ([],0,0) := by
  unfold opAt
  rw [if_pos (by omega)]
  congr 1
  omega
theorem opAt_no {op : Int} (h : ¬ (1 ≤ op ∧ op ≤ 43)) : opAt op = ([],0,0) := by unfold opAt; rw [if_neg h]
theorem isOp_yes (k : Nat) (hk : k < 43) : isOp ((k : Int) + 1) = true := by unfold isOp; simp; omega
theorem isOp_no {op : Int} (h : ¬ (1 ≤ op ∧ op ≤ 43)) : isOp op = false := by unfold isOp; simpa using h
theorem flat3 {α β : Type} (f : α → List β) (d : α) (h : ∀ x,(f x).length = 3) : ∀ (l : List α) (k : Nat),k < l.length → ∀ j,j < 3 → (l.flatMap f)[k * 3 + j]? = (f (l.getD k d))[j]?
  | [],k,hk,_,_ => absurd hk (by simp)
  | x :: r,0,_,j,hj => by
    rw [List.flatMap_cons,Nat.zero_mul,Nat.zero_add,List.getElem?_append_left (by rw [h]; exact hj)]
    rfl
  | x :: r,k + 1,hk,j,hj => by
    rw [List.flatMap_cons,List.getElem?_append_right (by rw [h]; omega),h,show (k + 1) * 3 + j - 3 = k * 3 + j by omega,flat3 f d h r k (by simpa using hk) j hj]
    rfl
theorem tab_cell (k : Nat) (hk : k < 43) (j : Nat) (hj : j < 3) : tabCells[k * 3 + j]? = (opCells (opTab.getD k ([],0,0)))[j]? := flat3 opCells _ (fun _ => rfl) opTab k hk j hj
theorem tab_length : tabCells.length = 129 := by decide +kernel
theorem shape_bounds (op : Int) : (isOp op = true → 1 ≤ opShape op ∧ opShape op ≤ 13) ∧ (isOp op = false → opShape op = 0) := by
  by_cases h : 1 ≤ op ∧ op ≤ 43
  · obtain ⟨k,rfl⟩ : ∃ k : Nat,op = (k : Int) + 1 := ⟨(op - 1).toNat,by omega⟩
    have hk : k < 43 := by omega
    refine ⟨fun _ => ?_,(fun h' => by rw [isOp_yes k hk] at h'; cases h')⟩
    unfold opShape
    rw [opAt_yes k hk]
    have all : ∀ k,k < 43 → 1 ≤ (opTab.getD k ([],0,0)).2.2 ∧ (opTab.getD k ([],0,0)).2.2 ≤ 13 := by decide +kernel
    exact all k hk
  · refine ⟨(fun h' => by rw [isOp_no h] at h'; cases h'),fun _ => ?_⟩
    unfold opShape
    rw [opAt_no h]
def TabIs (g : Nat) (W : World) : Prop := ∃ t,Blk W g t tabCells
theorem TabIs.lt {g : Nat} {W : World} (h : TabIs g W) : g < W.heap.size := h.choose_spec.lt
theorem TabIs.has {g : Nat} {W : World} (h : TabIs g W) : Has W g 0 tabCells := h.choose_spec.has
theorem TabIs.below {g B : Nat} {W W' : World} (h : TabIs g W) (hb : Below B W W') (hg : g < B) : TabIs g W' := ⟨h.choose,h.choose_spec.below hb hg⟩
theorem TabIs.grow {g : Nat} {W W' : World} (h : TabIs g W) (hb : Below W.heap.size W W') : TabIs g W' := h.below hb h.lt
theorem TabIs.alloc {g : Nat} {W : World} (h : TabIs g W) (o : Obj) : TabIs g (W.alloc o) := h.grow ((Below.refl _ _).alloc (Nat.le_refl _) _)
theorem TabIs.drewN {g : Nat} {W : World} (h : TabIs g W) (n : Nat) : TabIs g (W.drewN n) := h
theorem TabIs.cells {g : Nat} {W : World} (h : TabIs g W) (k : Nat) (hk : k < 43) :
    W.cell? ⟨g,k * 3,none⟩ = some (.string ⟨(opName ((k : Int) + 1)).toArray⟩) ∧ W.cell? ⟨g,k * 3 + 1,none⟩ = some (.int .u8 (opByte ((k : Int) + 1))) ∧ W.cell? ⟨g,k * 3 + 2,none⟩ = some (.int .i64 (opShape ((k : Int) + 1))) := by
  have c : ∀ j v,j < 3 → (opCells (opAt ((k : Int) + 1)))[j]? = some v → W.cell? ⟨g,k * 3 + j,none⟩ = some v := by
    intro j v hj hv
    have := h.has (k * 3 + j) v (by rw [tab_cell k hk j hj,← opAt_yes k hk]; exact hv)
    rwa [Nat.zero_add] at this
  exact ⟨c 0 _ (by omega) rfl,c 1 _ (by omega) rfl,c 2 _ (by omega) rfl⟩
end Go.Proofs.YthcjnkakfpmpbaaDoor
namespace Go.Proofs.YthcjnkakfpmpbaaDoor
open Go.RowKit
def spansB (op : Int) : Bool := opShape op == 12 || opShape op == 13
def limA (s : Int) : Int := if s = 2 ∨ s = 4 ∨ s = 6 ∨ s = 8 ∨ s = 10 ∨ s = 11 ∨ s = 13 then 8 else if s = 3 ∨ s = 5 ∨ s = 7 then 4 else 0
def limB (s : Int) : Int := if s = 4 ∨ s = 7 then 8 else if s = 5 ∨ s = 6 then 4 else 0
def okLim (x lim : Int) : Bool := if lim = 0 then decide (x = 0) else decide (0 ≤ x ∧ x < lim)
def regB (s a b n : Int) : Bool := okLim a (limA s) && okLim b (limB s) && (decide (s ≠ 7) || decide (0 ≤ n ∧ n < 8))
def numB (s n f : Int) : Bool :=
  if s = 8 then decide (-128 ≤ n ∧ n ≤ 127) else if s = 9 then decide (0 ≤ n ∧ n ≤ 255) else if s = 10 ∨ s = 7 then true else if s = 11 then decide (0 ≤ n ∧ n ≤ 4095) else if s = 12 ∨ s = 13 then fitsB n f else decide (n = 0)
def checkR (op a b n f : Int) : Int :=
  if isOp op = false then 11 else if regB (opShape op) a b n = false then 12 else if (spansB op = false ∧ f ≠ 0) ∨ numB (opShape op) n f = false then 13 else 0
theorem thirteen {s : Int} (h : 1 ≤ s ∧ s ≤ 13) : s = 1 ∨ s = 2 ∨ s = 3 ∨ s = 4 ∨ s = 5 ∨ s = 6 ∨ s = 7 ∨ s = 8 ∨ s = 9 ∨ s = 10 ∨ s = 11 ∨ s = 12 ∨ s = 13 := by omega
end Go.Proofs.YthcjnkakfpmpbaaDoor
namespace Go.Proofs.YthcjnkakfpmpbaaDoor
open Go.RowKit
set_option linter.unusedVariables false
theorem at_no (op : Int) (w : World) (h : ¬ (1 ≤ op ∧ op ≤ 43)) :
    Calls Tryd.prog 54 #[.int .i64 op] w fun e w' => e = .returned (.tuple #[.agg #[.string ⟨#[]⟩,.int .u8 0,.int .i64 0],.bool false]) ∧ Below w.heap.size w w' := by
  by_cases h1 : op < 1
  · clear h
    go_enter Tryd.func54,Tryd.ntmps54
    go_wp2
    exact bodyPost_ret (v := .tuple #[.agg #[.string ⟨#[]⟩,.int .u8 0,.int .i64 0],.bool false]) (by simp [results,Tryd.results54,go_sem]) rfl ⟨rfl,(Below.refl _ _).alloc (Nat.le_refl _) _⟩
  · have h2 : 43 < op := by omega
    clear h
    go_enter Tryd.func54,Tryd.ntmps54
    go_wp2
    exact bodyPost_ret (v := .tuple #[.agg #[.string ⟨#[]⟩,.int .u8 0,.int .i64 0],.bool false]) (by simp [results,Tryd.results54,go_sem]) rfl ⟨rfl,(Below.refl _ _).alloc (Nat.le_refl _) _⟩
theorem at_yes (k : Nat) (w : World) (hk : k < 43) (hT : TabIs 0 w) :
    Calls Tryd.prog 54 #[.int .i64 ((k : Int) + 1)] w fun e w' => e = .returned (.tuple #[opVal ((k : Int) + 1),.bool true]) ∧ Below w.heap.size w w' := by
  obtain ⟨c0,c1,c2⟩ := hT.cells k hk
  have hg := hT.lt
  have hI : (k : Int) < 43 := by omega
  unfold opVal
  obtain ⟨v0,h0⟩ : ∃ v,v = (opName ((k : Int) + 1)).toArray := ⟨_,rfl⟩
  obtain ⟨v1,h1⟩ : ∃ v,v = opByte ((k : Int) + 1) := ⟨_,rfl⟩
  obtain ⟨v2,h2⟩ : ∃ v,v = opShape ((k : Int) + 1) := ⟨_,rfl⟩
  rw [← h0] at c0 ⊢
  rw [← h1] at c1 ⊢
  rw [← h2] at c2 ⊢
  clear hT h0 h1 h2
  go_enter Tryd.func54,Tryd.ntmps54
  go_wp2
  exact bodyPost_ret (v := .tuple #[.agg #[.string ⟨v0⟩,.int .u8 v1,.int .i64 v2],.bool true]) (by simp [results,Tryd.results54,go_sem]) rfl ⟨rfl,(Below.refl _ _).alloc (Nat.le_refl _) _⟩
theorem at_any (op : Int) (w : World) (hT : TabIs 0 w) :
    Calls Tryd.prog 54 #[.int .i64 op] w fun e w' => e = .returned (.tuple #[.agg #[.string ⟨(opName op).toArray⟩,.int .u8 (opByte op),.int .i64 (opShape op)],.bool (isOp op)]) ∧ Below w.heap.size w w' := by
  by_cases h : 1 ≤ op ∧ op ≤ 43
  · obtain ⟨k,rfl⟩ : ∃ k : Nat,op = (k : Int) + 1 := ⟨(op - 1).toNat,by omega⟩
    have hk : k < 43 := by omega
    rw [isOp_yes k hk]
    exact at_yes k w hk hT
  · have := at_no op w h
    unfold opName opByte opShape
    rw [opAt_no h,isOp_no h]
    exact this
theorem spans_any (op : Int) (w : World) (hT : TabIs 0 w) :
    Calls Tryd.prog 71 #[.int .i64 op] w fun e w' => e = .returned (.bool (spansB op)) ∧ Below w.heap.size w w' := by
  unfold spansB
  have hat := at_any op w hT
  obtain ⟨v2,h2⟩ : ∃ v,v = opShape op := ⟨_,rfl⟩
  rw [← h2] at hat ⊢
  have H := Lib.hid hat
  clear hat h2
  by_cases h12 : v2 = 12
  · subst h12
    go_enter Tryd.func71,Tryd.ntmps71
    go_wp2_with (go_at_call 54; refine H.out.mono ?_; rintro e w1 ⟨rfl,hb⟩)
    go_ret
    exact ⟨rfl,hb.alloc hb.size _⟩
  · have e12 : (v2 == 12) = false := by simpa using h12
    rw [e12]
    clear h12
    go_enter Tryd.func71,Tryd.ntmps71
    go_wp2_with (go_at_call 54; refine H.out.mono ?_; rintro e w1 ⟨rfl,hb⟩)
    go_ret
    exact ⟨rfl,hb.alloc hb.size _⟩
theorem below_any (n most : Int) (w : World) :
    Calls Tryd.prog 89 #[.int .i64 n,.int .i64 most] w fun e w' => e = .returned (.bool (decide (0 ≤ n) && decide (n < most))) ∧ w = w' := by
  by_cases h : 0 ≤ n
  · by_cases h2 : n < most
    all_goals
      go_enter Tryd.func89,Tryd.ntmps89
      go_wp2
      go_ret
      exact ⟨ret_bool (by simp; omega),rfl⟩
  · go_enter Tryd.func89,Tryd.ntmps89
    go_wp2
    go_ret
    exact ⟨ret_bool (by simp; omega),rfl⟩
theorem reaches_any (n form : Int) (w : World) (h0 : -2147483648 ≤ n) (h1 : n ≤ 2147483647) :
    Calls Tryd.prog 90 #[.int .i32 n,.int .i64 form] w fun e w' => e = .returned (.bool (fitsB n form)) ∧ w = w' := by
  rcases width_cases form with rfl | rfl | rfl | h
  · go_enter Tryd.func90,Tryd.ntmps90
    go_wp2
    go_ret
    exact ⟨ret_bool (by show (n == wrap32 (IntKind.i8.wrap n)) = _; rw [wrap_i8,Bool.eq_iff_iff]; simp [fitsB,wrap32]; omega),rfl⟩
  · go_enter Tryd.func90,Tryd.ntmps90
    go_wp2
    go_ret
    exact ⟨ret_bool (by show (n == wrap32 (IntKind.i16.wrap n)) = _; rw [wrap_i16,Bool.eq_iff_iff]; simp [fitsB,wrap32]; omega),rfl⟩
  · go_enter Tryd.func90,Tryd.ntmps90
    go_wp2
    go_ret
    exact ⟨rfl,rfl⟩
  · rw [fitsB_not h]
    obtain ⟨a,b,c⟩ := h
    have e1 : (form == 1) = false := by simpa using a
    have e2 : (form == 2) = false := by simpa using b
    have e3 : (form == 4) = false := by simpa using c
    clear a b c
    go_enter Tryd.func90,Tryd.ntmps90
    go_wp2
    go_ret
    exact ⟨rfl,rfl⟩
end Go.Proofs.YthcjnkakfpmpbaaDoor
namespace Go.Proofs.YthcjnkakfpmpbaaDoor
open Go.RowKit
set_option linter.unusedVariables false
set_option maxHeartbeats 4000000 in
theorem registers_any (op a b n f s : Int) (w : World) (hs : 1 ≤ s ∧ s ≤ 13) :
    Calls Tryd.prog 74 #[.agg #[.int .i64 op,.int .i64 a,.int .i64 b,.int .i32 n,.int .i64 f],.int .i64 s] w fun e w' => e = .returned (.bool (regB s a b n)) ∧ Below w.heap.size w w' := by
  rcases thirteen hs with rfl | rfl | rfl | rfl | rfl | rfl | rfl | rfl | rfl | rfl | rfl | rfl | rfl
  all_goals
    clear hs
    go_enter Tryd.func74,Tryd.ntmps74
    go_wp2_with (go_at_call 89; refine (below_any _ _ _).mono ?_; rintro e w' ⟨rfl,rfl⟩)
    all_goals
      go_ret
      exact ⟨ret_bool (by rw [Bool.eq_iff_iff]; simp [regB,limA,limB,okLim] at *; omega),(Below.refl _ _).alloc (Nat.le_refl _) _⟩
set_option maxHeartbeats 4000000 in
theorem number_any (op a b n f s : Int) (w : World) (hs : 1 ≤ s ∧ s ≤ 13) (hn : -2147483648 ≤ n ∧ n ≤ 2147483647) :
    Calls Tryd.prog 75 #[.agg #[.int .i64 op,.int .i64 a,.int .i64 b,.int .i32 n,.int .i64 f],.int .i64 s] w fun e w' => e = .returned (.bool (numB s n f)) ∧ Below w.heap.size w w' := by
  have h0 := hn.1
  have h1 := hn.2
  clear hn
  rcases thirteen hs with rfl | rfl | rfl | rfl | rfl | rfl | rfl | rfl | rfl | rfl | rfl | rfl | rfl
  all_goals
    clear hs
    go_enter Tryd.func75,Tryd.ntmps75
    go_wp2_with (go_at_call 90; refine (reaches_any _ _ _ h0 h1).mono ?_; rintro e w' ⟨rfl,rfl⟩)
    all_goals
      go_ret
      exact ⟨ret_bool (by first | rfl | (rw [Bool.eq_iff_iff]; simp [numB] at *; done) | (rw [Bool.eq_iff_iff]; simp [numB] at *; omega)),(Below.refl _ _).alloc (Nat.le_refl _) _⟩
end Go.Proofs.YthcjnkakfpmpbaaDoor
