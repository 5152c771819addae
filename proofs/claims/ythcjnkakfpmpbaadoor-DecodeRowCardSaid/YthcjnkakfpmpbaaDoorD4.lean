/- Words for the walk of decode's Decode: its scope, its three blocks. Conditions: none. -/
import Derived.Test.YthcjnkakfpmpbaaDoorD3
import Derived.Deep.MidRow
namespace Go.Proofs.YthcjnkakfpmpbaaDoor
open Go.RowKit
set_option linter.unusedVariables false
set_option linter.unusedSimpArgs false

def scopeIn : Code → Option Code
  | .scope c => some c
  | .seq a b => match scopeIn a with | some c => some c | none => scopeIn b
  | _ => none
def scopeOf (c : Option Code) : Code := match c with | some c => (match scopeIn c with | some c => c | none => .skip) | none => .skip
noncomputable def decBody : Code := scopeOf Tryd.f16.body

/-- the world within Decode: the result's block, the instruction's, the operation's -/
def DecW (w0 : World) (i x : List Value) (w : World) : Prop :=
  Below w0.heap.size w0 w ∧ Blk w w0.heap.size 25 [.int .i64 0, .int .i64 0, .int .i64 0, .int .i32 0, .int .i64 0] ∧ Blk w (w0.heap.size + 1) 25 i ∧ Blk w (w0.heap.size + 1 + 1) 97 x
theorem Blk.farCells {g h : Nat} {t : TypeId} {cs : List Value} (hne : h ≠ g) : ∀ (vs : List Value) (o : Nat) (w : World), Blk w h t cs → Blk (w.setCells g o vs) h t cs
  | [], _, _, hb => hb
  | v :: r, o, w, hb => Blk.farCells hne r (o + 1) _ (hb.far (p := ⟨g, o, none⟩) hne v)
theorem below_setCells {W : World} {g B : Nat} (hB : B ≤ g) : ∀ (vs : List Value) (o : Nat) (w1 : World), Below B W w1 → Below B W (w1.setCells g o vs)
  | [], _, _, h => h
  | v :: r, o, w1, h => below_setCells hB r (o + 1) _ (h.setCell (p := ⟨g, o, none⟩) hB v)
theorem DecW.setI {w0 w : World} {i x : List Value} (h : DecW w0 i x w) (k : Nat) (v : Value) : DecW w0 (i.set k v) x (w.setCell ⟨w0.heap.size + 1, k, none⟩ v) :=
  ⟨h.1.setCell (p := ⟨w0.heap.size + 1, k, none⟩) (by show w0.heap.size ≤ w0.heap.size + 1; omega) v, h.2.1.far (p := ⟨w0.heap.size + 1, k, none⟩) (by show w0.heap.size ≠ w0.heap.size + 1; omega) v, h.2.2.1.set_ k v, h.2.2.2.far (p := ⟨w0.heap.size + 1, k, none⟩) (by show w0.heap.size + 1 + 1 ≠ w0.heap.size + 1; omega) v⟩
theorem DecW.setX {w0 w : World} {i : List Value} {z0 z1 z2 : Value} (h : DecW w0 i [z0, z1, z2] w) (a b c : Value) : DecW w0 i [a, b, c] (w.setCells (w0.heap.size + 1 + 1) 0 [a, b, c]) :=
  ⟨below_setCells (by omega) _ _ _ h.1, Blk.farCells (by omega) _ _ _ h.2.1, Blk.farCells (by omega) _ _ _ h.2.2.1, ((h.2.2.2.set_ 0 a).set_ 1 b).set_ 2 c⟩
theorem DecW.below {w0 w w' : World} {i x : List Value} (h : DecW w0 i x w) (hb : Below w.heap.size w w') : DecW w0 i x w' :=
  ⟨h.1.trans (hb.mono h.1.size), h.2.1.below hb h.2.1.lt, h.2.2.1.below hb h.2.2.1.lt, h.2.2.2.below hb h.2.2.2.lt⟩
theorem DecW.drew {w0 w : World} {i x : List Value} (h : DecW w0 i x w) : DecW w0 i x w.drew := ⟨h.1.drew, h.2.1, h.2.2.1, h.2.2.2⟩
theorem DecW.ins {w0 w : World} {a b c d e : Value} {x : List Value} (h : DecW w0 [a, b, c, d, e] x w) :
    w.cell? ⟨w0.heap.size + 1, 0, none⟩ = some a ∧ w.cell? ⟨w0.heap.size + 1, 1, none⟩ = some b ∧ w.cell? ⟨w0.heap.size + 1, 2, none⟩ = some c ∧ w.cell? ⟨w0.heap.size + 1, 3, none⟩ = some d ∧ w.cell? ⟨w0.heap.size + 1, 4, none⟩ = some e :=
  ⟨h.2.2.1.cell 0, h.2.2.1.cell 1, h.2.2.1.cell 2, h.2.2.1.cell 3, h.2.2.1.cell 4⟩
theorem DecW.op {w0 w : World} {a b c : Value} {i : List Value} (h : DecW w0 i [a, b, c] w) : w.cell? ⟨w0.heap.size + 1 + 1, 1, none⟩ = some b ∧ w.cell? ⟨w0.heap.size + 1 + 1, 2, none⟩ = some c := ⟨h.2.2.2.cell 1, h.2.2.2.cell 2⟩
theorem DecW.byte {w0 w : World} {i x : List Value} (h : DecW w0 i x w) {b k : Nat} (hb : b < w0.heap.size) : w.cell? ⟨b, k, none⟩ = w0.cell? ⟨b, k, none⟩ := (bcell h.1).1 b k hb
theorem DecW.tab {w0 w : World} {i x : List Value} {g : Nat} (h : DecW w0 i x w) (hT : TabIs g w0) : TabIs g w := hT.grow h.1

/-- a store of one number into the instruction -/
theorem run_store_int {P : Program} {w0 w : World} {i x : List Value} (h : DecW w0 i x w) {a : Act} {o : Oper} {ty : TypeId} {p y : Operand} {k : Nat} {kd : IntKind} {n : Int} (hi : (P.info? ty).map (·.size) = some 1) (ho : o.op = .store ty p y) (hp : a.eval p = .pointer (some ⟨w0.heap.size + 1, k, none⟩))
    (hy : a.eval y = .int kd n) (hk : k < i.length) : (execOp a.eval o).run P w = .ok .skip (w.setCell ⟨w0.heap.size + 1, k, none⟩ (.int kd n)) := by
  have hc : w.cell? ⟨w0.heap.size + 1, k, none⟩ = some i[k] := by rw [h.2.2.1.cell, List.getElem?_eq_getElem hk]
  have hf := h.2.2.1.free k
  cases hq : P.info? ty with
  | none => simp [hq] at hi
  | some ii =>
    have hi1 : ii.size = 1 := by simpa [hq] using hi
    unfold execOp
    simp only [ho, hp, hy]
    go_simp
    simp [sizeOf, typeInfo, hq, hi1, hc, hf, Result.andThen]
theorem wpList_storeI {P : Program} {w0 w : World} {i x : List Value} (h : DecW w0 i x w) {ops : Array Oper} {rest : List Oper} {a : Act} {o : Oper} {Q : Exit → Act → World → Prop} (hgd : o.guard = none) (ty : TypeId) (p y : Operand) (k : Nat) (kd : IntKind) (n : Int)
    (ho : o.op = .store ty p y) (hp : a.eval p = .pointer (some ⟨w0.heap.size + 1, k, none⟩)) (hy : a.eval y = .int kd n) (hk : k < i.length) (hi : (P.info? ty).map (·.size) = some 1)
    (hn : ∀ w', DecW w0 (i.set k (.int kd n)) x w' → wpList P ops Q rest (a.put o.dst undef) w') : wpList P ops Q (o :: rest) a w := by
  refine wpList_plain hgd fun K hK => ?_
  simp only [Oper.wp, run_store_int h hi ho hp hy hk, Oper.upon]
  exact hK _ _ (hn _ (h.setI k _))
theorem wpList_storeX {P : Program} {w0 w : World} {i : List Value} {z0 z1 z2 : Value} (h : DecW w0 i [z0, z1, z2] w) {ops : Array Oper} {rest : List Oper} {a : Act} {o : Oper} {Q : Exit → Act → World → Prop} (hgd : o.guard = none) (ty : TypeId) (p y : Operand) (c0 c1 c2 : Value)
    (ho : o.op = .store ty p y) (hp : a.eval p = .pointer (some ⟨w0.heap.size + 1 + 1, 0, none⟩)) (hy : a.eval y = .agg #[c0, c1, c2]) (h1 : (#[c0, c1, c2] : Array Value).all (·.oneCell') = true) (hi : (P.info? ty).map (·.size) = some 3)
    (hn : ∀ w', DecW w0 i [c0, c1, c2] w' → wpList P ops Q rest (a.put o.dst undef) w') : wpList P ops Q (o :: rest) a w :=
  wpList_store_mid hgd ty p y ho (w0.heap.size + 1 + 1) 0 #[c0, c1, c2] hp hy (there3 h.2.2.2) hi h1 (hn _ (h.setX c0 c1 c2))
theorem DecW.init (w : World) : DecW w [.int .i64 0, .int .i64 0, .int .i64 0, .int .i32 0, .int .i64 0] [.string ⟨#[]⟩, .int .u8 0, .int .i64 0]
    (((w.alloc (.cells #[.int .i64 0, .int .i64 0, .int .i64 0, .int .i32 0, .int .i64 0] 25)).alloc (.cells #[.int .i64 0, .int .i64 0, .int .i64 0, .int .i32 0, .int .i64 0] 25)).alloc (.cells #[.string ⟨#[]⟩, .int .u8 0, .int .i64 0] 97)) := by
  refine ⟨(((Below.refl _ _).alloc (Nat.le_refl _) _).alloc (by simp) _).alloc (by simp; omega) _, ((Blk.new w _ _).alloc _).alloc _, ?_, ?_⟩
  · have := (Blk.new (w.alloc (.cells #[.int .i64 0, .int .i64 0, .int .i64 0, .int .i32 0, .int .i64 0] 25)) 25 [.int .i64 0, .int .i64 0, .int .i64 0, .int .i32 0, .int .i64 0]).alloc (.cells #[.string ⟨#[]⟩, .int .u8 0, .int .i64 0] 97)
    simpa using this
  · have := Blk.new ((w.alloc (.cells #[.int .i64 0, .int .i64 0, .int .i64 0, .int .i32 0, .int .i64 0] 25)).alloc (.cells #[.int .i64 0, .int .i64 0, .int .i64 0, .int .i32 0, .int .i64 0] 25)) 97 [.string ⟨#[]⟩, .int .u8 0, .int .i64 0]
    simpa using this
theorem there5 {w1 : World} {g : Nat} {t : TypeId} {z0 z1 z2 z3 z4 : Value} (h : Blk w1 g t [z0, z1, z2, z3, z4]) : w1.there g 0 5 :=
  fun t ht => ⟨by rw [Nat.zero_add, h.cell, List.getElem?_eq_getElem (by simpa using ht)]; rfl, h.free _⟩
theorem wpList_storeR {P : Program} {w0 w : World} {i x : List Value} (h : DecW w0 i x w) {ops : Array Oper} {rest : List Oper} {a : Act} {o : Oper} {Q : Exit → Act → World → Prop} (hgd : o.guard = none) (ty : TypeId) (p y : Operand) (c0 c1 c2 c3 c4 : Value)
    (ho : o.op = .store ty p y) (hp : a.eval p = .pointer (some ⟨w0.heap.size, 0, none⟩)) (hy : a.eval y = .agg #[c0, c1, c2, c3, c4]) (h1 : (#[c0, c1, c2, c3, c4] : Array Value).all (·.oneCell') = true) (hi : (P.info? ty).map (·.size) = some 5)
    (hn : ∀ w', Below w0.heap.size w0 w' → (w'.cell? ⟨w0.heap.size, 0, none⟩ = some c0 ∧ w'.cell? ⟨w0.heap.size, 1, none⟩ = some c1 ∧ w'.cell? ⟨w0.heap.size, 2, none⟩ = some c2 ∧ w'.cell? ⟨w0.heap.size, 3, none⟩ = some c3 ∧ w'.cell? ⟨w0.heap.size, 4, none⟩ = some c4) → wpList P ops Q rest (a.put o.dst undef) w') : wpList P ops Q (o :: rest) a w := by
  have hb := ((((h.2.1.set_ 0 c0).set_ 1 c1).set_ 2 c2).set_ 3 c3).set_ 4 c4
  exact wpList_store_mid hgd ty p y ho w0.heap.size 0 #[c0, c1, c2, c3, c4] hp hy (there5 h.2.1) hi h1 (hn _ (below_setCells (Nat.le_refl _) _ _ _ h.1) ⟨hb.cell 0, hb.cell 1, hb.cell 2, hb.cell 3, hb.cell 4⟩)
theorem held_storeI {P : Program} {w0 w : World} {i x : List Value} (h : DecW w0 i x w) {ops : Array Oper} {R : Act → World → Prop} {S : World → Prop} {listed : Array Bool} {a : Act} (q : Nat) {d : Option Tmp} (hk : oneOk ops listed q = true) (hw : Region.wanted (opOf ops q) (yielded ops a.tmps) = true) (hd : (opOf ops q).dst = d)
    (ty : TypeId) (p y : Operand) (k : Nat) (kd : IntKind) (n : Int) (ho : (opOf ops q).op = .store ty p y) (hp : a.eval p = .pointer (some ⟨w0.heap.size + 1, k, none⟩)) (hy : a.eval y = .int kd n) (hkl : k < i.length) (hi : (P.info? ty).map (·.size) = some 1)
    (hn : ∀ w', DecW w0 (i.set k (.int kd n)) x w' → S w' ∧ Held P ops R S (listed.setIfInBounds q true) (a.put d undef) w') : HStep P ops R S listed q a w := fun hS => by
  simp only [oneOk, Bool.and_eq_true, Nat.blt_eq] at hk
  unfold wpOp
  rw [opOf_some hk.1]
  subst hd
  simp only [hw, if_true]
  refine Or.inl ?_
  simp only [Oper.wp, run_store_int h hi ho hp hy hkl, Oper.upon]
  exact hn _ (h.setI k _)
theorem and15_nat : ∀ r : Nat, r < 256 → bits BinOp.and IntKind.u8 (r : Int) 15 = (r : Int) % 16 := by decide +kernel
theorem and15 {r : Int} (h0 : 0 ≤ r) (h1 : r < 256) : bits BinOp.and IntKind.u8 r 15 = r % 16 := by
  obtain ⟨k, rfl⟩ := Int.eq_ofNat_of_zero_le h0
  exact and15_nat k (by omega)
theorem wrap64_small {r : Int} (h0 : 0 ≤ r) (h1 : r < 256) : IntKind.i64.wrap r = r := by simp [IntKind.wrap, IntKind.bits, IntKind.signed]; omega
theorem wrap32_small {r : Int} (h0 : 0 ≤ r) (h1 : r < 256) : IntKind.i32.wrap r = r := by simp [IntKind.wrap, IntKind.bits, IntKind.signed]; omega
noncomputable def dec38 : Array Oper := regOf Tryd.f16.body 38
noncomputable def dec41 : Array Oper := regOf Tryd.f16.body 41
end Go.Proofs.YthcjnkakfpmpbaaDoor
