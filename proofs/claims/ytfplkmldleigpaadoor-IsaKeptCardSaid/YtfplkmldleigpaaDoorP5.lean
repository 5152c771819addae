/- Plain words on instructions: the table of operations, what is right, how long. No program in sight. No condition. -/
import Derived.Test.YtfplkmldleigpaaDoorM2
import Derived.Test.YtfplkmldleigpaaDoorP1
namespace Go.Proofs.YtfplkmldleigpaaDoor
open Go.RowKit

/-- the operations: name, byte, shape -/
def opTab : List (List UInt8 × Int × Int) := [([110, 111, 112], 0, 1), ([104, 97, 108, 116], 1, 1), ([114, 101, 116], 2, 1), ([112, 114, 105, 110, 116], 3, 2), ([105, 110], 4, 2), ([112, 117, 115, 104], 5, 2), ([112, 111, 112], 6, 2), ([106, 114], 7, 2), ([110, 101, 103], 8, 2), ([110, 111, 116], 9, 2), ([122, 116, 117, 114, 110], 10, 3), ([122, 99, 111, 110, 106], 11, 3), ([109, 111, 118], 16, 4), ([97, 100, 100], 17, 4), ([115, 117, 98], 18, 4), ([109, 117, 108], 19, 4), ([100, 105, 118], 20, 4), ([97, 110, 100], 21, 4), ([111, 114], 22, 4), ([120, 111, 114], 23, 4), ([115, 104, 108], 24, 4), ([115, 104, 114], 25, 4), ([108, 116], 26, 4), ([101, 113], 27, 4), ([108, 100, 98], 28, 4), ([108, 100, 119], 29, 4), ([108, 100, 109], 30, 4), ([115, 116, 109], 31, 4), ([122, 109, 111, 118], 32, 5), ([122, 97, 100, 100], 33, 5), ([122, 115, 117, 98], 34, 5), ([122, 109, 117, 108], 35, 5), ([122, 114, 101], 36, 6), ([122, 105, 109], 37, 6), ([122, 115, 101, 116], 38, 7), ([108, 105, 115], 48, 8), ([116, 114, 97, 112], 49, 9), ([108, 105], 50, 10), ([108, 100, 112], 51, 11), ([106, 109, 112], 64, 12), ([99, 97, 108, 108], 67, 12), ([106, 122], 70, 13), ([106, 110, 122], 73, 13)]
/-- an operation's cells -/
def opCells (x : List UInt8 × Int × Int) : List Value := [.string ⟨x.1.toArray⟩, .int .u8 x.2.1, .int .i64 x.2.2]
def tabCells : List Value := opTab.flatMap opCells
def isOp (op : Int) : Bool := decide (1 ≤ op ∧ op ≤ 43)
/-- what stands at a number: nothing where there is none -/
def opAt (op : Int) : List UInt8 × Int × Int := if 1 ≤ op ∧ op ≤ 43 then opTab.getD (op - 1).toNat ([], 0, 0) else ([], 0, 0)
def opName (op : Int) : List UInt8 := (opAt op).1
def opByte (op : Int) : Int := (opAt op).2.1
def opShape (op : Int) : Int := (opAt op).2.2
def opVal (op : Int) : Value := .agg #[.string ⟨(opName op).toArray⟩, .int .u8 (opByte op), .int .i64 (opShape op)]
theorem opAt_yes (k : Nat) (hk : k < 43) : opAt ((k : Int) + 1) = opTab.getD k ([], 0, 0) := by
  unfold opAt
  rw [if_pos (by omega)]
  congr 1
  omega
theorem opAt_no {op : Int} (h : ¬ (1 ≤ op ∧ op ≤ 43)) : opAt op = ([], 0, 0) := by unfold opAt; rw [if_neg h]
theorem isOp_yes (k : Nat) (hk : k < 43) : isOp ((k : Int) + 1) = true := by unfold isOp; simp; omega
theorem isOp_no {op : Int} (h : ¬ (1 ≤ op ∧ op ≤ 43)) : isOp op = false := by unfold isOp; simpa using h
/-- the cells of the table, three each -/
theorem flat3 {α β : Type} (f : α → List β) (d : α) (h : ∀ x, (f x).length = 3) : ∀ (l : List α) (k : Nat), k < l.length → ∀ j, j < 3 → (l.flatMap f)[k * 3 + j]? = (f (l.getD k d))[j]?
  | [], k, hk, _, _ => absurd hk (by simp)
  | x :: r, 0, _, j, hj => by
    rw [List.flatMap_cons, Nat.zero_mul, Nat.zero_add, List.getElem?_append_left (by rw [h]; exact hj)]
    rfl
  | x :: r, k + 1, hk, j, hj => by
    rw [List.flatMap_cons, List.getElem?_append_right (by rw [h]; omega), h, show (k + 1) * 3 + j - 3 = k * 3 + j by omega, flat3 f d h r k (by simpa using hk) j hj]
    rfl
theorem tab_cell (k : Nat) (hk : k < 43) (j : Nat) (hj : j < 3) : tabCells[k * 3 + j]? = (opCells (opTab.getD k ([], 0, 0)))[j]? := flat3 opCells _ (fun _ => rfl) opTab k hk j hj
theorem tab_length : tabCells.length = 129 := by decide +kernel
/-- each shape is one of thirteen -/
theorem shape_bounds (op : Int) : (isOp op = true → 1 ≤ opShape op ∧ opShape op ≤ 13) ∧ (isOp op = false → opShape op = 0) := by
  by_cases h : 1 ≤ op ∧ op ≤ 43
  · obtain ⟨k, rfl⟩ : ∃ k : Nat, op = (k : Int) + 1 := ⟨(op - 1).toNat, by omega⟩
    have hk : k < 43 := by omega
    refine ⟨fun _ => ?_, (fun h' => by rw [isOp_yes k hk] at h'; cases h')⟩
    unfold opShape
    rw [opAt_yes k hk]
    have all : ∀ k, k < 43 → 1 ≤ (opTab.getD k ([], 0, 0)).2.2 ∧ (opTab.getD k ([], 0, 0)).2.2 ≤ 13 := by decide +kernel
    exact all k hk
  · refine ⟨(fun h' => by rw [isOp_no h] at h'; cases h'), fun _ => ?_⟩
    unfold opShape
    rw [opAt_no h]
/-- block g holds the table (variable isa.table's block; a block that the reference's Ops made) -/
def TabIs (g : Nat) (W : World) : Prop := ∃ t, Blk W g t tabCells
theorem TabIs.lt {g : Nat} {W : World} (h : TabIs g W) : g < W.heap.size := h.choose_spec.lt
theorem TabIs.has {g : Nat} {W : World} (h : TabIs g W) : Has W g 0 tabCells := h.choose_spec.has
theorem TabIs.below {g B : Nat} {W W' : World} (h : TabIs g W) (hb : Below B W W') (hg : g < B) : TabIs g W' := ⟨h.choose, h.choose_spec.below hb hg⟩
theorem TabIs.grow {g : Nat} {W W' : World} (h : TabIs g W) (hb : Below W.heap.size W W') : TabIs g W' := h.below hb h.lt
theorem TabIs.alloc {g : Nat} {W : World} (h : TabIs g W) (o : Obj) : TabIs g (W.alloc o) := h.grow ((Below.refl _ _).alloc (Nat.le_refl _) _)
theorem TabIs.drewN {g : Nat} {W : World} (h : TabIs g W) (n : Nat) : TabIs g (W.drewN n) := h
theorem TabIs.cells {g : Nat} {W : World} (h : TabIs g W) (k : Nat) (hk : k < 43) :
    W.cell? ⟨g, k * 3, none⟩ = some (.string ⟨(opName ((k : Int) + 1)).toArray⟩) ∧ W.cell? ⟨g, k * 3 + 1, none⟩ = some (.int .u8 (opByte ((k : Int) + 1))) ∧ W.cell? ⟨g, k * 3 + 2, none⟩ = some (.int .i64 (opShape ((k : Int) + 1))) := by
  have c : ∀ j v, j < 3 → (opCells (opAt ((k : Int) + 1)))[j]? = some v → W.cell? ⟨g, k * 3 + j, none⟩ = some v := by
    intro j v hj hv
    have := h.has (k * 3 + j) v (by rw [tab_cell k hk j hj, ← opAt_yes k hk]; exact hv)
    rwa [Nat.zero_add] at this
  exact ⟨c 0 _ (by omega) rfl, c 1 _ (by omega) rfl, c 2 _ (by omega) rfl⟩
end Go.Proofs.YtfplkmldleigpaaDoor
