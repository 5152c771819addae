/- From what the row lists to the table's words; a world that holds the table; an instruction among the arguments. No condition. -/
import Derived.Test.YtfplkmldleigpaaDoorO1
import Derived.Test.YtfplkmldleigpaaDoorP5
import Derived.Lib.SmallJoins
import Derived.Lib.LaidTab
namespace Go.Proofs.YtfplkmldleigpaaDoor
open Go.ChangeShapes Go.WideShapes Go.ChangeAt Go.RowKit Go.Joins
set_option linter.unusedVariables false

theorem gTab : Tryd.prog.globalNamed "spandrel/isa.table" = some 0 := by kernel_rfl
theorem gTabType : (Tryd.prog.globals[0]?).map (·.type) = some 74 := by kernel_rfl
theorem cellsTab : Tryd.prog.cellsOf 74 = 129 := by kernel_rfl
theorem cellsOp : Tryd.prog.cellsOf 25 = 3 := by kernel_rfl
theorem cellsStr : Tryd.prog.cellsOf 9 = 1 := by kernel_rfl
theorem cellsU8 : Tryd.prog.cellsOf 5 = 1 := by kernel_rfl
theorem cellsInt : Tryd.prog.cellsOf 3 = 1 := by kernel_rfl

def opDatum {H : Type} (x : List UInt8 × Int × Int) : DataW H := .agg [.lit (.string x.1), .lit (.int .u8 x.2.1), .lit (.int .i64 x.2.2)]
theorem datum_is {H : Type} : (Rows.laid_spandrel_isa_table : DataW H) = .agg (opTab.map opDatum) := rfl
theorem opTab_length : opTab.length = 43 := by decide +kernel

set_option maxRecDepth 20000 in
/-- an operation's three cells, by its reading -/
theorem cells_of_op {fuel : Nat} {W : World} {cs : List Value} {x : List UInt8 × Int × Int} {p : List MemPlace} (h : DataW.trod (fun _ => ()) Tryd.prog W 0 (fun _ => true) false fuel 25 cs = some (opDatum x, p)) : cs = opCells x := by
  obtain ⟨xs, n, _, hx, hlen, hxl, hg⟩ := DataW.trod_struct Tryd.underlying25 h
  rw [cellsOp] at hlen
  match cs, hlen with
  | [c0, c1, c2], _ =>
    match xs, hxl with
    | [y0, y1, y2], _ =>
      simp only [Prod.mk.injEq, opDatum, DataW.agg.injEq, List.map_cons, List.map_nil, List.cons.injEq, and_true] at hx
      obtain ⟨⟨e0, e1, e2⟩, _⟩ := hx
      have g0 := hg 0 _ rfl
      have g1 := hg 1 _ rfl
      have g2 := hg 2 _ rfl
      simp [cellsStr, cellsU8, cellsInt] at g0 g1 g2
      obtain ⟨s, hs, hy0, _⟩ := DataW.trod_string Tryd.underlying9 g0
      obtain ⟨m, hm, hy1, _⟩ := DataW.trod_int Tryd.underlying5 g1
      obtain ⟨q, hq, hy2, _⟩ := DataW.trod_int Tryd.underlying3 g2
      subst hy0
      subst hy1
      subst hy2
      simp only [DataW.lit.injEq, Lit.string.injEq, Lit.int.injEq, true_and] at e0 e1 e2
      simp at hs hm hq
      subst hs
      subst hm
      subst hq
      simp [opCells, e0, e1, e2]

/-- the variable's cells, by its reading -/
theorem cells_of_table {fuel : Nat} {W : World} {cs : List Value} {p : List MemPlace} (h : DataW.trod (fun _ => ()) Tryd.prog W 0 (fun _ => true) false fuel 74 cs = some (.agg (opTab.map opDatum), p)) : cs = tabCells := by
  obtain ⟨xs, n, _, hx, hlen, hxl, hg⟩ := DataW.trod_array Tryd.underlying74 h
  rw [cellsTab] at hlen
  simp only [Prod.mk.injEq, DataW.agg.injEq] at hx
  obtain ⟨hx, _⟩ := hx
  apply List.ext_getElem?
  intro i
  by_cases hi : i < 129
  · have hk : i / 3 < 43 := by omega
    have hj : i % 3 < 3 := Nat.mod_lt _ (by omega)
    have hgk := hg (i / 3) hk
    rw [cellsOp, List.getElem?_eq_getElem (by omega)] at hgk
    have hd : (xs.map (·.1))[i / 3]? = (opTab.map opDatum)[i / 3]? := by rw [hx]
    rw [List.getElem?_map, List.getElem?_map, List.getElem?_eq_getElem (by omega), List.getElem?_eq_getElem (by rw [opTab_length]; omega)] at hd
    simp only [Option.map_some, Option.some.injEq] at hd
    have h3 : DataW.trod (fun _ => ()) Tryd.prog W 0 (fun _ => true) false n 25 ((cs.drop (i / 3 * 3)).take 3) = some (opDatum (opTab[i / 3]'(by rw [opTab_length]; omega)), (xs[i / 3]'(by omega)).2) := by
      rw [hgk, ← hd]
    have h4 := cells_of_op h3
    have h5 : ((cs.drop (i / 3 * 3)).take 3)[i % 3]? = cs[i]? := by
      rw [List.getElem?_take, if_pos hj, List.getElem?_drop]
      congr 1
      omega
    rw [← h5, h4]
    have h6 := tab_cell (i / 3) hk (i % 3) hj
    rw [show i / 3 * 3 + i % 3 = i by omega] at h6
    rw [h6]
    congr 2
    simp [List.getD, List.getElem?_eq_getElem (show i / 3 < opTab.length by rw [opTab_length]; omega)]
  · rw [List.getElem?_eq_none (by omega), List.getElem?_eq_none (by rw [tab_length]; omega)]

theorem tab_of_laid {W : World} (h : laidMetH Tryd.prog [("spandrel/isa.table", Rows.laid_spandrel_isa_table)] W) : TabIs 0 W := by
  have h' : laidMet Tryd.prog [("spandrel/isa.table", Rows.laid_spandrel_isa_table)] W := h
  obtain ⟨ps, ⟨g', t', cs, fuel, p, q, hg', ht', hvar, hd, _, hps⟩, _, hfree⟩ := h'
  obtain rfl := Option.some.inj (gTab.symm.trans hg')
  obtain rfl := Option.some.inj (gTabType.symm.trans ht')
  rw [datum_is] at hd
  have hcs := cells_of_table hd
  unfold World.var? at hvar
  rw [gTab] at hvar
  simp only [Option.bind_some] at hvar
  have hsz : cs.size = 129 := by rw [← Array.length_toList, hcs, tab_length]
  obtain ⟨⟨c, t, hb⟩, _⟩ := hfree 0 0 (by rw [hps]; simp [MemPlace.row, hsz])
  rw [hb] at hvar
  simp only [Option.some.injEq] at hvar
  refine ⟨t, ?_⟩
  unfold Blk
  rw [hb, hvar, ← hcs]

/-- a world for the witness: the table holds what its initialiser lays -/
noncomputable def laidWorld (os : Os) : World :=
  { World.holding Tryd.prog os ⟨#[], #[], []⟩ with heap := (World.holding Tryd.prog os ⟨#[], #[], []⟩).heap.modify 0 fun
      | .cells _ t frozen => .cells tabCells.toArray t frozen
      | o => o }
end Go.Proofs.YtfplkmldleigpaaDoor
