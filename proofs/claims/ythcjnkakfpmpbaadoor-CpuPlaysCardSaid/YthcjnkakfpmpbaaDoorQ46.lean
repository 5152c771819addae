import Derived.Test.YthcjnkakfpmpbaaDoorQ45
import Derived.Test.YthcjnkakfpmpbaaDoorQ1
import Derived.Lib.SmallJoins
import Derived.Lib.LaidTab
import Derived.Deep.Slices
import Derived.Deep.Fields
import Derived.Test.YthcjnkakfpmpbaaDoorQ18
import Derived.Test.YthcjnkakfpmpbaaDoorQ44
namespace Go.Proofs.YthcjnkakfpmpbaaDoor
open Go.ChangeShapes Go.WideShapes Go.ChangeAt Go.RowKit Go.Joins
set_option linter.unusedVariables false
theorem gTab : Tryd.prog.globalNamed "spandrel/isa.table" = some 0 := by kernel_rfl
theorem gTabType : (Tryd.prog.globals[0]?).map (·.type) = some 140 := by kernel_rfl
theorem cellsTab : Tryd.prog.cellsOf 140 = 129 := by kernel_rfl
theorem cellsOp : Tryd.prog.cellsOf 97 = 3 := by kernel_rfl
theorem cellsStr : Tryd.prog.cellsOf 9 = 1 := by kernel_rfl
theorem cellsU8 : Tryd.prog.cellsOf 5 = 1 := by kernel_rfl
theorem cellsInt : Tryd.prog.cellsOf 3 = 1 := by kernel_rfl
def opDatum {H : Type} (x : List UInt8 × Int × Int) : DataW H := .agg [.lit (.string x.1),.lit (.int .u8 x.2.1),.lit (.int .i64 x.2.2)]
theorem datum_is {H : Type} : (Rows.laid_spandrel_isa_table : DataW H) = .agg (opTab.map opDatum) := rfl
theorem opTab_length : opTab.length = 43 := by decide +kernel
set_option maxRecDepth 20000 in
theorem cells_of_op {fuel : Nat} {W : World} {cs : List Value} {x : List UInt8 × Int × Int} {p : List MemPlace} (h : DataW.trod (fun _ => ()) Tryd.prog W 0 (fun _ => true) false fuel 97 cs = some (opDatum x,p)) : cs = opCells x := by
  obtain ⟨xs,n,_,hx,hlen,hxl,hg⟩ := DataW.trod_struct Tryd.underlying97 h
  rw [cellsOp] at hlen
  match cs,hlen with
  | [c0,c1,c2],_ =>
    match xs,hxl with
    | [y0,y1,y2],_ =>
      simp only [Prod.mk.injEq,opDatum,DataW.agg.injEq,List.map_cons,List.map_nil,List.cons.injEq,and_true] at hx
      obtain ⟨⟨e0,e1,e2⟩,_⟩ := hx
      have g0 := hg 0 _ rfl
      have g1 := hg 1 _ rfl
      have g2 := hg 2 _ rfl
      simp [cellsStr,cellsU8,cellsInt] at g0 g1 g2
      obtain ⟨s,hs,hy0,_⟩ := DataW.trod_string Tryd.underlying9 g0
      obtain ⟨m,hm,hy1,_⟩ := DataW.trod_int Tryd.underlying5 g1
      obtain ⟨q,hq,hy2,_⟩ := DataW.trod_int Tryd.underlying3 g2
      subst hy0
      subst hy1
      subst hy2
      simp only [DataW.lit.injEq,Lit.string.injEq,Lit.int.injEq,true_and] at e0 e1 e2
      simp at hs hm hq
      subst hs
      subst hm
      subst hq
      simp [opCells,e0,e1,e2]
theorem cells_of_table {fuel : Nat} {W : World} {cs : List Value} {p : List MemPlace} (h : DataW.trod (fun _ => ()) Tryd.prog W 0 (fun _ => true) false fuel 140 cs = some (.agg (opTab.map opDatum),p)) : cs = tabCells := by
  obtain ⟨xs,n,_,hx,hlen,hxl,hg⟩ := DataW.trod_array Tryd.underlying140 h
  rw [cellsTab] at hlen
  simp only [Prod.mk.injEq,DataW.agg.injEq] at hx
  obtain ⟨hx,_⟩ := hx
  apply List.ext_getElem?
  intro i
  by_cases hi : i < 129
  · have hk : i / 3 < 43 := by omega
    have hj : i % 3 < 3 := Nat.mod_lt _ (by omega)
    have hgk := hg (i / 3) hk
    rw [cellsOp,List.getElem?_eq_getElem (by omega)] at hgk
    have hd : (xs.map (·.1))[i / 3]? = (opTab.map opDatum)[i / 3]? := by rw [hx]
    rw [List.getElem?_map,List.getElem?_map,List.getElem?_eq_getElem (by omega),List.getElem?_eq_getElem (by rw [opTab_length]; omega)] at hd
    simp only [Option.map_some,Option.some.injEq] at hd
    have h3 : DataW.trod (fun _ => ()) Tryd.prog W 0 (fun _ => true) false n 97 ((cs.drop (i / 3 * 3)).take 3) = some (opDatum (opTab[i / 3]'(by rw [opTab_length]; omega)),(xs[i / 3]'(by omega)).2) := by
      rw [hgk,← hd]
    have h4 := cells_of_op h3
    have h5 : ((cs.drop (i / 3 * 3)).take 3)[i % 3]? = cs[i]? := by
      rw [List.getElem?_take,if_pos hj,List.getElem?_drop]
      congr 1
      omega
    rw [← h5,h4]
    have h6 := tab_cell (i / 3) hk (i % 3) hj
    rw [show i / 3 * 3 + i % 3 = i by omega] at h6
    rw [h6]
    congr 2
    simp [List.getD,List.getElem?_eq_getElem (show i / 3 < opTab.length by rw [opTab_length]; omega)]
  · rw [List.getElem?_eq_none (by omega),List.getElem?_eq_none (by rw [tab_length]; omega)]
theorem tab_of_laid {W : World} (h : laidMetH Tryd.prog [("spandrel/isa.table",Rows.laid_spandrel_isa_table)] W) : TabIs 0 W := by
  have h' : laidMet Tryd.prog [("spandrel/isa.table",Rows.laid_spandrel_isa_table)] W := h
  obtain ⟨ps,⟨g',t',cs,fuel,p,q,hg',ht',hvar,hd,_,hps⟩,_,hfree⟩ := h'
  obtain rfl := Option.some.inj (gTab.symm.trans hg')
  obtain rfl := Option.some.inj (gTabType.symm.trans ht')
  rw [datum_is] at hd
  have hcs := cells_of_table hd
  unfold World.var? at hvar
  rw [gTab] at hvar
  simp only [Option.bind_some] at hvar
  have hsz : cs.size = 129 := by rw [← Array.length_toList,hcs,tab_length]
  obtain ⟨⟨c,t,hb⟩,_⟩ := hfree 0 0 (by rw [hps]; simp [MemPlace.row,hsz])
  rw [hb] at hvar
  simp only [Option.some.injEq] at hvar
  refine ⟨t,?_⟩
  unfold Blk
  rw [hb,hvar,← hcs]
noncomputable def laidWorld (os : Os) : World :=
  { World.holding Tryd.prog os ⟨#[],#[],[]⟩ with heap := (World.holding Tryd.prog os ⟨#[],#[],[]⟩).heap.modify 0 fun
      | .cells _ t frozen => .cells tabCells.toArray t frozen
      | o => o }
end Go.Proofs.YthcjnkakfpmpbaaDoor
namespace Go.Proofs.YthcjnkakfpmpbaaDoor
open Go.ChangeShapes Go.WideShapes Go.ChangeAt Go.RowKit Go.Joins
set_option linter.unusedVariables false
structure Ins where
  op : Int
  a : Int
  b : Int
  n : Int
  f : Int
@[reducible] def Ins.val (i : Ins) : Value := .agg #[.int .i64 i.op,.int .i64 i.a,.int .i64 i.b,.int .i32 i.n,.int .i64 i.f]
def Ins.cells (i : Ins) : List Value := [.int .i64 i.op,.int .i64 i.a,.int .i64 i.b,.int .i32 i.n,.int .i64 i.f]
def In64 (x : Int) : Prop := -9223372036854775808 ≤ x ∧ x ≤ 9223372036854775807
def Ins.Ok (i : Ins) : Prop := In64 i.op ∧ In64 i.a ∧ In64 i.b ∧ (-2147483648 ≤ i.n ∧ i.n ≤ 2147483647) ∧ In64 i.f
section
variable {H : Type} {enc : TypeId × Value → H} {W : World}
theorem cellsI32 : Tryd.prog.cellsOf 21 = 1 := by kernel_rfl
theorem cellsInst : Tryd.prog.cellsOf 25 = 5 := by kernel_rfl
set_option maxRecDepth 20000 in
theorem cells_of_inst {base fuel : Nat} {sp : Nat → Bool} {held : Bool} {cs : List Value} {y : DataW H × List MemPlace} (h : DataW.trod enc Tryd.prog W base sp held fuel 25 cs = some y) :
    ∃ i : Ins,i.Ok ∧ cs = i.cells ∧ y.1 = .agg [.lit (.int .i64 i.op),.lit (.int .i64 i.a),.lit (.int .i64 i.b),.lit (.int .i32 i.n),.lit (.int .i64 i.f)] := by
  obtain ⟨xs,n,_,hx,hlen,hxl,hg⟩ := DataW.trod_struct Tryd.underlying25 h
  rw [cellsInst] at hlen
  match cs,hlen with
  | [c0,c1,c2,c3,c4],_ =>
    match xs,hxl with
    | [y0,y1,y2,y3,y4],_ =>
      have g0 := hg 0 _ rfl
      have g1 := hg 1 _ rfl
      have g2 := hg 2 _ rfl
      have g3 := hg 3 _ rfl
      have g4 := hg 4 _ rfl
      simp [cellsI32,cellsInt] at g0 g1 g2 g3 g4
      obtain ⟨v0,e0,r0,w0⟩ := DataW.trod_int Tryd.underlying3 g0
      obtain ⟨v1,e1,r1,w1⟩ := DataW.trod_int Tryd.underlying3 g1
      obtain ⟨v2,e2,r2,w2⟩ := DataW.trod_int Tryd.underlying3 g2
      obtain ⟨v3,e3,r3,w3⟩ := DataW.trod_int Tryd.underlying21 g3
      obtain ⟨v4,e4,r4,w4⟩ := DataW.trod_int Tryd.underlying3 g4
      simp at e0 e1 e2 e3 e4
      subst e0 e1 e2 e3 e4 r0 r1 r2 r3 r4
      exact ⟨⟨v0,v1,v2,v3,v4⟩,⟨bounds_i64 w0,bounds_i64 w1,bounds_i64 w2,bounds_i32 w3,bounds_i64 w4⟩,rfl,by rw [hx]; rfl⟩
end
end Go.Proofs.YthcjnkakfpmpbaaDoor
namespace Go.Proofs.YthcjnkakfpmpbaaDoor
open Go.ChangeShapes Go.WideShapes Go.ChangeAt Go.RowKit Go.Joins Go.Deep
set_option linter.unusedVariables false
def AsksIn (w : World) (A : Option Addr) (n : Nat) (f : Nat → (Int × Int × Int × Int × Int) × Int) : Prop :=
  ∀ k,k < n → ∃ lb lo,A = some ⟨lb,lo,none⟩ ∧ lb < w.heap.size ∧ AskAt lb (lo + k * 6) (f k).1.1 (f k).1.2.1 (f k).1.2.2.1 (f k).1.2.2.2.1 (f k).1.2.2.2.2 (f k).2 w ∧ In32 (f k).1.2.2.2.1 ∧ In32 (f k).2
section
variable {H : Type} {enc : TypeId × Value → H} {P : Program} {W : World}
theorem open_i32sR {t e : TypeId} {A : Option Addr} {n c : Nat} {d : DataW H} {p : List MemPlace} (ht : P.underlying t = some (.slice e)) (he : P.underlying e = some (.int .i32)) (hc : P.cellsOf e = 1)
    (h : DataW.Trod enc P W 0 (fun _ => true) true t (.slice A n c) d p) :
    ∃ l : List Int,(Sl W W.heap.size 1 A n (is32 l) ∧ ∀ x ∈ l,In32 x) ∧ n ≤ c ∧ n ≤ maxLen ∧ (d = .nil ∧ n = 0 ∨ ∃ elems spare,d = .slice elems spare ∧ elems.length = n) := by
  obtain ⟨fuel,hf⟩ := h
  rcases open_ints ht he hc hf with ⟨hcs,hx⟩ | ⟨a,len,cap,zs,hcs,_,hl,hm,hz,hx,hcell,hwz⟩
  · simp [Value.cells] at hcs
    obtain ⟨rfl,rfl,rfl⟩ := hcs
    simp only [Prod.mk.injEq] at hx
    exact ⟨[],⟨Sl.nil_ _ _ _ _,by simp⟩,Nat.le_refl _,Nat.zero_le _,.inl ⟨hx.1,rfl⟩⟩
  · simp [Value.cells] at hcs
    obtain ⟨rfl,rfl,rfl⟩ := hcs
    simp only [if_true] at hz
    simp only [Prod.mk.injEq] at hx
    refine ⟨zs.take n,⟨⟨by simp [is32_length,hz]; omega,fun hn => ?_⟩,fun x hx => bounds_i32 (hwz x (List.mem_of_mem_take hx))⟩,hl,by omega,.inr ⟨_,_,hx.1,by simp [lits,hz]; omega⟩⟩
    obtain ⟨b,o,spot⟩ := a
    have h0 := hcell 0 (by omega)
    have hspot : spot = none := by simpa [Addr.add] using World.cell?_spot h0
    subst hspot
    refine ⟨b,o,rfl,by simpa [Addr.add] using World.block_lt_of_cell? _ _ h0,fun j u hu => ?_⟩
    rw [is32_get] at hu
    obtain ⟨x,hx1,rfl⟩ := Option.map_eq_some_iff.1 hu
    rw [List.getElem?_take] at hx1
    split at hx1
    · have hj := hcell j (by omega)
      rw [add_flat] at hj
      rw [hj]
      simp [List.getD,hx1]
    · cases hx1
end
section
variable {H : Type} {enc : TypeId × Value → H} {W : World}
set_option maxRecDepth 20000 in
theorem cells_of_ask {base fuel : Nat} {sp : Nat → Bool} {held : Bool} {cs : List Value} {y : DataW H × List MemPlace} (h : DataW.trod enc Tryd.prog W base sp held fuel 91 cs = some y) :
    ∃ (i : Ins) (wd : Int),i.Ok ∧ In32 wd ∧ cs = i.cells ++ [.int .i32 wd] := by
  obtain ⟨xs,n,_,hx,hlen,hxl,hg⟩ := DataW.trod_struct Tryd.underlying91 h
  rw [show Tryd.prog.cellsOf 91 = 6 by kernel_rfl] at hlen
  match cs,hlen with
  | [c0,c1,c2,c3,c4,c5],_ =>
    match xs,hxl with
    | [y0,y1],_ =>
      have g0 := hg 0 _ rfl
      have g1 := hg 1 _ rfl
      simp [cellsI32,cellsInst] at g0 g1
      obtain ⟨i,hi,hc,_⟩ := cells_of_inst g0
      obtain ⟨v1,e1,r1,w1⟩ := DataW.trod_int Tryd.underlying21 g1
      simp at e1
      refine ⟨i,v1,hi,bounds_i32 w1,?_⟩
      simp only [Ins.cells,List.cons.injEq,and_true] at hc
      obtain ⟨rfl,rfl,rfl,rfl,rfl⟩ := hc
      subst e1
      rfl
theorem cells6 {W : World} {a : Addr} {c0 c1 c2 c3 c4 c5 : Value} (h : W.cells? 0 a 6 = some [c0,c1,c2,c3,c4,c5]) :
    W.cell? (a.add 0) = some c0 ∧ W.cell? (a.add 1) = some c1 ∧ W.cell? (a.add 2) = some c2 ∧ W.cell? (a.add 3) = some c3 ∧ W.cell? (a.add 4) = some c4 ∧ W.cell? (a.add 5) = some c5 := by
  unfold World.cells? at h
  rw [if_pos (Nat.zero_le _),show List.range 6 = [0,1,2,3,4,5] from rfl] at h
  simp only [List.mapM_cons,List.mapM_nil,Option.bind_eq_bind,Option.bind_eq_some_iff,Option.pure_def,Option.some.injEq,List.cons.injEq] at h
  obtain ⟨x0,h0,y0,⟨x1,h1,y1,⟨x2,h2,y2,⟨x3,h3,y3,⟨x4,h4,y4,⟨x5,h5,y5,rfl,rfl⟩,rfl⟩,rfl⟩,rfl⟩,rfl⟩,e0,e1⟩ := h
  simp only [List.cons.injEq,and_true] at e1
  obtain ⟨e1,e2,e3,e4,e5⟩ := e1
  subst e0 e1 e2 e3 e4 e5
  exact ⟨h0,h1,h2,h3,h4,h5⟩
theorem open_asks {u : TypeDesc} {A : Option Addr} {n c : Nat} {d : DataW H} {p : List MemPlace} (ht : Tryd.prog.underlying 81 = some (.slice 91)) (he : Tryd.prog.underlying 91 = some u) (hc : Tryd.prog.cellsOf 91 = 6)
    (h : DataW.Trod enc Tryd.prog W 0 (fun _ => true) true 81 (.slice A n c) d p) :
    ∃ f : Nat → (Int × Int × Int × Int × Int) × Int,AsksIn W A n f ∧ n ≤ c ∧ n ≤ maxLen ∧ (d = .nil ∧ n = 0 ∨ ∃ elems spare,d = .slice elems spare ∧ elems.length = n) := by
  obtain ⟨fuel,hf⟩ := h
  rcases open_slice ht hf with ⟨hcs,hx⟩ | ⟨a,len,cap,m,q,D,Pl,hcs,_,hl,hm,hmm,hx,hall⟩
  · simp [Value.cells] at hcs
    obtain ⟨rfl,rfl,rfl⟩ := hcs
    simp only [Prod.mk.injEq] at hx
    exact ⟨fun _ => ((0,0,0,0,0),0),fun k hk => by omega,Nat.le_refl _,Nat.zero_le _,.inl ⟨hx.1,rfl⟩⟩
  · simp [Value.cells] at hcs
    obtain ⟨rfl,rfl,rfl⟩ := hcs
    simp only [if_true] at hmm
    subst hmm
    simp only [Prod.mk.injEq] at hx
    rw [hc] at hall
    have hask : ∀ i,i < n → ∃ x : Ins × Int,x.1.Ok ∧ In32 x.2 ∧ W.cells? 0 (a.add (i * 6)) 6 = some (x.1.cells ++ [.int .i32 x.2]) := by
      intro i hi
      obtain ⟨cs',h1,h2⟩ := hall i (by omega)
      obtain ⟨x,wd,hx1,hx2,hx3⟩ := cells_of_ask h2
      exact ⟨(x,wd),hx1,hx2,by rw [h1,hx3]⟩
    haveI : Inhabited (Ins × Int) := ⟨(⟨0,0,0,0,0⟩,0)⟩
    obtain ⟨f,hfi⟩ := choose_lt hask
    refine ⟨fun k => (((f k).1.op,(f k).1.a,(f k).1.b,(f k).1.n,(f k).1.f),(f k).2),fun k hk => ?_,hl,by omega,.inr ⟨_,_,hx.1,by simp⟩⟩
    obtain ⟨hok,hwd,hcl⟩ := hfi k hk
    obtain ⟨g0,g1,g2,g3,g4,g5⟩ := cells6 hcl
    obtain ⟨b,o,spot⟩ := a
    have hspot : spot = none := by
      have h0 := (cells6 (hfi 0 (by omega)).2.2).1
      simpa [Addr.add] using World.cell?_spot h0
    subst hspot
    simp only [add_flat] at g0 g1 g2 g3 g4 g5
    have hbl : b < W.heap.size := World.block_lt_of_cell? _ _ g0
    exact ⟨b,o,rfl,hbl,⟨g0,g1,g2,g3,g4,g5⟩,hok.2.2.2.1,hwd⟩
end
end Go.Proofs.YthcjnkakfpmpbaaDoor
