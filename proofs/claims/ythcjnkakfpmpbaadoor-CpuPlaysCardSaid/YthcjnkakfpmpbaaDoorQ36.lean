import Derived.Test.YthcjnkakfpmpbaaDoorQ19
import Derived.Test.YthcjnkakfpmpbaaDoorQ29
import Derived.Test.YthcjnkakfpmpbaaDoorQ30
import Derived.Test.YthcjnkakfpmpbaaDoorQ32
import Derived.Test.YthcjnkakfpmpbaaDoorQ33
import Derived.Test.YthcjnkakfpmpbaaDoorQ24
import Derived.Test.YthcjnkakfpmpbaaDoorQ34
import Derived.Test.YthcjnkakfpmpbaaDoorQ35
import Derived.Test.YthcjnkakfpmpbaaDoorQ21
import Derived.Test.YthcjnkakfpmpbaaDoorQ20
import Derived.Test.YthcjnkakfpmpbaaDoorQ23
import Derived.Test.YthcjnkakfpmpbaaDoorQ28
import Derived.Test.YthcjnkakfpmpbaaDoorQ25
import Derived.Test.YthcjnkakfpmpbaaDoorQ26
namespace Go.Proofs.YthcjnkakfpmpbaaDoor
open Go.RowKit
set_option linter.unusedVariables false
set_option linter.unusedSimpArgs false
def effV (E : Int × Int × Int) : Value := .agg #[.int .i64 E.1,.int .i64 E.2.1,.int .u32 E.2.2]
def insA (op a b n f : Int) : Value := .agg #[.int .i64 op,.int .i64 a,.int .i64 b,.int .i32 n,.int .i64 f]
def Both (op a b n f word from_ : Int) (mem : List UInt8) (K Kr : List Value) (out st inp : List Int) : Prop :=
  ∃ (E : Int × Int × Int) (out' st' inp' : List Int) (G Gr : List Value → Prop),
    (∀ K' Kr',G K' → Gr Kr' → KR K' Kr') ∧ (∀ x ∈ st',In32 x) ∧ (∀ x ∈ inp',In32 x) ∧ out'.length ≤ 4096 ∧ st'.length ≤ 256 ∧
    (∀ w U g base A m c,MachE cpuL w U g base K out st inp → TabIs 0 w → 0 ≠ g → base ≤ w.heap.size → Sl w w.heap.size 1 A m (bs mem) → m ≤ 140737488355328 →
      Calls Tryd.prog 26 #[.pointer (some ⟨g,0,none⟩),insA op a b n f,.int .i32 word,.slice A m c,.int .i64 from_] w fun e w' => e = .returned (effV E) ∧ StepTo cpuL w U g base G out' st' inp' w') ∧
    (∀ w U g base A m c,MachE refL w U g base Kr out st inp → base ≤ w.heap.size → Sl w w.heap.size 1 A m (bs mem) → m ≤ 140737488355328 →
      Calls Tryd.prog 42 #[.pointer (some ⟨g,0,none⟩),insA op a b n f,.int .i32 word,.slice A m c,.int .i64 from_] w fun e w' => e = .returned (effV E) ∧ StepTo refL w U g base Gr out' st' inp' w')
theorem lay_lo {j : Nat} (h : j < 12) : refL.lay j = j := if_pos h
theorem lay_hi (k : Nat) : refL.lay (12 + k) = 13 + k := by
  show (if 12 + k < 12 then 12 + k else 12 + k + 1) = 13 + k
  rw [if_neg (by omega)]
  omega
theorem set_same {l : List Value} {a : Nat} {v : Value} (h : l[a]? = some v) : l.set a v = l := by
  apply List.ext_getElem?
  intro k
  by_cases e : a = k
  · subst e; rw [h]; exact set_at h
  · rw [List.getElem?_set_ne e]
theorem in_wrap (x : Int) : In32 (wrap32 x) := wrap32_in x
theorem in_bits (op : BinOp) (x y : Int) : In32 (bits op .i32 x y) := by
  have h : ∀ z : Int,In32 (IntKind.i32.wrap z) := fun z => by
    unfold In32
    simp only [IntKind.wrap,IntKind.bits,IntKind.signed]
    simp
    omega
  exact h _
theorem in_b01 (b : Bool) : In32 (b01 b) := by cases b <;> (unfold In32 b01; simp)
theorem RW.after {w W w1 : World} {g : Nat} {cells cells' : List Value} (hB : Blk w g 89 cells) (hb : Below w.heap.size w W) (h : RW W g cells' w1) (vs : List Value) : RW w g cells' (w1.setCells (w.heap.size + 1) 0 vs) :=
  RW.farCells (by omega) _ _ _ (((RW.start hB).below hb).trans h)
theorem RW.fr_at {w W w1 : World} {g : Nat} {cells cells' : List Value} (hB : Blk w g 89 cells) (h : RW W g cells' w1) {X : Nat} (h1 : w.heap.size ≤ X) (h2 : X < W.heap.size) : w1.heap[X]? = W.heap[X]? :=
  h.fr.block X h2 (by have := hB.lt; show X ≠ g; omega)
theorem GrowR.fr_at {w W w1 : World} {g base F c n : Nat} {cells xs : List Value} {A : Option Addr} {x : Int} (hB : Blk w g 89 cells) (hr : Row w base 21 (.slice A n c) n xs) (h : GrowR W g base F cells A c n xs x w1) {X : Nat} (h1 : w.heap.size ≤ X) (h2 : X < W.heap.size) : w1.heap[X]? = W.heap[X]? :=
  h.1.block X h2 (by have := hB.lt; omega) (fun e => by have := (hr.lt X e).2; omega) (fun e => by have := (hr.lt X e).2; omega)
theorem GrowR.after {w W w1 : World} {g base F c n : Nat} {cells xs : List Value} {A : Option Addr} {x : Int} (hB : Blk w g 89 cells) (hr : Row w base 21 (.slice A n c) n xs) (hb : Below w.heap.size w W) (hl : w.heap.size + 1 < W.heap.size) (h : GrowR W g base F cells A c n xs x w1) (u0 u1 u2 : Value) :
    GrowR w g base F cells A c n xs x (w1.setCells (w.heap.size + 1) 0 [u0,u1,u2]) := by
  obtain ⟨hp,A',c',h1,h2,h3⟩ := h
  have hg := hB.lt
  have h3' : ∀ k,Value.ownBlock (.slice A' (n + 1) c') = some k → Value.ownBlock (.slice A n c) = some k ∨ w.heap.size + 1 < k := fun k e => (h3 k e).imp id fun h => by omega
  have hne : ∀ k,Value.ownBlock (.slice A' (n + 1) c') = some k → k ≠ w.heap.size + 1 := fun k e => by
    rcases h3' k e with h | h
    · have := (hr.lt k h).2; omega
    · omega
  refine ⟨PF.farCells (by omega) _ _ _ (PF.after hb hp),A',c',?_,?_,fun k e => (h3' k e).imp id fun h => by omega⟩
  · exact ((h1.other (p := ⟨w.heap.size + 1,0,none⟩) (by show g ≠ w.heap.size + 1; omega)).other (p := ⟨w.heap.size + 1,0 + 1,none⟩) (by show g ≠ w.heap.size + 1; omega)).other (p := ⟨w.heap.size + 1,0 + 1 + 1,none⟩) (by show g ≠ w.heap.size + 1; omega)
  · exact ((h2.keep fun k e => Below.heap_setCell _ ⟨w.heap.size + 1,0,none⟩ _ k (hne k e)).keep fun k e => Below.heap_setCell _ ⟨w.heap.size + 1,0 + 1,none⟩ _ k (hne k e)).keep fun k e => Below.heap_setCell _ ⟨w.heap.size + 1,0 + 1 + 1,none⟩ _ k (hne k e)
theorem trunc_num {p y : Nat} (hd : ∃ s m e,FloatKind.f64.decode p = .number s m e) (hy : y = FloatKind.f64.encode ((FloatKind.f64.decode p).integral .zero)) (W : World) : Calls Tryd.prog 85 #[.float .f64 p] W fun e w' => e = .returned (.float .f64 y) ∧ W = w' := by
  obtain ⟨s,m,e0,hd⟩ := hd
  have hc : ∀ w,(callFunc 91 #[.float .f64 p]).run Tryd.prog w = .ok (.value (.float .f64 y)) w := fun w => by
    rw [run_callFunc_extern (e := Extern.MathFloor.toIntegral "math.archTrunc" .zero) Tryd.func91 (by kernel_rfl) (by kernel_rfl) (by kernel_rfl) (by kernel_rfl)]
    rw [arch_run hd,hy,hd]
    rfl
  clear hy hd
  go_enter Tryd.func85,Tryd.ntmps85
  go_wp2_with fail
  go_ret
  exact ⟨rfl,rfl⟩
set_option maxRecDepth 20000 in
set_option maxHeartbeats 2000000 in
theorem do_oneW (op f n word from_ : Int) (a b : Int) (M : Value) (K T To : Int) (w : World) (g : Nat) (cells cells' : List Value) (hT : TabIs 0 w) (htg : 0 ≠ g) (hB : Blk w g 119 cells) (hn : -2147483648 ≤ n ∧ n ≤ 2147483647) (hc : checkR op a b n f = 0) (hs : opShape op = 2)
    (H : Hid (∀ W,CW w g cells W → TabIs 0 W → Blk W g 119 cells → Calls Tryd.prog 59 #[.pointer (some ⟨g,0,none⟩),.agg #[.int .i64 op,.int .i64 a,.int .i64 b,.int .i32 n,.int .i64 f]] W fun e w' => e = .returned (.agg #[.int .i64 K,.int .i64 T,.int .u32 To]) ∧ CW W g cells' w')) :
    Calls Tryd.prog 26 #[.pointer (some ⟨g,0,none⟩),.agg #[.int .i64 op,.int .i64 a,.int .i64 b,.int .i32 n,.int .i64 f],.int .i32 word,M,.int .i64 from_] w fun e w' => e = .returned (.agg #[.int .i64 K,.int .i64 T,.int .u32 To]) ∧ CW w g (cells') w' := by
  have hg := hB.lt
  obtain ⟨hiop,_,_,_⟩ := checkR_parts hc
  have hch : ∀ w,TabIs 0 w → Calls Tryd.prog 46 #[.agg #[.int .i64 op,.int .i64 a,.int .i64 b,.int .i32 n,.int .i64 f]] w fun e w' => e = .returned (.int .i64 0) ∧ Below w.heap.size w w' := fun w hT => hc ▸ check_any op a b n f w hn hT
  have hat : ∀ w,TabIs 0 w → Calls Tryd.prog 54 #[.int .i64 op] w fun e w' => e = .returned (.tuple #[.agg #[.string ⟨(opName op).toArray⟩,.int .u8 (opByte op),.int .i64 2],.bool true]) ∧ Below w.heap.size w w' := fun w hT => hiop ▸ hs ▸ at_any op w hT
  have Hch := Lib.hid hch
  have Hat := Lib.hid hat
  have HB := Lib.hid hB
  have hI0 : Blk ((w.alloc (.cells #[.int .i64 op,.int .i64 a,.int .i64 b,.int .i32 n,.int .i64 f] 25)).alloc (.cells #[.int .i64 0,.int .i64 0,.int .u32 0] 56)) w.heap.size 25 [.int .i64 op,.int .i64 a,.int .i64 b,.int .i32 n,.int .i64 f] := (Blk.new w 25 [.int .i64 op,.int .i64 a,.int .i64 b,.int .i32 n,.int .i64 f]).alloc _
  have hX0 : Blk ((w.alloc (.cells #[.int .i64 op,.int .i64 a,.int .i64 b,.int .i32 n,.int .i64 f] 25)).alloc (.cells #[.int .i64 0,.int .i64 0,.int .u32 0] 56)) (w.heap.size + 1) 56 [.int .i64 0,.int .i64 0,.int .u32 0] := by
    have := Blk.new (w.alloc (.cells #[.int .i64 op,.int .i64 a,.int .i64 b,.int .i32 n,.int .i64 f] 25)) 56 [.int .i64 0,.int .i64 0,.int .u32 0]
    rw [World.size_alloc] at this
    exact this
  generalize opName op = nm at Hat
  generalize opByte op = by_ at Hat
  clear hch hat hB hc hiop hs hn
  go_enter Tryd.func26,Tryd.ntmps26
  go_wp2_with (first
    | (go_at_call 46; refine (Hch.out _ ((hT.alloc _).alloc _)).mono ?_; rintro e w2 ⟨rfl,hb2⟩; have hC2 := (((CW.start HB.out).alloc (.cells #[.int .i64 op,.int .i64 a,.int .i64 b,.int .i32 n,.int .i64 f] 25)).alloc (.cells #[.int .i64 0,.int .i64 0,.int .u32 0] 56)).below hb2; have hI2 := hI0.below hb2 hI0.lt; have hX2 := hX0.below hb2 hX0.lt; have p0 := hI2.cell 0; simp only [List.getElem?_cons_zero] at p0; have HC2 := Lib.hid hC2; clear hC2)
    | (go_at_call 54; refine (Hat.out _ (HC2.out.tab hT htg)).mono ?_; rintro e w3 ⟨rfl,hb3⟩; have hC3 := HC2.out.below hb3; have hI3 := hI2.below hb3 hI2.lt; have hX3 := hX2.below hb3 hX2.lt; have r0 := hI3.cell 0; have r1 := hI3.cell 1; have r2 := hI3.cell 2; have r3 := hI3.cell 3; have r4 := hI3.cell 4; simp only [List.getElem?_cons_zero,List.getElem?_cons_succ] at r0 r1 r2 r3 r4; have hz3 := hI3.lt; have HC3 := Lib.hid hC3; clear hC3)
    | (go_at_call 59; refine (H.out _ (HC3.out.alloc _) ((HC3.out.tab hT htg).alloc _) (HC3.out.blk.alloc _)).mono ?_; rintro e w5 ⟨rfl,hC5⟩; have hX5 : Blk w5 (w.heap.size + 1) 56 [.int .i64 0,.int .i64 0,.int .u32 0] := (hC5.fr.block _ (by have := hX3.lt; simp; omega) (by show w.heap.size + 1 ≠ g; omega)).trans (hX3.alloc _); have hC6 := (HC3.out.alloc _).trans hC5; have HC6 := Lib.hid hC6; clear hC6 hC5)
    | ((with_reducible show wpList _ _ _ (Oper.mk none (Op.store _ (Operand.tmp 10) (Operand.tmp 40)) _ _ _ _ :: _) _ _); refine wpList_st3 hX5 rfl 56 (.tmp 10) (.tmp 40) (.int .i64 K) (.int .i64 T) (.int .u32 To) rfl (by kernel_rfl) (by kernel_rfl) (by simp [Value.oneCell']) (by kernel_rfl) ?_; rintro ⟨z0,z1,z2⟩)
    | fail)
  refine bodyPost_ret (v := .agg #[.int .i64 K,.int .i64 T,.int .u32 To]) (by simp [results,Tryd.results26,go_sem,z0,z1,z2]) rfl ⟨rfl,?_⟩
  exact CW.farCells (by omega) _ _ _ HC6.out
end Go.Proofs.YthcjnkakfpmpbaaDoor
