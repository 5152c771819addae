import Derived.Test.YthcjnkakfpmpbaaDoorQ4
import Derived.WalkKit
import Derived.Test.YthcjnkakfpmpbaaDoorQ27
import Derived.Test.YthcjnkakfpmpbaaDoorQ28
import Derived.Laws.Entries
import Derived.Test.YthcjnkakfpmpbaaDoorQ20
import Derived.Test.YthcjnkakfpmpbaaDoorQ16
import Derived.Test.YthcjnkakfpmpbaaDoorQ21
namespace Go.Proofs.YthcjnkakfpmpbaaDoor
theorem flip_parts (x : Nat) : (x ^^^ 2 ^ 63) % 2 ^ 63 = x % 2 ^ 63 ∧ ((x ^^^ 2 ^ 63) / 2 ^ 63 % 2 == 1) = !(x / 2 ^ 63 % 2 == 1) := by
  refine ⟨?_,?_⟩
  · rw [Nat.xor_mod_two_pow,Nat.mod_self,Nat.xor_zero]
  · rw [Nat.xor_div_two_pow,Nat.div_self (by decide)]
    have h := Nat.xor_mod_two_eq_one (a := x / 2 ^ 63) (b := 1)
    have h1 : x / 2 ^ 63 % 2 = 0 ∨ x / 2 ^ 63 % 2 = 1 := by omega
    have h2 : (x / 2 ^ 63 ^^^ 1) % 2 = 0 ∨ (x / 2 ^ 63 ^^^ 1) % 2 = 1 := by omega
    generalize (x / 2 ^ 63 ^^^ 1) % 2 = u at *
    generalize x / 2 ^ 63 % 2 = v at *
    rcases h1 with rfl | rfl <;> rcases h2 with rfl | rfl <;> simp at h ⊢
theorem Rep.neg {x : Nat} {n : Int} (h : Rep x n) : Rep (Op.negFloat .f64 x) (-n) := by
  obtain ⟨s,m,e,h1,h2⟩ := h
  refine ⟨!s,m,e,?_,h2.opp⟩
  have hs : Ieee.double.signWeight = 2 ^ 63 := by decide
  have hx : Op.negFloat .f64 x = x ^^^ 2 ^ 63 := rfl
  obtain ⟨p1,p2⟩ := flip_parts x
  rw [hx]
  unfold Ieee.Format.read at h1 ⊢
  rw [hs] at h1 ⊢
  simp only [p1,p2]
  simp only at h1
  split at h1
  · rename_i hc
    rw [if_pos hc]
    injection h1 with a1 a2 a3
    subst a1 a2 a3
    rfl
  · rename_i hc
    rw [if_neg hc]
    split at h1
    · rename_i hd
      rw [if_pos hd]
      injection h1 with a1 a2 a3
      subst a1 a2 a3
      rfl
    · split at h1 <;> cases h1
end Go.Proofs.YthcjnkakfpmpbaaDoor
namespace Go.Proofs.YthcjnkakfpmpbaaDoor
open Go.RowKit
set_option linter.unusedVariables false
set_option linter.unusedSimpArgs false
set_option maxRecDepth 20000
def Z (c : List Value) (j : Nat) (a b : Int) : Prop := ∃ p q,c[8 + j]? = some (.complex .f64 p q) ∧ Rep p a ∧ Rep q b
end Go.Proofs.YthcjnkakfpmpbaaDoor
namespace Go.Proofs.YthcjnkakfpmpbaaDoor
open Go.RowKit
theorem wrap32_in (n : Int) : -2147483648 ≤ wrap32 n ∧ wrap32 n ≤ 2147483647 := by unfold wrap32; omega
end Go.Proofs.YthcjnkakfpmpbaaDoor
namespace Go.Proofs.YthcjnkakfpmpbaaDoor
open Go.RowKit
set_option linter.unusedVariables false
set_option linter.unusedSimpArgs false
set_option maxRecDepth 20000 in
set_option maxHeartbeats 2000000 in
theorem two_div0 (op n f : Int) (a b : Nat) (M : Value) (from_ : Int) (x : Int) (w : World) (g : Nat) (cells : List Value) (hT : TabIs 0 w) (htg : 0 ≠ g) (hB : Blk w g 119 cells) (ha : a < 8) (hb : b < 8)
    (hx : cells[a]? = some (.int .i32 x)) (hy : cells[b]? = some (.int .i32 0)) (hnm : opName op = [100,105,118]) :
    Calls Tryd.prog 60 #[.pointer (some ⟨g,0,none⟩),.agg #[.int .i64 op,.int .i64 a,.int .i64 b,.int .i32 n,.int .i64 f],M,.int .i64 from_] w fun e w' => e = .returned (.agg #[.int .i64 6,.int .i64 2,.int .u32 0]) ∧ CW w g cells w' := by
  have hg := hB.lt
  have Hn := Lib.hid (fun w hT => hnm ▸ cname_any op w hT)
  have HB := Lib.hid hB
  have ca := (hB.cell a).trans hx
  have cb := (hB.cell b).trans hy
  have qa : ((w.alloc (.cells #[.int .i64 op,.int .i64 a,.int .i64 b,.int .i32 n,.int .i64 f] 25)).alloc (.cells #[.int .i64 0,.int .i64 0,.int .u32 0] 56)).cell? ⟨g,a,none⟩ = some (.int .i32 x) := by
    rw [World.cell?_alloc_lt _ _ ⟨g,a,none⟩ (by simp; omega),World.cell?_alloc_lt _ _ ⟨g,a,none⟩ hg]; exact ca
  have qb : ((w.alloc (.cells #[.int .i64 op,.int .i64 a,.int .i64 b,.int .i32 n,.int .i64 f] 25)).alloc (.cells #[.int .i64 0,.int .i64 0,.int .u32 0] 56)).cell? ⟨g,b,none⟩ = some (.int .i32 0) := by
    rw [World.cell?_alloc_lt _ _ ⟨g,b,none⟩ (by simp; omega),World.cell?_alloc_lt _ _ ⟨g,b,none⟩ hg]; exact cb
  clear hB hx hy
  go_enter Tryd.func60,Tryd.ntmps60
  go_wp2_with fail
  go_quiet (fail)
  have hX0 : Blk (((w.alloc (.cells #[.int .i64 op,.int .i64 a,.int .i64 b,.int .i32 n,.int .i64 f] 25)).alloc (.cells #[.int .i64 0,.int .i64 0,.int .u32 0] 56)).drewN nq) (w.heap.size + 1) 56 [.int .i64 0,.int .i64 0,.int .u32 0] := by
    have := Blk.new (w.alloc (.cells #[.int .i64 op,.int .i64 a,.int .i64 b,.int .i32 n,.int .i64 f] 25)) 56 [.int .i64 0,.int .i64 0,.int .u32 0]
    rw [World.size_alloc] at this
    exact this
  clear qa qb ca cb
  go_wp2_with (first
    | (go_at_call 82; refine (Hn.out _ (((hT.alloc _).alloc _).drewN nq)).mono ?_; rintro e w2 ⟨rfl,hb2⟩; have hC2 := ((((CW.start HB.out).alloc _).alloc _).drewN nq).below hb2; have hX2 := hX0.below hb2 hX0.lt; have HC2 := Lib.hid hC2; clear hC2)
    | (go_at_call 57; refine (ctrap_any 2 w2).mono ?_; rintro e w4 ⟨rfl,hb4⟩; have hX4 := hX2.below hb4 hX2.lt; have HC4 := Lib.hid (HC2.out.below hb4))
    | ((with_reducible show wpList _ _ _ (Oper.mk none (Op.store _ (Operand.tmp 8) (Operand.tmp 57)) _ _ _ _ :: _) _ _); refine wpList_st3 hX4 rfl 56 (.tmp 8) (.tmp 57) (.int .i64 6) (.int .i64 2) (.int .u32 0) rfl (by kernel_rfl) (by kernel_rfl) (by simp [Value.oneCell']) (by kernel_rfl) ?_; rintro ⟨z0,z1,z2⟩)
    | fail)
  refine bodyPost_ret (v := .agg #[.int .i64 6,.int .i64 2,.int .u32 0]) (by simp [results,Tryd.results60,go_sem,z0,z1,z2]) rfl ⟨rfl,?_⟩
  exact CW.farCells (by omega) _ _ _ HC4.out
end Go.Proofs.YthcjnkakfpmpbaaDoor
namespace Go.Proofs.YthcjnkakfpmpbaaDoor
open Go.RowKit
set_option linter.unusedVariables false
set_option linter.unusedSimpArgs false
set_option maxRecDepth 20000
set_option maxHeartbeats 2000000 in
theorem do_wrong (op f n word from_ : Int) (a b : Int) (M : Value) (C : Int) (w : World) (g : Nat) (cells : List Value) (hT : TabIs 0 w) (htg : 0 ≠ g) (hB : Blk w g 119 cells) (hn : -2147483648 ≤ n ∧ n ≤ 2147483647) (hc : checkR op a b n f = C) (hC : (C == 0) = false) :
    Calls Tryd.prog 26 #[.pointer (some ⟨g,0,none⟩),.agg #[.int .i64 op,.int .i64 a,.int .i64 b,.int .i32 n,.int .i64 f],.int .i32 word,M,.int .i64 from_] w fun e w' => e = .returned (.agg #[.int .i64 6,.int .i64 1,.int .u32 0]) ∧ CW w g cells w' := by
  have hg := hB.lt
  have hch : ∀ w,TabIs 0 w → Calls Tryd.prog 46 #[.agg #[.int .i64 op,.int .i64 a,.int .i64 b,.int .i32 n,.int .i64 f]] w fun e w' => e = .returned (.int .i64 C) ∧ Below w.heap.size w w' := fun w hT => hc ▸ check_any op a b n f w hn hT
  have Hch := Lib.hid hch
  have HB := Lib.hid hB
  have hC' : (C != 0) = true := by simp only [bne,hC]; rfl
  have hX0 : Blk ((w.alloc (.cells #[.int .i64 op,.int .i64 a,.int .i64 b,.int .i32 n,.int .i64 f] 25)).alloc (.cells #[.int .i64 0,.int .i64 0,.int .u32 0] 56)) (w.heap.size + 1) 56 [.int .i64 0,.int .i64 0,.int .u32 0] := by
    have := Blk.new (w.alloc (.cells #[.int .i64 op,.int .i64 a,.int .i64 b,.int .i32 n,.int .i64 f] 25)) 56 [.int .i64 0,.int .i64 0,.int .u32 0]
    rw [World.size_alloc] at this
    exact this
  clear hch hB hc hn
  go_enter Tryd.func26,Tryd.ntmps26
  go_wp2_with (first
    | (go_at_call 46; refine (Hch.out _ ((hT.alloc _).alloc _)).mono ?_; rintro e w2 ⟨rfl,hb2⟩; have hC2 := (((CW.start HB.out).alloc (.cells #[.int .i64 op,.int .i64 a,.int .i64 b,.int .i32 n,.int .i64 f] 25)).alloc (.cells #[.int .i64 0,.int .i64 0,.int .u32 0] 56)).below hb2; have hX2 := hX0.below hb2 hX0.lt; have HC2 := Lib.hid hC2; clear hC2)
    | (go_at_call 57; refine (ctrap_any 1 w2).mono ?_; rintro e w4 ⟨rfl,hb4⟩; have hX4 := hX2.below hb4 hX2.lt; have HC4 := Lib.hid (HC2.out.below hb4))
    | ((with_reducible show wpList _ _ _ (Oper.mk none (Op.store _ (Operand.tmp 10) (Operand.tmp 16)) _ _ _ _ :: _) _ _); refine wpList_st3 hX4 rfl 56 (.tmp 10) (.tmp 16) (.int .i64 6) (.int .i64 1) (.int .u32 0) rfl (by kernel_rfl) (by kernel_rfl) (by simp [Value.oneCell']) (by kernel_rfl) ?_; rintro ⟨z0,z1,z2⟩)
    | fail)
  refine bodyPost_ret (v := .agg #[.int .i64 6,.int .i64 1,.int .u32 0]) (by simp [results,Tryd.results26,go_sem,z0,z1,z2]) rfl ⟨rfl,?_⟩
  exact CW.farCells (by omega) _ _ _ HC4.out
set_option maxRecDepth 20000 in
set_option maxHeartbeats 2000000 in
theorem do_twoW (op f n word from_ : Int) (a b : Int) (M : Value) (K T To : Int) (w : World) (g : Nat) (cells cells' : List Value) (hT : TabIs 0 w) (htg : 0 ≠ g) (hB : Blk w g 119 cells) (hn : -2147483648 ≤ n ∧ n ≤ 2147483647) (hc : checkR op a b n f = 0) (hs : opShape op = 4)
    (H : Hid (∀ W,CW w g cells W → TabIs 0 W → Blk W g 119 cells → Calls Tryd.prog 60 #[.pointer (some ⟨g,0,none⟩),.agg #[.int .i64 op,.int .i64 a,.int .i64 b,.int .i32 n,.int .i64 f],M,.int .i64 from_] W fun e w' => e = .returned (.agg #[.int .i64 K,.int .i64 T,.int .u32 To]) ∧ CW W g cells' w')) :
    Calls Tryd.prog 26 #[.pointer (some ⟨g,0,none⟩),.agg #[.int .i64 op,.int .i64 a,.int .i64 b,.int .i32 n,.int .i64 f],.int .i32 word,M,.int .i64 from_] w fun e w' => e = .returned (.agg #[.int .i64 K,.int .i64 T,.int .u32 To]) ∧ CW w g (cells') w' := by
  have hg := hB.lt
  obtain ⟨hiop,_,_,_⟩ := checkR_parts hc
  have hch : ∀ w,TabIs 0 w → Calls Tryd.prog 46 #[.agg #[.int .i64 op,.int .i64 a,.int .i64 b,.int .i32 n,.int .i64 f]] w fun e w' => e = .returned (.int .i64 0) ∧ Below w.heap.size w w' := fun w hT => hc ▸ check_any op a b n f w hn hT
  have hat : ∀ w,TabIs 0 w → Calls Tryd.prog 54 #[.int .i64 op] w fun e w' => e = .returned (.tuple #[.agg #[.string ⟨(opName op).toArray⟩,.int .u8 (opByte op),.int .i64 4],.bool true]) ∧ Below w.heap.size w w' := fun w hT => hiop ▸ hs ▸ at_any op w hT
  have Hch := Lib.hid hch
  have Hat := Lib.hid hat
  have HB := Lib.hid hB
  have hI0 : Blk ((w.alloc (.cells #[.int .i64 op,.int .i64 a,.int .i64 b,.int .i32 n,.int .i64 f] 25)).alloc (.cells #[.int .i64 0,.int .i64 0,.int .u32 0] 56)) w.heap.size 25 [.int .i64 op,.int .i64 a,.int .i64 b,.int .i32 n,.int .i64 f] := (Blk.new w 25 [.int .i64 op,.int .i64 a,.int .i64 b,.int .i32 n,.int .i64 f]).alloc _
  have hX0 : Blk ((w.alloc (.cells #[.int .i64 op,.int .i64 a,.int .i64 b,.int .i32 n,.int .i64 f] 25)).alloc (.cells #[.int .i64 0,.int .i64 0,.int .u32 0] 56)) (w.heap.size + 1) 56 [.int .i64 0,.int .i64 0,.int .u32 0] := by
    have := Blk.new (w.alloc (.cells #[.int .i64 op,.int .i64 a,.int .i64 b,.int .i32 n,.int .i64 f] 25)) 56 [.int .i64 0,.int .i64 0,.int .u32 0]
    rw [World.size_alloc] at this
    exact this
  generalize opName op = nm at Hat
  generalize opByte op = by_ at Hat
  clear hch hat hB hc hiop hs hn
  go_enter Tryd.func26,Tryd.ntmps26
  go_wp2_with (first
    | (go_at_call 46; refine (Hch.out _ ((hT.alloc _).alloc _)).mono ?_; rintro e w2 ⟨rfl,hb2⟩; have hC2 := (((CW.start HB.out).alloc (.cells #[.int .i64 op,.int .i64 a,.int .i64 b,.int .i32 n,.int .i64 f] 25)).alloc (.cells #[.int .i64 0,.int .i64 0,.int .u32 0] 56)).below hb2; have hI2 := hI0.below hb2 hI0.lt; have hX2 := hX0.below hb2 hX0.lt; have p0 := hI2.cell 0; simp only [List.getElem?_cons_zero] at p0; have HC2 := Lib.hid hC2; clear hC2)
    | (go_at_call 54; refine (Hat.out _ (HC2.out.tab hT htg)).mono ?_; rintro e w3 ⟨rfl,hb3⟩; have hC3 := HC2.out.below hb3; have hI3 := hI2.below hb3 hI2.lt; have hX3 := hX2.below hb3 hX2.lt; have r0 := hI3.cell 0; have r1 := hI3.cell 1; have r2 := hI3.cell 2; have r3 := hI3.cell 3; have r4 := hI3.cell 4; simp only [List.getElem?_cons_zero,List.getElem?_cons_succ] at r0 r1 r2 r3 r4; have hz3 := hI3.lt; have HC3 := Lib.hid hC3; clear hC3)
    | (go_at_call 60; refine (H.out _ (HC3.out.alloc _) ((HC3.out.tab hT htg).alloc _) (HC3.out.blk.alloc _)).mono ?_; rintro e w5 ⟨rfl,hC5⟩; have hX5 : Blk w5 (w.heap.size + 1) 56 [.int .i64 0,.int .i64 0,.int .u32 0] := (hC5.fr.block _ (by have := hX3.lt; simp; omega) (by show w.heap.size + 1 ≠ g; omega)).trans (hX3.alloc _); have hC6 := (HC3.out.alloc _).trans hC5; have HC6 := Lib.hid hC6; clear hC6 hC5)
    | ((with_reducible show wpList _ _ _ (Oper.mk none (Op.store _ (Operand.tmp 10) (Operand.tmp 47)) _ _ _ _ :: _) _ _); refine wpList_st3 hX5 rfl 56 (.tmp 10) (.tmp 47) (.int .i64 K) (.int .i64 T) (.int .u32 To) rfl (by kernel_rfl) (by kernel_rfl) (by simp [Value.oneCell']) (by kernel_rfl) ?_; rintro ⟨z0,z1,z2⟩)
    | fail)
  refine bodyPost_ret (v := .agg #[.int .i64 K,.int .i64 T,.int .u32 To]) (by simp [results,Tryd.results26,go_sem,z0,z1,z2]) rfl ⟨rfl,?_⟩
  exact CW.farCells (by omega) _ _ _ HC6.out
theorem new_much (A : Option Addr) (n c : Nat) (w : World) (hn : 4096 < n) :
    Calls Tryd.prog 33 #[.slice A n c] w fun e w' => e = .returned (.tuple #[.pointer none,.int .i64 4]) ∧ w = w' := by
  have hN : ¬ (n : Int) ≤ 4096 := by omega
  have hN2 : (n : Int) > 4096 := by omega
  go_enter Tryd.func33,Tryd.ntmps33
  go_wp2_with fail
  refine bodyPost_ret (v := .tuple #[.pointer none,.int .i64 4]) (by simp [results,Tryd.results33,go_sem]) rfl ⟨rfl,rfl⟩
end Go.Proofs.YthcjnkakfpmpbaaDoor
