import Derived.Test.YthcjnkakfpmpbaaDoorQ4
import Derived.Deep.QuietTactic
import Derived.BigQuiet
import Derived.Test.YthcjnkakfpmpbaaDoorQ5
import Derived.Test.YthcjnkakfpmpbaaDoorQ15
import Derived.Test.YthcjnkakfpmpbaaDoorQ2
namespace Go.Proofs.YthcjnkakfpmpbaaDoor
open Go.RowKit
set_option linter.unusedVariables false
set_option linter.unusedSimpArgs false
theorem bytes_no (A : Option Addr) (m c : Nat) (from_ at_ n : Int) (w : World) (h0 : 0 ≤ at_) (h1 : at_ < 4294967296) (hf0 : 0 ≤ from_) (hf1 : from_ ≤ 1048576) (hn0 : 0 < n) (hn1 : n ≤ 8) (hm : m ≤ 140737488355328) (hno : at_ - from_ < 0 ∨ (m : Int) < at_ - from_ + n) :
    Calls Tryd.prog 84 #[.slice A m c,.int .i64 from_,.int .u32 at_,.int .i64 n] w fun e w' => e = .returned (.tuple #[.int .i32 0,.bool false]) ∧ w = w' := by
  rcases (show at_ - from_ < 0 ∨ (0 ≤ at_ - from_ ∧ (m : Int) < at_ - from_ + n) by omega) with h | ⟨h,h2⟩
  all_goals
    go_enter Tryd.func84,Tryd.ntmps84
    go_wp2_with fail
    refine bodyPost_ret (v := .tuple #[.int .i32 0,.bool false]) (by simp [results,Tryd.results84,go_sem]) rfl ⟨rfl,rfl⟩
theorem bytes_ok (A : Option Addr) (n c a W : Nat) (l : List UInt8) (from_ at_ : Int) (w : World) (hs : Sl w w.heap.size 1 A n (bs l)) (hW : W ≤ 4) (hW1 : 1 ≤ W) (hn : n ≤ 140737488355328) (h0 : 0 ≤ at_) (h1 : at_ < 4294967296) (hf0 : 0 ≤ from_) (hf1 : from_ ≤ 1048576) (ha : at_ - from_ = (a : Int)) (h : a + W ≤ n) :
    Calls Tryd.prog 84 #[.slice A n c,.int .i64 from_,.int .u32 at_,.int .i64 W] w fun e w' => e = .returned (.tuple #[.int .i32 (wrap32 (leVal ((l.drop a).take W))),.bool true]) ∧ w = w' := by
  obtain ⟨R,hR⟩ : ∃ R,R = leVal ((l.drop a).take W) := ⟨_,rfl⟩
  rw [← hR]
  have HR := Lib.hid hR
  clear hR
  have hWn : (a : Int) + W ≤ n := by omega
  go_enter Tryd.func84,Tryd.ntmps84
  go_wp2_with fail
  go_loop [11,12] (fun y i => ∃ (m : Nat) (q z : Int),m ≤ W ∧ i = .int .i64 q ∧ Hid (q = (m : Int) - 1) ∧ y = .int .u32 z ∧ 0 ≤ z ∧ z < 4294967296 ∧ Hid (z = leVal ((l.drop (a + m)).take (W - m)))) (fun _ i => (intOf i + 1).toNat)
  case atStart => exact ⟨W,(W : Int) - 1,0,Nat.le_refl _,rfl,Lib.hid rfl,rfl,by omega,by omega,Lib.hid (by simp [leVal])⟩
  case round =>
    obtain ⟨m,q,z,hm,rfl,hq,rfl,hz0,hz1,hz⟩ := hrel
    match m,hm,hq,hz with
    | 0,hm,hq,hz =>
      obtain rfl : q = -1 := by have := hq.out; omega
      have hzR : z = R := by rw [hz.out,HR.out]; simp
      go_wp2_with fail
      refine bodyPost_ret (v := .tuple #[.int .i32 (wrap32 R),.bool true]) (by simp [results,Tryd.results84,go_sem,hzR]) rfl ⟨rfl,rfl⟩
    | k + 1,hm,hq,hz =>
      obtain rfl : q = (k : Int) := by have := hq.out; omega
      obtain ⟨b,o,x,rfl,hb,hx,hc⟩ := hs.byte (k := a + k) (by omega)
      have Hx := Lib.hid hx
      clear hx
      have hs1 : z < 16777216 := by rw [hz.out]; exact leVal_small (by omega) hW
      have hor := or_low z x hz0 hs1
      have hx8 : x.toNat < 256 := x.toNat_lt
      have hI : (a : Int) + k < n := by omega
      go_wp2_with fail
      go_round
      case rel => exact ⟨k,(k : Int) - 1,z * 256 + x.toNat,by omega,rfl,Lib.hid rfl,rfl,by omega,by omega,Lib.hid (by rw [leVal_step Hx.out (by omega),← hz.out]; omega)⟩
      case measure => simp [intOf]
end Go.Proofs.YthcjnkakfpmpbaaDoor
namespace Go.Proofs.YthcjnkakfpmpbaaDoor
open Go.RowKit
set_option linter.unusedVariables false
set_option linter.unusedSimpArgs false
theorem and31_i (y : Int) : bits BinOp.and IntKind.i32 y 31 = y % 32 := by
  have h1 : (BitVec.ofInt 32 31).toNat = 2 ^ 5 - 1 := by decide
  have h2 : ((BitVec.ofInt 32 y) &&& (BitVec.ofInt 32 31)).toNat = (y % 32).toNat := by
    rw [BitVec.toNat_and,h1,Nat.and_two_pow_sub_one_eq_mod,BitVec.toNat_ofInt]
    omega
  show IntKind.i32.wrap ((((BitVec.ofInt 32 y) &&& (BitVec.ofInt 32 31)).toNat : Nat) : Int) = y % 32
  rw [h2]
  simp [IntKind.wrap,IntKind.bits,IntKind.signed]
  omega
theorem and31_u (y : Int) : bits BinOp.and IntKind.u32 (y % 4294967296) 31 = y % 32 := by
  have h1 : (BitVec.ofInt 32 31).toNat = 2 ^ 5 - 1 := by decide
  have h2 : ((BitVec.ofInt 32 (y % 4294967296)) &&& (BitVec.ofInt 32 31)).toNat = (y % 32).toNat := by
    rw [BitVec.toNat_and,h1,Nat.and_two_pow_sub_one_eq_mod,BitVec.toNat_ofInt]
    omega
  show IntKind.u32.wrap ((((BitVec.ofInt 32 (y % 4294967296)) &&& (BitVec.ofInt 32 31)).toNat : Nat) : Int) = y % 32
  rw [h2]
  simp [IntKind.wrap,IntKind.bits,IntKind.signed]
  omega
theorem shl_both (x s : Int) (s0 : 0 ≤ s) (s1 : s < 32) : ∃ R,0 ≤ R ∧ R < 4294967296 ∧ R = x % 4294967296 * 2 ^ s.toNat % 4294967296 ∧ Op.shift BinOp.shl IntKind.i32 x IntKind.u32 s = pure (.int .i32 (wrap32 R)) := by
  have hs : ¬ s < 0 := by omega
  have hm : min s.toNat 32 = s.toNat := by omega
  refine ⟨(x % 4294967296 * 2 ^ s.toNat) % 4294967296,by omega,by omega,rfl,?_⟩
  · unfold Op.shift
    rw [if_neg hs]
    show pure (Value.int .i32 (IntKind.i32.wrap (x * 2 ^ (min s.toNat 32)))) = _
    rw [hm]
    have e : IntKind.i32.wrap (x * 2 ^ s.toNat) = wrap32 ((x % 4294967296 * 2 ^ s.toNat) % 4294967296) := by
      have h1 : (x % 4294967296 * 2 ^ s.toNat) % 4294967296 = (x * 2 ^ s.toNat) % 4294967296 := by
        rw [Int.mul_emod,Int.emod_emod,← Int.mul_emod]
      rw [h1]
      simp only [IntKind.wrap,IntKind.bits,IntKind.signed,wrap32]
      simp
      omega
    rw [e]
theorem shr_any (x s : Int) (s0 : 0 ≤ s) (s1 : s < 32) : ∃ R,0 ≤ R ∧ R < 4294967296 ∧ R = x % 4294967296 / 2 ^ s.toNat ∧ Op.shift BinOp.shr IntKind.u32 (x % 4294967296) IntKind.u32 s = pure (.int .u32 R) := by
  have hs : ¬ s < 0 := by omega
  have hm : min s.toNat 32 = s.toNat := by omega
  have hp : (0 : Int) < 2 ^ s.toNat := Int.pow_pos (by decide)
  have hx : 0 ≤ x % 4294967296 := by omega
  have hx2 : x % 4294967296 < 4294967296 := by omega
  have hd : (x % 4294967296).fdiv (2 ^ s.toNat) = (x % 4294967296) / (2 ^ s.toNat) := Int.fdiv_eq_ediv_of_nonneg _ (Int.le_of_lt hp)
  have hle : (x % 4294967296) / (2 ^ s.toNat) ≤ x % 4294967296 := Int.ediv_le_self _ hx
  have hge : 0 ≤ (x % 4294967296) / (2 ^ s.toNat) := Int.ediv_nonneg hx (Int.le_of_lt hp)
  refine ⟨x % 4294967296 / 2 ^ s.toNat,hge,by omega,rfl,?_⟩
  unfold Op.shift
  rw [if_neg hs]
  show pure (Value.int .u32 ((x % 4294967296).fdiv (2 ^ (min s.toNat 32)))) = _
  rw [hm,hd]
set_option maxRecDepth 20000 in
theorem reckon_shl (x y s R : Int) (hs : bits BinOp.and IntKind.i32 y 31 = s) (s0 : 0 ≤ s) (s1 : s < 32) (hR : R = x % 4294967296 * 2 ^ s.toNat % 4294967296) (R0 : 0 ≤ R) (R1 : R < 4294967296) (w : World) (x0 : -2147483648 ≤ x) (x1 : x ≤ 2147483647) (y0 : -2147483648 ≤ y) (y1 : y ≤ 2147483647) :
    Calls Tryd.prog 87 #[.string ⟨#[115,104,108]⟩,.int .i32 x,.int .i32 y] w fun e w' => e = .returned (.int .i32 (wrap32 R)) ∧ w = w' := by
  go_enter Tryd.func87,Tryd.ntmps87
  go_wp2_with fail
  go_ret
  exact ⟨by rw [hR]; rfl,rfl⟩
set_option maxRecDepth 20000 in
theorem reckon_shr (x y s R : Int) (hs : bits BinOp.and IntKind.i32 y 31 = s) (s0 : 0 ≤ s) (s1 : s < 32) (hR : R = x % 4294967296 / 2 ^ s.toNat) (R0 : 0 ≤ R) (R1 : R < 4294967296) (w : World) (x0 : -2147483648 ≤ x) (x1 : x ≤ 2147483647) (y0 : -2147483648 ≤ y) (y1 : y ≤ 2147483647) :
    Calls Tryd.prog 87 #[.string ⟨#[115,104,114]⟩,.int .i32 x,.int .i32 y] w fun e w' => e = .returned (.int .i32 (wrap32 R)) ∧ w = w' := by
  go_enter Tryd.func87,Tryd.ntmps87
  go_wp2_with fail
  go_ret
  exact ⟨by rw [hR]; rfl,rfl⟩
set_option maxRecDepth 20000 in
set_option maxHeartbeats 2000000 in
theorem rtwo_shl (op n f : Int) (a b : Nat) (M : Value) (from_ : Int) (x y : Int) (w : World) (g : Nat) (cells : List Value) (hB : Blk w g 89 cells) (ha : a < 8) (hb : b < 8) (hx : cells[a]? = some (.int .i32 x)) (hy : cells[b]? = some (.int .i32 y)) (x0 : -2147483648 ≤ x) (x1 : x ≤ 2147483647) (y0 : -2147483648 ≤ y) (y1 : y ≤ 2147483647) (s R : Int) (hs : bits BinOp.and IntKind.i32 y 31 = s) (s0 : 0 ≤ s) (s1 : s < 32) (hR : R = x % 4294967296 * 2 ^ s.toNat % 4294967296) (R0 : 0 ≤ R) (R1 : R < 4294967296) :
    Calls Tryd.prog 68 #[.pointer (some ⟨g,0,none⟩),.string ⟨#[115,104,108]⟩,.agg #[.int .i64 op,.int .i64 a,.int .i64 b,.int .i32 n,.int .i64 f],M,.int .i64 from_] w fun e w' => e = .returned (.agg #[.int .i64 0,.int .i64 0,.int .u32 0]) ∧ RW w g (cells.set a (.int .i32 (wrap32 R))) w' := by
  have hg := hB.lt
  have hBb : (b : Int) < 8 := by omega
  have hAa : (a : Int) < 8 := by omega
  have HB := Lib.hid hB
  have qa : ((w.alloc (.cells #[.int .i64 op,.int .i64 a,.int .i64 b,.int .i32 n,.int .i64 f] 25)).alloc (.cells #[.int .i64 0,.int .i64 0,.int .u32 0] 92)).cell? ⟨g,a,none⟩ = some (.int .i32 x) := by
    rw [World.cell?_alloc_lt _ _ ⟨g,a,none⟩ (by simp; omega),World.cell?_alloc_lt _ _ ⟨g,a,none⟩ hg]; exact (hB.cell a).trans hx
  have qb : ((w.alloc (.cells #[.int .i64 op,.int .i64 a,.int .i64 b,.int .i32 n,.int .i64 f] 25)).alloc (.cells #[.int .i64 0,.int .i64 0,.int .u32 0] 92)).cell? ⟨g,b,none⟩ = some (.int .i32 y) := by
    rw [World.cell?_alloc_lt _ _ ⟨g,b,none⟩ (by simp; omega),World.cell?_alloc_lt _ _ ⟨g,b,none⟩ hg]; exact (hB.cell b).trans hy
  have hI0 : Blk ((w.alloc (.cells #[.int .i64 op,.int .i64 a,.int .i64 b,.int .i32 n,.int .i64 f] 25)).alloc (.cells #[.int .i64 0,.int .i64 0,.int .u32 0] 92)) w.heap.size 25 [.int .i64 op,.int .i64 a,.int .i64 b,.int .i32 n,.int .i64 f] := (Blk.new w 25 [.int .i64 op,.int .i64 a,.int .i64 b,.int .i32 n,.int .i64 f]).alloc _
  have hX0 : Blk ((w.alloc (.cells #[.int .i64 op,.int .i64 a,.int .i64 b,.int .i32 n,.int .i64 f] 25)).alloc (.cells #[.int .i64 0,.int .i64 0,.int .u32 0] 92)) (w.heap.size + 1) 92 [.int .i64 0,.int .i64 0,.int .u32 0] := by
    have := Blk.new (w.alloc (.cells #[.int .i64 op,.int .i64 a,.int .i64 b,.int .i32 n,.int .i64 f] 25)) 92 [.int .i64 0,.int .i64 0,.int .u32 0]
    rw [World.size_alloc] at this
    exact this
  have HCs : Hid (RW w g cells ((w.alloc (.cells #[.int .i64 op,.int .i64 a,.int .i64 b,.int .i32 n,.int .i64 f] 25)).alloc (.cells #[.int .i64 0,.int .i64 0,.int .u32 0] 92))) := Lib.hid (((RW.start hB).alloc _).alloc _)
  have Hx := Lib.hid hx
  clear hB hx hy
  go_enter Tryd.func68,Tryd.ntmps68
  go_wp2_with fail
  go_quiet (fail)
  have hC1 := HCs.out.drewN nq
  have hX1 : Blk (((w.alloc (.cells #[.int .i64 op,.int .i64 a,.int .i64 b,.int .i32 n,.int .i64 f] 25)).alloc (.cells #[.int .i64 0,.int .i64 0,.int .u32 0] 92)).drewN nq) (w.heap.size + 1) 92 [.int .i64 0,.int .i64 0,.int .u32 0] := hX0
  have hI1 : Blk (((w.alloc (.cells #[.int .i64 op,.int .i64 a,.int .i64 b,.int .i32 n,.int .i64 f] 25)).alloc (.cells #[.int .i64 0,.int .i64 0,.int .u32 0] 92)).drewN nq) w.heap.size 25 [.int .i64 op,.int .i64 a,.int .i64 b,.int .i32 n,.int .i64 f] := hI0
  clear qa qb hX0 hI0 HCs
  generalize ((w.alloc (.cells #[.int .i64 op,.int .i64 a,.int .i64 b,.int .i32 n,.int .i64 f] 25)).alloc (.cells #[.int .i64 0,.int .i64 0,.int .u32 0] 92)).drewN nq = w1 at hC1 hX1 hI1 ⊢
  go_wp2_with fail
  refine wp_region_swap (ops' := rtR33) (by kernel_rfl) (rt_r33 g w.heap.size a ⟨#[115,104,108]⟩ x y (wrap32 R) _ _ _ _ _ _ _ _ _ _ _ _ _ _ _ _ _ _ _ _ _ _ _ _ _ _ _ _ _ _ _ _ _ _ _ _ _ _ _ _ _ _ _ _ _ _ _ _ _ _ _ _ _ _ _ _ _ _ _ _ _ _ _ _ _ _ _ _ _ _ _ _ _ _ _ _ _ _ _ _ _ _ _ _ _ _ _ _ _ _ _ _ _ _ _ _ _ _ _ _ _ _ _ _ _ _ _ _ _ _ _ _ _ _ _ _ _ _ _ _ _ _ _ _ _ _ _ _ _ _ _ _ _ _ _ _ _ _ _ _ _ ha (hI1.cell 1) ((hC1.blk.cell a).trans Hx.out) (hC1.blk.free _) (fun k => reckon_shl x y s R hs s0 s1 hR R0 R1 _ x0 x1 y0 y1) ?_)
  intro v126 v127 v128 v129 v130 v131 v132 v133 v134 v135 v136 v137 v138 v139 v140 v141 kd
  have hC2 := (hC1.drewN kd).setReg a (.int .i32 (wrap32 R))
  have hX2 : Blk ((w1.drewN kd).setCell ⟨g,a,none⟩ (.int .i32 (wrap32 R))) (w.heap.size + 1) 92 [.int .i64 0,.int .i64 0,.int .u32 0] := Blk.other (show Blk (w1.drewN kd) _ _ _ from hX1) (by show w.heap.size + 1 ≠ g; omega)
  generalize (w1.drewN kd).setCell ⟨g,a,none⟩ (.int .i32 (wrap32 R)) = w5 at hX2 hC2 ⊢
  go_wp2_with (first
    | ((with_reducible show wpList _ _ _ (Oper.mk none (Op.store _ (Operand.tmp 10) (Operand.tmp 142)) _ _ _ _ :: _) _ _); refine wpList_st3 hX2 rfl 92 (.tmp 10) (.tmp 142) (.int .i64 0) (.int .i64 0) (.int .u32 0) rfl (by kernel_rfl) (by kernel_rfl) (by simp [Value.oneCell']) (by kernel_rfl) ?_; rintro ⟨z0,z1,z2⟩)
    | fail)
  refine bodyPost_ret (v := .agg #[.int .i64 0,.int .i64 0,.int .u32 0]) (by simp [results,Tryd.results68,go_sem,z0,z1,z2]) rfl ⟨rfl,?_⟩
  exact RW.farCells (by omega) _ _ _ hC2
set_option maxRecDepth 20000 in
set_option maxHeartbeats 2000000 in
theorem rtwo_shr (op n f : Int) (a b : Nat) (M : Value) (from_ : Int) (x y : Int) (w : World) (g : Nat) (cells : List Value) (hB : Blk w g 89 cells) (ha : a < 8) (hb : b < 8) (hx : cells[a]? = some (.int .i32 x)) (hy : cells[b]? = some (.int .i32 y)) (x0 : -2147483648 ≤ x) (x1 : x ≤ 2147483647) (y0 : -2147483648 ≤ y) (y1 : y ≤ 2147483647) (s R : Int) (hs : bits BinOp.and IntKind.i32 y 31 = s) (s0 : 0 ≤ s) (s1 : s < 32) (hR : R = x % 4294967296 / 2 ^ s.toNat) (R0 : 0 ≤ R) (R1 : R < 4294967296) :
    Calls Tryd.prog 68 #[.pointer (some ⟨g,0,none⟩),.string ⟨#[115,104,114]⟩,.agg #[.int .i64 op,.int .i64 a,.int .i64 b,.int .i32 n,.int .i64 f],M,.int .i64 from_] w fun e w' => e = .returned (.agg #[.int .i64 0,.int .i64 0,.int .u32 0]) ∧ RW w g (cells.set a (.int .i32 (wrap32 R))) w' := by
  have hg := hB.lt
  have hBb : (b : Int) < 8 := by omega
  have hAa : (a : Int) < 8 := by omega
  have HB := Lib.hid hB
  have qa : ((w.alloc (.cells #[.int .i64 op,.int .i64 a,.int .i64 b,.int .i32 n,.int .i64 f] 25)).alloc (.cells #[.int .i64 0,.int .i64 0,.int .u32 0] 92)).cell? ⟨g,a,none⟩ = some (.int .i32 x) := by
    rw [World.cell?_alloc_lt _ _ ⟨g,a,none⟩ (by simp; omega),World.cell?_alloc_lt _ _ ⟨g,a,none⟩ hg]; exact (hB.cell a).trans hx
  have qb : ((w.alloc (.cells #[.int .i64 op,.int .i64 a,.int .i64 b,.int .i32 n,.int .i64 f] 25)).alloc (.cells #[.int .i64 0,.int .i64 0,.int .u32 0] 92)).cell? ⟨g,b,none⟩ = some (.int .i32 y) := by
    rw [World.cell?_alloc_lt _ _ ⟨g,b,none⟩ (by simp; omega),World.cell?_alloc_lt _ _ ⟨g,b,none⟩ hg]; exact (hB.cell b).trans hy
  have hI0 : Blk ((w.alloc (.cells #[.int .i64 op,.int .i64 a,.int .i64 b,.int .i32 n,.int .i64 f] 25)).alloc (.cells #[.int .i64 0,.int .i64 0,.int .u32 0] 92)) w.heap.size 25 [.int .i64 op,.int .i64 a,.int .i64 b,.int .i32 n,.int .i64 f] := (Blk.new w 25 [.int .i64 op,.int .i64 a,.int .i64 b,.int .i32 n,.int .i64 f]).alloc _
  have hX0 : Blk ((w.alloc (.cells #[.int .i64 op,.int .i64 a,.int .i64 b,.int .i32 n,.int .i64 f] 25)).alloc (.cells #[.int .i64 0,.int .i64 0,.int .u32 0] 92)) (w.heap.size + 1) 92 [.int .i64 0,.int .i64 0,.int .u32 0] := by
    have := Blk.new (w.alloc (.cells #[.int .i64 op,.int .i64 a,.int .i64 b,.int .i32 n,.int .i64 f] 25)) 92 [.int .i64 0,.int .i64 0,.int .u32 0]
    rw [World.size_alloc] at this
    exact this
  have HCs : Hid (RW w g cells ((w.alloc (.cells #[.int .i64 op,.int .i64 a,.int .i64 b,.int .i32 n,.int .i64 f] 25)).alloc (.cells #[.int .i64 0,.int .i64 0,.int .u32 0] 92))) := Lib.hid (((RW.start hB).alloc _).alloc _)
  have Hx := Lib.hid hx
  clear hB hx hy
  go_enter Tryd.func68,Tryd.ntmps68
  go_wp2_with fail
  go_quiet (fail)
  have hC1 := HCs.out.drewN nq
  have hX1 : Blk (((w.alloc (.cells #[.int .i64 op,.int .i64 a,.int .i64 b,.int .i32 n,.int .i64 f] 25)).alloc (.cells #[.int .i64 0,.int .i64 0,.int .u32 0] 92)).drewN nq) (w.heap.size + 1) 92 [.int .i64 0,.int .i64 0,.int .u32 0] := hX0
  have hI1 : Blk (((w.alloc (.cells #[.int .i64 op,.int .i64 a,.int .i64 b,.int .i32 n,.int .i64 f] 25)).alloc (.cells #[.int .i64 0,.int .i64 0,.int .u32 0] 92)).drewN nq) w.heap.size 25 [.int .i64 op,.int .i64 a,.int .i64 b,.int .i32 n,.int .i64 f] := hI0
  clear qa qb hX0 hI0 HCs
  generalize ((w.alloc (.cells #[.int .i64 op,.int .i64 a,.int .i64 b,.int .i32 n,.int .i64 f] 25)).alloc (.cells #[.int .i64 0,.int .i64 0,.int .u32 0] 92)).drewN nq = w1 at hC1 hX1 hI1 ⊢
  go_wp2_with fail
  refine wp_region_swap (ops' := rtR33) (by kernel_rfl) (rt_r33 g w.heap.size a ⟨#[115,104,114]⟩ x y (wrap32 R) _ _ _ _ _ _ _ _ _ _ _ _ _ _ _ _ _ _ _ _ _ _ _ _ _ _ _ _ _ _ _ _ _ _ _ _ _ _ _ _ _ _ _ _ _ _ _ _ _ _ _ _ _ _ _ _ _ _ _ _ _ _ _ _ _ _ _ _ _ _ _ _ _ _ _ _ _ _ _ _ _ _ _ _ _ _ _ _ _ _ _ _ _ _ _ _ _ _ _ _ _ _ _ _ _ _ _ _ _ _ _ _ _ _ _ _ _ _ _ _ _ _ _ _ _ _ _ _ _ _ _ _ _ _ _ _ _ _ _ _ _ ha (hI1.cell 1) ((hC1.blk.cell a).trans Hx.out) (hC1.blk.free _) (fun k => reckon_shr x y s R hs s0 s1 hR R0 R1 _ x0 x1 y0 y1) ?_)
  intro v126 v127 v128 v129 v130 v131 v132 v133 v134 v135 v136 v137 v138 v139 v140 v141 kd
  have hC2 := (hC1.drewN kd).setReg a (.int .i32 (wrap32 R))
  have hX2 : Blk ((w1.drewN kd).setCell ⟨g,a,none⟩ (.int .i32 (wrap32 R))) (w.heap.size + 1) 92 [.int .i64 0,.int .i64 0,.int .u32 0] := Blk.other (show Blk (w1.drewN kd) _ _ _ from hX1) (by show w.heap.size + 1 ≠ g; omega)
  generalize (w1.drewN kd).setCell ⟨g,a,none⟩ (.int .i32 (wrap32 R)) = w5 at hX2 hC2 ⊢
  go_wp2_with (first
    | ((with_reducible show wpList _ _ _ (Oper.mk none (Op.store _ (Operand.tmp 10) (Operand.tmp 142)) _ _ _ _ :: _) _ _); refine wpList_st3 hX2 rfl 92 (.tmp 10) (.tmp 142) (.int .i64 0) (.int .i64 0) (.int .u32 0) rfl (by kernel_rfl) (by kernel_rfl) (by simp [Value.oneCell']) (by kernel_rfl) ?_; rintro ⟨z0,z1,z2⟩)
    | fail)
  refine bodyPost_ret (v := .agg #[.int .i64 0,.int .i64 0,.int .u32 0]) (by simp [results,Tryd.results68,go_sem,z0,z1,z2]) rfl ⟨rfl,?_⟩
  exact RW.farCells (by omega) _ _ _ hC2
end Go.Proofs.YthcjnkakfpmpbaaDoor
namespace Go.Proofs.YthcjnkakfpmpbaaDoor
open Go.RowKit
set_option linter.unusedVariables false
set_option linter.unusedSimpArgs false
set_option maxRecDepth 20000 in
set_option maxHeartbeats 2000000 in
theorem rtwo_ldw (op n f : Int) (a b : Nat) (M : Value) (A : Option Addr) (m c : Nat) (from_ : Int) (x y : Int) (at_ : Nat) (l : List UInt8) (w : World) (g : Nat) (cells : List Value) (hB : Blk w g 89 cells) (ha : a < 8) (hb : b < 8) (hx : cells[a]? = some (.int .i32 x)) (hy : cells[b]? = some (.int .i32 y)) (hf0 : 0 ≤ from_) (hf1 : from_ ≤ 1048576) (hm : m ≤ 140737488355328) (y0 : -2147483648 ≤ y) (y1 : y ≤ 2147483647) (hM : M = .slice A m c) (hat : y % 4294967296 - from_ = (at_ : Int)) (hl : at_ + 4 ≤ m) (hs : Sl w w.heap.size 1 A m (bs l)) :
    Calls Tryd.prog 68 #[.pointer (some ⟨g,0,none⟩),.string ⟨#[108,100,119]⟩,.agg #[.int .i64 op,.int .i64 a,.int .i64 b,.int .i32 n,.int .i64 f],M,.int .i64 from_] w fun e w' => e = .returned (.agg #[.int .i64 0,.int .i64 0,.int .u32 0]) ∧ RW w g (cells.set a (.int .i32 (wrap32 (leVal ((l.drop at_).take 4))))) w' := by
  have hg := hB.lt
  have hBb : (b : Int) < 8 := by omega
  have hAa : (a : Int) < 8 := by omega
  have HB := Lib.hid hB
  have qa : ((w.alloc (.cells #[.int .i64 op,.int .i64 a,.int .i64 b,.int .i32 n,.int .i64 f] 25)).alloc (.cells #[.int .i64 0,.int .i64 0,.int .u32 0] 92)).cell? ⟨g,a,none⟩ = some (.int .i32 x) := by
    rw [World.cell?_alloc_lt _ _ ⟨g,a,none⟩ (by simp; omega),World.cell?_alloc_lt _ _ ⟨g,a,none⟩ hg]; exact (hB.cell a).trans hx
  have qb : ((w.alloc (.cells #[.int .i64 op,.int .i64 a,.int .i64 b,.int .i32 n,.int .i64 f] 25)).alloc (.cells #[.int .i64 0,.int .i64 0,.int .u32 0] 92)).cell? ⟨g,b,none⟩ = some (.int .i32 y) := by
    rw [World.cell?_alloc_lt _ _ ⟨g,b,none⟩ (by simp; omega),World.cell?_alloc_lt _ _ ⟨g,b,none⟩ hg]; exact (hB.cell b).trans hy
  have hI0 : Blk ((w.alloc (.cells #[.int .i64 op,.int .i64 a,.int .i64 b,.int .i32 n,.int .i64 f] 25)).alloc (.cells #[.int .i64 0,.int .i64 0,.int .u32 0] 92)) w.heap.size 25 [.int .i64 op,.int .i64 a,.int .i64 b,.int .i32 n,.int .i64 f] := (Blk.new w 25 [.int .i64 op,.int .i64 a,.int .i64 b,.int .i32 n,.int .i64 f]).alloc _
  have hX0 : Blk ((w.alloc (.cells #[.int .i64 op,.int .i64 a,.int .i64 b,.int .i32 n,.int .i64 f] 25)).alloc (.cells #[.int .i64 0,.int .i64 0,.int .u32 0] 92)) (w.heap.size + 1) 92 [.int .i64 0,.int .i64 0,.int .u32 0] := by
    have := Blk.new (w.alloc (.cells #[.int .i64 op,.int .i64 a,.int .i64 b,.int .i32 n,.int .i64 f] 25)) 92 [.int .i64 0,.int .i64 0,.int .u32 0]
    rw [World.size_alloc] at this
    exact this
  have HCs : Hid (RW w g cells ((w.alloc (.cells #[.int .i64 op,.int .i64 a,.int .i64 b,.int .i32 n,.int .i64 f] 25)).alloc (.cells #[.int .i64 0,.int .i64 0,.int .u32 0] 92))) := Lib.hid (((RW.start hB).alloc _).alloc _)
  have Hx := Lib.hid hx
  subst hM
  obtain ⟨R,hR⟩ : ∃ R,R = leVal ((l.drop at_).take 4) := ⟨_,rfl⟩
  rw [← hR]
  have HR := Lib.hid hR
  clear hR
  have Hat := Lib.hid hat
  clear hat
  clear hB hx hy
  go_enter Tryd.func68,Tryd.ntmps68
  go_wp2_with fail
  go_quiet (fail)
  have hC1 := HCs.out.drewN nq
  have hX1 : Blk (((w.alloc (.cells #[.int .i64 op,.int .i64 a,.int .i64 b,.int .i32 n,.int .i64 f] 25)).alloc (.cells #[.int .i64 0,.int .i64 0,.int .u32 0] 92)).drewN nq) (w.heap.size + 1) 92 [.int .i64 0,.int .i64 0,.int .u32 0] := hX0
  have hI1 : Blk (((w.alloc (.cells #[.int .i64 op,.int .i64 a,.int .i64 b,.int .i32 n,.int .i64 f] 25)).alloc (.cells #[.int .i64 0,.int .i64 0,.int .u32 0] 92)).drewN nq) w.heap.size 25 [.int .i64 op,.int .i64 a,.int .i64 b,.int .i32 n,.int .i64 f] := hI0
  have hs1 : Sl (((w.alloc (.cells #[.int .i64 op,.int .i64 a,.int .i64 b,.int .i32 n,.int .i64 f] 25)).alloc (.cells #[.int .i64 0,.int .i64 0,.int .u32 0] 92)).drewN nq) w.heap.size 1 A m (bs l) := (((hs.alloc (Nat.le_refl _) _).alloc (by simp) _).drewN nq)
  clear qa qb hX0 hI0 HCs
  generalize ((w.alloc (.cells #[.int .i64 op,.int .i64 a,.int .i64 b,.int .i32 n,.int .i64 f] 25)).alloc (.cells #[.int .i64 0,.int .i64 0,.int .u32 0] 92)).drewN nq = w1 at hC1 hX1 hI1 hs1 ⊢
  go_wp2_with (first
    | (go_at_call 86; refine (memory_yes y 4 m c at_ A from_ _ y0 y1 hf0 hf1 (by omega) hm Hat.out (by omega)).mono ?_; rintro e w3 ⟨rfl,rfl⟩)
    | fail)
  go_loop [14,15] (fun y i => ∃ (m : Nat) (q z : Int),m ≤ 4 ∧ i = .int .i64 q ∧ Hid (q = (m : Int) - 1) ∧ y = .int .u32 z ∧ 0 ≤ z ∧ z < 4294967296 ∧ Hid (z = leVal ((l.drop (at_ + m)).take (4 - m)))) (fun _ i => (intOf i + 1).toNat)
  case atStart => exact ⟨4,3,0,Nat.le_refl _,rfl,Lib.hid (by omega),rfl,by omega,by omega,Lib.hid (by simp [leVal])⟩
  case round =>
    obtain ⟨j,q,z,hj,rfl,hq,rfl,hz0,hz1,hz⟩ := hrel
    match j,hj,hq,hz with
    | 0,hj,hq,hz =>
      obtain rfl : q = -1 := by have := hq.out; omega
      have hzR : z = R := by rw [hz.out,HR.out]; simp
      subst hzR
      go_wp2_with fail
      refine wp_region_swap (ops' := rtR21) (by kernel_rfl) (rt_r21 g w.heap.size a z _ _ _ _ _ _ _ _ _ _ _ _ _ _ _ _ _ _ _ _ _ _ _ _ _ _ _ _ _ _ _ _ _ _ _ _ _ _ _ _ _ _ _ _ _ _ _ _ _ _ _ _ _ _ _ _ _ _ _ _ _ _ _ _ _ _ _ _ _ _ _ _ _ _ _ _ _ _ _ _ _ _ _ _ _ _ _ _ _ _ _ _ _ _ _ _ _ _ _ _ _ _ _ _ _ _ _ _ _ _ _ _ _ _ _ _ _ _ _ _ _ _ _ _ _ _ _ _ _ _ _ _ _ _ _ _ _ _ _ _ _ _ ha (hI1.cell 1) _ ((hC1.blk.cell a).trans Hx.out) (hC1.blk.free _) hz0 hz1 ?_)
      intro v73 v74 v75 v76 v77 v78 v79 v80 kd
      have hC2 := (hC1.drewN kd).setReg a (.int .i32 (wrap32 z))
      have hX2 : Blk ((w1.drewN kd).setCell ⟨g,a,none⟩ (.int .i32 (wrap32 z))) (w.heap.size + 1) 92 [.int .i64 0,.int .i64 0,.int .u32 0] := Blk.other (show Blk (w1.drewN kd) _ _ _ from hX1) (by show w.heap.size + 1 ≠ g; omega)
      generalize (w1.drewN kd).setCell ⟨g,a,none⟩ (.int .i32 (wrap32 z)) = w5 at hX2 hC2 ⊢
      go_wp2_with (first
        | ((with_reducible show wpList _ _ _ (Oper.mk none (Op.store _ (Operand.tmp 10) (Operand.tmp 81)) _ _ _ _ :: _) _ _); refine wpList_st3 hX2 rfl 92 (.tmp 10) (.tmp 81) (.int .i64 0) (.int .i64 0) (.int .u32 0) rfl (by kernel_rfl) (by kernel_rfl) (by simp [Value.oneCell']) (by kernel_rfl) ?_; rintro ⟨z0,z1,z2⟩)
        | fail)
      refine bodyPost_ret (v := .agg #[.int .i64 0,.int .i64 0,.int .u32 0]) (by simp [results,Tryd.results68,go_sem,z0,z1,z2]) rfl ⟨rfl,?_⟩
      exact RW.farCells (by omega) _ _ _ hC2
    | k + 1,hj,hq,hz =>
      obtain rfl : q = (k : Int) := by have := hq.out; omega
      obtain ⟨b',o',x',rfl,hb',hx',hc'⟩ := hs1.byte (k := at_ + k) (by omega)
      have Hx' := Lib.hid hx'
      clear hx'
      have hs1' : z < 16777216 := by rw [hz.out]; exact leVal_small (by omega) (by omega)
      have hx8 : x'.toNat < 256 := x'.toNat_lt
      have hI : (at_ : Int) + k < m := by omega
      go_wp2_with fail
      go_round
      case rel => exact ⟨k,(k : Int) - 1,z * 256 + x'.toNat,by omega,rfl,Lib.hid rfl,rfl,by omega,by omega,Lib.hid (by rw [leVal_step Hx'.out (by omega),← hz.out]; omega)⟩
      case measure => simp [intOf]
end Go.Proofs.YthcjnkakfpmpbaaDoor
namespace Go.Proofs.YthcjnkakfpmpbaaDoor
open Go.RowKit
set_option linter.unusedVariables false
theorem refFits5_any (n width : Int) (w : World) (h0 : -2147483648 ≤ n) (h1 : n ≤ 2147483647) :
    Calls Tryd.prog 80 #[.int .i32 n,.int .i64 width] w fun e w' => e = .returned (.bool (fitsB n width)) ∧ w = w' := by
  rcases width_cases width with rfl | rfl | rfl | h
  · by_cases a : -128 ≤ n
    · by_cases b : n ≤ 127
      all_goals
        go_enter Tryd.func80,Tryd.ntmps80
        go_wp2
        go_ret
        exact ⟨ret_bool (by simp [fitsB]; omega),rfl⟩
    · go_enter Tryd.func80,Tryd.ntmps80
      go_wp2
      go_ret
      exact ⟨ret_bool (by simp [fitsB]; omega),rfl⟩
  · by_cases a : -32768 ≤ n
    · by_cases b : n ≤ 32767
      all_goals
        go_enter Tryd.func80,Tryd.ntmps80
        go_wp2
        go_ret
        exact ⟨ret_bool (by simp [fitsB]; omega),rfl⟩
    · go_enter Tryd.func80,Tryd.ntmps80
      go_wp2
      go_ret
      exact ⟨ret_bool (by simp [fitsB]; omega),rfl⟩
  · go_enter Tryd.func80,Tryd.ntmps80
    go_wp2
    go_ret
    exact ⟨rfl,rfl⟩
  · rw [fitsB_not h]
    obtain ⟨a,b,c⟩ := h
    have e1 : (width == 1) = false := by simpa using a
    have e2 : (width == 2) = false := by simpa using b
    have e3 : (width == 4) = false := by simpa using c
    clear a b c
    go_enter Tryd.func80,Tryd.ntmps80
    go_wp2
    go_ret
    exact ⟨rfl,rfl⟩
set_option maxHeartbeats 4000000 in
theorem refRegisters_fin (op a b n f s : Int) (w : World) (hs : 1 ≤ s ∧ s ≤ 13)
    (H : Hid (∀ w,Calls Tryd.prog 49 #[.int .i64 op] w fun e w' => e = .returned (.int .i64 s) ∧ Below w.heap.size w w')) :
    Calls Tryd.prog 79 #[.agg #[.int .i64 op,.int .i64 a,.int .i64 b,.int .i32 n,.int .i64 f]] w fun e w' => e = .returned (.bool (regB s a b n)) ∧ Below w.heap.size w w' := by
  rcases thirteen hs with rfl | rfl | rfl | rfl | rfl | rfl | rfl | rfl | rfl | rfl | rfl | rfl | rfl
  all_goals
    clear hs
    go_enter Tryd.func79,Tryd.ntmps79
    go_wp2_with (go_at_call 49; refine (H.out _).mono ?_; rintro e w1 ⟨rfl,hb1⟩; obtain ⟨hc1,hf1⟩ := bcell hb1; have hz1 : w.heap.size < w1.heap.size := (by have := hb1.size; simp at this; omega))
    all_goals
      go_ret
      exact ⟨ret_bool (by rw [Bool.eq_iff_iff]; simp [regB,limA,limB,okLim] at *; omega),((Below.refl w.heap.size w).alloc (Nat.le_refl _) _).trans (hb1.mono (by simp))⟩
theorem refRegisters_any (op a b n f : Int) (w : World) (hop : isOp op = true) :
    Calls Tryd.prog 79 #[.agg #[.int .i64 op,.int .i64 a,.int .i64 b,.int .i32 n,.int .i64 f]] w fun e w' => e = .returned (.bool (regB (opShape op) a b n)) ∧ Below w.heap.size w w' :=
  refRegisters_fin op a b n f _ w ((shape_bounds op).1 hop) (Lib.hid fun w => refShape_any op w)
end Go.Proofs.YthcjnkakfpmpbaaDoor
