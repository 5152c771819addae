/- Plain words on decoding: what bytes decode to. And Decode's answers that look at no shape. Conditions: none. -/
import Derived.Test.YthcjnkakfpmpbaaDoorD4
import Derived.Test.YthcjnkakfpmpbaaDoorO3
namespace Go.Proofs.YthcjnkakfpmpbaaDoor
open Go.RowKit
set_option linter.unusedVariables false
set_option linter.unusedSimpArgs false

def ZI : Ins := ⟨0, 0, 0, 0, 0⟩
/-- byte k of the rest -/
def rb (r : List UInt8) (k : Nat) : Int := ((r.getD k 0).toNat : Int)
def widthD (s f : Int) : Int := if s = 8 ∨ s = 9 then 1 else if s = 11 then 2 else if s = 10 then 4 else if s = 12 ∨ s = 13 then f else 0
/-- the instruction of an operation of shape s whose bytes behind the first are r -/
def insD (op f s : Int) (r : List UInt8) : Ins :=
  if s = 1 then ⟨op, 0, 0, 0, f⟩ else if s = 2 ∨ s = 3 then ⟨op, rb r 0, 0, 0, f⟩ else if s = 4 ∨ s = 5 ∨ s = 6 then ⟨op, rb r 0 / 16, rb r 0 % 16, 0, f⟩
  else if s = 7 then ⟨op, rb r 0, rb r 1 / 16, rb r 1 % 16, f⟩ else if s = 9 ∨ s = 12 then ⟨op, 0, 0, toldR r 0 (widthD s f) s, f⟩ else ⟨op, rb r 0, 0, toldR r 1 (widthD s f) s, f⟩
/-- what is decoded at a place: the instruction, how many bytes, what is wrong -/
def decR (l : List UInt8) (at_ : Int) : Ins × Int × Int :=
  if at_ < 0 ∨ (l.length : Int) < at_ then (ZI, 0, 1) else if at_ = l.length then (ZI, 0, 10) else
  let d := byteD (rb l at_.toNat)
  if d.1 = 0 then (ZI, 0, 11) else
  if (l.length : Int) - at_ < sizeR (opShape d.1) d.2 then (ZI, 0, 10) else
  let i := insD d.1 d.2 (opShape d.1) (l.drop (at_ + 1).toNat)
  let e := checkR i.op i.a i.b i.n i.f
  if e = 0 then (i, sizeR (opShape d.1) d.2, 0) else (ZI, 0, e)
/-- Decode's answer -/
def GivesD (W : World) (r : Ins × Int × Int) (e : Ending) (w' : World) : Prop :=
  e = .returned (.tuple #[r.1.val, .int .i64 r.2.1, .int .i64 r.2.2]) ∧ Below W.heap.size W w'

set_option maxHeartbeats 1000000 in
theorem dec_arg (A : Option Addr) (n c : Nat) (at_ : Int) (w : World) (h : at_ < 0 ∨ (n : Int) < at_) (h0 : -9223372036854775808 ≤ at_) (h1 : at_ ≤ 9223372036854775807) :
    Calls Tryd.prog 16 #[.slice A n c, .int .i64 at_] w (GivesD w (ZI, 0, 1)) := by
  by_cases h2 : at_ < 0
  · clear h
    go_enter Tryd.func16, Tryd.ntmps16
    go_wp2
    refine wp_scope_n (c' := decBody) 4 (by kernel_rfl) ?_
    go_wp2_with ((with_reducible show wpList _ _ _ (Oper.mk none (Op.store _ (Operand.tmp 4) (Operand.tmp 22)) _ _ _ _ :: _) _ _); refine wpList_storeR (DecW.init w) rfl 25 (.tmp 4) (.tmp 22) (.int .i64 0) (.int .i64 0) (.int .i64 0) (.int .i32 0) (.int .i64 0) rfl (by kernel_rfl) (by kernel_rfl) (by simp [Value.oneCell']) (by kernel_rfl) ?_; intro w8 hB8 hz8; obtain ⟨z0, z1, z2, z3, z4⟩ := hz8)
    rw [jumpQ_ret]
    refine bodyPost_ret (v := .tuple #[ZI.val, .int .i64 0, .int .i64 1]) (by simp [results, Tryd.results16, go_sem, z0, z1, z2, z3, z4, ZI, Ins.val]) rfl ⟨rfl, hB8⟩
  · have h3 : (n : Int) < at_ := by omega
    have g0 : (at_ < 0) = False := by simp; omega
    clear h
    go_enter Tryd.func16, Tryd.ntmps16
    go_wp2
    refine wp_scope_n (c' := decBody) 4 (by kernel_rfl) ?_
    go_wp2_with ((with_reducible show wpList _ _ _ (Oper.mk none (Op.store _ (Operand.tmp 4) (Operand.tmp 22)) _ _ _ _ :: _) _ _); refine wpList_storeR (DecW.init w) rfl 25 (.tmp 4) (.tmp 22) (.int .i64 0) (.int .i64 0) (.int .i64 0) (.int .i32 0) (.int .i64 0) rfl (by kernel_rfl) (by kernel_rfl) (by simp [Value.oneCell']) (by kernel_rfl) ?_; intro w8 hB8 hz8; obtain ⟨z0, z1, z2, z3, z4⟩ := hz8)
    rw [jumpQ_ret]
    refine bodyPost_ret (v := .tuple #[ZI.val, .int .i64 0, .int .i64 1]) (by simp [results, Tryd.results16, go_sem, z0, z1, z2, z3, z4, ZI, Ins.val]) rfl ⟨rfl, hB8⟩

set_option maxHeartbeats 1000000 in
theorem dec_end (A : Option Addr) (n c : Nat) (w : World) :
    Calls Tryd.prog 16 #[.slice A n c, .int .i64 n] w (GivesD w (ZI, 0, 10)) := by
  have g0 : ((n : Int) < 0) = False := by simp
  have g1 : ((n : Int) < n) = False := by simp
  go_enter Tryd.func16, Tryd.ntmps16
  go_wp2
  refine wp_scope_n (c' := decBody) 4 (by kernel_rfl) ?_
  go_wp2_with fail
  go_step3
  refine jump_to (by kernel_rfl) ?_
  conv in restOf _ _ => whnf
  go_wp2_with ((with_reducible show wpList _ _ _ (Oper.mk none (Op.store _ (Operand.tmp 4) (Operand.tmp 143)) _ _ _ _ :: _) _ _); refine wpList_storeR (DecW.init w) rfl 25 (.tmp 4) (.tmp 143) (.int .i64 0) (.int .i64 0) (.int .i64 0) (.int .i32 0) (.int .i64 0) rfl (by kernel_rfl) (by kernel_rfl) (by simp [Value.oneCell']) (by kernel_rfl) ?_; intro w8 hB8 hz8; obtain ⟨z0, z1, z2, z3, z4⟩ := hz8)
  rw [jumpQ_ret]
  refine bodyPost_ret (v := .tuple #[ZI.val, .int .i64 0, .int .i64 10]) (by simp [results, Tryd.results16, go_sem, z0, z1, z2, z3, z4, ZI, Ins.val]) rfl ⟨rfl, hB8⟩

set_option maxHeartbeats 1000000 in
theorem dec_none (b o n c : Nat) (at_ x : Int) (w : World) (hT : TabIs 0 w) (h0 : 0 ≤ at_) (h1 : at_ < n) (hb : b < w.heap.size)
    (hx : w.cell? ⟨b, o + at_.toNat, none⟩ = some (.int .u8 x))
    (Hfi : Hid (∀ w, TabIs 0 w → Calls Tryd.prog 44 #[.int .u8 x] w fun e w' => e = .returned (.tuple #[.int .i64 0, .agg #[.string ⟨#[]⟩, .int .u8 0, .int .i64 0], .int .i64 0, .bool false]) ∧ Below w.heap.size w w')) :
    Calls Tryd.prog 16 #[.slice (some ⟨b, o, none⟩) n c, .int .i64 at_] w (GivesD w (ZI, 0, 11)) := by
  have g0 : (at_ < 0) = False := by simp; omega
  have g1 : ((n : Int) < at_) = False := by simp; omega
  have g2 : (at_ = (n : Int)) = False := by simp; omega
  have g3 : (at_ == (n : Int)) = false := by simp; omega
  have hbb : ∀ k, (((w.alloc (.cells #[.int .i64 0, .int .i64 0, .int .i64 0, .int .i32 0, .int .i64 0] 25)).alloc (.cells #[.int .i64 0, .int .i64 0, .int .i64 0, .int .i32 0, .int .i64 0] 25)).alloc (.cells #[.string ⟨#[]⟩, .int .u8 0, .int .i64 0] 97)).cell? ⟨b, k, none⟩ = w.cell? ⟨b, k, none⟩ := by
    intro k
    rw [World.cell?_alloc_lt _ _ _ (by simp; omega), World.cell?_alloc_lt _ _ _ (by simp; omega), World.cell?_alloc_lt _ _ _ hb]
  go_enter Tryd.func16, Tryd.ntmps16
  go_wp2
  refine wp_scope_n (c' := decBody) 4 (by kernel_rfl) ?_
  go_wp2_with (first
    | (go_at_call 44; refine (Hfi.out _ (((hT.alloc _).alloc _).alloc _)).mono ?_; rintro e w2 ⟨rfl, hb2⟩; have hD2 := (DecW.init w).below hb2)
    | ((with_reducible show wpList _ _ _ (Oper.mk none (Op.store _ (Operand.tmp 37) (Operand.tmp 33)) _ _ _ _ :: _) _ _); refine wpList_storeI hD2 rfl 3 (.tmp 37) (.tmp 33) 0 .i64 0 rfl (by kernel_rfl) (by kernel_rfl) (by simp) (by kernel_rfl) ?_; intro w3 hD3)
    | ((with_reducible show wpList _ _ _ (Oper.mk none (Op.store _ (Operand.tmp 8) (Operand.tmp 34)) _ _ _ _ :: _) _ _); refine wpList_storeX hD3 rfl 97 (.tmp 8) (.tmp 34) (.string ⟨#[]⟩) (.int .u8 0) (.int .i64 0) rfl (by kernel_rfl) (by kernel_rfl) (by simp [Value.oneCell']) (by kernel_rfl) ?_; intro w4 hD4)
    | ((with_reducible show wpList _ _ _ (Oper.mk none (Op.store _ (Operand.tmp 38) (Operand.tmp 35)) _ _ _ _ :: _) _ _); refine wpList_storeI hD4 rfl 3 (.tmp 38) (.tmp 35) 4 .i64 0 rfl (by kernel_rfl) (by kernel_rfl) (by simp) (by kernel_rfl) ?_; intro w5 hD5))
  go_step3
  refine jump_to (by kernel_rfl) ?_
  conv in restOf _ _ => whnf
  go_wp2_with ((with_reducible show wpList _ _ _ (Oper.mk none (Op.store _ (Operand.tmp 4) (Operand.tmp 143)) _ _ _ _ :: _) _ _); refine wpList_storeR hD5 rfl 25 (.tmp 4) (.tmp 143) (.int .i64 0) (.int .i64 0) (.int .i64 0) (.int .i32 0) (.int .i64 0) rfl (by kernel_rfl) (by kernel_rfl) (by simp [Value.oneCell']) (by kernel_rfl) ?_; intro w8 hB8 hz8; obtain ⟨z0, z1, z2, z3, z4⟩ := hz8)
  rw [jumpQ_ret]
  refine bodyPost_ret (v := .tuple #[ZI.val, .int .i64 0, .int .i64 11]) (by simp [results, Tryd.results16, go_sem, z0, z1, z2, z3, z4, ZI, Ins.val]) rfl ⟨rfl, hB8⟩
end Go.Proofs.YthcjnkakfpmpbaaDoor
