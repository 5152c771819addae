import Derived.Test.YthcjnkakfpmpbaaDoorQ26
namespace Go.Proofs.YthcjnkakfpmpbaaDoor
open Go.RowKit
set_option linter.unusedVariables false
set_option linter.unusedSimpArgs false
set_option maxRecDepth 20000
def kaI : Nat → Int × Int × Int × Int × Int := fun k => match k with | 0 => (36,1,0,7,0) | 1 => (36,2,0,(-2),0) | _ => (17,1,2,0,0)
def kbI : Nat → Int × Int × Int × Int × Int := fun k => match k with | 0 => (36,1,0,3,0) | 1 => (36,2,0,4,0) | 2 => (35,0,1,2,0) | 3 => (32,0,0,0,0) | _ => (33,3,0,0,0)
def kaS : Nat → List Value → Prop := fun k c => match k with
  | 0 => RG c
  | 1 => RG c ∧ c[1]? = some (.int .i32 7)
  | 2 => RG c ∧ c[1]? = some (.int .i32 7) ∧ c[2]? = some (.int .i32 (-2))
  | _ => c[1]? = some (.int .i32 (-3))
def kbS : Nat → List Value → Prop := fun k c => match k with
  | 0 => RG c
  | 1 => RG c ∧ c[1]? = some (.int .i32 3)
  | 2 => RG c ∧ c[1]? = some (.int .i32 3) ∧ c[2]? = some (.int .i32 4)
  | 3 => RG c ∧ ∃ p q,c[8]? = some (.complex .f64 p q) ∧ Rep p 3 ∧ Rep q 4
  | 4 => RG c ∧ ∃ p q,c[8]? = some (.complex .f64 p q) ∧ Rep p (-7)
  | _ => c[3]? = some (.int .i32 (-7))
theorem RG.at32 {c : List Value} (h : RG c) (j : Nat) (hj : j < 8) (v : Int) : (c.set j (.int .i32 v))[j]? = some (.int .i32 v) := by
  obtain ⟨x,hx⟩ := h.1 j hj
  exact get_set hx
theorem RG.atC {c : List Value} (h : RG c) (j : Nat) (hj : j < 4) (p q : Nat) : (c.set (8 + j) (.complex .f64 p q))[8 + j]? = some (.complex .f64 p q) := by
  obtain ⟨x,y,hx⟩ := h.2 j hj
  exact get_set hx
theorem ka_at (w : World) : ∀ k,k < 3 → InsAt w.heap.size (k * 5) (kaI k) (w.alloc (.cells #[.int .i64 36,.int .i64 1,.int .i64 0,.int .i32 7,.int .i64 0,.int .i64 36,.int .i64 2,.int .i64 0,.int .i32 (-2),.int .i64 0,.int .i64 17,.int .i64 1,.int .i64 2,.int .i32 0,.int .i64 0] 25)) := by
  intro k hk
  have hB : Blk (w.alloc (.cells #[.int .i64 36,.int .i64 1,.int .i64 0,.int .i32 7,.int .i64 0,.int .i64 36,.int .i64 2,.int .i64 0,.int .i32 (-2),.int .i64 0,.int .i64 17,.int .i64 1,.int .i64 2,.int .i32 0,.int .i64 0] 25)) w.heap.size 25 [.int .i64 36,.int .i64 1,.int .i64 0,.int .i32 7,.int .i64 0,.int .i64 36,.int .i64 2,.int .i64 0,.int .i32 (-2),.int .i64 0,.int .i64 17,.int .i64 1,.int .i64 2,.int .i32 0,.int .i64 0] := Blk.new w _ _
  rcases (show k = 0 ∨ k = 1 ∨ k = 2 by omega) with rfl | rfl | rfl
  · exact ⟨hB.cell 0,hB.cell 1,hB.cell 2,hB.cell 3,hB.cell 4⟩
  · exact ⟨hB.cell 5,hB.cell 6,hB.cell 7,hB.cell 8,hB.cell 9⟩
  · exact ⟨hB.cell 10,hB.cell 11,hB.cell 12,hB.cell 13,hB.cell 14⟩
theorem kb_at (w : World) : ∀ k,k < 5 → InsAt w.heap.size (k * 5) (kbI k) (w.alloc (.cells #[.int .i64 36,.int .i64 1,.int .i64 0,.int .i32 3,.int .i64 0,.int .i64 36,.int .i64 2,.int .i64 0,.int .i32 4,.int .i64 0,.int .i64 35,.int .i64 0,.int .i64 1,.int .i32 2,.int .i64 0,.int .i64 32,.int .i64 0,.int .i64 0,.int .i32 0,.int .i64 0,.int .i64 33,.int .i64 3,.int .i64 0,.int .i32 0,.int .i64 0] 25)) := by
  intro k hk
  have hB : Blk (w.alloc (.cells #[.int .i64 36,.int .i64 1,.int .i64 0,.int .i32 3,.int .i64 0,.int .i64 36,.int .i64 2,.int .i64 0,.int .i32 4,.int .i64 0,.int .i64 35,.int .i64 0,.int .i64 1,.int .i32 2,.int .i64 0,.int .i64 32,.int .i64 0,.int .i64 0,.int .i32 0,.int .i64 0,.int .i64 33,.int .i64 3,.int .i64 0,.int .i32 0,.int .i64 0] 25)) w.heap.size 25 [.int .i64 36,.int .i64 1,.int .i64 0,.int .i32 3,.int .i64 0,.int .i64 36,.int .i64 2,.int .i64 0,.int .i32 4,.int .i64 0,.int .i64 35,.int .i64 0,.int .i64 1,.int .i32 2,.int .i64 0,.int .i64 32,.int .i64 0,.int .i64 0,.int .i32 0,.int .i64 0,.int .i64 33,.int .i64 3,.int .i64 0,.int .i32 0,.int .i64 0] := Blk.new w _ _
  rcases (show k = 0 ∨ k = 1 ∨ k = 2 ∨ k = 3 ∨ k = 4 by omega) with rfl | rfl | rfl | rfl | rfl
  · exact ⟨hB.cell 0,hB.cell 1,hB.cell 2,hB.cell 3,hB.cell 4⟩
  · exact ⟨hB.cell 5,hB.cell 6,hB.cell 7,hB.cell 8,hB.cell 9⟩
  · exact ⟨hB.cell 10,hB.cell 11,hB.cell 12,hB.cell 13,hB.cell 14⟩
  · exact ⟨hB.cell 15,hB.cell 16,hB.cell 17,hB.cell 18,hB.cell 19⟩
  · exact ⟨hB.cell 20,hB.cell 21,hB.cell 22,hB.cell 23,hB.cell 24⟩
theorem ka_does (w : World) (hT : TabIs 0 w) : Calls Tryd.prog 40 #[.int .i64 1,.int .i32 (-3),.slice (some ⟨w.heap.size,0,none⟩) 3 3] (w.alloc (.cells #[.int .i64 36,.int .i64 1,.int .i64 0,.int .i32 7,.int .i64 0,.int .i64 36,.int .i64 2,.int .i64 0,.int .i32 (-2),.int .i64 0,.int .i64 17,.int .i64 1,.int .i64 2,.int .i32 0,.int .i64 0] 25)) fun e w' => e = .returned (.bool true) ∧ Below (w.heap.size + 1) (w.alloc (.cells #[.int .i64 36,.int .i64 1,.int .i64 0,.int .i32 7,.int .i64 0,.int .i64 36,.int .i64 2,.int .i64 0,.int .i32 (-2),.int .i64 0,.int .i64 17,.int .i64 1,.int .i64 2,.int .i32 0,.int .i64 0] 25)) w' := by
  have h := does_any 1 (-3) w.heap.size 3 3 kaI kaS (w.alloc (.cells #[.int .i64 36,.int .i64 1,.int .i64 0,.int .i32 7,.int .i64 0,.int .i64 36,.int .i64 2,.int .i64 0,.int .i32 (-2),.int .i64 0,.int .i64 17,.int .i64 1,.int .i64 2,.int .i32 0,.int .i64 0] 25)) (hT.alloc _) (by simp) (ka_at w) (by omega) (Nat.le_refl _) (by omega) (fun _ h => h) (fun k hk => ?_) (fun _ h => h)
  · rw [World.size_alloc] at h; exact h
  rcases (show k = 0 ∨ k = 1 ∨ k = 2 by omega) with rfl | rfl | rfl
  · intro w g c hT htg hB hr b
    exact (o_lis1_7 11 16 _ w g c hT htg hB hr).mono fun e w' h => ⟨h.1,_,h.2,hr.set32 1 (by omega) 7,hr.at32 1 (by omega) 7⟩
  · intro w g c hT htg hB hr b
    exact (o_lis2_m2 11 16 _ w g c hT htg hB hr.1).mono fun e w' h => ⟨h.1,_,h.2,hr.1.set32 2 (by omega) (-2),get_ne hr.2 (by omega),hr.1.at32 2 (by omega) (-2)⟩
  · intro w g c hT htg hB hr b
    exact (o_div 11 16 _ 7 (-2) w g c hT htg hB hr.2.1 hr.2.2 (by omega) (by omega) (by omega) (by omega) (by decide) (by decide)).mono fun e w' h => ⟨h.1,_,h.2,by
      have h3 := hr.1.at32 1 (by omega) (wrap32 ((7 : Int).tdiv (-2)))
      have h4 : wrap32 ((7 : Int).tdiv (-2)) = -3 := by kernel_rfl
      show (c.set 1 (.int .i32 (wrap32 ((7 : Int).tdiv (-2)))))[1]? = some (.int .i32 (-3))
      rw [h3,h4]⟩
theorem kb_does (w : World) (hT : TabIs 0 w) : Calls Tryd.prog 40 #[.int .i64 3,.int .i32 (-7),.slice (some ⟨w.heap.size,0,none⟩) 5 5] (w.alloc (.cells #[.int .i64 36,.int .i64 1,.int .i64 0,.int .i32 3,.int .i64 0,.int .i64 36,.int .i64 2,.int .i64 0,.int .i32 4,.int .i64 0,.int .i64 35,.int .i64 0,.int .i64 1,.int .i32 2,.int .i64 0,.int .i64 32,.int .i64 0,.int .i64 0,.int .i32 0,.int .i64 0,.int .i64 33,.int .i64 3,.int .i64 0,.int .i32 0,.int .i64 0] 25)) fun e w' => e = .returned (.bool true) ∧ Below (w.heap.size + 1) (w.alloc (.cells #[.int .i64 36,.int .i64 1,.int .i64 0,.int .i32 3,.int .i64 0,.int .i64 36,.int .i64 2,.int .i64 0,.int .i32 4,.int .i64 0,.int .i64 35,.int .i64 0,.int .i64 1,.int .i32 2,.int .i64 0,.int .i64 32,.int .i64 0,.int .i64 0,.int .i32 0,.int .i64 0,.int .i64 33,.int .i64 3,.int .i64 0,.int .i32 0,.int .i64 0] 25)) w' := by
  have h := does_any 3 (-7) w.heap.size 5 5 kbI kbS (w.alloc (.cells #[.int .i64 36,.int .i64 1,.int .i64 0,.int .i32 3,.int .i64 0,.int .i64 36,.int .i64 2,.int .i64 0,.int .i32 4,.int .i64 0,.int .i64 35,.int .i64 0,.int .i64 1,.int .i32 2,.int .i64 0,.int .i64 32,.int .i64 0,.int .i64 0,.int .i32 0,.int .i64 0,.int .i64 33,.int .i64 3,.int .i64 0,.int .i32 0,.int .i64 0] 25)) (hT.alloc _) (by simp) (kb_at w) (by omega) (Nat.le_refl _) (by omega) (fun _ h => h) (fun k hk => ?_) (fun _ h => h)
  · rw [World.size_alloc] at h; exact h
  rcases (show k = 0 ∨ k = 1 ∨ k = 2 ∨ k = 3 ∨ k = 4 by omega) with rfl | rfl | rfl | rfl | rfl
  · intro w g c hT htg hB hr b
    exact (o_lis1_3 11 16 _ w g c hT htg hB hr).mono fun e w' h => ⟨h.1,_,h.2,hr.set32 1 (by omega) 3,hr.at32 1 (by omega) 3⟩
  · intro w g c hT htg hB hr b
    exact (o_lis2_4 11 16 _ w g c hT htg hB hr.1).mono fun e w' h => ⟨h.1,_,h.2,hr.1.set32 2 (by omega) 4,get_ne hr.2 (by omega),hr.1.at32 2 (by omega) 4⟩
  · intro w g c hT htg hB hr b
    exact (o_zset 11 16 _ 3 4 w g c hT htg hB hr.2.1 hr.2.2 hr.1).mono fun e w' h => ⟨h.1,_,h.2,hr.1.setC 0 (by omega) _ _,_,_,hr.1.atC 0 (by omega) _ _,rep_ofInt 3 (by decide),rep_ofInt 4 (by decide)⟩
  · intro w g c hT htg hB hr b
    obtain ⟨hr0,p,q,hz,hp,hq⟩ := hr
    exact (zmul_rep 11 16 _ p q 3 4 w g c hT htg hB hz hp hq (by decide) (by decide) (by decide) (by decide) (by decide)).mono fun e w' h => by
      obtain ⟨he,re,im,h1,h2,h3⟩ := h
      exact ⟨he,_,h3,hr0.setC 0 (by omega) _ _,re,im,hr0.atC 0 (by omega) _ _,h1⟩
  · intro w g c hT htg hB hr b
    obtain ⟨hr0,p,q,hz,hp⟩ := hr
    exact (zre_rep 11 16 _ p q (-7) w g c hT htg hB hz hr0 hp (by omega) (by omega)).mono fun e w' h => ⟨h.1,_,h.2,hr0.at32 3 (by omega) (-7)⟩
set_option maxHeartbeats 2000000 in
theorem known18_any (w : World) (hT : TabIs 0 w) : Calls Tryd.prog 30 #[] w fun e w' => e = .returned (.bool true) ∧ Below w.heap.size w w' := by
  go_enter Tryd.func30,Tryd.ntmps30
  go_wp2_with (first
    | (go_at_call 27; (with_reducible refine Calls.mono (op_lis1_7 w) ?_); rintro e w1 ⟨rfl,hb1⟩)
    | (go_at_call 27; (with_reducible refine Calls.mono (op_lis2_m2 w1) ?_); rintro e w2 ⟨rfl,hb2⟩)
    | (go_at_call 27; (with_reducible refine Calls.mono (op_div w2) ?_); rintro e w3 ⟨rfl,hb3⟩; have hB3 := (hb1.trans (hb2.mono hb1.size)).trans (hb3.mono (hb1.trans (hb2.mono hb1.size)).size); have hT3 := hT.grow hB3)
    | (go_at_call 40; (with_reducible refine Calls.mono (ka_does w3 hT3) ?_); rintro e w4 ⟨rfl,hb4⟩; have hB4 : Below w.heap.size w w4 := (hB3.alloc hB3.size _).trans (hb4.mono (by have := hB3.size; omega)))
    | (go_at_call 27; (with_reducible refine Calls.mono (op_lis1_3 w4) ?_); rintro e w5 ⟨rfl,hb5⟩; have hB5 := hB4.trans (hb5.mono hB4.size))
    | (go_at_call 27; (with_reducible refine Calls.mono (op_lis2_4 w5) ?_); rintro e w6 ⟨rfl,hb6⟩; have hB6 := hB5.trans (hb6.mono hB5.size))
    | (go_at_call 27; (with_reducible refine Calls.mono (op_zset w6) ?_); rintro e w7 ⟨rfl,hb7⟩; have hB7 := hB6.trans (hb7.mono hB6.size))
    | (go_at_call 27; (with_reducible refine Calls.mono (op_zmul w7) ?_); rintro e w8 ⟨rfl,hb8⟩; have hB8 := hB7.trans (hb8.mono hB7.size))
    | (go_at_call 27; (with_reducible refine Calls.mono (op_zre w8) ?_); rintro e w9 ⟨rfl,hb9⟩; have hB9 := hB8.trans (hb9.mono hB8.size); have hT9 := hT.grow hB9)
    | (go_at_call 40; (with_reducible refine Calls.mono (kb_does w9 hT9) ?_); rintro e w10 ⟨rfl,hb10⟩; have hB10 : Below w.heap.size w w10 := (hB9.alloc hB9.size _).trans (hb10.mono (by have := hB9.size; omega)))
    | fail)
  go_ret
  exact ⟨rfl,hB10⟩
end Go.Proofs.YthcjnkakfpmpbaaDoor
