/- The walks of Roomy, Same and Intact at instructions. Conditions: none. -/
import Derived.Test.YtfplkmldleigpaaDoorE3k
import Derived.Laws.CopyOwn
import Derived.Deep.MidRow
import Derived.Deep.QuietTactic
import Derived.BigQuiet
namespace Go.Proofs.YtfplkmldleigpaaDoor
open Go.RowKit
set_option linter.unusedVariables false
set_option linter.unusedSimpArgs false

theorem inst_info : (Tryd.prog.info? 35).map (fun i => (i.zero, i.size, i.bytes)) = some (some (.agg #[.int .i64 0, .int .i64 0, .int .i64 0, .int .i32 0, .int .i64 0]), 5, 40) := by kernel_rfl
theorem insCells_length (l : List Ins) : (insCells l).length = l.length * 5 := by
  induction l with
  | nil => rfl
  | cons x r ih => simp only [insCells, List.flatMap_cons, List.length_append, List.length_cons] at *; rw [ih]; simp [Ins.cells]; omega
theorem insCells_append (l r : List Ins) : insCells (l ++ r) = insCells l ++ insCells r := by simp [insCells]
theorem insCells_one (l : List Ins) : ∀ u ∈ insCells l, u.oneCell' = true := by
  intro u hu
  obtain ⟨x, _, hx⟩ := List.mem_flatMap.1 hu
  simp only [Ins.cells, List.mem_cons, List.not_mem_nil, or_false] at hx
  rcases hx with rfl | rfl | rfl | rfl | rfl <;> rfl
theorem insCells_take (l : List Ins) (k : Nat) : (insCells l).take (k * 5) = insCells (l.take k) := by
  induction l generalizing k with
  | nil => simp [insCells]
  | cons x r ih =>
    cases k with
    | zero => simp [insCells]
    | succ k =>
      have e : insCells (x :: r) = x.cells ++ insCells r := by simp [insCells]
      have e2 : insCells (x :: r.take k) = x.cells ++ insCells (r.take k) := by simp [insCells]
      rw [List.take_succ_cons, e, e2, show (k + 1) * 5 = x.cells.length + k * 5 by simp [Ins.cells]; omega, List.take_length_add_append, ih]
theorem set5 (M : Ins) : ∀ (xs : List Ins) (j : Nat), j < xs.length →
    (((((insCells xs).set (j * 5) (.int .i64 M.op)).set (j * 5 + 1) (.int .i64 M.a)).set (j * 5 + 2) (.int .i64 M.b)).set (j * 5 + 3) (.int .i32 M.n)).set (j * 5 + 4) (.int .i64 M.f) = insCells (xs.set j M)
  | [], _, h => absurd h (by simp)
  | x :: r, 0, _ => by simp [insCells, Ins.cells]
  | x :: r, j + 1, h => by
    have e : ∀ (y : Ins) (s : List Ins), insCells (y :: s) = .int .i64 y.op :: .int .i64 y.a :: .int .i64 y.b :: .int .i32 y.n :: .int .i64 y.f :: insCells s := fun y s => by simp [insCells, Ins.cells]
    rw [List.set_cons_succ, e, e, ← set5 M r j (by simpa using h), show (j + 1) * 5 = j * 5 + 4 + 1 by omega]
    simp only [List.set_cons_succ, show ∀ t, j * 5 + 4 + 1 + t = (j * 5 + t) + 1 + 1 + 1 + 1 + 1 from fun t => by omega, show j * 5 + 4 + 1 = j * 5 + 1 + 1 + 1 + 1 + 1 from by omega]
def zeroIns : Ins := ⟨0, 0, 0, 0, 0⟩
theorem made5 (m : Nat) : (madeCells #[.int .i64 0, .int .i64 0, .int .i64 0, .int .i32 0, .int .i64 0] (m * 5)).toList = insCells (List.replicate m zeroIns) := by
  apply List.ext_getElem?
  intro i
  by_cases hi : i < m * 5
  · have hk : (List.replicate m zeroIns)[i / 5]? = some zeroIns := by rw [List.getElem?_replicate, if_pos (by omega)]
    have h := flat5 Ins.cells (fun _ => rfl) (List.replicate m zeroIns) (i / 5) zeroIns hk (i % 5) (by omega)
    rw [show i / 5 * 5 + i % 5 = i by omega] at h
    unfold insCells
    rw [h]
    have h5 : i % 5 = 0 ∨ i % 5 = 1 ∨ i % 5 = 2 ∨ i % 5 = 3 ∨ i % 5 = 4 := by omega
    rw [Array.getElem?_toList, madeCells, Array.getElem?_map, Array.getElem?_range, if_pos hi]
    rcases h5 with h5 | h5 | h5 | h5 | h5 <;> simp [h5, Ins.cells, zeroIns]
  · rw [List.getElem?_eq_none (by simp [size_madeCells]; omega), List.getElem?_eq_none (by rw [insCells_length]; simp; omega)]

/-- copy, of elements of more than one cell, to the front of a block -/
theorem run_copy_wide {P : Program} (w : World) (dT sT ty elem : TypeId) (g N c1 k : Nat) (A : Option Addr) (n c : Nat) (cur : List Value) (t : TypeId) (cs : List Value)
    (hu : P.underlying dT = some (.slice elem)) (hs : (P.info? elem).map (·.size) = some k) (hg : w.heap[g]? = some (.cells cur.toArray t (0, 0))) (hn : n ≤ N) (hc : cs.length = n * k)
    (hsrc : 0 < n → ∃ ad, A = some ad ∧ ∀ j v, cs[j]? = some v → w.cell? (ad.add j) = some v) (hA : A = none → n = 0) (hfit : cs.length ≤ cur.length) (h1 : ∀ v ∈ cs, v.oneCell' = true) :
    (Builtin.copy_ #[dT, sT] ty #[.slice (some ⟨g, 0, none⟩) N c1, .slice A n c]).run P w = .ok (goInt n) (w.setRow g (cs ++ cur.drop cs.length).toArray) := by
  have hm : Nat.min n N = n := Nat.min_eq_left hn
  have hst := run_storeCells_at P g 0 t cs 0 cur.toArray w hg (by simpa using hfit) h1
  simp only [Nat.add_zero, List.take_zero, List.nil_append, Nat.zero_add] at hst
  cases hq : P.info? elem with
  | none => simp [hq] at hs
  | some i =>
    have hi : i.size = k := by simpa [hq] using hs
    cases A with
    | none =>
      obtain rfl := hA rfl
      obtain rfl : cs = [] := List.eq_nil_of_length_eq_zero (by omega)
      simp only [List.length_nil, List.drop_zero, List.nil_append] at hst ⊢
      simp [Builtin.copy_, run_underlying hu, Builtin.lenOf, Builtin.firstCells, sizeOf, typeInfo, hq, hi, hm, hst]
    | some ad =>
      have hsrc' : ∀ j v, cs[j]? = some v → w.cell? (ad.add j) = some v := by
        intro j v hj
        have hp : 0 < n := by
          rcases Nat.eq_zero_or_pos n with h0 | h0
          · subst h0
            rw [List.eq_nil_of_length_eq_zero (show cs.length = 0 by omega)] at hj
            simp at hj
          · exact h0
        obtain ⟨ad', he, hh⟩ := hsrc hp
        injection he with he
        subst he
        exact hh j v hj
      have hl := run_loadCells_list (P := P) w ad cs hsrc'
      rw [hc] at hl
      simp [Builtin.copy_, run_underlying hu, Builtin.lenOf, Builtin.firstCells, sizeOf, typeInfo, hq, hi, hm, hl, hst]
theorem wpList_copy_wide {P : Program} {w : World} {ops : Array Oper} {rest : List Oper} {o : Oper} {a : Act} {Q : Exit → Act → World → Prop} (hgd : o.guard = none) (d s : Operand) (dT sT : TypeId)
    (ho : o.op = .call { callee := .builtin .copy, args := #[d, s], argTypes := #[dT, sT] }) (elem : TypeId) (g N c1 k : Nat) (A : Option Addr) (n c : Nat) (cur : List Value) (t : TypeId) (cs : List Value)
    (hu : P.underlying dT = some (.slice elem)) (hsz : (P.info? elem).map (·.size) = some k) (hd : a.eval d = .slice (some ⟨g, 0, none⟩) N c1) (hs : a.eval s = .slice A n c)
    (hg : w.heap[g]? = some (.cells cur.toArray t (0, 0))) (hn : n ≤ N) (hc : cs.length = n * k)
    (hsrc : 0 < n → ∃ ad, A = some ad ∧ ∀ j v, cs[j]? = some v → w.cell? (ad.add j) = some v) (hA : A = none → n = 0) (hfit : cs.length ≤ cur.length) (h1 : ∀ v ∈ cs, v.oneCell' = true) (B : Nat) (w0 : World) (hb : Below B w0 w) (hBg : B ≤ g)
    (h : ∀ w', Hid (Blk w' g t (cs ++ cur.drop cs.length)) → Below B w0 w' → wpList P ops Q rest (a.put o.dst (goInt n)) w') : wpList P ops Q (o :: rest) a w := by
  refine wpList_plain hgd fun K hK => ?_
  have hrun := run_copy_wide (P := P) w dT sT o.type elem g N c1 k A n c cur t cs hu hsz hg hn hc hsrc hA hfit h1
  unfold Oper.wp
  simp only [execOp, ho, resolve, invoke, builtin, Sem.run_bind, Sem.run_pure, Result.andThen_ok, List.map_toArray, List.map_cons, List.map_nil, hd, hs, hrun]
  exact hK _ _ (h _ (Lib.hid (setRow_heap w g _ _ t _ hg)) (below_setRow hb hBg _))

theorem wpList_run {P : Program} {w w' : World} {ops : Array Oper} {rest : List Oper} {o : Oper} {a : Act} {Q : Exit → Act → World → Prop} {v : Value} (hgd : o.guard = none)
    (hx : (execOp a.eval o).run P w = .ok (.value v) w') (h : wpList P ops Q rest (a.put o.dst v) w') : wpList P ops Q (o :: rest) a w := by
  refine wpList_plain hgd fun K hK => ?_
  simp only [Oper.wp, hx, Oper.upon]
  exact hK _ _ h

/-- Roomy's answer: a new block -/
def GivesRoomI (w : World) (n : Nat) (cs : List Value) (e : Ending) (w' : World) : Prop :=
  e = .returned (.slice (some ⟨w.heap.size + 1, 0, none⟩) (n + 80) (n + 80)) ∧ Blk w' (w.heap.size + 1) 35 cs ∧ Below w.heap.size w w'

set_option maxHeartbeats 1000000 in
theorem roomy_inst (A : Option Addr) (n c : Nat) (l : List Ins) (m : Ins) (w : World) (hs : Sl w w.heap.size 5 A n (insCells l)) (hA : A = none → n = 0) (hn : n ≤ 1000000) :
    Calls Tryd.prog 42 #[.slice A n c, m.val] w (GivesRoomI w n (insCells (l ++ List.replicate 80 m))) := by
  obtain ⟨i0, hi0, hz0, hz1, hz2⟩ := info_of inst_info
  have hsz : (Tryd.prog.info? 35).map (·.size) = some 5 := by rw [hi0]; simp [hz1]
  have hl : l.length = n := by have := hs.len; rw [insCells_length] at this; omega
  have hfin : l ++ List.replicate 80 m = fillV l zeroIns m (n + 80) := by rw [← hl, fillV_last]
  rw [hfin]
  have HL := Lib.hid hl
  have Hs := Lib.hid hs
  have HA := Lib.hid hA
  clear hfin hl hs hA
  obtain ⟨mo, ma, mb, mn, mf⟩ := m
  go_enter Tryd.func42, Tryd.ntmps42
  go_wp2_with (first
    | (at_make
       refine wpList_make_full _ rfl _ _ 64 rfl (w.heap.size + 1) 35 i0 (.agg #[.int .i64 0, .int .i64 0, .int .i64 0, .int .i32 0, .int .i64 0]) 5 Tryd.underlying64 hi0 hz0 hz1 _ _ _ _ (n + 80) rfl rfl (by omega) (by omega) (by rw [hz2]; omega) (by unfold maxLen; omega) (by simp) ?_
       intro w1 hown1 hg1
       have hblk1 : Blk w1 (w.heap.size + 1) 35 (insCells (List.replicate (n + 80) zeroIns)) := (by rw [← made5]; have := own_blk hown1; simpa [Value.cells] using this)
       have hb1 : Below (w.heap.size + 1) (w.alloc (.cells #[.int .i64 mo, .int .i64 ma, .int .i64 mb, .int .i32 mn, .int .i64 mf] 35)) w1 := (Below.refl _ _).grown hg1 (by simp) (by simp)
       have hs1 : Hid (Sl w1 w.heap.size 5 A n (insCells l)) := Lib.hid ((Hs.out.alloc (Nat.le_refl _) _).below (hb1.mono (by omega)))
       clear hown1 hg1)
    | ((with_reducible show wpList _ _ _ _ _ _)
       refine wpList_copy_wide (o := ⟨some 13, _, _, _, _, _⟩) rfl (.tmp 11) (.tmp 12) 64 64 rfl 35 (w.heap.size + 1) (n + 80) (n + 80) 5 A n c (insCells (List.replicate (n + 80) zeroIns)) 35 (insCells l) Tryd.underlying64 hsz rfl rfl hblk1 (by omega) (by rw [insCells_length, HL.out]) (fun hp => (by obtain ⟨b, o, hA, _, hc⟩ := hs1.out.at_ hp; exact ⟨_, hA, fun j v hj => by rw [add_flat]; exact hc j v hj⟩)) HA.out (by rw [insCells_length, insCells_length, HL.out]; simp; omega) (insCells_one _) (w.heap.size + 1) _ hb1 (Nat.le_refl _) ?_
       intro w2 hblk2 hb2))
  have hblk3 : Blk w2 (w.heap.size + 1) 35 (insCells (fillV l zeroIns ⟨mo, ma, mb, mn, mf⟩ n)) := by
    have h := hblk2.out
    rw [show fillV l zeroIns ⟨mo, ma, mb, mn, mf⟩ n = l ++ List.replicate 80 zeroIns from by rw [← HL.out]; exact fillV_first _ _ _, insCells_append]
    have e : (insCells (List.replicate (n + 80) zeroIns)).drop (insCells l).length = insCells (List.replicate 80 zeroIns) := by
      rw [show List.replicate (n + 80) zeroIns = List.replicate n zeroIns ++ List.replicate 80 zeroIns from List.replicate_append_replicate.symm, insCells_append, List.drop_left' (by rw [insCells_length, insCells_length, HL.out]; simp)]
    rw [e] at h
    exact h
  clear hblk2
  go_loopw [6] (fun i wr => ∃ j : Nat, i = .int .i64 j ∧ n ≤ j ∧ j ≤ n + 80 ∧ Blk wr (w.heap.size + 1) 35 (insCells (fillV l zeroIns ⟨mo, ma, mb, mn, mf⟩ j)) ∧ Below (w.heap.size + 1) (w.alloc (.cells #[.int .i64 mo, .int .i64 ma, .int .i64 mb, .int .i32 mn, .int .i64 mf] 35)) wr) (fun i _ => n + 80 - (intOf i).toNat)
  case atStart => exact ⟨n, rfl, Nat.le_refl _, by omega, hblk3, hb2⟩
  case round =>
    obtain ⟨j, rfl, hj0, hj1, hblk, hb⟩ := hrel
    by_cases hlt : j < n + 80
    · have hlen : (fillV l zeroIns ⟨mo, ma, mb, mn, mf⟩ j).length = n + 80 := by rw [fillV_length _ _ _ _ (by rw [HL.out]; exact hj0) (by rw [HL.out]; omega), HL.out]
      have L0 : (insCells (fillV l zeroIns ⟨mo, ma, mb, mn, mf⟩ j)).length = (n + 80) * 5 := by rw [insCells_length, hlen]
      have hthere : wr.there (w.heap.size + 1) (j * 5) 5 := fun t ht => ⟨by rw [hblk.cell, List.getElem?_eq_getElem (by omega)]; rfl, hblk.free _⟩
      have B1 := hblk.set_ (j * 5) (.int .i64 mo)
      have B2 := B1.set_ (j * 5 + 1) (.int .i64 ma)
      have B3 := B2.set_ (j * 5 + 2) (.int .i64 mb)
      have B4 := B3.set_ (j * 5 + 3) (.int .i32 mn)
      have B5 := B4.set_ (j * 5 + 4) (.int .i64 mf)
      have e5 := set5 ⟨mo, ma, mb, mn, mf⟩ (fillV l zeroIns ⟨mo, ma, mb, mn, mf⟩ j) j (by rw [hlen]; exact hlt)
      simp only at e5
      rw [e5, fillV_step _ _ _ _ (by rw [HL.out]; exact hj0) (by rw [HL.out]; exact hlt)] at B5
      have HB5 := (((((hb.setCell (Nat.le_refl _) (.int .i64 mo) (p := ⟨w.heap.size + 1, j * 5, none⟩)).setCell (Nat.le_refl _) (.int .i64 ma) (p := ⟨w.heap.size + 1, j * 5 + 1, none⟩)).setCell (Nat.le_refl _) (.int .i64 mb) (p := ⟨w.heap.size + 1, j * 5 + 2, none⟩)).setCell (Nat.le_refl _) (.int .i32 mn) (p := ⟨w.heap.size + 1, j * 5 + 3, none⟩)).setCell (Nat.le_refl _) (.int .i64 mf) (p := ⟨w.heap.size + 1, j * 5 + 4, none⟩))
      clear e5
      have hm := (Blk.new w 35 [.int .i64 mo, .int .i64 ma, .int .i64 mb, .int .i32 mn, .int .i64 mf]).below hb (by omega)
      have hm0 := hm.cell 0
      have hm1 := hm.cell 1
      have hm2 := hm.cell 2
      have hm3 := hm.cell 3
      have hm4 := hm.cell 4
      simp only [List.getElem?_cons_zero, List.getElem?_cons_succ] at hm0 hm1 hm2 hm3 hm4
      have hI : (j : Int) < (n : Int) + 80 := by omega
      have HBB := Lib.hid B5
      have HHB := Lib.hid HB5
      clear B1 B2 B3 B4 B5 HB5 hblk hb L0 hm hlen HL Hs HA hi0 hz0 hz1 hz2 hblk3 hb2
      go_wp2_with ((with_reducible show wpList _ _ _ _ _ _); refine wpList_store_mid (op := ⟨none, .store 35 (.tmp 25) (.tmp 24), _, _, _, _⟩) rfl 35 (.tmp 25) (.tmp 24) rfl (w.heap.size + 1) (j * 5) #[.int .i64 mo, .int .i64 ma, .int .i64 mb, .int .i32 mn, .int .i64 mf] rfl rfl hthere hsz (by simp [Value.oneCell']) ?_)
      go_roundw
      case rel => exact ⟨j + 1, by go_num, by omega, by omega, HBB.out, HHB.out⟩
      case measure => simp [intOf]; omega
    · obtain rfl : j = n + 80 := by omega
      go_wp2
      go_ret
      exact ⟨rfl, hblk, ((Below.refl _ _).alloc (Nat.le_refl _) _).trans (hb.mono (by omega))⟩

theorem same_inst (A B : Option Addr) (n c d : Nat) (xs : List Ins) (w : World) (hx : Sl w w.heap.size 5 A n (insCells xs)) (hy : Sl w w.heap.size 5 B n (insCells xs)) (hn : n ≤ 1000000) :
    Calls Tryd.prog 53 #[.slice A n c, .slice B n d] w fun e w' => e = .returned (.bool true) ∧ ∃ k, w' = w.drewN k := by
  have lx : xs.length = n := by have := hx.len; rw [insCells_length] at this; omega
  have Lx := Lib.hid lx
  clear lx
  go_enter Tryd.func53, Tryd.ntmps53
  go_wp2
  go_loopw [5] (fun i wr => ∃ k : Nat, i = .int .i64 k ∧ k ≤ n ∧ ∃ j, wr = w.drewN j) (fun i _ => n - (intOf i).toNat)
  case atStart => exact ⟨0, rfl, Nat.zero_le _, 0, rfl⟩
  case round =>
    obtain ⟨k, rfl, hk, j, rfl⟩ := hrel
    by_cases hlt : k < n
    · obtain ⟨b, o, rfl, hb, hhx⟩ := hx.at_ (by omega)
      obtain ⟨b', o', rfl, hb', hhy⟩ := hy.at_ (by omega)
      have hg : xs[k]? = some (xs[k]'(by rw [Lx.out]; exact hlt)) := List.getElem?_eq_getElem _
      obtain ⟨x0, x1, x2, x3, x4⟩ := ins_at hhx hg
      obtain ⟨y0, y1, y2, y3, y4⟩ := ins_at hhy hg
      generalize (xs[k]'(by rw [Lx.out]; exact hlt)).op = v0 at x0 y0
      generalize (xs[k]'(by rw [Lx.out]; exact hlt)).a = v1 at x1 y1
      generalize (xs[k]'(by rw [Lx.out]; exact hlt)).b = v2 at x2 y2
      generalize (xs[k]'(by rw [Lx.out]; exact hlt)).n = v3 at x3 y3
      generalize (xs[k]'(by rw [Lx.out]; exact hlt)).f = v4 at x4 y4
      clear hg hhx hhy hx hy
      have hI : (k : Int) < (n : Int) := by omega
      go_wp2
      go_quiet (fail)
      go_wp2
      go_roundw
      case rel => exact ⟨k + 1, by go_num, by omega, j + nq, rfl⟩
      case measure => simp [intOf]; omega
    · go_wp2
      go_ret
      exact ⟨rfl, _, rfl⟩
end Go.Proofs.YtfplkmldleigpaaDoor
