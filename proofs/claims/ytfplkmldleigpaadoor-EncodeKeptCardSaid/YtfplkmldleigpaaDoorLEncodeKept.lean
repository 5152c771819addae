/- Law EncodeKept: what Encode and All answer is new memory each time, its spare room too. Conditions: none. -/
import Derived.Test.YtfplkmldleigpaaDoorE5k
import Derived.Test.YtfplkmldleigpaaDoorK8u8
namespace Go.Proofs.YtfplkmldleigpaaDoor.encodeKept
open Go.RowKit Go.Proofs.YtfplkmldleigpaaDoor.booku8
set_option linter.unusedVariables false
set_option linter.unusedSimpArgs false

/-- an instruction lies there -/
def InsAt (b o : Nat) (op a b' n f : Int) (w : World) : Prop :=
  w.cell? ⟨b, o, none⟩ = some (.int .i64 op) ∧ w.cell? ⟨b, o + 1, none⟩ = some (.int .i64 a) ∧ w.cell? ⟨b, o + 2, none⟩ = some (.int .i64 b') ∧ w.cell? ⟨b, o + 3, none⟩ = some (.int .i32 n) ∧ w.cell? ⟨b, o + 4, none⟩ = some (.int .i64 f)
theorem InsAt.keep {b o : Nat} {op a b' n f : Int} {w w' : World} (h : InsAt b o op a b' n f w) (hk : ∀ i, w'.cell? ⟨b, i, none⟩ = w.cell? ⟨b, i, none⟩) : InsAt b o op a b' n f w' :=
  ⟨(hk _).trans h.1, (hk _).trans h.2.1, (hk _).trans h.2.2.1, (hk _).trans h.2.2.2.1, (hk _).trans h.2.2.2.2⟩
theorem InsAt.alloc {b o : Nat} {op a b' n f : Int} {w : World} (h : InsAt b o op a b' n f w) (hb : b < w.heap.size) (x : Obj) : InsAt b o op a b' n f (w.alloc x) := h.keep fun i => World.cell?_alloc_lt w x ⟨b, i, none⟩ hb
theorem InsAt.below {b o : Nat} {op a b' n f : Int} {w w' : World} (h : InsAt b o op a b' n f w) (hb : Below w.heap.size w w') (hlt : b < w.heap.size) : InsAt b o op a b' n f w' := h.keep fun i => (bcell hb).1 b i hlt
/-- the world in which All is called: two instructions lie in a new block -/
def twice (W : World) (op a b n f : Int) : World := (W.alloc (.cells #[.int .i64 op, .int .i64 a, .int .i64 b, .int .i32 n, .int .i64 f, .int .i64 op, .int .i64 a, .int .i64 b, .int .i32 n, .int .i64 f] 35)).drew
/-- what All answers of two instructions -/
def AllB (W W0 : World) (V : Value) (w' : World) : Prop :=
  Below W0.heap.size W0 w' ∧ ∃ (A : Option Addr) (n c : Nat) (x y : Int) (L : List UInt8), V = .tuple #[.slice A n c, .int .i64 x, .int .i64 y] ∧ Kept w' W.heap.size 5 1 A n c (bs L) ∧ L.length ≤ 1000 ∧ Below W.heap.size W w'
noncomputable def keptR8 : Array Oper := regOf Tryd.f13.body 8
set_option maxRecDepth 100000 in
set_option maxHeartbeats 4000000 in
theorem kept_r8 (k N c0 b0 o0 gB n4 c4 : Nat) (A4 : Option Addr) (op a b n f : Int) (u1 u2 u6 u7 u8 u9 u10 u11 u12 u13 u14 u15 u16 u17 u18 u19 u20 u21 u22 u23 u24 u25 u26 u27 u28 u29 u30 u31 u32 u33 u34 u35 u36 u37 u38 u39 u40 u41 u42 u43 u44 u45 u46 u47 u48 u49 u50 : Value) (W : World) (Q : Exit → Act → World → Prop) (hlt : k < N) (hN : N ≤ 50) (hI : (k : Int) < N) (hc0 : N ≤ c0)
    (hb0 : b0 < W.heap.size) (p0 : InsAt b0 (o0 + k * 5) op a b n f W)
    (Hal : Hid (Calls Tryd.prog 38 #[.slice (some ⟨W.heap.size, 0, none⟩) 2 2] (twice W op a b n f) fun e w' => ∃ V, e = .returned V ∧ AllB W (twice W op a b n f) V w'))
    (hQ : ∀ (A : Option Addr) (n c : Nat) (L : List UInt8) (W' : World) (v8 v9 v29 v30 v31 v32 v33 v34 v35 v36 v37 v38 v39 v40 v41 v42 : Value), Kept W' W.heap.size 5 1 A n c (bs L) → L.length ≤ 1000 → Below W.heap.size W W' → Q .normal { tmps := #[.slice (some ⟨b0, o0, none⟩) N c0, u1, u2, .pointer (some ⟨gB, 0, none⟩), .int .i64 k, .slice A4 n4 c4, u6, .slice A n c, v8, v9, u10, u11, u12, u13, u14, u15, u16, u17, u18, u19, u20, u21, u22, u23, u24, u25, u26, u27, u28, v29, v30, v31, v32, v33, v34, v35, v36, v37, v38, v39, v40, v41, v42, u43, u44, u45, u46, u47, u48, u49, u50], defers := [] } W') :
    (Code.region 8 keptR8 true).wp Tryd.prog Q { tmps := #[.slice (some ⟨b0, o0, none⟩) N c0, u1, u2, .pointer (some ⟨gB, 0, none⟩), .int .i64 k, .slice A4 n4 c4, u6, u7, u8, u9, u10, u11, u12, u13, u14, u15, u16, u17, u18, u19, u20, u21, u22, u23, u24, u25, u26, u27, u28, u29, u30, u31, u32, u33, u34, u35, u36, u37, u38, u39, u40, u41, u42, u43, u44, u45, u46, u47, u48, u49, u50], defers := [] } W := by
  refine held_start (ops' := keptR8) (l0 := #[false, false, false, false, false, false, false, false, false, false, false, false, false, false, false, false, false]) (S := InsAt b0 (o0 + k * 5) op a b n f) (by kernel_rfl) (by kernel_rfl) (by kernel_rfl) (by kernel_rfl) p0 (fun R hR => ?_)
  (refine held_take (v := ?_) (d := some 30) 0 (by kernel_rfl) (by kernel_rfl) rfl ?_ ?_
   rotate_left
   · intro w hSw
     conv in opOf _ _ => whnf
     (obtain ⟨s0, s1, s2, s3, s4⟩ := hSw)
     go_simp
     try (with_reducible rfl)
   try simp only [Act.put, List.setIfInBounds_toArray, List.set_cons_zero, List.set_cons_succ])
  (refine held_take (v := ?_) (d := some 31) 1 (by kernel_rfl) (by kernel_rfl) rfl ?_ ?_
   rotate_left
   · intro w hSw
     conv in opOf _ _ => whnf
     (obtain ⟨s0, s1, s2, s3, s4⟩ := hSw)
     go_simp
     try (with_reducible rfl)
   try simp only [Act.put, List.setIfInBounds_toArray, List.set_cons_zero, List.set_cons_succ])
  (refine held_take (v := ?_) (d := some 32) 2 (by kernel_rfl) (by kernel_rfl) rfl ?_ ?_
   rotate_left
   · intro w hSw
     conv in opOf _ _ => whnf
     (obtain ⟨s0, s1, s2, s3, s4⟩ := hSw)
     go_simp
     try (with_reducible rfl)
   try simp only [Act.put, List.setIfInBounds_toArray, List.set_cons_zero, List.set_cons_succ])
  (refine held_take (v := ?_) (d := some 33) 3 (by kernel_rfl) (by kernel_rfl) rfl ?_ ?_
   rotate_left
   · intro w hSw
     conv in opOf _ _ => whnf
     (obtain ⟨s0, s1, s2, s3, s4⟩ := hSw)
     go_simp
     try (with_reducible rfl)
   try simp only [Act.put, List.setIfInBounds_toArray, List.set_cons_zero, List.set_cons_succ])
  (refine held_take (v := ?_) (d := some 34) 4 (by kernel_rfl) (by kernel_rfl) rfl ?_ ?_
   rotate_left
   · intro w hSw
     conv in opOf _ _ => whnf
     (obtain ⟨s0, s1, s2, s3, s4⟩ := hSw)
     go_simp
     try (with_reducible rfl)
   try simp only [Act.put, List.setIfInBounds_toArray, List.set_cons_zero, List.set_cons_succ])
  (refine held_take (v := ?_) (d := some 35) 5 (by kernel_rfl) (by kernel_rfl) rfl ?_ ?_
   rotate_left
   · intro w hSw
     conv in opOf _ _ => whnf
     (obtain ⟨s0, s1, s2, s3, s4⟩ := hSw)
     go_simp
     try (with_reducible rfl)
   try simp only [Act.put, List.setIfInBounds_toArray, List.set_cons_zero, List.set_cons_succ])
  (refine held_take (v := ?_) (d := some 36) 6 (by kernel_rfl) (by kernel_rfl) rfl ?_ ?_
   rotate_left
   · intro w hSw
     conv in opOf _ _ => whnf
     (obtain ⟨s0, s1, s2, s3, s4⟩ := hSw)
     go_simp
     try (with_reducible rfl)
   try simp only [Act.put, List.setIfInBounds_toArray, List.set_cons_zero, List.set_cons_succ])
  (refine held_take (v := ?_) (d := some 37) 7 (by kernel_rfl) (by kernel_rfl) rfl ?_ ?_
   rotate_left
   · intro w hSw
     conv in opOf _ _ => whnf
     (obtain ⟨s0, s1, s2, s3, s4⟩ := hSw)
     go_simp
     try (with_reducible rfl)
   try simp only [Act.put, List.setIfInBounds_toArray, List.set_cons_zero, List.set_cons_succ])
  (refine held_one 8 (by kernel_rfl) (by kernel_rfl) (held_run (v := ?_) (w' := ?_) (d := some 38) 8 (by kernel_rfl) (by kernel_rfl) rfl ?_ ?_)
   rotate_left 2
   · intro hSw
     conv in opOf _ _ => whnf
     go_simp
     first | done | (with_reducible rfl) | (constructor <;> with_reducible rfl)
   intro hS
   refine ⟨hS.alloc hb0 _, ?_⟩
   try simp only [Act.put, List.setIfInBounds_toArray, List.set_cons_zero, List.set_cons_succ])
  (refine held_one 9 (by kernel_rfl) (by kernel_rfl) (held_callE (d := some 39) 9 (by kernel_rfl) (by kernel_rfl) rfl (fun hS => Hal.out) (by kernel_rfl) (fun V w' hS hB => ⟨hS.below hB.1 (by show b0 < (W.alloc _).heap.size; rw [World.size_alloc]; omega), ?_⟩))
   try simp only [Act.put, List.setIfInBounds_toArray, List.set_cons_zero, List.set_cons_succ])
  obtain ⟨hbl, A, n', c, x, y, L, rfl, hk, hl, hbb⟩ := hB
  (refine held_take (v := ?_) (d := some 29) 10 (by kernel_rfl) (by kernel_rfl) rfl ?_ ?_
   rotate_left
   · intro w hSw
     conv in opOf _ _ => whnf
     (obtain ⟨s0, s1, s2, s3, s4⟩ := hSw)
     go_simp
     try (with_reducible rfl)
   try simp only [Act.put, List.setIfInBounds_toArray, List.set_cons_zero, List.set_cons_succ])
  (refine held_take (v := ?_) (d := some 40) 11 (by kernel_rfl) (by kernel_rfl) rfl ?_ ?_
   rotate_left
   · intro w hSw
     conv in opOf _ _ => whnf
     (obtain ⟨s0, s1, s2, s3, s4⟩ := hSw)
     go_simp
     try (with_reducible rfl)
   try simp only [Act.put, List.setIfInBounds_toArray, List.set_cons_zero, List.set_cons_succ])
  (refine held_take (v := ?_) (d := some 41) 12 (by kernel_rfl) (by kernel_rfl) rfl ?_ ?_
   rotate_left
   · intro w hSw
     conv in opOf _ _ => whnf
     (obtain ⟨s0, s1, s2, s3, s4⟩ := hSw)
     go_simp
     try (with_reducible rfl)
   try simp only [Act.put, List.setIfInBounds_toArray, List.set_cons_zero, List.set_cons_succ])
  (refine held_take (v := ?_) (d := some 42) 13 (by kernel_rfl) (by kernel_rfl) rfl ?_ ?_
   rotate_left
   · intro w hSw
     conv in opOf _ _ => whnf
     (obtain ⟨s0, s1, s2, s3, s4⟩ := hSw)
     go_simp
     try (with_reducible rfl)
   try simp only [Act.put, List.setIfInBounds_toArray, List.set_cons_zero, List.set_cons_succ])
  (refine held_take (v := ?_) (d := some 7) 14 (by kernel_rfl) (by kernel_rfl) rfl ?_ ?_
   rotate_left
   · intro w hSw
     conv in opOf _ _ => whnf
     (obtain ⟨s0, s1, s2, s3, s4⟩ := hSw)
     go_simp
     try (with_reducible rfl)
   try simp only [Act.put, List.setIfInBounds_toArray, List.set_cons_zero, List.set_cons_succ])
  (refine held_take (v := ?_) (d := some 8) 15 (by kernel_rfl) (by kernel_rfl) rfl ?_ ?_
   rotate_left
   · intro w hSw
     conv in opOf _ _ => whnf
     (obtain ⟨s0, s1, s2, s3, s4⟩ := hSw)
     go_simp
     try (with_reducible rfl)
   try simp only [Act.put, List.setIfInBounds_toArray, List.set_cons_zero, List.set_cons_succ])
  (refine held_take (v := ?_) (d := some 9) 16 (by kernel_rfl) (by kernel_rfl) rfl ?_ ?_
   rotate_left
   · intro w hSw
     conv in opOf _ _ => whnf
     (obtain ⟨s0, s1, s2, s3, s4⟩ := hSw)
     go_simp
     try (with_reducible rfl)
   try simp only [Act.put, List.setIfInBounds_toArray, List.set_cons_zero, List.set_cons_succ])
  refine held_done (by kernel_rfl) (fun hS => hR.out _ _ ?_)
  exact hQ A n' c L _ _ _ _ _ _ _ _ _ _ _ _ _ _ _ _ _ hk hl hbb

theorem nil_kept (w : World) (b : Nat) : Kept w b 5 1 none 0 0 (bs []) := ⟨rfl, .inl ⟨rfl, rfl⟩⟩
/-- what Encode answers, one way or the other -/
theorem enc_two (op a b n f : Int) (w : World) (hT : TabIs 0 w) (hn : I32 n) :
    Calls Tryd.prog 34 #[.agg #[.int .i64 op, .int .i64 a, .int .i64 b, .int .i32 n, .int .i64 f]] w fun e w' => ∃ (A : Option Addr) (n c : Nat) (y : Int) (L : List UInt8), e = .returned (.tuple #[.slice A n c, .int .i64 y]) ∧ Kept w' w.heap.size 5 1 A n c (bs L) ∧ L.length ≤ 1000 ∧ Below w.heap.size w w' := by
  by_cases h : checkR op a b n f = 0
  · refine (encode_kept op a b n f w hT hn h).mono fun e w' ⟨A, n', c, he, hc, hk, hb⟩ => ⟨A, n', c, 0, _, he, hk, ?_, hb⟩
    have := (encR_len h).2
    omega
  · exact (encode_no op a b n f w hT hn h).mono fun e w' ⟨he, hb⟩ => ⟨none, 0, 0, _, [], he, nil_kept _ _, by simp, hb⟩
theorem all_two (op a b n f : Int) (W : World) (hT : TabIs 0 W) (hn : I32 n) :
    Calls Tryd.prog 38 #[.slice (some ⟨W.heap.size, 0, none⟩) 2 2] (twice W op a b n f) fun e w' => ∃ V, e = .returned V ∧ AllB W (twice W op a b n f) V w' := by
  have hT' : TabIs 0 (twice W op a b n f) := (hT.alloc _).drewN 1
  have hs : Sl (twice W op a b n f) (twice W op a b n f).heap.size 5 (some ⟨W.heap.size, 0, none⟩) 2 (insCells [⟨op, a, b, n, f⟩, ⟨op, a, b, n, f⟩]) := ((sl_new W (insCells [⟨op, a, b, n, f⟩, ⟨op, a, b, n, f⟩]) 5 2 rfl 35).drewN 1).more (by simp [twice])
  have hb0 : Below W.heap.size W (twice W op a b n f) := below_drewN ((Below.refl W.heap.size W).alloc (Nat.le_refl _) _) 1
  have hz : W.heap.size ≤ (twice W op a b n f).heap.size := by simp [twice]
  refine (all_gen [⟨op, a, b, n, f⟩, ⟨op, a, b, n, f⟩] _ 2 2 _ hT' rfl hs (by omega) (by intro i hi; simp at hi; subst hi; exact hn)).mono fun e w' h => ?_
  rcases h with ⟨hok, A, n', c, he, hc, hown, hb⟩ | ⟨k, i, _, _, _, he, hb⟩
  · refine ⟨_, he, hb, A, n', c, 0, 0, _, rfl, (Kept.of_own hown).more hz, ?_, hb0.trans (hb.mono hz)⟩
    have := encAll_le _ hok
    simp at this
    omega
  · exact ⟨_, he, hb, none, 0, 0, _, _, [], rfl, nil_kept _ _, by simp, hb0.trans (hb.mono hz)⟩

theorem len_le {W1 : World} {L : List UInt8} {A1 : Option Addr} {m c1 b : Nat} (h : Kept W1 b 5 1 A1 m c1 (bs L)) (hL : L.length ≤ 1000) : m * 1 ≤ 140737488355328 := by
  have := h.1
  rw [bs_length] at this
  omega
theorem good_bs (L : List UInt8) : booku8.Good (bs L) := ⟨L, rfl⟩

/-- both lists are kept, one behind the other -/
theorem keep_two {gB : Nat} {W w4 W8 : World} {U : Nat → Prop} {A4 A : Option Addr} {n4 c4 n c : Nat} {L4 L : List UInt8} (hB : BAt W gB U) (hb4 : Below W.heap.size W w4) (hk4 : Kept w4 W.heap.size 5 1 A4 n4 c4 (bs L4)) (hl4 : L4.length ≤ 1000)
    (hb8 : Below w4.heap.size w4 W8) (hk8 : Kept W8 w4.heap.size 5 1 A n c (bs L)) (hl8 : L.length ≤ 1000) :
    Calls Tryd.prog 39 #[.pointer (some ⟨gB, 0, none⟩), .slice A4 n4 c4] W8 fun e w9 => e = .returned (.tuple #[]) ∧ KFr U W8 w9 ∧ ∃ U9, (∀ k, U9 k → gB ≤ k) ∧
      Calls Tryd.prog 39 #[.pointer (some ⟨gB, 0, none⟩), .slice A n c] w9 fun e w10 => e = .returned (.tuple #[]) ∧ ∃ U10, BAt w10 gB U10 ∧ KFr U9 w9 w10 := by
  have hz4 := hb4.size
  have hz8 := hb8.size
  have hgB := hB.at_.2
  have k4 : Kept W8 W.heap.size 5 1 A4 n4 c4 (bs L4) := hk4.keep fun k hk => hb8.block k (hk4.lt k hk).2
  refine (keep_any gB A4 n4 c4 (bs L4) U W8 (hB.below (hb4.trans (hb8.mono hz4))) (k4.more (by omega)) (good_bs L4) (fun k hk hu => ?_) (len_le hk4 hl4)).mono fun e w9 ⟨he, U9, hB9, hK9, hU9⟩ => ⟨he, hK9, U9, fun k hk => (hB9.bound k hk).1, ?_⟩
  · have h1 := (k4.lt k hk).1
    have h2 := (hB.bound k hu).2
    omega
  · have k8 : Kept w9 w4.heap.size 5 1 A n c (bs L) := hk8.keep fun k hk => hK9.block k (hk8.lt k hk).2 (fun hu => by have := (hk8.lt k hk).1; have := (hB.bound k hu).2; omega)
    refine (keep_any gB A n c (bs L) U9 w9 hB9 (k8.more (by omega)) (good_bs L) (fun k hk hu => ?_) (len_le hk8 hl8)).mono fun e w10 ⟨he, U10, h1, h2, _⟩ => ⟨he, U10, h1, h2⟩
    have h1 := hk8.lt k hk
    rcases hU9 k h1.2 hu with h2 | h2
    · have := (hB.bound k h2).2; omega
    · have := (hk4.lt k h2).2; omega

set_option maxRecDepth 100000 in
set_option maxHeartbeats 4000000 in
theorem loop_any (l : List Ins) (A : Option Addr) (N c c9 : Nat) (w : World) (hT : TabIs 0 w) (hl : l.length = N) (hs : Sl w w.heap.size 5 A N (insCells l)) (hN : N ≤ 50) (hc : N ≤ c) (hn : ∀ i ∈ l, I32 i.n)
    (n0 : Nat) (hcase : (n0 = N ∧ c9 = c) ∨ (50 < n0 ∧ n0 ≤ c ∧ c9 = c ∧ N = 50)) :
    Calls Tryd.prog 13 #[.slice A n0 c] w fun e w' => e = .returned (.bool true) ∧ Below w.heap.size w w' := by
  have HP := Lib.hid hn
  have HL := Lib.hid hl
  clear hn hl
  rcases hcase with ⟨rfl, rfl⟩ | ⟨h50, hnc, rfl, rfl⟩
  · skip
    go_enter Tryd.func13, Tryd.ntmps13
    go_wp2_with fail
    go_loopw [4] (fun i wr => ∃ k : Nat, i = .int .i64 k ∧ k ≤ n0 ∧ At w w.heap.size wr) (fun i _ => n0 - (intOf i).toNat)
    case atStart => exact ⟨0, rfl, Nat.zero_le _, _, BookAt.new_ (heap_alloc_new w _), (Below.refl _ _).alloc (Nat.le_refl _) _⟩
    case round =>
      obtain ⟨k, rfl, hk, U, hB, hb⟩ := hrel
      have hz := hb.size
      have hTr := hT.grow hb
      by_cases hlt : k < n0
      · obtain ⟨x, hx⟩ : ∃ x, l[k]? = some x := ⟨l[k]'(by rw [HL.out]; exact hlt), List.getElem?_eq_getElem _⟩
        have hxn : I32 x.n := HP.out x (List.mem_of_getElem? hx)
        obtain ⟨b0, o0, rfl, hb0, hhas⟩ := hs.at_ (by omega)
        have hI : (k : Int) < n0 := by omega
        obtain ⟨p0, p1, p2, p3, p4⟩ := ins_at (hhas.keep fun i => hb.cell (p := ⟨b0, i, none⟩) hb0) hx
        clear hx
        obtain ⟨op, a, b, n, f⟩ := x
        simp only at p0 p1 p2 p3 p4 hxn
        have HE := Lib.hid (enc_two op a b n f wr hTr hxn)
        have HB := Lib.hid hB
        clear hB
        go_wp2_with (first
          | (go_at_call 34; refine HE.out.mono ?_; rintro e w4 ⟨A4, n4, c4, y4, L4, rfl, hk4, hl4, hb4⟩)
          | fail)
        have hb0r : b0 < wr.heap.size := by omega
        have hz4 := hb4.size
        have hI4 : InsAt b0 (o0 + k * 5) op a b n f w4 := InsAt.below ⟨p0, p1, p2, p3, p4⟩ hb4 hb0r
        refine wp_region_swap (ops' := keptR8) (by kernel_rfl) (kept_r8 k n0 c9 b0 o0 w.heap.size n4 c4 A4 op a b n f _ _ _ _ _ _ _ _ _ _ _ _ _ _ _ _ _ _ _ _ _ _ _ _ _ _ _ _ _ _ _ _ _ _ _ _ _ _ _ _ _ _ _ _ _ _ _ _ _ hlt (by omega) hI (by omega) (by omega) hI4 (Lib.hid (all_two op a b n f w4 (hTr.grow hb4) hxn)) ?_)
        intro A8 n8 c8 L8 w8 v8 v9 v29 v30 v31 v32 v33 v34 v35 v36 v37 v38 v39 v40 v41 v42 hk8 hl8 hb8
        have HK := Lib.hid (keep_two HB.out hb4 hk4 hl4 hb8 hk8 hl8)
        go_wp2_with (first
          | (go_at_call 39; (with_reducible refine Calls.mono HK.out ?_); rintro e w9 ⟨rfl, hK9, U9, hU9, hC9⟩; have HC := Lib.hid hC9; clear hC9)
          | (go_at_call 39; (with_reducible refine Calls.mono HC.out ?_); rintro e w10 ⟨rfl, U10, hB10, hK10⟩)
          | fail)
        go_roundw
        case rel =>
          have hz8 := hb8.size
          have z1 := (hb.trans (hb4.mono hz)).trans (hb8.mono (by omega))
          have z2 := z1.trans (hK9.below (fun k hk => (HB.out.bound k hk).1) z1.size)
          exact ⟨k + 1, by go_num, by omega, U10, hB10, z2.trans (hK10.below hU9 z2.size)⟩
        case measure => simp [intOf]; omega
      · have hkN : k = n0 := by omega
        subst hkN
        go_wp2_with (first
          | (go_at_call 40; refine (apart_any w.heap.size U wr hB).mono ?_; rintro e w6 ⟨rfl, hK6⟩; have hb6 := hb.trans (hK6.below (fun k hk => (hB.bound k hk).1) hz); have hT6 := hT.grow hb6)
          | (go_at_call 37; refine (known6_any _ hT6).mono ?_; rintro e w7 ⟨rfl, hb7⟩)
          | fail)
        go_ret
        exact ⟨rfl, hb6.trans (hb7.mono hb6.size)⟩
  · skip
    go_enter Tryd.func13, Tryd.ntmps13
    go_wp2_with fail
    rw [show decide ((50 : Int) < (n0 : Int)) = true from decide_eq_true (by omega)]
    go_loopw [4] (fun i wr => ∃ k : Nat, i = .int .i64 k ∧ k ≤ 50 ∧ At w w.heap.size wr) (fun i _ => 50 - (intOf i).toNat)
    case atStart => exact ⟨0, rfl, Nat.zero_le _, _, BookAt.new_ (heap_alloc_new w _), (Below.refl _ _).alloc (Nat.le_refl _) _⟩
    case round =>
      obtain ⟨k, rfl, hk, U, hB, hb⟩ := hrel
      have hz := hb.size
      have hTr := hT.grow hb
      by_cases hlt : k < 50
      · obtain ⟨x, hx⟩ : ∃ x, l[k]? = some x := ⟨l[k]'(by rw [HL.out]; exact hlt), List.getElem?_eq_getElem _⟩
        have hxn : I32 x.n := HP.out x (List.mem_of_getElem? hx)
        obtain ⟨b0, o0, rfl, hb0, hhas⟩ := hs.at_ (by omega)
        have hI : (k : Int) < 50 := by omega
        obtain ⟨p0, p1, p2, p3, p4⟩ := ins_at (hhas.keep fun i => hb.cell (p := ⟨b0, i, none⟩) hb0) hx
        clear hx
        obtain ⟨op, a, b, n, f⟩ := x
        simp only at p0 p1 p2 p3 p4 hxn
        have HE := Lib.hid (enc_two op a b n f wr hTr hxn)
        have HB := Lib.hid hB
        clear hB
        go_wp2_with (first
          | (go_at_call 34; refine HE.out.mono ?_; rintro e w4 ⟨A4, n4, c4, y4, L4, rfl, hk4, hl4, hb4⟩)
          | fail)
        have hb0r : b0 < wr.heap.size := by omega
        have hz4 := hb4.size
        have hI4 : InsAt b0 (o0 + k * 5) op a b n f w4 := InsAt.below ⟨p0, p1, p2, p3, p4⟩ hb4 hb0r
        refine wp_region_swap (ops' := keptR8) (by kernel_rfl) (kept_r8 k 50 c9 b0 o0 w.heap.size n4 c4 A4 op a b n f _ _ _ _ _ _ _ _ _ _ _ _ _ _ _ _ _ _ _ _ _ _ _ _ _ _ _ _ _ _ _ _ _ _ _ _ _ _ _ _ _ _ _ _ _ _ _ _ _ hlt (by omega) hI (by omega) (by omega) hI4 (Lib.hid (all_two op a b n f w4 (hTr.grow hb4) hxn)) ?_)
        intro A8 n8 c8 L8 w8 v8 v9 v29 v30 v31 v32 v33 v34 v35 v36 v37 v38 v39 v40 v41 v42 hk8 hl8 hb8
        have HK := Lib.hid (keep_two HB.out hb4 hk4 hl4 hb8 hk8 hl8)
        go_wp2_with (first
          | (go_at_call 39; (with_reducible refine Calls.mono HK.out ?_); rintro e w9 ⟨rfl, hK9, U9, hU9, hC9⟩; have HC := Lib.hid hC9; clear hC9)
          | (go_at_call 39; (with_reducible refine Calls.mono HC.out ?_); rintro e w10 ⟨rfl, U10, hB10, hK10⟩)
          | fail)
        go_roundw
        case rel =>
          have hz8 := hb8.size
          have z1 := (hb.trans (hb4.mono hz)).trans (hb8.mono (by omega))
          have z2 := z1.trans (hK9.below (fun k hk => (HB.out.bound k hk).1) z1.size)
          exact ⟨k + 1, by go_num, by omega, U10, hB10, z2.trans (hK10.below hU9 z2.size)⟩
        case measure => simp [intOf]; omega
      · have hkN : k = 50 := by omega
        subst hkN
        go_wp2_with (first
          | (go_at_call 40; refine (apart_any w.heap.size U wr hB).mono ?_; rintro e w6 ⟨rfl, hK6⟩; have hb6 := hb.trans (hK6.below (fun k hk => (hB.bound k hk).1) hz); have hT6 := hT.grow hb6)
          | (go_at_call 37; refine (known6_any _ hT6).mono ?_; rintro e w7 ⟨rfl, hb7⟩)
          | fail)
        go_ret
        exact ⟨rfl, hb6.trans (hb7.mono hb6.size)⟩
theorem walk (w : World) (A : Option Addr) (n0 c0 : Nat) (l : List Ins) (hs : Sl w w.heap.size 5 A n0 (insCells l) ∧ ∀ i ∈ l, i.Ok) (hc : n0 ≤ c0) {B : Prop} (_ : B) (hT : TabIs 0 w) :
    Calls Tryd.prog 13 #[.slice A n0 c0] w fun e w' => e = .returned (.bool true) ∧ Below w.heap.size w w' := by
  obtain ⟨hs, hok⟩ := hs
  have hn : ∀ i ∈ l, I32 i.n := fun i hi => (hok i hi).2.2.2.1
  have hl : l.length = n0 := by have := hs.len; rw [insCells_length] at this; omega
  by_cases hbig : 50 < n0
  · have hs2 : Sl w w.heap.size 5 A 50 (insCells (l.take 50)) := by
      have := hs.front (k := 50) (by omega)
      rwa [insCells_take] at this
    exact loop_any (l.take 50) A 50 c0 c0 w hT (by rw [List.length_take]; omega) hs2 (by omega) (by omega) (fun i hi => hn i (List.mem_of_mem_take hi)) n0 (.inr ⟨hbig, hc, rfl, rfl⟩)
  · exact loop_any l A n0 c0 c0 w hT hl hs (by omega) hc hn n0 (.inl ⟨rfl, rfl⟩)
end Go.Proofs.YtfplkmldleigpaaDoor.encodeKept
