import Derived.Test.YthcjnkakfpmpbaaDoorQ1
import Derived.Test.YthcjnkakfpmpbaaDoorRows
import Derived.WalkLawsBesides
import Derived.Deep.Onto
namespace Go.Proofs.YthcjnkakfpmpbaaDoor
open Go.RowKit
set_option linter.unusedVariables false
theorem check_fin (op a b n f s v1 : Int) (v0 : Array UInt8) (SB NB F0 : Bool) (R : Int) (w : World) (hT : TabIs 0 w) (ef : (f != 0) = F0) (hR : R = if (SB = false ∧ F0 = true) ∨ NB = false then 13 else 0)
    (Hat : Hid (∀ w,TabIs 0 w → Calls Tryd.prog 54 #[.int .i64 op] w fun e w' => e = .returned (.tuple #[.agg #[.string ⟨v0⟩,.int .u8 v1,.int .i64 s],.bool true]) ∧ Below w.heap.size w w'))
    (Hre : Hid (∀ w,Calls Tryd.prog 74 #[.agg #[.int .i64 op,.int .i64 a,.int .i64 b,.int .i32 n,.int .i64 f],.int .i64 s] w fun e w' => e = .returned (.bool true) ∧ Below w.heap.size w w'))
    (Hsp : Hid (∀ w,TabIs 0 w → Calls Tryd.prog 71 #[.int .i64 op] w fun e w' => e = .returned (.bool SB) ∧ Below w.heap.size w w'))
    (Hnu : Hid (∀ w,Calls Tryd.prog 75 #[.agg #[.int .i64 op,.int .i64 a,.int .i64 b,.int .i32 n,.int .i64 f],.int .i64 s] w fun e w' => e = .returned (.bool NB) ∧ Below w.heap.size w w')) :
    Calls Tryd.prog 46 #[.agg #[.int .i64 op,.int .i64 a,.int .i64 b,.int .i32 n,.int .i64 f]] w fun e w' => e = .returned (.int .i64 R) ∧ Below w.heap.size w w' := by
  cases SB <;> cases NB <;> cases F0 <;> simp at hR <;> subst hR
  all_goals
    go_enter Tryd.func46,Tryd.ntmps46
    go_wp2_with (first
      | (go_at_call 54; refine (Hat.out _ (hT.alloc _)).mono ?_; rintro e w1 ⟨rfl,hb1⟩; obtain ⟨hc1,hf1⟩ := bcell hb1; have hz1 : w.heap.size < w1.heap.size := (by have := hb1.size; simp at this; omega))
      | (go_at_call 74; refine (Hre.out _).mono ?_; rintro e w2 ⟨rfl,hb2⟩; obtain ⟨hc2,hf2⟩ := bcell hb2; have hz2 : w1.heap.size < w2.heap.size := (by have := hb2.size; simp at this; omega); have hy2 : w.heap.size < w2.heap.size := (by omega))
      | (go_at_call 71; refine (Hsp.out _ ((((hT.alloc _).grow hb1).alloc _).grow hb2)).mono ?_; rintro e w3 ⟨rfl,hb3⟩; obtain ⟨hc3,hf3⟩ := bcell hb3; have hz3 : w1.heap.size < w3.heap.size := Nat.lt_of_lt_of_le hz2 hb3.size; have hy3 : w.heap.size < w3.heap.size := (by omega); have hx3 := hb3.size)
      | (go_at_call 75; refine (Hnu.out _).mono ?_; rintro e w4 ⟨rfl,hb4⟩; have hz4 := hb4.size))
  all_goals
    go_ret
    first
      | exact ⟨rfl,((((((Below.refl w.heap.size w).alloc (Nat.le_refl _) _).trans (hb1.mono (by simp))).alloc (by omega) _).trans (hb2.mono (by simp; omega))).trans (hb3.mono (by omega))).trans (hb4.mono (by omega))⟩
      | exact ⟨rfl,(((((Below.refl w.heap.size w).alloc (Nat.le_refl _) _).trans (hb1.mono (by simp))).alloc (by omega) _).trans (hb2.mono (by simp; omega))).trans (hb3.mono (by omega))⟩
set_option maxHeartbeats 4000000 in
theorem check_any (op a b n f : Int) (w : World) (hn : -2147483648 ≤ n ∧ n ≤ 2147483647) (hT : TabIs 0 w) :
    Calls Tryd.prog 46 #[.agg #[.int .i64 op,.int .i64 a,.int .i64 b,.int .i32 n,.int .i64 f]] w fun e w' => e = .returned (.int .i64 (checkR op a b n f)) ∧ Below w.heap.size w w' := by
  have hsh := shape_bounds op
  have hat : ∀ w,TabIs 0 w → Calls Tryd.prog 54 #[.int .i64 op] w fun e w' => e = .returned (.tuple #[.agg #[.string ⟨(opName op).toArray⟩,.int .u8 (opByte op),.int .i64 (opShape op)],.bool (isOp op)]) ∧ Below w.heap.size w w' := fun w h => at_any op w h
  have hsp : ∀ w,TabIs 0 w → Calls Tryd.prog 71 #[.int .i64 op] w fun e w' => e = .returned (.bool (spansB op)) ∧ Below w.heap.size w w' := fun w h => spans_any op w h
  have hre : isOp op = true → ∀ w,Calls Tryd.prog 74 #[.agg #[.int .i64 op,.int .i64 a,.int .i64 b,.int .i32 n,.int .i64 f],.int .i64 (opShape op)] w fun e w' => e = .returned (.bool (regB (opShape op) a b n)) ∧ Below w.heap.size w w' := fun h w => registers_any op a b n f _ w (hsh.1 h)
  have hnu : isOp op = true → ∀ w,Calls Tryd.prog 75 #[.agg #[.int .i64 op,.int .i64 a,.int .i64 b,.int .i32 n,.int .i64 f],.int .i64 (opShape op)] w fun e w' => e = .returned (.bool (numB (opShape op) n f)) ∧ Below w.heap.size w w' := fun h w => number_any op a b n f _ w (hsh.1 h) hn
  unfold checkR
  generalize (opName op).toArray = v0 at hat
  generalize opByte op = v1 at hat
  generalize numB (opShape op) n f = NB at hnu ⊢
  generalize regB (opShape op) a b n = RB at hre ⊢
  generalize opShape op = s at hat hre hnu
  generalize spansB op = SB at hsp ⊢
  generalize isOp op = OK at hat hre hnu ⊢
  have Hat := Lib.hid hat
  have Hsp := Lib.hid hsp
  have Hre := Lib.hid hre
  have Hnu := Lib.hid hnu
  clear hat hsp hre hnu hsh hn
  cases OK
  · rw [if_pos rfl]
    go_enter Tryd.func46,Tryd.ntmps46
    go_wp2_with (first
      | (go_at_call 54; refine (Hat.out _ (hT.alloc _)).mono ?_; rintro e w1 ⟨rfl,hb1⟩))
    go_ret
    exact ⟨rfl,(((Below.refl w.heap.size w).alloc (Nat.le_refl _) _).trans (hb1.mono (by simp))).alloc (by have := hb1.size; simp at this; omega) _⟩
  · rw [if_neg (by simp)]
    have Hre2 := Lib.hid (Hre.out (by trivial))
    have Hnu2 := Lib.hid (Hnu.out (by trivial))
    clear Hre Hnu
    cases RB
    · rw [if_pos rfl]
      go_enter Tryd.func46,Tryd.ntmps46
      go_wp2_with (first
        | (go_at_call 54; refine (Hat.out _ (hT.alloc _)).mono ?_; rintro e w1 ⟨rfl,hb1⟩; obtain ⟨hc1,hf1⟩ := bcell hb1; have hz1 : w.heap.size < w1.heap.size := (by have := hb1.size; simp at this; omega))
        | (go_at_call 74; refine (Hre2.out _).mono ?_; rintro e w2 ⟨rfl,hb2⟩))
      go_ret
      exact ⟨rfl,(((((Below.refl w.heap.size w).alloc (Nat.le_refl _) _).trans (hb1.mono (by simp))).alloc (by omega) _).trans (hb2.mono (by simp; omega)))⟩
    · rw [if_neg (by simp)]
      by_cases hf : f = 0
      · refine check_fin op a b n f s v1 v0 SB NB false _ w hT (by simpa using hf) ?_ Hat Hre2 Hsp Hnu2
        simp [hf]
      · refine check_fin op a b n f s v1 v0 SB NB true _ w hT (by simpa using hf) ?_ Hat Hre2 Hsp Hnu2
        simp [hf]
end Go.Proofs.YthcjnkakfpmpbaaDoor
namespace Go.Proofs.YthcjnkakfpmpbaaDoor
open Go.RowKit
set_option linter.unusedVariables false
set_option maxRecDepth 100000 in
set_option maxHeartbeats 4000000 in
theorem refOps_any (w : World) : Calls Tryd.prog 67 #[] w fun e w' => e = .returned (.slice (some ⟨w.heap.size,0,none⟩) 43 43) ∧ w' = w.alloc (.cells tabCells.toArray 125) := by
  go_enter Tryd.func67,Tryd.ntmps67
  go_wp2
  go_ret
  exact ⟨rfl,rfl⟩
end Go.Proofs.YthcjnkakfpmpbaaDoor
namespace Go.Proofs.YthcjnkakfpmpbaaDoor
open Go.RowKit
def findAt (name : List UInt8) : Nat → Nat → Int
  | 0,_ => 0
  | n + 1,k => if opName ((k : Int) + 1) = name then (k : Int) + 1 else findAt name n (k + 1)
def findR (name : List UInt8) : Int := findAt name 43 0
theorem findAt_hit {name : List UInt8} {k : Nat} (hk : k < 43) (h : opName ((k : Int) + 1) = name) : findAt name (43 - k) k = (k : Int) + 1 := by
  rw [show 43 - k = (42 - k) + 1 by omega,findAt,if_pos h]
theorem findAt_miss {name : List UInt8} {k : Nat} (hk : k < 43) (h : opName ((k : Int) + 1) ≠ name) : findAt name (43 - k) k = findAt name (43 - (k + 1)) (k + 1) := by
  rw [show 43 - k = (42 - k) + 1 by omega,findAt,if_neg h,show 42 - k = 43 - (k + 1) by omega]
end Go.Proofs.YthcjnkakfpmpbaaDoor
namespace Go.Proofs.YthcjnkakfpmpbaaDoor
open Go.RowKit
set_option linter.unusedVariables false
theorem refOps_gives (w : World) : Calls Tryd.prog 67 #[] w fun e w' => e = .returned (.slice (some ⟨w.heap.size,0,none⟩) 43 43) ∧ TabIs w.heap.size w' ∧ Below w.heap.size w w' := by
  refine (refOps_any w).mono ?_
  rintro e w' ⟨rfl,rfl⟩
  exact ⟨rfl,⟨_,Blk.new _ _ _⟩,(Below.refl _ _).alloc (Nat.le_refl _) _⟩
theorem refShape_any (op : Int) (w : World) : Calls Tryd.prog 49 #[.int .i64 op] w fun e w' => e = .returned (.int .i64 (opShape op)) ∧ Below w.heap.size w w' := by
  by_cases h : 1 ≤ op ∧ op ≤ 43
  · obtain ⟨k,rfl⟩ : ∃ k : Nat,op = (k : Int) + 1 := ⟨(op - 1).toNat,by omega⟩
    have hk : k < 43 := by omega
    obtain ⟨v2,h2⟩ : ∃ v,v = opShape ((k : Int) + 1) := ⟨_,rfl⟩
    rw [← h2]
    have H2 := Lib.hid h2
    have hI : (k : Int) < 43 := by omega
    clear h h2
    go_enter Tryd.func49,Tryd.ntmps49
    go_wp2_with (go_at_call 67; refine (refOps_gives _).mono ?_; rintro e w1 ⟨rfl,hT,hb⟩; have hc := (hT.cells k hk).2.2; rw [← H2.out] at hc)
    go_ret
    exact ⟨rfl,hb⟩
  · have hs : opShape op = 0 := by unfold opShape; rw [opAt_no h]
    rw [hs]
    clear hs
    by_cases h1 : op < 1
    · clear h
      go_enter Tryd.func49,Tryd.ntmps49
      go_wp2_with (go_at_call 67; refine (refOps_gives _).mono ?_; rintro e w1 ⟨rfl,hT,hb⟩)
      go_ret
      exact ⟨rfl,hb⟩
    · have h2 : 43 < op := by omega
      clear h
      go_enter Tryd.func49,Tryd.ntmps49
      go_wp2_with (go_at_call 67; refine (refOps_gives _).mono ?_; rintro e w1 ⟨rfl,hT,hb⟩)
      go_ret
      exact ⟨rfl,hb⟩
set_option maxHeartbeats 400000 in
theorem refFind_any (s : ByteArray) (w : World) :
    Calls Tryd.prog 63 #[.string s] w fun e w' => e = .returned (.int .i64 (findR s.toList)) ∧ Below w.heap.size w w' := by
  obtain ⟨R,hR⟩ : ∃ R,R = findR s.toList := ⟨_,rfl⟩
  rw [← hR]
  have HR := Lib.hid hR
  clear hR
  go_enter Tryd.func63,Tryd.ntmps63
  go_wp2_with (go_at_call 67; refine (refOps_gives _).mono ?_; rintro e w1 ⟨rfl,hT,hb⟩)
  go_loop [4] (fun i => ∃ k : Nat,i = .int .i64 k ∧ k ≤ 43 ∧ Hid (R = findAt s.toList (43 - k) k)) (fun i => 43 - (intOf i).toNat)
  case atStart => exact ⟨0,rfl,Nat.zero_le _,Lib.hid (by rw [HR.out]; rfl)⟩
  case round =>
    obtain ⟨k,rfl,hk,hf⟩ := hrel
    by_cases hlt : k < 43
    · have hc := (hT.cells k hlt).1
      have hI : (k : Int) < 43 := by omega
      by_cases hN : opName ((k : Int) + 1) = s.toList
      · have hR2 := hf.out
        rw [findAt_hit hlt hN] at hR2
        have hE : (opName ((k : Int) + 1) == s.toList) = true := by simpa using hN
        have HE := Lib.hid hR2
        generalize opName ((k : Int) + 1) = N at hc hE
        clear hf hN hR2
        go_wp2
        go_ret
        exact ⟨by rw [HE.out]; rfl,hb⟩
      · have hR2 := hf.out
        rw [findAt_miss hlt hN] at hR2
        have hE : (opName ((k : Int) + 1) == s.toList) = false := by simpa using hN
        have HE := Lib.hid hR2
        generalize opName ((k : Int) + 1) = N at hc hE
        clear hf hN hR2
        go_wp2
        go_round
        case rel => exact ⟨k + 1,by go_num,by omega,HE⟩
        case measure => simp [intOf]; omega
    · obtain rfl : k = 43 := by omega
      go_wp2
      go_ret
      exact ⟨by rw [hf.out]; rfl,hb⟩
end Go.Proofs.YthcjnkakfpmpbaaDoor
namespace Go.Proofs.YthcjnkakfpmpbaaDoor
open Go.RowKit
set_option linter.unusedVariables false
def Row (w : World) (base : Nat) (e : TypeId) (v : Value) (n : Nat) (xs : List Value) : Prop :=
  xs.length = n ∧ ((v = .slice none 0 0 ∧ n = 0) ∨
    ∃ g o cap cur,v = .slice (some ⟨g,o,none⟩) n cap ∧ base ≤ g ∧ w.heap[g]? = some (.cells cur e (0,0)) ∧ n ≤ cap ∧ cap ≤ maxLen ∧ o + cap ≤ cur.size ∧ ∀ j u,xs[j]? = some u → cur[o + j]? = some u)
section
variable {w w' : World} {base n : Nat} {e : TypeId} {v : Value} {xs : List Value}
theorem Row.nil_ (w : World) (base : Nat) (e : TypeId) : Row w base e (.slice none 0 0) 0 [] := ⟨rfl,.inl ⟨rfl,rfl⟩⟩
theorem Row.of_own (h : w.ownsRow base e 1 v n xs) : Row w base e v n xs := by
  refine ⟨by rw [h.1,Nat.mul_one],?_⟩
  rcases h.2 with hn | ⟨g,cap,cur,h1,h2,h3,h4,h5,h6,h7⟩
  · exact .inl hn
  · refine .inr ⟨g,0,cap,cur,h1,h2,h3,h4,h5,by omega,fun j u hu => ?_⟩
    rw [← h7,List.getElem?_take] at hu
    split at hu
    · rw [Nat.zero_add]; simpa using hu
    · cases hu
theorem Row.more (h : Row w base e v n xs) {base' : Nat} (hb : base' ≤ base) : Row w base' e v n xs :=
  ⟨h.1,h.2.imp id fun ⟨g,o,cap,cur,h1,h2,h3⟩ => ⟨g,o,cap,cur,h1,Nat.le_trans hb h2,h3⟩⟩
theorem Row.lt (h : Row w base e v n xs) : ∀ k,v.ownBlock = some k → base ≤ k ∧ k < w.heap.size := by
  intro k hk
  rcases h.2 with ⟨rfl,_⟩ | ⟨g,o,cap,cur,rfl,hb,hg,_⟩
  · simp [Value.ownBlock] at hk
  · simp [Value.ownBlock] at hk
    subst hk
    exact ⟨hb,(Array.getElem?_eq_some_iff.1 hg).1⟩
theorem Row.keep (h : Row w base e v n xs) (hk : ∀ k,v.ownBlock = some k → w'.heap[k]? = w.heap[k]?) : Row w' base e v n xs := by
  refine ⟨h.1,?_⟩
  rcases h.2 with hn | ⟨g,o,cap,cur,rfl,hb,hgg,rest⟩
  · exact .inl hn
  · exact .inr ⟨g,o,cap,cur,rfl,hb,(hk g rfl).trans hgg,rest⟩
theorem Row.shape (h : Row w base e v n xs) : ∃ A c,v = .slice A n c ∧ n ≤ c := by
  rcases h.2 with ⟨rfl,rfl⟩ | ⟨g,o,cap,cur,rfl,_,_,hc,_⟩
  · exact ⟨none,0,rfl,Nat.le_refl _⟩
  · exact ⟨_,cap,rfl,hc⟩
theorem Row.sl {A : Option Addr} {c : Nat} (h : Row w base e (.slice A n c) n xs) : Sl w w.heap.size 1 A n xs := by
  refine ⟨by rw [h.1,Nat.mul_one],fun hn => ?_⟩
  rcases h.2 with ⟨hv,h0⟩ | ⟨g,o,cap,cur,hv,_,hg,_,_,_,ht⟩
  · omega
  · injection hv with h1 h2 h3
    subst h1
    exact ⟨g,o,rfl,(Array.getElem?_eq_some_iff.1 hg).1,fun j u hu => by rw [cell_of_row w g (o + j) cur e (0,0) hg]; exact ht j u hu⟩
theorem Row.rest {A : Option Addr} {c : Nat} {x : Value} (h : Row w base e (.slice A (n + 1) c) (n + 1) (x :: xs)) :
    Row w base e (.slice (if c = 1 then A else A.map (·.add 1)) n (c - 1)) n xs := by
  refine ⟨by have := h.1; simpa using this,?_⟩
  rcases h.2 with ⟨hv,h0⟩ | ⟨g,o,cap,cur,hv,hb,hg,hc,hm,hs,ht⟩
  · omega
  · injection hv with h1 h2 h3
    subst h1
    subst h3
    by_cases h1 : c = 1
    · subst h1
      obtain rfl : n = 0 := by omega
      refine .inr ⟨g,o,0,cur,by simp,hb,hg,Nat.le_refl _,Nat.zero_le _,by omega,fun j u hu => ?_⟩
      have := h.1
      have : xs = [] := List.eq_nil_of_length_eq_zero (by simpa using this)
      subst this
      simp at hu
    · refine .inr ⟨g,o + 1,c - 1,cur,by rw [if_neg h1,Option.map_some,add_flat],hb,hg,by omega,by omega,by omega,fun j u hu => ?_⟩
      have := ht (j + 1) u (by simpa using hu)
      rwa [show o + (j + 1) = o + 1 + j by omega] at this
end
section
variable {P : Program} (w : World)
theorem setCells_one (b o : Nat) (u : Value) : w.setCells b o [u] = w.setCell ⟨b,o,none⟩ u := rfl
theorem run_append_row (base : Nat) (t ty e : TypeId) (i : TypeInfo) (z : Value) (bytes : Nat) (ht : P.underlying t = some (.slice e)) (hi : P.info? e = some i) (hz : i.zero = some z)
    (hsize : i.size = 1) (hby : i.bytes = bytes) (hzs : z.cells.size = 1) (v : Value) (n : Nat) (xs : List Value) (hrow : Row w base e v n xs)
    (ad : Addr) (c : Nat) (u : Value) (hu : w.cell? (ad.add 0) = some u) (h1 : u.oneCell' = true) (h63 : n + 1 ≤ maxLen) (hbytes : (n + 1) * bytes ≤ 140737488355328) (hbase : base ≤ w.heap.size) :
    ∃ v' w',(Builtin.append_ #[t,t] ty #[v,.slice (some ad) 1 c]).run P w = .ok v' w' ∧ Row w' base e v' (n + 1) (xs ++ [u]) ∧ w.grownBy w' v.ownBlock ∧ (∀ k,v'.ownBlock = some k → v.ownBlock = some k ∨ w.heap.size ≤ k) := by
  have hnews : ∀ j x,[u][j]? = some x → w.cell? (ad.add j) = some x := by
    intro j x hx
    match j,hx with
    | 0,hx => simp at hx; subst hx; exact hu
  have hone : ∀ x ∈ [u],x.oneCell' = true := by intro x hx; simp at hx; subst hx; exact h1
  rcases hrow.2 with ⟨rfl,rfl⟩ | ⟨g,o,cap,cur,rfl,hb,hg,hc,hm,hs,hxs⟩
  · have hx0 : xs = [] := List.eq_nil_of_length_eq_zero hrow.1
    subst hx0
    obtain ⟨v',w',hrun,h2,h3,h4⟩ := run_append_own_at (P := P) w base t ty e i z 1 bytes ht hi hz hsize hby hzs (by omega) (.slice none 0 0) 0 [] (World.ownsRow_nil w base e 1) ad 1 c [u] rfl hnews hone h63 hbytes hbase
    refine ⟨v',w',hrun,Row.of_own h2,h3,fun k hk => ?_⟩
    rcases h4.2 with h | h
    · exact .inl (h ▸ hk)
    · rw [h] at hk; injection hk with hk; exact .inr (by omega)
  · by_cases hroom : n + 1 ≤ cap
    · have hlt : g < w.heap.size := (Array.getElem?_eq_some_iff.1 hg).1
      have hsome : ∀ j,j < [u].length → (w.cell? ⟨g,o + n * i.size + j,none⟩).isSome = true := by
        intro j hj
        simp at hj
        subst hj
        rw [hsize,cell_of_row w g _ cur e (0,0) hg,Array.getElem?_eq_getElem (by omega)]
        rfl
      have hrun := run_append_room_cells (P := P) w t ty e i ht hi g o n cap ad 1 c [u] (by simp [hsize]) hnews hone hroom hsome (fun j _ => frozen_of_row w g _ cur e hg)
      rw [setCells_one] at hrun
      refine ⟨_,_,hrun,⟨by simp [hrow.1],.inr ⟨g,o,cap,cur.setIfInBounds (o + n) u,rfl,hb,?_,hroom,hm,by simpa using hs,fun j x hx => ?_⟩⟩,?_,fun k hk => .inl hk⟩
      · rw [hsize,Nat.mul_one]
        exact heap_setCell_same w g (o + n) cur e u hg
      · have hxl := hrow.1
        rcases Nat.lt_or_ge j xs.length with h | h
        · rw [List.getElem?_append_left h] at hx
          rw [Array.getElem?_setIfInBounds_ne (by omega)]
          exact hxs j x hx
        · rw [List.getElem?_append_right h] at hx
          have : j = n := by have := (List.getElem?_eq_some_iff.1 hx).1; simp at this; omega
          subst this
          rw [hxl,Nat.sub_self] at hx
          simp at hx
          subst hx
          rw [Array.getElem?_setIfInBounds_self_of_lt (by omega)]
      · exact ⟨rfl,rfl,rfl,by simp,fun k hk hne => Below.heap_setCell w _ u k (by simp [Value.ownBlock] at hne ⊢; omega)⟩
    · have hlt : g < w.heap.size := (Array.getElem?_eq_some_iff.1 hg).1
      obtain ⟨v',w',hrun,h2,h3⟩ := run_append_arg_grows (P := P) w t ty e i z 1 bytes ht hi hz hsize hby hzs (by omega) ⟨g,o,none⟩ n cap xs (by rw [hrow.1,Nat.mul_one]) (fun j x hx => by
        rw [add_flat,cell_of_row w g _ cur e (0,0) hg]; exact hxs j x hx) ad 1 c [u] rfl hnews (by omega) h63 hbytes
      exact ⟨v',w',hrun,(Row.of_own h2).more hbase,⟨h3.os,h3.tape,h3.output,h3.size,fun k hk _ => h3.block k hk (by simp)⟩,fun k hk => .inr ((Row.of_own h2).lt k hk).1⟩
end
end Go.Proofs.YthcjnkakfpmpbaaDoor
namespace Go.Proofs.YthcjnkakfpmpbaaDoor
open Go.RowKit
set_option linter.unusedVariables false
def blkOf (A : Option Addr) (c : Nat) : Option Nat := if c = 0 then none else A.map (·.block)
def Kept (w : World) (base : Nat) (e : TypeId) (sz : Nat) (A : Option Addr) (n c : Nat) (cs : List Value) : Prop :=
  cs.length = n * sz ∧ ((c = 0 ∧ n = 0) ∨
    ∃ g cur,A = some ⟨g,0,none⟩ ∧ base ≤ g ∧ w.heap[g]? = some (.cells cur e (0,0)) ∧ 0 < c ∧ n ≤ c ∧ c ≤ maxLen ∧ c * sz ≤ cur.size ∧ cur.toList.take (n * sz) = cs)
section
variable {w w' : World} {base sz n c : Nat} {e : TypeId} {A : Option Addr} {cs : List Value}
theorem Kept.of_own (h : w.ownsRow base e sz (.slice A n c) n cs) : Kept w base e sz A n c cs := by
  refine ⟨h.1,?_⟩
  rcases h.2 with ⟨hv,h0⟩ | ⟨g,cap,cur,hv,h2,h3,h4,h5,h6,h7⟩
  · injection hv with _ _ hc
    exact .inl ⟨hc,h0⟩
  · injection hv with h1 _ hc
    subst h1
    subst hc
    rcases Nat.eq_zero_or_pos c with h0 | h0
    · exact .inl ⟨h0,by omega⟩
    · exact .inr ⟨g,cur,rfl,h2,h3,h0,h4,h5,Nat.le_of_eq h6.symm,h7⟩
theorem Kept.cut (h : w.ownsRow base e sz (.slice A n c) n cs) : Kept w base e sz A n n cs := by
  refine ⟨h.1,?_⟩
  rcases h.2 with ⟨hv,h0⟩ | ⟨g,cap,cur,hv,h2,h3,h4,h5,h6,h7⟩
  · exact .inl ⟨h0,h0⟩
  · injection hv with h1 _ hc
    subst h1
    subst hc
    rcases Nat.eq_zero_or_pos n with h0 | h0
    · exact .inl ⟨h0,h0⟩
    · exact .inr ⟨g,cur,rfl,h2,h3,h0,Nat.le_refl _,Nat.le_trans h4 h5,h6 ▸ Nat.mul_le_mul_right _ h4,h7⟩
theorem Kept.more (h : Kept w base e sz A n c cs) {base' : Nat} (hb : base' ≤ base) : Kept w base' e sz A n c cs :=
  ⟨h.1,h.2.imp id fun ⟨g,cur,h1,h2,h3⟩ => ⟨g,cur,h1,Nat.le_trans hb h2,h3⟩⟩
theorem Kept.lt (h : Kept w base e sz A n c cs) : ∀ k,blkOf A c = some k → base ≤ k ∧ k < w.heap.size := by
  intro k hk
  rcases h.2 with ⟨rfl,_⟩ | ⟨g,cur,rfl,hb,hg,hc,_⟩
  · simp [blkOf] at hk
  · have h0 : ¬ c = 0 := by omega
    simp [blkOf,h0] at hk
    subst hk
    exact ⟨hb,(Array.getElem?_eq_some_iff.1 hg).1⟩
theorem Kept.keep (h : Kept w base e sz A n c cs) (hk : ∀ k,blkOf A c = some k → w'.heap[k]? = w.heap[k]?) : Kept w' base e sz A n c cs := by
  refine ⟨h.1,?_⟩
  rcases h.2 with hn | ⟨g,cur,rfl,hb,hg,hc,rest⟩
  · exact .inl hn
  · have h0 : ¬ c = 0 := by omega
    exact .inr ⟨g,cur,rfl,hb,(hk g (by simp [blkOf,h0])).trans hg,hc,rest⟩
theorem Kept.sl (h : Kept w base e sz A n c cs) : Sl w w.heap.size sz A n cs := by
  refine ⟨h.1,fun hn => ?_⟩
  rcases h.2 with ⟨_,h0⟩ | ⟨g,cur,rfl,_,hg,_,_,_,_,ht⟩
  · omega
  · refine ⟨g,0,rfl,(Array.getElem?_eq_some_iff.1 hg).1,fun j u hu => ?_⟩
    rw [cell_of_row w g (0 + j) cur e (0,0) hg]
    rw [← ht,List.getElem?_take] at hu
    split at hu
    · simpa using hu
    · cases hu
theorem Kept.le (h : Kept w base e sz A n c cs) : n ≤ c ∧ c ≤ maxLen := by
  rcases h.2 with ⟨rfl,rfl⟩ | ⟨g,cur,rfl,_,_,_,h1,h2,_⟩
  · exact ⟨Nat.le_refl _,Nat.zero_le _⟩
  · exact ⟨h1,h2⟩
end
structure Ent where
  A : Option Addr
  n : Nat
  c : Nat
  cs : List Value
  A' : Option Addr
  c' : Nat
def Ent.v (x : Ent) : Value := .slice x.A x.n x.c
def Ent.was (x : Ent) : Value := .slice x.A' x.n x.c'
def EntOk (w : World) (base : Nat) (e : TypeId) (sz : Nat) (x : Ent) : Prop := Kept w base e sz x.A x.n x.c x.cs ∧ Kept w base e sz x.A' x.n x.c' x.cs
structure Bk (w : World) (tB tS e : TypeId) (sz gB : Nat) (v1 v2 : Value) (n1 n2 : Nat) (xs1 xs2 : List Value) (h : Int) (es : List Ent) : Prop where
  blk : Blk w gB tB [v1,v2,.int .i64 h,.bool false]
  lists : Row w (gB + 1) tS v1 n1 xs1
  was : Row w (gB + 1) tS v2 n2 xs2
  ents : ∀ x ∈ es,EntOk w (gB + 1) e sz x
  rows : ∀ k,v1.ownBlock = some k → v2.ownBlock ≠ some k
  off : ∀ x ∈ es,∀ k,blkOf x.A x.c = some k ∨ blkOf x.A' x.c' = some k → v1.ownBlock ≠ some k ∧ v2.ownBlock ≠ some k
  apart : es.Pairwise fun x y => ∀ k,blkOf x.A x.c = some k → blkOf y.A y.c ≠ some k
structure BFr (gB : Nat) (o1 o2 : Option Nat) (w : World) (o1' o2' : Option Nat) (w' : World) : Prop where
  os : w'.os = w.os
  tape : w'.tape = w.tape
  output : w'.output = w.output
  size : w.heap.size ≤ w'.heap.size
  block : ∀ k,k < w.heap.size → k ≠ gB → o1 ≠ some k → o2 ≠ some k → w'.heap[k]? = w.heap[k]?
  own : ∀ k,k < w.heap.size → o1' = some k ∨ o2' = some k → o1 = some k ∨ o2 = some k
section
variable {gB : Nat} {o1 o2 o1' o2' o1'' o2'' : Option Nat} {w w' w'' : World}
theorem BFr.refl (gB : Nat) (o1 o2 : Option Nat) (w : World) : BFr gB o1 o2 w o1 o2 w := ⟨rfl,rfl,rfl,Nat.le_refl _,fun _ _ _ _ _ => rfl,fun _ _ h => h⟩
theorem BFr.trans (h : BFr gB o1 o2 w o1' o2' w') (h' : BFr gB o1' o2' w' o1'' o2'' w'') : BFr gB o1 o2 w o1'' o2'' w'' where
  os := h'.os.trans h.os
  tape := h'.tape.trans h.tape
  output := h'.output.trans h.output
  size := Nat.le_trans h.size h'.size
  block := fun k hk h0 h1 h2 => by
    have hn : ∀ o,o = o1' ∨ o = o2' → o ≠ some k := fun o ho e => by
      have := h.own k hk (by rcases ho with rfl | rfl <;> simp [e])
      rcases this with e1 | e1
      · exact h1 e1
      · exact h2 e1
    exact (h'.block k (Nat.lt_of_lt_of_le hk h.size) h0 (hn _ (.inl rfl)) (hn _ (.inr rfl))).trans (h.block k hk h0 h1 h2)
  own := fun k hk ho => h.own k hk (h'.own k (Nat.lt_of_lt_of_le hk h.size) ho)
theorem BFr.below (h : BFr gB o1 o2 w o1' o2' w') (h1 : ∀ k,o1 = some k → gB ≤ k) (h2 : ∀ k,o2 = some k → gB ≤ k) (hz : gB ≤ w.heap.size) : Below gB w w' :=
  ⟨h.os,h.tape,h.output,h.size,fun k hk => h.block k (by omega) (by omega) (fun e => by have := h1 k e; omega) (fun e => by have := h2 k e; omega)⟩
theorem BFr.drewN (h : BFr gB o1 o2 w o1' o2' w') (n : Nat) : BFr gB o1 o2 w o1' o2' (w'.drewN n) := ⟨h.os,h.tape,h.output,h.size,h.block,h.own⟩
theorem BFr.alloc (h : BFr gB o1 o2 w o1' o2' w') (o : Obj) : BFr gB o1 o2 w o1' o2' (w'.alloc o) :=
  h.trans ⟨rfl,rfl,rfl,by simp,fun k hk _ _ _ => Below.heap_alloc w' o k hk,fun _ _ h => h⟩
end
section
variable {w w' : World} {tB tS e : TypeId} {sz gB : Nat} {v1 v2 : Value} {n1 n2 : Nat} {xs1 xs2 : List Value} {h : Int} {es : List Ent}
def Bk.Used (gB : Nat) (v1 v2 : Value) (es : List Ent) (k : Nat) : Prop :=
  k = gB ∨ v1.ownBlock = some k ∨ v2.ownBlock = some k ∨ ∃ x ∈ es,blkOf x.A x.c = some k ∨ blkOf x.A' x.c' = some k
theorem Bk.used_lt (b : Bk w tB tS e sz gB v1 v2 n1 n2 xs1 xs2 h es) {k : Nat} (hk : Bk.Used gB v1 v2 es k) : gB ≤ k ∧ k < w.heap.size := by
  rcases hk with rfl | h1 | h2 | ⟨x,hx,h3 | h3⟩
  · exact ⟨Nat.le_refl _,b.blk.lt⟩
  · have := b.lists.lt k h1; omega
  · have := b.was.lt k h2; omega
  · have := (b.ents x hx).1.lt k h3; omega
  · have := (b.ents x hx).2.lt k h3; omega
theorem Bk.keep (b : Bk w tB tS e sz gB v1 v2 n1 n2 xs1 xs2 h es) (hk : ∀ k,Bk.Used gB v1 v2 es k → w'.heap[k]? = w.heap[k]?) : Bk w' tB tS e sz gB v1 v2 n1 n2 xs1 xs2 h es where
  blk := (hk gB (.inl rfl)).trans b.blk
  lists := b.lists.keep fun k e => hk k (.inr (.inl e))
  was := b.was.keep fun k e => hk k (.inr (.inr (.inl e)))
  ents := fun x hx => ⟨(b.ents x hx).1.keep fun k e => hk k (.inr (.inr (.inr ⟨x,hx,.inl e⟩))),(b.ents x hx).2.keep fun k e => hk k (.inr (.inr (.inr ⟨x,hx,.inr e⟩)))⟩
  rows := b.rows
  off := b.off
  apart := b.apart
theorem Bk.below (b : Bk w tB tS e sz gB v1 v2 n1 n2 xs1 xs2 h es) (hb : Below w.heap.size w w') : Bk w' tB tS e sz gB v1 v2 n1 n2 xs1 xs2 h es :=
  b.keep fun k hk => hb.block k (b.used_lt hk).2
theorem Bk.alloc (b : Bk w tB tS e sz gB v1 v2 n1 n2 xs1 xs2 h es) (o : Obj) : Bk (w.alloc o) tB tS e sz gB v1 v2 n1 n2 xs1 xs2 h es := b.keep fun k hk => Below.heap_alloc w o k (b.used_lt hk).2
theorem Bk.drewN (b : Bk w tB tS e sz gB v1 v2 n1 n2 xs1 xs2 h es) (n : Nat) : Bk (w.drewN n) tB tS e sz gB v1 v2 n1 n2 xs1 xs2 h es := b.keep fun k hk => rfl
theorem Bk.drew (b : Bk w tB tS e sz gB v1 v2 n1 n2 xs1 xs2 h es) : Bk w.drew tB tS e sz gB v1 v2 n1 n2 xs1 xs2 h es := b.keep fun k hk => rfl
theorem Bk.set_ (b : Bk w tB tS e sz gB v1 v2 n1 n2 xs1 xs2 h es) {v1' v2' : Value} {h' : Int} (i : Nat) (u : Value)
    (hs : [v1,v2,Value.int .i64 h,.bool false].set i u = [v1',v2',.int .i64 h',.bool false]) {m1 m2 : Nat} {ys1 ys2 : List Value}
    (r1 : Row w (gB + 1) tS v1' m1 ys1) (r2 : Row w (gB + 1) tS v2' m2 ys2) (e1 : v1'.ownBlock = v1.ownBlock) (e2 : v2'.ownBlock = v2.ownBlock) :
    Bk (w.setCell ⟨gB,i,none⟩ u) tB tS e sz gB v1' v2' m1 m2 ys1 ys2 h' es where
  blk := hs ▸ b.blk.set_ i u
  lists := r1.keep fun k hk => Below.heap_setCell w _ u k (by have := r1.lt k hk; simp; omega)
  was := r2.keep fun k hk => Below.heap_setCell w _ u k (by have := r2.lt k hk; simp; omega)
  ents := fun x hx => ⟨(b.ents x hx).1.keep fun k hk => Below.heap_setCell w _ u k (by have := (b.ents x hx).1.lt k hk; simp; omega),(b.ents x hx).2.keep fun k hk => Below.heap_setCell w _ u k (by have := (b.ents x hx).2.lt k hk; simp; omega)⟩
  rows := by rw [e1,e2]; exact b.rows
  off := by rw [e1,e2]; exact b.off
  apart := b.apart
theorem Bk.add (b : Bk w tB tS e sz gB v1 v2 n1 n2 xs1 xs2 h es) {x : Ent} (hx : EntOk w (gB + 1) e sz x) (h1 : ∀ k,blkOf x.A x.c = some k → ¬ Bk.Used gB v1 v2 es k)
    (h2 : ∀ k,blkOf x.A' x.c' = some k → v1.ownBlock ≠ some k ∧ v2.ownBlock ≠ some k) : Bk w tB tS e sz gB v1 v2 n1 n2 xs1 xs2 h (es ++ [x]) where
  blk := b.blk
  lists := b.lists
  was := b.was
  ents := fun y hy => by
    rcases List.mem_append.1 hy with hy | hy
    · exact b.ents y hy
    · obtain rfl := List.mem_singleton.1 hy; exact hx
  rows := b.rows
  off := fun y hy k hk => by
    rcases List.mem_append.1 hy with hy | hy
    · exact b.off y hy k hk
    · obtain rfl := List.mem_singleton.1 hy
      rcases hk with hk | hk
      · exact ⟨fun e => h1 k hk (.inr (.inl e)),fun e => h1 k hk (.inr (.inr (.inl e)))⟩
      · exact h2 k hk
  apart := by
    refine List.pairwise_append.2 ⟨b.apart,List.pairwise_singleton _ _,fun y hy z hz k hk hk' => ?_⟩
    obtain rfl := List.mem_singleton.1 hz
    exact h1 k hk' (.inr (.inr (.inr ⟨y,hy,.inl hk⟩)))
end
def Book (w : World) (tB tS e : TypeId) (sz gB : Nat) (A1 : Option Addr) (c1 : Nat) (A2 : Option Addr) (c2 : Nat) (h : Int) (es : List Ent) : Prop :=
  Bk w tB tS e sz gB (.slice A1 es.length c1) (.slice A2 es.length c2) es.length es.length (es.map Ent.v) (es.map Ent.was) h es
end Go.Proofs.YthcjnkakfpmpbaaDoor
