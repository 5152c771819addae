/- The walk of All: instructions' bytes, one behind the other. Conditions: at most 2^40 instructions. -/
import Derived.Test.YtfplkmldleigpaaDoorE2k
import Derived.Test.YtfplkmldleigpaaDoorO3
namespace Go.Proofs.YtfplkmldleigpaaDoor
open Go.RowKit
set_option linter.unusedVariables false
set_option linter.unusedSimpArgs false

def Ins.chk (i : Ins) : Int := checkR i.op i.a i.b i.n i.f
def Ins.enc (i : Ins) : List UInt8 := encR i.op i.a i.b i.n i.f
def encAll (l : List Ins) : List UInt8 := l.flatMap Ins.enc
def insCells (l : List Ins) : List Value := l.flatMap Ins.cells
def I32 (x : Int) : Prop := -2147483648 ≤ x ∧ x ≤ 2147483647

theorem flat5 {α β : Type} (f : α → List β) (h : ∀ x, (f x).length = 5) : ∀ (l : List α) (k : Nat) (x : α), l[k]? = some x → ∀ j, j < 5 → (l.flatMap f)[k * 5 + j]? = (f x)[j]?
  | [], k, x, hk, _, _ => by simp at hk
  | y :: r, 0, x, hk, j, hj => by
    simp at hk
    subst hk
    rw [List.flatMap_cons, Nat.zero_mul, Nat.zero_add, List.getElem?_append_left (by rw [h]; exact hj)]
  | y :: r, k + 1, x, hk, j, hj => by
    rw [List.flatMap_cons, List.getElem?_append_right (by rw [h]; omega), h, show (k + 1) * 5 + j - 5 = k * 5 + j by omega]
    exact flat5 f h r k x (by simpa using hk) j hj
theorem ins_at {W : World} {b o : Nat} {l : List Ins} (h : Has W b o (insCells l)) {k : Nat} {i : Ins} (hk : l[k]? = some i) :
    W.cell? ⟨b, o + k * 5, none⟩ = some (.int .i64 i.op) ∧ W.cell? ⟨b, o + k * 5 + 1, none⟩ = some (.int .i64 i.a) ∧ W.cell? ⟨b, o + k * 5 + 2, none⟩ = some (.int .i64 i.b) ∧ W.cell? ⟨b, o + k * 5 + 3, none⟩ = some (.int .i32 i.n) ∧ W.cell? ⟨b, o + k * 5 + 4, none⟩ = some (.int .i64 i.f) := by
  have c : ∀ j v, j < 5 → i.cells[j]? = some v → W.cell? ⟨b, o + k * 5 + j, none⟩ = some v := by
    intro j v hj hv
    have := h (k * 5 + j) v (by rw [insCells, flat5 Ins.cells (fun _ => rfl) l k i hk j hj]; exact hv)
    rwa [← Nat.add_assoc] at this
  exact ⟨c 0 _ (by omega) rfl, c 1 _ (by omega) rfl, c 2 _ (by omega) rfl, c 3 _ (by omega) rfl, c 4 _ (by omega) rfl⟩
theorem take_all {l : List Ins} {k : Nat} {x : Ins} (h : ∀ j ∈ l.take k, j.chk = 0) (hx : l[k]? = some x) (hp : x.chk = 0) : ∀ j ∈ l.take (k + 1), j.chk = 0 := by
  rw [List.take_add_one, hx]
  intro j hj
  simp only [List.mem_append, Option.toList_some, List.mem_singleton] at hj
  rcases hj with hj | rfl
  · exact h j hj
  · exact hp
theorem encAll_take {l : List Ins} {k : Nat} {i : Ins} (h : l[k]? = some i) : encAll (l.take (k + 1)) = encAll (l.take k) ++ i.enc := by
  rw [List.take_add_one, h]
  simp [encAll]
theorem enc_le {i : Ins} (h : i.chk = 0) : i.enc.length ≤ 6 := (encR_len h).2
theorem encAll_le : ∀ (l : List Ins), (∀ i ∈ l, i.chk = 0) → (encAll l).length ≤ 6 * l.length
  | [], _ => by simp [encAll]
  | i :: r, h => by
    have h1 := enc_le (h i (by simp))
    have h2 := encAll_le r (fun j hj => h j (by simp [hj]))
    simp only [encAll, List.flatMap_cons, List.length_append, List.length_cons] at *
    omega
theorem own_below {w w' : World} {base sz n : Nat} {e : TypeId} {v : Value} {cs : List Value} (h : w.ownsRow base e sz v n cs) (hb : Below w.heap.size w w') : w'.ownsRow base e sz v n cs := by
  refine ⟨h.1, ?_⟩
  rcases h.2 with h0 | ⟨g, cap, cur, hv, hg, hh, h1⟩
  · exact .inl h0
  · exact .inr ⟨g, cap, cur, hv, hg, (hb.block g (Array.getElem?_eq_some_iff.1 hh).1).trans hh, h1⟩
/-- what All hands out -/
def GivesAll (W : World) (l : List UInt8) (e : Ending) (w' : World) : Prop :=
  ∃ A n c, e = .returned (.tuple #[.slice A n c, .int .i64 0, .int .i64 0]) ∧ n ≤ c ∧ w'.ownsRow W.heap.size 5 1 (.slice A n c) n (bs l) ∧ Below W.heap.size W w'

set_option maxHeartbeats 2000000 in
theorem all_gen (l : List Ins) (A0 : Option Addr) (n0 c0 : Nat) (w : World) (hT : TabIs 0 w) (hl : l.length = n0) (hs : Sl w w.heap.size 5 A0 n0 (insCells l)) (hn0 : n0 ≤ 1099511627776) (hn : ∀ i ∈ l, I32 i.n) :
    Calls Tryd.prog 38 #[.slice A0 n0 c0] w fun e w' =>
      ((∀ i ∈ l, i.chk = 0) ∧ GivesAll w (encAll l) e w') ∨
      (∃ k i, l[k]? = some i ∧ (∀ j ∈ l.take k, j.chk = 0) ∧ i.chk ≠ 0 ∧ e = .returned (.tuple #[.slice none 0 0, .int .i64 k, .int .i64 i.chk]) ∧ Below w.heap.size w w') := by
  obtain ⟨i0, hi0, hk0, hk1, hk2⟩ := info_parts u8_info
  have HP := Lib.hid hn
  clear hn
  go_enter Tryd.func38, Tryd.ntmps38
  go_wp2
  go_loopw [5, 12] (fun out i wr => ∃ (k m : Nat) (A : Option Addr) (c : Nat), i = .int .i64 k ∧ k ≤ n0 ∧ out = .slice A m c ∧ m ≤ c ∧ m ≤ 6 * k ∧ wr.ownsRow w.heap.size 5 1 (.slice A m c) m (bs (encAll (l.take k))) ∧ Below w.heap.size w wr ∧ Hid (∀ j ∈ l.take k, j.chk = 0)) (fun _ i _ => n0 - (intOf i).toNat)
  case atStart => exact ⟨0, 0, none, 0, rfl, Nat.zero_le _, rfl, Nat.le_refl _, by omega, own_nil _ _ _ _, Below.refl _ _, Lib.hid (by simp)⟩
  case round =>
    obtain ⟨k, m, A, c, rfl, hk, rfl, hmc, hm6, hown, hbr, hok⟩ := hrel
    have hzr := hbr.size
    have hTr := hT.grow hbr
    by_cases hlt : k < n0
    · obtain ⟨x, hx⟩ : ∃ x, l[k]? = some x := ⟨l[k]'(by omega), List.getElem?_eq_getElem (by omega)⟩
      have hxn : I32 x.n := HP.out x (List.mem_of_getElem? hx)
      obtain ⟨b0, o0, rfl, hb0, hhas⟩ := hs.at_ (by omega)
      have hI : (k : Int) < n0 := by omega
      obtain ⟨hc0, hc1, hc2, hc3, hc4⟩ := ins_at (hhas.keep fun i => (bcell hbr).1 b0 i hb0) hx
      obtain ⟨op, a, b, n, f⟩ := x
      simp only at hc0 hc1 hc2 hc3 hc4 hxn
      by_cases hC : checkR op a b n f = 0
      · have HE := Lib.hid (fun w hT => encode_yes op a b n f w hT hxn hC)
        have HX := Lib.hid hx
        have HC := Lib.hid hC
        have hL6 : (encR op a b n f).length ≤ 6 := (encR_len hC).2
        clear hx hC
        have hET := encAll_take HX.out
        simp only [Ins.enc] at hET
        have HET := Lib.hid hET
        clear hET
        generalize encR op a b n f = E at *
        go_wp2_with (first
          | (go_at_call 34; refine (HE.out _ (hTr.alloc _)).mono ?_; rintro e w2 ⟨A2, n2, c2, rfl, hc2', hs2, hb2⟩; have hl2 := hs2.len; rw [bs_length, Nat.mul_one] at hl2; have hz2 : wr.heap.size < w2.heap.size := (by have := hb2.size; simp at this; omega); have hown2 := own_below (hown.alloc _) hb2)
          | (at_builtin
             refine wpList_app _ rfl (.tmp 26) (.tmp 27) _ rfl w.heap.size 5 i0 _ 1 1 Tryd.underlying55 hi0 hk0 hk1 hk2 rfl (by omega) (.slice A m c) m (bs (encAll (l.take k))) rfl hown2 w2.heap.size A2 n2 c2 (bs E) rfl hs2 (bs_one _) (by unfold maxLen; omega) (by omega) (by omega) (m + n2) rfl (bs (encAll (l.take (k + 1)))) (by rw [HET.out, bs_append]) ?_
             intro A3 c3 w3 hc3 hown3 hg3 _
             have hb3 : Below w.heap.size w w3 := below_app ((hbr.alloc hzr _).trans (hb2.mono (by simp; omega))) hown2 hg3 (by omega)))
        go_roundw
        case rel => exact ⟨k + 1, m + n2, A3, c3, by go_num, by omega, rfl, hc3, by omega, hown3, hb3, Lib.hid (take_all hok.out HX.out HC.out)⟩
        case measure => simp [intOf]; omega
      · have HE := Lib.hid (fun w hT => encode_no op a b n f w hT hxn hC)
        have HX := Lib.hid hx
        have hC1 : (checkR op a b n f != 0) = true := by simpa using hC
        have HC := Lib.hid (show ({ op := op, a := a, b := b, n := n, f := f } : Ins).chk = checkR op a b n f from rfl)
        have HC2 := Lib.hid hC
        clear hx hC
        generalize checkR op a b n f = C at *
        go_wp2_with (go_at_call 34; refine (HE.out _ (hTr.alloc _)).mono ?_; rintro e w2 ⟨rfl, hb2⟩)
        refine bodyPost_ret (v := .tuple #[.slice none 0 0, .int .i64 k, .int .i64 C]) (by simp [results, Tryd.results38, go_sem]) rfl (Or.inr ⟨k, _, HX.out, hok.out, by rw [HC.out]; exact HC2.out, by rw [HC.out], (hbr.alloc hzr _).trans (hb2.mono (by simp; omega))⟩)
    · obtain rfl : k = n0 := by omega
      go_wp2
      have hfull : l.take k = l := List.take_of_length_le (by omega)
      rw [hfull] at hown hok
      exact bodyPost_ret (v := .tuple #[.slice A m c, .int .i64 0, .int .i64 0]) (by simp [results, Tryd.results38, go_sem]) rfl (Or.inl ⟨hok.out, A, m, c, rfl, hmc, hown, hbr⟩)
end Go.Proofs.YtfplkmldleigpaaDoor
