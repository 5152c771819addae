/- From the form's readings of the arguments to the words of the walks; sizes. No condition. -/
import Derived.Test.YtfplkmldleigpaaDoorRows
import Derived.Test.YtfplkmldleigpaaDoorM1
import Derived.ProofKit
import Derived.OpenShut
import Derived.ShutString
import Derived.ChangeOld
import Derived.SizedLaws
import Derived.Deep.DeepHandedRow
namespace Go.Proofs.YtfplkmldleigpaaDoor
open Go.ChangeShapes Go.WideShapes Go.ChangeAt Go.RowKit
set_option linter.unusedVariables false

section
variable {H : Type} {enc : TypeId × Value → H} {P : Program} {W : World}

/-- the numbers of a row of bytes -/
theorem bytes_of_nums : ∀ zs : List Int, (∀ n ∈ zs, (Lit.int .u8 n).wf = true) → ∃ l : List UInt8, zs = l.map fun x => (x.toNat : Int)
  | [], _ => ⟨[], rfl⟩
  | z :: r, h => by
    obtain ⟨l, hl⟩ := bytes_of_nums r fun n hn => h n (List.mem_cons_of_mem _ hn)
    have hz := bounds_u8 (h z List.mem_cons_self)
    refine ⟨UInt8.ofNat z.toNat :: l, ?_⟩
    rw [hl, List.map_cons, UInt8.toNat_ofNat']
    congr 1
    omega

/-- a slice of bytes among the arguments -/
theorem open_bytes {t e : TypeId} {A : Option Addr} {n c : Nat} {d : DataW H} {p : List MemPlace} (ht : P.underlying t = some (.slice e)) (he : P.underlying e = some (.int .u8)) (hc : P.cellsOf e = 1)
    (h : DataW.Trod enc P W 0 (fun _ => true) true t (.slice A n c) d p) :
    ∃ l : List UInt8, Sl W W.heap.size 1 A n (bs l) ∧ n ≤ c ∧ n ≤ maxLen ∧ (d = .nil ∧ n = 0 ∨ ∃ elems spare, d = .slice elems spare ∧ elems.length = n) := by
  obtain ⟨fuel, hf⟩ := h
  rcases open_ints ht he hc hf with ⟨hcs, hx⟩ | ⟨a, len, cap, zs, hcs, _, hl, hm, hz, hx, hcell, hwz⟩
  · simp [Value.cells] at hcs
    obtain ⟨rfl, rfl, rfl⟩ := hcs
    simp only [Prod.mk.injEq] at hx
    exact ⟨[], Sl.nil_ _ _ _ _, Nat.le_refl _, Nat.zero_le _, .inl ⟨hx.1, rfl⟩⟩
  · simp [Value.cells] at hcs
    obtain ⟨rfl, rfl, rfl⟩ := hcs
    simp only [if_true] at hz
    simp only [Prod.mk.injEq] at hx
    obtain ⟨l, rfl⟩ := bytes_of_nums zs hwz
    simp only [List.length_map] at hz hcell
    refine ⟨l.take n, ⟨by simp [bs_length, hz]; omega, fun hn => ?_⟩, hl, by omega, .inr ⟨_, _, hx.1, by simp [lits, hz]; omega⟩⟩
    obtain ⟨b, o, spot⟩ := a
    have h0 := hcell 0 (by omega)
    have hspot : spot = none := by simpa [Addr.add] using World.cell?_spot h0
    subst hspot
    refine ⟨b, o, rfl, by simpa [Addr.add] using World.block_lt_of_cell? _ _ h0, fun j u hu => ?_⟩
    rw [bs_get] at hu
    obtain ⟨x, hx1, rfl⟩ := Option.map_eq_some_iff.1 hu
    rw [List.getElem?_take] at hx1
    split at hx1
    · have hj := hcell j (by omega)
      rw [add_flat] at hj
      rw [hj]
      simp [List.getD, hx1]
    · cases hx1
end

/-! ### sizes: what a reading of small bulk holds -/
theorem bulk_one {H : Type} (d : DataW H) : 1 ≤ Rows.uptoBulk d := by
  cases d with
  | lit l => cases l <;> simp [Rows.uptoBulk]
  | nil => simp [Rows.uptoBulk]
  | ptr d => simp [Rows.uptoBulk]
  | slice elems spare => simp [Rows.uptoBulk]
  | agg parts => simp [Rows.uptoBulk]
  | iface t d => simp [Rows.uptoBulk]
  | map entries => simp [Rows.uptoBulk]
  | held h => simp [Rows.uptoBulk]
theorem bulk_part {H : Type} {d : DataW H} {l : List (DataW H)} (h : d ∈ l) : Rows.uptoBulk d ≤ Rows.uptoBulkAll l := by
  induction l with
  | nil => cases h
  | cons x r ih =>
    simp only [Rows.uptoBulkAll]
    cases List.mem_cons.1 h with
    | inl e => subst e; omega
    | inr e => have := ih e; omega
theorem bulk_length {H : Type} (l : List (DataW H)) : l.length ≤ Rows.uptoBulkAll l := by
  induction l with
  | nil => simp [Rows.uptoBulkAll]
  | cons x r ih => have := bulk_one x; simp only [Rows.uptoBulkAll, List.length_cons]; omega
theorem bulk_slice {H : Type} (elems spare : List (DataW H)) : elems.length + 1 ≤ Rows.uptoBulk (.slice elems spare) := by
  have h1 := bulk_length elems
  simp only [Rows.uptoBulk]
  omega
theorem bulk_string {H : Type} (bytes : List UInt8) : Rows.uptoBulk (DataW.lit (H := H) (.string bytes)) = bytes.length + 1 := by simp [Rows.uptoBulk]
theorem bulk_bound {H : Type} {l : List (DataW H)} (hk : Rows.uptoSmall H l = true) : Rows.uptoBulkAll l ≤ 1048576 := by
  simp only [Rows.uptoSmall] at hk
  exact of_decide_eq_true hk

/-- how long a slice is, by its reading's bulk -/
theorem upto_slice {H : Type} {ds : List (DataW H)} (hk : Rows.uptoSmall H ds = true) {d : DataW H} (hd : d ∈ ds) {n : Nat} (h : d = .nil ∧ n = 0 ∨ ∃ elems spare, d = .slice elems spare ∧ elems.length = n) : n ≤ 1048576 := by
  rcases h with ⟨_, rfl⟩ | ⟨elems, spare, rfl, rfl⟩
  · omega
  · have h1 := bulk_part hd
    have h2 := bulk_slice elems spare
    have h3 := bulk_bound hk
    omega
theorem upto_string {H : Type} {ds : List (DataW H)} (hk : Rows.uptoSmall H ds = true) {s : ByteArray} (hd : DataW.lit (.string s.data.toList) ∈ ds) : s.size ≤ 1048576 := by
  have h1 := bulk_part hd
  rw [bulk_string] at h1
  have h3 := bulk_bound hk
  have : s.data.toList.length = s.size := by rw [Array.length_toList]; rfl
  omega
/-- how many bytes a slice takes, by the form's own reach -/
theorem reach_slice {H : Type} {P : Program} {ts : List TypeId} {ds : List (DataW H)} (hsz : (DataW.weightsEach P ts ds).all (· ≤ reachBytes) = true) {j : Nat} {t e : TypeId} {d : DataW H} (ht : ts[j]? = some t) (hd : ds[j]? = some d)
    (hu : P.underlying t = some (.slice e)) {n k : Nat} (hk : P.bytesOf e = k) (h : d = .nil ∧ n = 0 ∨ ∃ elems spare, d = .slice elems spare ∧ elems.length = n) : n * k ≤ 140737488351232 := by
  rcases h with ⟨_, rfl⟩ | ⟨elems, spare, rfl, rfl⟩
  · omega
  · have h1 := sized_slice hsz ht hd hu
    rw [hk] at h1
    have h2 : elems.length * k ≤ (elems.length + spare.length) * k := Nat.mul_le_mul_right _ (by omega)
    simp only [reachBytes] at h1
    omega
theorem reach_string {H : Type} {P : Program} {ts : List TypeId} {ds : List (DataW H)} (hsz : (DataW.weightsEach P ts ds).all (· ≤ reachBytes) = true) {j : Nat} {t : TypeId} {s : ByteArray} (ht : ts[j]? = some t) (hd : ds[j]? = some (.lit (.string s.data.toList))) : s.size ≤ 140737488351232 := by
  have h1 := sized_string hsz ht hd
  simp only [reachBytes] at h1
  have : s.data.toList.length = s.size := by rw [Array.length_toList]; rfl
  omega
end Go.Proofs.YtfplkmldleigpaaDoor
