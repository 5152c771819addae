import Derived.Test.YthcjnkakfpmpbaaDoorQ42
import Derived.Test.YthcjnkakfpmpbaaDoorQ27
namespace Go.Proofs.YthcjnkakfpmpbaaDoor
open Go.RowKit
set_option linter.unusedVariables false
set_option linter.unusedSimpArgs false
def Inv (wL : World) (V : Nat → Prop) (g1 g2 base : Nat) (K : List Value) (out st inp : List Int) (Kr : List Value) (out2 st2 inp2 : List Int) (B : Nat → Prop) (w : World) : Prop :=
  ∃ U1 U2 : Nat → Prop,MachE cpuL w U1 g1 base K out st inp ∧ MachE refL w U2 g2 base Kr out2 st2 inp2 ∧ (∀ x,U1 x → ¬ U2 x) ∧ (∀ x,U1 x ∨ U2 x → V x ∨ wL.heap.size ≤ x) ∧ KFr V wL w ∧
    (∀ x,B x → wL.heap.size ≤ x ∧ x < w.heap.size ∧ ¬ U1 x ∧ ¬ U2 x)
theorem KFr.then_below {V : Nat → Prop} {w w' w'' : World} (h : KFr V w w') (h' : Below w'.heap.size w' w'') : KFr V w w'' :=
  ⟨h'.os.trans h.os,h'.tape.trans h.tape,h'.output.trans h.output,Nat.le_trans h.size h'.size,fun k hk hu => (h'.block k (Nat.lt_of_lt_of_le hk h.size)).trans (h.block k hk hu)⟩
theorem KFr.then_step {V U : Nat → Prop} {w w' w'' : World} (h : KFr V w w') (h' : KFr U w' w'') (hU : ∀ x,U x → V x ∨ w.heap.size ≤ x) : KFr V w w'' :=
  ⟨h'.os.trans h.os,h'.tape.trans h.tape,h'.output.trans h.output,Nat.le_trans h.size h'.size,fun k hk hu => (h'.block k (Nat.lt_of_lt_of_le hk h.size) (fun hx => (hU k hx).elim hu fun h => by omega)).trans (h.block k hk hu)⟩
section
variable {wL w w' : World} {V : Nat → Prop} {g1 g2 base : Nat} {K Kr : List Value} {out st inp out2 st2 inp2 : List Int} {B : Nat → Prop}
theorem Inv.below (I : Inv wL V g1 g2 base K out st inp Kr out2 st2 inp2 B w) (h : Below w.heap.size w w') : Inv wL V g1 g2 base K out st inp Kr out2 st2 inp2 B w' := by
  obtain ⟨U1,U2,m1,m2,hd,hv,hf,hb⟩ := I
  exact ⟨U1,U2,m1.below h,m2.below h,hd,hv,hf.then_below h,fun x hx => ⟨(hb x hx).1,Nat.lt_of_lt_of_le (hb x hx).2.1 h.size,(hb x hx).2.2⟩⟩
theorem Inv.new (I : Inv wL V g1 g2 base K out st inp Kr out2 st2 inp2 B w) (o : Obj) : Inv wL V g1 g2 base K out st inp Kr out2 st2 inp2 (fun x => B x ∨ x = w.heap.size) (w.alloc o) := by
  obtain ⟨U1,U2,m1,m2,hd,hv,hf,hb⟩ := I
  have h : Below w.heap.size w (w.alloc o) := (Below.refl _ _).alloc (Nat.le_refl _) o
  refine ⟨U1,U2,m1.below h,m2.below h,hd,hv,hf.then_below h,fun x hx => ?_⟩
  rcases hx with hx | rfl
  · exact ⟨(hb x hx).1,Nat.lt_of_lt_of_le (hb x hx).2.1 h.size,(hb x hx).2.2⟩
  · refine ⟨hf.size,by simp,fun hu => ?_,fun hu => ?_⟩
    · have := (m1.ul _ hu).2; omega
    · have := (m2.ul _ hu).2; omega
theorem Inv.weak (I : Inv wL V g1 g2 base K out st inp Kr out2 st2 inp2 B w) {B' : Nat → Prop} (h : ∀ x,B' x → B x) : Inv wL V g1 g2 base K out st inp Kr out2 st2 inp2 B' w := by
  obtain ⟨U1,U2,m1,m2,hd,hv,hf,hb⟩ := I
  exact ⟨U1,U2,m1,m2,hd,hv,hf,fun x hx => hb x (h x hx)⟩
theorem Inv.set (I : Inv wL V g1 g2 base K out st inp Kr out2 st2 inp2 B w) {X : Nat} (hX : B X) : ∀ (vs : List Value) (o : Nat),Inv wL V g1 g2 base K out st inp Kr out2 st2 inp2 B (w.setCells X o vs) := by
  intro vs
  induction vs generalizing w with
  | nil => intro o; exact I
  | cons v r ih =>
    intro o
    refine ih (w := w.setCell ⟨X,o,none⟩ v) ?_ (o + 1)
    obtain ⟨U1,U2,m1,m2,hd,hv,hf,hb⟩ := I
    obtain ⟨x1,x2,x3,x4⟩ := hb X hX
    refine ⟨U1,U2,m1.keep (by simp) fun k hk => Below.heap_setCell w _ v k (fun e => x3 (by rw [← show k = X from e]; exact hk)),m2.keep (by simp) fun k hk => Below.heap_setCell w _ v k (fun e => x4 (by rw [← show k = X from e]; exact hk)),hd,hv,⟨hf.os,hf.tape,hf.output,by simp; exact hf.size,fun k hk hu => (Below.heap_setCell w _ v k (by show k ≠ X; omega)).trans (hf.block k hk hu)⟩,fun x hx => ?_⟩
    have := hb x hx
    exact ⟨this.1,by simp; exact this.2.1,this.2.2⟩
theorem Inv.belowBase (I : Inv wL V g1 g2 base K out st inp Kr out2 st2 inp2 B w) (hV : ∀ x,V x → base ≤ x) (hz : base ≤ wL.heap.size) : Below base wL w := by
  obtain ⟨U1,U2,m1,m2,hd,hv,hf,hb⟩ := I
  exact hf.below hV hz
theorem Inv.size (I : Inv wL V g1 g2 base K out st inp Kr out2 st2 inp2 B w) : wL.heap.size ≤ w.heap.size := by
  obtain ⟨U1,U2,m1,m2,hd,hv,hf,hb⟩ := I
  exact hf.size
theorem Inv.block (I : Inv wL V g1 g2 base K out st inp Kr out2 st2 inp2 B w) {x : Nat} (hx : x < wL.heap.size) (hv : ¬ V x) : w.heap[x]? = wL.heap[x]? := by
  obtain ⟨U1,U2,m1,m2,hd,_,hf,hb⟩ := I
  exact hf.block x hx hv
theorem Inv.do1 {out' st' inp' : List Int} {G : List Value → Prop} {V0 : Value} {args : Array Value} (I : Inv wL V g1 g2 base K out st inp Kr out2 st2 inp2 B w)
    (H : ∀ U,MachE cpuL w U g1 base K out st inp → Calls Tryd.prog 26 args w fun e w' => e = .returned V0 ∧ StepTo cpuL w U g1 base G out' st' inp' w') :
    Calls Tryd.prog 26 args w fun e w' => e = .returned V0 ∧ (∃ K',G K' ∧ Inv wL V g1 g2 base K' out' st' inp' Kr out2 st2 inp2 B w') ∧ (∀ x,B x → w'.heap[x]? = w.heap[x]?) ∧ w.heap.size ≤ w'.heap.size := by
  obtain ⟨U1,U2,m1,m2,hd,hv,hf,hb⟩ := I
  refine (H U1 m1).mono ?_
  rintro e w' ⟨rfl,hk,K',hG,m1'⟩
  refine ⟨rfl,⟨K',hG,Ext U1 w w',U2,m1',m2.keep hk.size fun k hu => hk.block k (m2.ul k hu).2 (fun h => hd k h hu),?_,?_,hf.then_step hk fun x hx => hv x (.inl hx),?_⟩,fun x hx => hk.block x (hb x hx).2.1 (hb x hx).2.2.1,hk.size⟩
  · rintro x (h | h) h2
    · exact hd x h h2
    · have := (m2.ul x h2).2; omega
  · rintro x ((h | h) | h)
    · exact hv x (.inl h)
    · exact .inr (Nat.le_trans hf.size h.1)
    · exact hv x (.inr h)
  · intro x hx
    obtain ⟨b1,b2,b3,b4⟩ := hb x hx
    exact ⟨b1,Nat.lt_of_lt_of_le b2 hk.size,fun h => h.elim b3 fun h => by omega,b4⟩
theorem Inv.do2 {out' st' inp' : List Int} {G : List Value → Prop} {V0 : Value} {args : Array Value} (I : Inv wL V g1 g2 base K out st inp Kr out2 st2 inp2 B w)
    (H : ∀ U,MachE refL w U g2 base Kr out2 st2 inp2 → Calls Tryd.prog 42 args w fun e w' => e = .returned V0 ∧ StepTo refL w U g2 base G out' st' inp' w') :
    Calls Tryd.prog 42 args w fun e w' => e = .returned V0 ∧ (∃ K',G K' ∧ Inv wL V g1 g2 base K out st inp K' out' st' inp' B w') ∧ (∀ x,B x → w'.heap[x]? = w.heap[x]?) ∧ w.heap.size ≤ w'.heap.size := by
  obtain ⟨U1,U2,m1,m2,hd,hv,hf,hb⟩ := I
  refine (H U2 m2).mono ?_
  rintro e w' ⟨rfl,hk,K',hG,m2'⟩
  refine ⟨rfl,⟨K',hG,U1,Ext U2 w w',m1.keep hk.size fun k hu => hk.block k (m1.ul k hu).2 (fun h => hd k hu h),m2',?_,?_,hf.then_step hk fun x hx => hv x (.inr hx),?_⟩,fun x hx => hk.block x (hb x hx).2.1 (hb x hx).2.2.2,hk.size⟩
  · rintro x h (h2 | h2)
    · exact hd x h h2
    · have := (m1.ul x h).2; omega
  · rintro x (h | (h | h))
    · exact hv x (.inl h)
    · exact hv x (.inr h)
    · exact .inr (Nat.le_trans hf.size h.1)
  · intro x hx
    obtain ⟨b1,b2,b3,b4⟩ := hb x hx
    exact ⟨b1,Nat.lt_of_lt_of_le b2 hk.size,b3,fun h => h.elim b4 fun h => by omega⟩
theorem Inv.cpu (I : Inv wL V g1 g2 base K out st inp Kr out2 st2 inp2 B w) : ∃ cells AT AS AI cT cS cI,(∃ U,Mach cpuL w U g1 base cells AT AS AI cT cS cI K out st inp) := by
  obtain ⟨U1,U2,⟨cells,AT,AS,AI,cT,cS,cI,m1⟩,_⟩ := I
  exact ⟨cells,AT,AS,AI,cT,cS,cI,U1,m1⟩
theorem Inv.ref (I : Inv wL V g1 g2 base K out st inp Kr out2 st2 inp2 B w) : ∃ cells AT AS AI cT cS cI,(∃ U,Mach refL w U g2 base cells AT AS AI cT cS cI Kr out2 st2 inp2) := by
  obtain ⟨U1,U2,_,⟨cells,AT,AS,AI,cT,cS,cI,m2⟩,_⟩ := I
  exact ⟨cells,AT,AS,AI,cT,cS,cI,U2,m2⟩
end
theorem depthM (w : World) (g n c : Nat) (A : Option Addr) (cells : List Value) (hB : Blk w g 119 cells) (hS : cells[268]? = some (.slice A n c)) :
    Calls Tryd.prog 39 #[.pointer (some ⟨g,0,none⟩)] w fun e w' => e = .returned (.int .i64 n) ∧ w = w' := by
  have q := (hB.cell 268).trans hS
  clear hB hS
  go_enter Tryd.func39,Tryd.ntmps39
  go_wp2_with fail
  go_ret
  exact ⟨rfl,rfl⟩
theorem trace_anyM (w : World) (g n c : Nat) (A : Option Addr) (cells : List Value) (base : Nat) (xs : List Int) (hB : Blk w g 119 cells) (hS : cells[269]? = some (.slice A n c)) (hr : Row w base 21 (.slice A n c) n (is32 xs)) (hn : n ≤ 1000000) :
    Calls Tryd.prog 35 #[.pointer (some ⟨g,0,none⟩)] w fun e w' => ∃ A c,e = .returned (.slice A n c) ∧ w'.ownsRow w.heap.size 21 1 (.slice A n c) n (is32 xs) ∧ Below w.heap.size w w' := by
  have q := (hB.cell 269).trans hS
  have hnil : A = none → n = 0 ∧ c = 0 := fun e => by
    rcases hr.2 with ⟨hv,h0⟩ | ⟨g',o,cap,cur,hv,_⟩
    · injection hv with _ _ h3; exact ⟨h0,h3⟩
    · injection hv with h3; rw [e] at h3; cases h3
  have hs := hr.sl
  have hone := is32_one xs
  clear hB hS hr
  go_enter Tryd.func35,Tryd.ntmps35
  go_wp2_with (first
    | (go_at_call 64; refine (clone_any A n c (is32 xs) w hs hone hn hnil).mono ?_; rintro e w1 ⟨A1,c1,rfl,hown1,hb1⟩)
    | fail)
  go_ret
  exact ⟨A1,c1,rfl,hown1,hb1⟩
def Kz : List Value := List.replicate 8 (.int .i32 0) ++ (List.replicate 4 (.complex .f64 0 0) ++ List.replicate 256 (.int .i32 0))
theorem kz_r (k : Nat) (h : k < 8) : Kz[k]? = some (.int .i32 0) := by
  unfold Kz
  rw [List.getElem?_append_left (by simp; omega),List.getElem?_replicate,if_pos h]
theorem kz_z (k : Nat) (h : k < 4) : Kz[8 + k]? = some (.complex .f64 0 0) := by
  unfold Kz
  rw [List.getElem?_append_right (by simp),List.getElem?_append_left (by simp; omega),List.getElem?_replicate,if_pos (by simp; omega)]
theorem kz_m (k : Nat) (h : k < 256) : Kz[12 + k]? = some (.int .i32 0) := by
  unfold Kz
  rw [List.getElem?_append_right (by first | (simp; done) | (simp; omega)),List.getElem?_append_right (by first | (simp; done) | (simp; omega)),List.getElem?_replicate,if_pos (by simp; omega)]
theorem kz_kr : KR Kz Kz := ⟨fun k h => ⟨0,by unfold In32; omega,kz_r k h,kz_r k h⟩,fun k h => ⟨0,0,0,0,ZR.refl _,ZR.refl _,kz_z k h,kz_z k h⟩,fun k h => ⟨0,by unfold In32; omega,kz_m k h,kz_m k h⟩⟩
theorem zeroC : Tryd.zeroCells119.toList = Kz ++ [.slice none 0 0,.slice none 0 0,.slice none 0 0] := by kernel_rfl
theorem zeroR : Tryd.zeroCells89.toList = Kz.take 12 ++ ([.slice none 0 0] ++ (Kz.drop 12 ++ [.slice none 0 0,.slice none 0 0])) := by kernel_rfl
theorem kz_len : Kz.length = 268 := by unfold Kz; rw [List.length_append,List.length_append,List.length_replicate,List.length_replicate,List.length_replicate]
theorem core_c (v : Value) : Core cpuL ((Tryd.zeroCells119.setIfInBounds 270 v).toList) Kz := by
  intro k hk
  show ((Tryd.zeroCells119.setIfInBounds 270 v).toList)[k]? = _
  rw [Array.toList_setIfInBounds,List.getElem?_set_ne (by omega),zeroC,List.getElem?_append_left (by rw [kz_len]; exact hk)]
theorem core_r (v : Value) : Core refL ((Tryd.zeroCells89.setIfInBounds 270 v).toList) Kz := by
  intro k hk
  by_cases h : k < 12
  · rw [lay_lo h,Array.toList_setIfInBounds,List.getElem?_set_ne (by omega),zeroR,List.getElem?_append_left (by rw [List.length_take,kz_len]; omega),List.getElem?_take,if_pos h]
  · obtain ⟨j,rfl⟩ : ∃ j,k = 12 + j := ⟨k - 12,by omega⟩
    rw [lay_hi,Array.toList_setIfInBounds,List.getElem?_set_ne (by omega),zeroR,List.getElem?_append_right (by rw [List.length_take,kz_len]; omega),List.length_take,kz_len,
      List.getElem?_append_right (by first | (simp; done) | (simp; omega)),List.getElem?_append_left (by rw [List.length_drop,kz_len]; first | (simp; done) | (simp; omega) | omega),List.getElem?_drop]
    congr 1
    simp
    omega
theorem cells_c (v : Value) : ((Tryd.zeroCells119.setIfInBounds 270 v).toList)[268]? = some (.slice none 0 0) ∧ ((Tryd.zeroCells119.setIfInBounds 270 v).toList)[269]? = some (.slice none 0 0) ∧ ((Tryd.zeroCells119.setIfInBounds 270 v).toList)[270]? = some v := by
  have hl : Tryd.zeroCells119.toList.length = 271 := by rw [zeroC,List.length_append,kz_len]; rfl
  refine ⟨?_,?_,?_⟩
  · rw [Array.toList_setIfInBounds,List.getElem?_set_ne (by omega),zeroC,List.getElem?_append_right (by rw [kz_len]; omega),kz_len]; rfl
  · rw [Array.toList_setIfInBounds,List.getElem?_set_ne (by omega),zeroC,List.getElem?_append_right (by rw [kz_len]; omega),kz_len]; rfl
  · rw [Array.toList_setIfInBounds,List.getElem?_set_self (by rw [hl]; omega)]
theorem cells_r (v : Value) : ((Tryd.zeroCells89.setIfInBounds 270 v).toList)[12]? = some (.slice none 0 0) ∧ ((Tryd.zeroCells89.setIfInBounds 270 v).toList)[269]? = some (.slice none 0 0) ∧ ((Tryd.zeroCells89.setIfInBounds 270 v).toList)[270]? = some v := by
  have hl : Tryd.zeroCells89.toList.length = 271 := by
    rw [zeroR]
    simp [kz_len]
  refine ⟨?_,?_,?_⟩
  · rw [Array.toList_setIfInBounds,List.getElem?_set_ne (by omega),zeroR,List.getElem?_append_right (by rw [List.length_take,kz_len]; omega),List.length_take,kz_len]; rfl
  · rw [Array.toList_setIfInBounds,List.getElem?_set_ne (by omega),zeroR,List.getElem?_append_right (by rw [List.length_take,kz_len]; omega),List.length_take,kz_len,List.getElem?_append_right (by first | (simp; done) | (simp; omega)),List.getElem?_append_right (by rw [List.length_drop,kz_len]; first | (simp; done) | (simp; omega) | omega),List.length_drop,kz_len]; rfl
  · rw [Array.toList_setIfInBounds,List.getElem?_set_self (by rw [hl]; omega)]
theorem mach_new {L : Lay} {w : World} {g base n c : Nat} {A : Option Addr} {cells : List Value} {inp : List Int} (lo : Nat) (hB : Blk w g L.t cells) (hc : Core L cells Kz) (h1 : cells[L.iT]? = some (.slice none 0 0)) (h2 : cells[L.iS]? = some (.slice none 0 0)) (h3 : cells[L.iI]? = some (.slice A n c)) (hn : n = inp.length)
    (hr : Row w lo 21 (.slice A n c) n (is32 inp)) (hne : ∀ k,Value.ownBlock (.slice A n c) = some k → k ≠ g) (hb : base ≤ lo) (hg : lo ≤ g) : MachE L w (fun k => lo ≤ k ∧ k < w.heap.size) g base Kz [] [] inp := by
  subst hn
  refine ⟨cells,none,none,A,0,0,c,hB,hc,h1,h2,h3,Row.nil_ _ _ _,Row.nil_ _ _ _,hr.more hb,⟨hg,hB.lt⟩,?_,?_,?_,?_,?_,?_,fun k h => ⟨Nat.le_trans hb h.1,h.2⟩⟩
  · intro k e; simp [Value.ownBlock] at e
  · intro k e; simp [Value.ownBlock] at e
  · exact fun k e => ⟨hr.lt k e,hne k e⟩
  · intro k e; simp [Value.ownBlock] at e
  · intro k e; simp [Value.ownBlock] at e
  · intro k e; simp [Value.ownBlock] at e
end Go.Proofs.YthcjnkakfpmpbaaDoor
