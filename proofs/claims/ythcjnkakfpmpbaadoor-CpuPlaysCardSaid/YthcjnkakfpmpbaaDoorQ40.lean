import Derived.Test.YthcjnkakfpmpbaaDoorQ36
namespace Go.Proofs.YthcjnkakfpmpbaaDoor
open Go.RowKit
set_option linter.unusedVariables false
set_option linter.unusedSimpArgs false
set_option maxRecDepth 20000 in
set_option maxHeartbeats 1000000 in
theorem both_nop (a b : Nat) (n f word from_ : Int) (mem : List UInt8) (K Kr : List Value) (out st inp : List Int) (hK : KR K Kr) (hn : In32 n) (hw : In32 word) (hf0 : 0 ≤ from_) (hf1 : from_ ≤ 1048576) (hst : ∀ x ∈ st,In32 x) (hin : ∀ x ∈ inp,In32 x) (hol : out.length ≤ 4096) (hsl : st.length ≤ 256) (hc : checkR 1 a b n f = 0)  : Both 1 a b n f word from_ mem K Kr out st inp := by
  have hr : regB 1 a b n = true := (show opShape 1 = 1 by kernel_rfl) ▸ (checkR_parts hc).2.1
  have hnm : opName 1 = [110,111,112] := by kernel_rfl
  have hsh : opShape 1 = 1 := by kernel_rfl
  refine ⟨(0,0,0),out,st,inp,fun K' => K' = K,fun K' => K' = Kr,?_,hst,hin,hol,hsl,?_,?_⟩
  · rintro _ _ rfl rfl; exact hK
  · rintro w U g base A m c ⟨cells,AT,AS,AI,cT,cS,cI,M⟩ hT htg hbw hSl hm
    have hB : Blk w g 119 cells := M.blk
    refine (do_goesA 1 (by decide) 1 f n word from_ a b _ (0) (0) (0) w g cells _ hT htg hB hn hc (by kernel_rfl) (Lib.hid fun W hT hB => goes_nop 1 b n f a W g cells hT htg hB hnm)).mono ?_
    rintro e w' ⟨rfl,h⟩
    exact ⟨rfl,M.to_same hbw h.mw.1 h.mw.2 rfl⟩
  · rintro w U g base A m c ⟨cells,AT,AS,AI,cT,cS,cI,M⟩ hbw hSl hm
    have hB : Blk w g 89 cells := M.blk
    refine (rdo_oneA 1 (by decide) 1 f n word from_ a b _ (0) (0) (0) (fun W w' => RW W g cells w') w g cells hB hn hc (by kernel_rfl) (Lib.hid fun W hbW => by
      rw [show (opName 1).toArray = #[110,111,112] by kernel_rfl]
      exact ro_nop 1 n f b word a W g cells (hB.below hbW hB.lt)) (Lib.hid fun W w' X h h1 h2 => RW.fr_at hB h h1 h2)).mono ?_
    rintro e w' ⟨rfl,W,w1,hbW,hZ,hl,rfl⟩
    exact ⟨rfl,M.to_same hbw (RW.after hB hbW hZ _).mw.1 (RW.after hB hbW hZ _).mw.2 rfl⟩
set_option maxRecDepth 20000 in
set_option maxHeartbeats 1000000 in
theorem both_halt (a b : Nat) (n f word from_ : Int) (mem : List UInt8) (K Kr : List Value) (out st inp : List Int) (hK : KR K Kr) (hn : In32 n) (hw : In32 word) (hf0 : 0 ≤ from_) (hf1 : from_ ≤ 1048576) (hst : ∀ x ∈ st,In32 x) (hin : ∀ x ∈ inp,In32 x) (hol : out.length ≤ 4096) (hsl : st.length ≤ 256) (hc : checkR 2 a b n f = 0)  : Both 2 a b n f word from_ mem K Kr out st inp := by
  have hr : regB 1 a b n = true := (show opShape 2 = 1 by kernel_rfl) ▸ (checkR_parts hc).2.1
  have hnm : opName 2 = [104,97,108,116] := by kernel_rfl
  have hsh : opShape 2 = 1 := by kernel_rfl
  refine ⟨(5,0,0),out,st,inp,fun K' => K' = K,fun K' => K' = Kr,?_,hst,hin,hol,hsl,?_,?_⟩
  · rintro _ _ rfl rfl; exact hK
  · rintro w U g base A m c ⟨cells,AT,AS,AI,cT,cS,cI,M⟩ hT htg hbw hSl hm
    have hB : Blk w g 119 cells := M.blk
    refine (do_goesA 1 (by decide) 2 f n word from_ a b _ (5) (0) (0) w g cells _ hT htg hB hn hc (by kernel_rfl) (Lib.hid fun W hT hB => goes_halt 2 b n f a W g cells hT htg hB hnm)).mono ?_
    rintro e w' ⟨rfl,h⟩
    exact ⟨rfl,M.to_same hbw h.mw.1 h.mw.2 rfl⟩
  · rintro w U g base A m c ⟨cells,AT,AS,AI,cT,cS,cI,M⟩ hbw hSl hm
    have hB : Blk w g 89 cells := M.blk
    refine (rdo_oneA 1 (by decide) 2 f n word from_ a b _ (5) (0) (0) (fun W w' => RW W g cells w') w g cells hB hn hc (by kernel_rfl) (Lib.hid fun W hbW => by
      rw [show (opName 2).toArray = #[104,97,108,116] by kernel_rfl]
      exact ro_halt 2 n f b word a W g cells (hB.below hbW hB.lt)) (Lib.hid fun W w' X h h1 h2 => RW.fr_at hB h h1 h2)).mono ?_
    rintro e w' ⟨rfl,W,w1,hbW,hZ,hl,rfl⟩
    exact ⟨rfl,M.to_same hbw (RW.after hB hbW hZ _).mw.1 (RW.after hB hbW hZ _).mw.2 rfl⟩
set_option maxRecDepth 20000 in
set_option maxHeartbeats 1000000 in
theorem both_ret (a b : Nat) (n f word from_ : Int) (mem : List UInt8) (K Kr : List Value) (out st inp : List Int) (hK : KR K Kr) (hn : In32 n) (hw : In32 word) (hf0 : 0 ≤ from_) (hf1 : from_ ≤ 1048576) (hst : ∀ x ∈ st,In32 x) (hin : ∀ x ∈ inp,In32 x) (hol : out.length ≤ 4096) (hsl : st.length ≤ 256) (hc : checkR 3 a b n f = 0)  : Both 3 a b n f word from_ mem K Kr out st inp := by
  have hr : regB 1 a b n = true := (show opShape 3 = 1 by kernel_rfl) ▸ (checkR_parts hc).2.1
  have hnm : opName 3 = [114,101,116] := by kernel_rfl
  have hsh : opShape 3 = 1 := by kernel_rfl
  refine ⟨(3,0,0),out,st,inp,fun K' => K' = K,fun K' => K' = Kr,?_,hst,hin,hol,hsl,?_,?_⟩
  · rintro _ _ rfl rfl; exact hK
  · rintro w U g base A m c ⟨cells,AT,AS,AI,cT,cS,cI,M⟩ hT htg hbw hSl hm
    have hB : Blk w g 119 cells := M.blk
    refine (do_goesA 1 (by decide) 3 f n word from_ a b _ (3) (0) (0) w g cells _ hT htg hB hn hc (by kernel_rfl) (Lib.hid fun W hT hB => goes_ret 3 b n f a W g cells hT htg hB hnm)).mono ?_
    rintro e w' ⟨rfl,h⟩
    exact ⟨rfl,M.to_same hbw h.mw.1 h.mw.2 rfl⟩
  · rintro w U g base A m c ⟨cells,AT,AS,AI,cT,cS,cI,M⟩ hbw hSl hm
    have hB : Blk w g 89 cells := M.blk
    refine (rdo_oneA 1 (by decide) 3 f n word from_ a b _ (3) (0) (0) (fun W w' => RW W g cells w') w g cells hB hn hc (by kernel_rfl) (Lib.hid fun W hbW => by
      rw [show (opName 3).toArray = #[114,101,116] by kernel_rfl]
      exact ro_ret 3 n f b word a W g cells (hB.below hbW hB.lt)) (Lib.hid fun W w' X h h1 h2 => RW.fr_at hB h h1 h2)).mono ?_
    rintro e w' ⟨rfl,W,w1,hbW,hZ,hl,rfl⟩
    exact ⟨rfl,M.to_same hbw (RW.after hB hbW hZ _).mw.1 (RW.after hB hbW hZ _).mw.2 rfl⟩
set_option maxRecDepth 20000 in
set_option maxHeartbeats 1000000 in
theorem both_jmp (a b : Nat) (n f word from_ : Int) (mem : List UInt8) (K Kr : List Value) (out st inp : List Int) (hK : KR K Kr) (hn : In32 n) (hw : In32 word) (hf0 : 0 ≤ from_) (hf1 : from_ ≤ 1048576) (hst : ∀ x ∈ st,In32 x) (hin : ∀ x ∈ inp,In32 x) (hol : out.length ≤ 4096) (hsl : st.length ≤ 256) (hc : checkR 40 a b n f = 0)  : Both 40 a b n f word from_ mem K Kr out st inp := by
  have hr : regB 12 a b n = true := (show opShape 40 = 12 by kernel_rfl) ▸ (checkR_parts hc).2.1
  have hnm : opName 40 = [106,109,112] := by kernel_rfl
  have hsh : opShape 40 = 12 := by kernel_rfl
  refine ⟨(1,0,0),out,st,inp,fun K' => K' = K,fun K' => K' = Kr,?_,hst,hin,hol,hsl,?_,?_⟩
  · rintro _ _ rfl rfl; exact hK
  · rintro w U g base A m c ⟨cells,AT,AS,AI,cT,cS,cI,M⟩ hT htg hbw hSl hm
    have hB : Blk w g 119 cells := M.blk
    refine (do_goesA 12 (by decide) 40 f n word from_ a b _ (1) (0) (0) w g cells _ hT htg hB hn hc (by kernel_rfl) (Lib.hid fun W hT hB => goes_jmp 40 b n f a W g cells hT htg hB hnm)).mono ?_
    rintro e w' ⟨rfl,h⟩
    exact ⟨rfl,M.to_same hbw h.mw.1 h.mw.2 rfl⟩
  · rintro w U g base A m c ⟨cells,AT,AS,AI,cT,cS,cI,M⟩ hbw hSl hm
    have hB : Blk w g 89 cells := M.blk
    refine (rdo_oneA 12 (by decide) 40 f n word from_ a b _ (1) (0) (0) (fun W w' => RW W g cells w') w g cells hB hn hc (by kernel_rfl) (Lib.hid fun W hbW => by
      rw [show (opName 40).toArray = #[106,109,112] by kernel_rfl]
      exact ro_jmp 40 n f b word a W g cells (hB.below hbW hB.lt)) (Lib.hid fun W w' X h h1 h2 => RW.fr_at hB h h1 h2)).mono ?_
    rintro e w' ⟨rfl,W,w1,hbW,hZ,hl,rfl⟩
    exact ⟨rfl,M.to_same hbw (RW.after hB hbW hZ _).mw.1 (RW.after hB hbW hZ _).mw.2 rfl⟩
set_option maxRecDepth 20000 in
set_option maxHeartbeats 1000000 in
theorem both_call (a b : Nat) (n f word from_ : Int) (mem : List UInt8) (K Kr : List Value) (out st inp : List Int) (hK : KR K Kr) (hn : In32 n) (hw : In32 word) (hf0 : 0 ≤ from_) (hf1 : from_ ≤ 1048576) (hst : ∀ x ∈ st,In32 x) (hin : ∀ x ∈ inp,In32 x) (hol : out.length ≤ 4096) (hsl : st.length ≤ 256) (hc : checkR 41 a b n f = 0)  : Both 41 a b n f word from_ mem K Kr out st inp := by
  have hr : regB 12 a b n = true := (show opShape 41 = 12 by kernel_rfl) ▸ (checkR_parts hc).2.1
  have hnm : opName 41 = [99,97,108,108] := by kernel_rfl
  have hsh : opShape 41 = 12 := by kernel_rfl
  refine ⟨(2,0,0),out,st,inp,fun K' => K' = K,fun K' => K' = Kr,?_,hst,hin,hol,hsl,?_,?_⟩
  · rintro _ _ rfl rfl; exact hK
  · rintro w U g base A m c ⟨cells,AT,AS,AI,cT,cS,cI,M⟩ hT htg hbw hSl hm
    have hB : Blk w g 119 cells := M.blk
    refine (do_goesA 12 (by decide) 41 f n word from_ a b _ (2) (0) (0) w g cells _ hT htg hB hn hc (by kernel_rfl) (Lib.hid fun W hT hB => goes_call 41 b n f a W g cells hT htg hB hnm)).mono ?_
    rintro e w' ⟨rfl,h⟩
    exact ⟨rfl,M.to_same hbw h.mw.1 h.mw.2 rfl⟩
  · rintro w U g base A m c ⟨cells,AT,AS,AI,cT,cS,cI,M⟩ hbw hSl hm
    have hB : Blk w g 89 cells := M.blk
    refine (rdo_oneA 12 (by decide) 41 f n word from_ a b _ (2) (0) (0) (fun W w' => RW W g cells w') w g cells hB hn hc (by kernel_rfl) (Lib.hid fun W hbW => by
      rw [show (opName 41).toArray = #[99,97,108,108] by kernel_rfl]
      exact ro_call 41 n f b word a W g cells (hB.below hbW hB.lt)) (Lib.hid fun W w' X h h1 h2 => RW.fr_at hB h h1 h2)).mono ?_
    rintro e w' ⟨rfl,W,w1,hbW,hZ,hl,rfl⟩
    exact ⟨rfl,M.to_same hbw (RW.after hB hbW hZ _).mw.1 (RW.after hB hbW hZ _).mw.2 rfl⟩
set_option maxRecDepth 20000 in
set_option maxHeartbeats 1000000 in
theorem both_trap (a b : Nat) (n f word from_ : Int) (mem : List UInt8) (K Kr : List Value) (out st inp : List Int) (hK : KR K Kr) (hn : In32 n) (hw : In32 word) (hf0 : 0 ≤ from_) (hf1 : from_ ≤ 1048576) (hst : ∀ x ∈ st,In32 x) (hin : ∀ x ∈ inp,In32 x) (hol : out.length ≤ 4096) (hsl : st.length ≤ 256) (hc : checkR 37 a b n f = 0)  : Both 37 a b n f word from_ mem K Kr out st inp := by
  have hr : regB 9 a b n = true := (show opShape 37 = 9 by kernel_rfl) ▸ (checkR_parts hc).2.1
  have hnm : opName 37 = [116,114,97,112] := by kernel_rfl
  have hsh : opShape 37 = 9 := by kernel_rfl
  have hnb : numB 9 n f = true := (show opShape 37 = 9 by kernel_rfl) ▸ (checkR_parts hc).2.2.2
  have hn0 : 0 ≤ n ∧ n ≤ 255 := by simpa [numB] using hnb
  refine ⟨(6,(100 + n),0),out,st,inp,fun K' => K' = K,fun K' => K' = Kr,?_,hst,hin,hol,hsl,?_,?_⟩
  · rintro _ _ rfl rfl; exact hK
  · rintro w U g base A m c ⟨cells,AT,AS,AI,cT,cS,cI,M⟩ hT htg hbw hSl hm
    have hB : Blk w g 119 cells := M.blk
    refine (do_goesA 9 (by decide) 37 f n word from_ a b _ (6) ((100 + n)) (0) w g cells _ hT htg hB hn hc (by kernel_rfl) (Lib.hid fun W hT hB => goes_trap 37 b n f a W g cells hT htg hB hn0.1 hn0.2 hnm)).mono ?_
    rintro e w' ⟨rfl,h⟩
    exact ⟨rfl,M.to_same hbw h.mw.1 h.mw.2 rfl⟩
  · rintro w U g base A m c ⟨cells,AT,AS,AI,cT,cS,cI,M⟩ hbw hSl hm
    have hB : Blk w g 89 cells := M.blk
    refine (rdo_oneA 9 (by decide) 37 f n word from_ a b _ (6) ((100 + n)) (0) (fun W w' => RW W g cells w') w g cells hB hn hc (by kernel_rfl) (Lib.hid fun W hbW => by
      rw [show (opName 37).toArray = #[116,114,97,112] by kernel_rfl]
      exact ro_trap 37 n f b word a W g cells (hB.below hbW hB.lt) (by omega) (by omega)) (Lib.hid fun W w' X h h1 h2 => RW.fr_at hB h h1 h2)).mono ?_
    rintro e w' ⟨rfl,W,w1,hbW,hZ,hl,rfl⟩
    exact ⟨rfl,M.to_same hbw (RW.after hB hbW hZ _).mw.1 (RW.after hB hbW hZ _).mw.2 rfl⟩
set_option maxRecDepth 20000 in
set_option maxHeartbeats 1000000 in
theorem both_jz (a b : Nat) (n f word from_ : Int) (mem : List UInt8) (K Kr : List Value) (out st inp : List Int) (hK : KR K Kr) (hn : In32 n) (hw : In32 word) (hf0 : 0 ≤ from_) (hf1 : from_ ≤ 1048576) (hst : ∀ x ∈ st,In32 x) (hin : ∀ x ∈ inp,In32 x) (hol : out.length ≤ 4096) (hsl : st.length ≤ 256) (hc : checkR 42 a b n f = 0)  : Both 42 a b n f word from_ mem K Kr out st inp := by
  have hr : regB 13 a b n = true := (show opShape 42 = 13 by kernel_rfl) ▸ (checkR_parts hc).2.1
  have hnm : opName 42 = [106,122] := by kernel_rfl
  have hsh : opShape 42 = 13 := by kernel_rfl
  have ha : a < 8 := by simp [regB,limA,limB,okLim] at hr; omega
  obtain ⟨x,hxr,hx,hxq⟩ := hK.r a ha
  by_cases h0 : x = 0
  · subst h0
    refine ⟨(1,0,0),out,st,inp,fun K' => K' = K,fun K' => K' = Kr,?_,hst,hin,hol,hsl,?_,?_⟩
    · rintro _ _ rfl rfl; exact hK
    · rintro w U g base A m c ⟨cells,AT,AS,AI,cT,cS,cI,M⟩ hT htg hbw hSl hm
      have hB : Blk w g 119 cells := M.blk
      have cx := (M.core a (by omega)).trans hx
      replace cx : cells[a]? = some (.int .i32 0) := cx
      refine (do_goesA 13 (by decide) 42 f n word from_ a b _ (1) (0) (0) w g cells _ hT htg hB hn hc (by kernel_rfl) (Lib.hid fun W hT hB => goes_jz_go 42 b n f a W g cells hT htg hB ha cx hnm)).mono ?_
      rintro e w' ⟨rfl,h⟩
      exact ⟨rfl,M.to_same hbw h.mw.1 h.mw.2 rfl⟩
    · rintro w U g base A m c ⟨cells,AT,AS,AI,cT,cS,cI,M⟩ hbw hSl hm
      have hB : Blk w g 89 cells := M.blk
      have cx := (M.core a (by omega)).trans hxq
      rw [lay_lo (by omega)] at cx
      refine (rdo_oneA 13 (by decide) 42 f n word from_ a b _ (1) (0) (0) (fun W w' => RW W g cells w') w g cells hB hn hc (by kernel_rfl) (Lib.hid fun W hbW => by
        rw [show (opName 42).toArray = #[106,122] by kernel_rfl]
        exact ro_jz_go 42 n f b word a W g cells (hB.below hbW hB.lt) ha cx) (Lib.hid fun W w' X h h1 h2 => RW.fr_at hB h h1 h2)).mono ?_
      rintro e w' ⟨rfl,W,w1,hbW,hZ,hl,rfl⟩
      exact ⟨rfl,M.to_same hbw (RW.after hB hbW hZ _).mw.1 (RW.after hB hbW hZ _).mw.2 rfl⟩
  · skip
    refine ⟨(0,0,0),out,st,inp,fun K' => K' = K,fun K' => K' = Kr,?_,hst,hin,hol,hsl,?_,?_⟩
    · rintro _ _ rfl rfl; exact hK
    · rintro w U g base A m c ⟨cells,AT,AS,AI,cT,cS,cI,M⟩ hT htg hbw hSl hm
      have hB : Blk w g 119 cells := M.blk
      have cx := (M.core a (by omega)).trans hx
      replace cx : cells[a]? = some (.int .i32 x) := cx
      refine (do_goesA 13 (by decide) 42 f n word from_ a b _ (0) (0) (0) w g cells _ hT htg hB hn hc (by kernel_rfl) (Lib.hid fun W hT hB => goes_jz_on 42 b n f a W g cells hT htg hB ha x h0 cx hnm)).mono ?_
      rintro e w' ⟨rfl,h⟩
      exact ⟨rfl,M.to_same hbw h.mw.1 h.mw.2 rfl⟩
    · rintro w U g base A m c ⟨cells,AT,AS,AI,cT,cS,cI,M⟩ hbw hSl hm
      have hB : Blk w g 89 cells := M.blk
      have cx := (M.core a (by omega)).trans hxq
      rw [lay_lo (by omega)] at cx
      refine (rdo_oneA 13 (by decide) 42 f n word from_ a b _ (0) (0) (0) (fun W w' => RW W g cells w') w g cells hB hn hc (by kernel_rfl) (Lib.hid fun W hbW => by
        rw [show (opName 42).toArray = #[106,122] by kernel_rfl]
        exact ro_jz_on 42 n f b word a x W g cells (hB.below hbW hB.lt) ha h0 cx) (Lib.hid fun W w' X h h1 h2 => RW.fr_at hB h h1 h2)).mono ?_
      rintro e w' ⟨rfl,W,w1,hbW,hZ,hl,rfl⟩
      exact ⟨rfl,M.to_same hbw (RW.after hB hbW hZ _).mw.1 (RW.after hB hbW hZ _).mw.2 rfl⟩
set_option maxRecDepth 20000 in
set_option maxHeartbeats 1000000 in
theorem both_jnz (a b : Nat) (n f word from_ : Int) (mem : List UInt8) (K Kr : List Value) (out st inp : List Int) (hK : KR K Kr) (hn : In32 n) (hw : In32 word) (hf0 : 0 ≤ from_) (hf1 : from_ ≤ 1048576) (hst : ∀ x ∈ st,In32 x) (hin : ∀ x ∈ inp,In32 x) (hol : out.length ≤ 4096) (hsl : st.length ≤ 256) (hc : checkR 43 a b n f = 0)  : Both 43 a b n f word from_ mem K Kr out st inp := by
  have hr : regB 13 a b n = true := (show opShape 43 = 13 by kernel_rfl) ▸ (checkR_parts hc).2.1
  have hnm : opName 43 = [106,110,122] := by kernel_rfl
  have hsh : opShape 43 = 13 := by kernel_rfl
  have ha : a < 8 := by simp [regB,limA,limB,okLim] at hr; omega
  obtain ⟨x,hxr,hx,hxq⟩ := hK.r a ha
  by_cases h0 : x = 0
  · subst h0
    refine ⟨(0,0,0),out,st,inp,fun K' => K' = K,fun K' => K' = Kr,?_,hst,hin,hol,hsl,?_,?_⟩
    · rintro _ _ rfl rfl; exact hK
    · rintro w U g base A m c ⟨cells,AT,AS,AI,cT,cS,cI,M⟩ hT htg hbw hSl hm
      have hB : Blk w g 119 cells := M.blk
      have cx := (M.core a (by omega)).trans hx
      replace cx : cells[a]? = some (.int .i32 0) := cx
      refine (do_goesA 13 (by decide) 43 f n word from_ a b _ (0) (0) (0) w g cells _ hT htg hB hn hc (by kernel_rfl) (Lib.hid fun W hT hB => goes_jnz_on 43 b n f a W g cells hT htg hB ha cx hnm)).mono ?_
      rintro e w' ⟨rfl,h⟩
      exact ⟨rfl,M.to_same hbw h.mw.1 h.mw.2 rfl⟩
    · rintro w U g base A m c ⟨cells,AT,AS,AI,cT,cS,cI,M⟩ hbw hSl hm
      have hB : Blk w g 89 cells := M.blk
      have cx := (M.core a (by omega)).trans hxq
      rw [lay_lo (by omega)] at cx
      refine (rdo_oneA 13 (by decide) 43 f n word from_ a b _ (0) (0) (0) (fun W w' => RW W g cells w') w g cells hB hn hc (by kernel_rfl) (Lib.hid fun W hbW => by
        rw [show (opName 43).toArray = #[106,110,122] by kernel_rfl]
        exact ro_jnz_on 43 n f b word a W g cells (hB.below hbW hB.lt) ha cx) (Lib.hid fun W w' X h h1 h2 => RW.fr_at hB h h1 h2)).mono ?_
      rintro e w' ⟨rfl,W,w1,hbW,hZ,hl,rfl⟩
      exact ⟨rfl,M.to_same hbw (RW.after hB hbW hZ _).mw.1 (RW.after hB hbW hZ _).mw.2 rfl⟩
  · skip
    refine ⟨(1,0,0),out,st,inp,fun K' => K' = K,fun K' => K' = Kr,?_,hst,hin,hol,hsl,?_,?_⟩
    · rintro _ _ rfl rfl; exact hK
    · rintro w U g base A m c ⟨cells,AT,AS,AI,cT,cS,cI,M⟩ hT htg hbw hSl hm
      have hB : Blk w g 119 cells := M.blk
      have cx := (M.core a (by omega)).trans hx
      replace cx : cells[a]? = some (.int .i32 x) := cx
      refine (do_goesA 13 (by decide) 43 f n word from_ a b _ (1) (0) (0) w g cells _ hT htg hB hn hc (by kernel_rfl) (Lib.hid fun W hT hB => goes_jnz_go 43 b n f a W g cells hT htg hB ha x h0 cx hnm)).mono ?_
      rintro e w' ⟨rfl,h⟩
      exact ⟨rfl,M.to_same hbw h.mw.1 h.mw.2 rfl⟩
    · rintro w U g base A m c ⟨cells,AT,AS,AI,cT,cS,cI,M⟩ hbw hSl hm
      have hB : Blk w g 89 cells := M.blk
      have cx := (M.core a (by omega)).trans hxq
      rw [lay_lo (by omega)] at cx
      refine (rdo_oneA 13 (by decide) 43 f n word from_ a b _ (1) (0) (0) (fun W w' => RW W g cells w') w g cells hB hn hc (by kernel_rfl) (Lib.hid fun W hbW => by
        rw [show (opName 43).toArray = #[106,110,122] by kernel_rfl]
        exact ro_jnz_go 43 n f b word a x W g cells (hB.below hbW hB.lt) ha h0 cx) (Lib.hid fun W w' X h h1 h2 => RW.fr_at hB h h1 h2)).mono ?_
      rintro e w' ⟨rfl,W,w1,hbW,hZ,hl,rfl⟩
      exact ⟨rfl,M.to_same hbw (RW.after hB hbW hZ _).mw.1 (RW.after hB hbW hZ _).mw.2 rfl⟩
set_option maxRecDepth 20000 in
set_option maxHeartbeats 1000000 in
theorem both_lis (a b : Nat) (n f word from_ : Int) (mem : List UInt8) (K Kr : List Value) (out st inp : List Int) (hK : KR K Kr) (hn : In32 n) (hw : In32 word) (hf0 : 0 ≤ from_) (hf1 : from_ ≤ 1048576) (hst : ∀ x ∈ st,In32 x) (hin : ∀ x ∈ inp,In32 x) (hol : out.length ≤ 4096) (hsl : st.length ≤ 256) (hc : checkR 36 a b n f = 0)  : Both 36 a b n f word from_ mem K Kr out st inp := by
  have hr : regB 8 a b n = true := (show opShape 36 = 8 by kernel_rfl) ▸ (checkR_parts hc).2.1
  have hnm : opName 36 = [108,105,115] := by kernel_rfl
  have hsh : opShape 36 = 8 := by kernel_rfl
  have ha : a < 8 := by simp [regB,limA,limB,okLim] at hr; omega
  obtain ⟨x,hxr,hx,hxq⟩ := hK.r a ha
  refine ⟨(0,0,0),out,st,inp,fun K' => K' = K.set a (.int .i32 n),fun K' => K' = Kr.set a (.int .i32 n),?_,hst,hin,hol,hsl,?_,?_⟩
  · rintro _ _ rfl rfl; exact hK.setR ha hn
  · rintro w U g base A m c ⟨cells,AT,AS,AI,cT,cS,cI,M⟩ hT htg hbw hSl hm
    have hB : Blk w g 119 cells := M.blk
    have cx := (M.core a (by omega)).trans hx
    replace cx : cells[a]? = some (.int .i32 x) := cx
    refine (do_set8 36 f n word from_ a b _ w g cells hT htg hB hn hc (by kernel_rfl) ha x cx).mono ?_
    rintro e w' ⟨rfl,h⟩
    exact ⟨rfl,M.to_set cpuL_ok hbw (by omega) h.mw.1 h.mw.2 rfl⟩
  · rintro w U g base A m c ⟨cells,AT,AS,AI,cT,cS,cI,M⟩ hbw hSl hm
    have hB : Blk w g 89 cells := M.blk
    have cx := (M.core a (by omega)).trans hxq
    rw [lay_lo (by omega)] at cx
    refine (rdo_oneA 8 (by decide) 36 f n word from_ a b _ (0) (0) (0) (fun W w' => RW W g (cells.set a (.int .i32 n)) w') w g cells hB hn hc (by kernel_rfl) (Lib.hid fun W hbW => by
      rw [show (opName 36).toArray = #[108,105,115] by kernel_rfl]
      exact ro_lis 36 n f b word a _ W g cells (hB.below hbW hB.lt) ha cx) (Lib.hid fun W w' X h h1 h2 => RW.fr_at hB h h1 h2)).mono ?_
    rintro e w' ⟨rfl,W,w1,hbW,hZ,hl,rfl⟩
    exact ⟨rfl,M.to_set refL_ok hbw (j := a) (by omega) (RW.after hB hbW hZ _).mw.1 (by rw [lay_lo (by omega)]; exact (RW.after hB hbW hZ _).mw.2) rfl⟩
set_option maxRecDepth 20000 in
set_option maxHeartbeats 1000000 in
theorem both_li (a b : Nat) (n f word from_ : Int) (mem : List UInt8) (K Kr : List Value) (out st inp : List Int) (hK : KR K Kr) (hn : In32 n) (hw : In32 word) (hf0 : 0 ≤ from_) (hf1 : from_ ≤ 1048576) (hst : ∀ x ∈ st,In32 x) (hin : ∀ x ∈ inp,In32 x) (hol : out.length ≤ 4096) (hsl : st.length ≤ 256) (hc : checkR 38 a b n f = 0)  : Both 38 a b n f word from_ mem K Kr out st inp := by
  have hr : regB 10 a b n = true := (show opShape 38 = 10 by kernel_rfl) ▸ (checkR_parts hc).2.1
  have hnm : opName 38 = [108,105] := by kernel_rfl
  have hsh : opShape 38 = 10 := by kernel_rfl
  have ha : a < 8 := by simp [regB,limA,limB,okLim] at hr; omega
  obtain ⟨x,hxr,hx,hxq⟩ := hK.r a ha
  refine ⟨(0,0,0),out,st,inp,fun K' => K' = K.set a (.int .i32 n),fun K' => K' = Kr.set a (.int .i32 n),?_,hst,hin,hol,hsl,?_,?_⟩
  · rintro _ _ rfl rfl; exact hK.setR ha hn
  · rintro w U g base A m c ⟨cells,AT,AS,AI,cT,cS,cI,M⟩ hT htg hbw hSl hm
    have hB : Blk w g 119 cells := M.blk
    have cx := (M.core a (by omega)).trans hx
    replace cx : cells[a]? = some (.int .i32 x) := cx
    refine (do_set10 38 f n word from_ a b _ w g cells hT htg hB hn hc (by kernel_rfl) ha x cx).mono ?_
    rintro e w' ⟨rfl,h⟩
    exact ⟨rfl,M.to_set cpuL_ok hbw (by omega) h.mw.1 h.mw.2 rfl⟩
  · rintro w U g base A m c ⟨cells,AT,AS,AI,cT,cS,cI,M⟩ hbw hSl hm
    have hB : Blk w g 89 cells := M.blk
    have cx := (M.core a (by omega)).trans hxq
    rw [lay_lo (by omega)] at cx
    refine (rdo_oneA 10 (by decide) 38 f n word from_ a b _ (0) (0) (0) (fun W w' => RW W g (cells.set a (.int .i32 n)) w') w g cells hB hn hc (by kernel_rfl) (Lib.hid fun W hbW => by
      rw [show (opName 38).toArray = #[108,105] by kernel_rfl]
      exact ro_li 38 n f b word a _ W g cells (hB.below hbW hB.lt) ha cx) (Lib.hid fun W w' X h h1 h2 => RW.fr_at hB h h1 h2)).mono ?_
    rintro e w' ⟨rfl,W,w1,hbW,hZ,hl,rfl⟩
    exact ⟨rfl,M.to_set refL_ok hbw (j := a) (by omega) (RW.after hB hbW hZ _).mw.1 (by rw [lay_lo (by omega)]; exact (RW.after hB hbW hZ _).mw.2) rfl⟩
set_option maxRecDepth 20000 in
set_option maxHeartbeats 1000000 in
theorem both_ldp (a b : Nat) (n f word from_ : Int) (mem : List UInt8) (K Kr : List Value) (out st inp : List Int) (hK : KR K Kr) (hn : In32 n) (hw : In32 word) (hf0 : 0 ≤ from_) (hf1 : from_ ≤ 1048576) (hst : ∀ x ∈ st,In32 x) (hin : ∀ x ∈ inp,In32 x) (hol : out.length ≤ 4096) (hsl : st.length ≤ 256) (hc : checkR 39 a b n f = 0)  : Both 39 a b n f word from_ mem K Kr out st inp := by
  have hr : regB 11 a b n = true := (show opShape 39 = 11 by kernel_rfl) ▸ (checkR_parts hc).2.1
  have hnm : opName 39 = [108,100,112] := by kernel_rfl
  have hsh : opShape 39 = 11 := by kernel_rfl
  have ha : a < 8 := by simp [regB,limA,limB,okLim] at hr; omega
  obtain ⟨x,hxr,hx,hxq⟩ := hK.r a ha
  refine ⟨(0,0,0),out,st,inp,fun K' => K' = K.set a (.int .i32 word),fun K' => K' = Kr.set a (.int .i32 word),?_,hst,hin,hol,hsl,?_,?_⟩
  · rintro _ _ rfl rfl; exact hK.setR ha hw
  · rintro w U g base A m c ⟨cells,AT,AS,AI,cT,cS,cI,M⟩ hT htg hbw hSl hm
    have hB : Blk w g 119 cells := M.blk
    have cx := (M.core a (by omega)).trans hx
    replace cx : cells[a]? = some (.int .i32 x) := cx
    refine (do_set11 39 f n word from_ a b _ w g cells hT htg hB hn hc (by kernel_rfl) ha x cx).mono ?_
    rintro e w' ⟨rfl,h⟩
    exact ⟨rfl,M.to_set cpuL_ok hbw (by omega) h.mw.1 h.mw.2 rfl⟩
  · rintro w U g base A m c ⟨cells,AT,AS,AI,cT,cS,cI,M⟩ hbw hSl hm
    have hB : Blk w g 89 cells := M.blk
    have cx := (M.core a (by omega)).trans hxq
    rw [lay_lo (by omega)] at cx
    refine (rdo_oneA 11 (by decide) 39 f n word from_ a b _ (0) (0) (0) (fun W w' => RW W g (cells.set a (.int .i32 word)) w') w g cells hB hn hc (by kernel_rfl) (Lib.hid fun W hbW => by
      rw [show (opName 39).toArray = #[108,100,112] by kernel_rfl]
      exact ro_ldp 39 n f b word a _ W g cells (hB.below hbW hB.lt) ha cx) (Lib.hid fun W w' X h h1 h2 => RW.fr_at hB h h1 h2)).mono ?_
    rintro e w' ⟨rfl,W,w1,hbW,hZ,hl,rfl⟩
    exact ⟨rfl,M.to_set refL_ok hbw (j := a) (by omega) (RW.after hB hbW hZ _).mw.1 (by rw [lay_lo (by omega)]; exact (RW.after hB hbW hZ _).mw.2) rfl⟩
end Go.Proofs.YthcjnkakfpmpbaaDoor
