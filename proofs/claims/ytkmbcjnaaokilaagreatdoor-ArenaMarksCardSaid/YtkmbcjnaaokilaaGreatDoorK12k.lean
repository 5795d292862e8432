/-
  Layer 12 by shadows: the codes of the arena as codes with a part of their own; what a code tells; a code alone.
-/
import Derived.Test.YtkmbcjnaaokilaaGreatDoorK12j
import Derived.Test.YtkmbcjnaaokilaaGreatDoorK9
namespace Go.Proofs.YtkmbcjnaaokilaaGreatDoor
set_option linter.unusedSimpArgs false
set_option linter.unusedVariables false
open Go.RowKit Go.Maps
def layA : ArM → LayV
 | .tk s => s.l
 | .gv s => s.l
structure AskA (l : LayV) (a : ActM) : Prop where
 op : a.op = 5 ∨ a.op = 6
 pl : ∃ i : Nat,(i : Int) < l.blocks ∧ a.place = bitP l i
theorem tk_blk {s : TkM} (hs : TkOk s) {p : Nat × Nat} (hp : p ∈ s.parts) : (p.1 : Int) < s.l.blocks := by have := hs.rng p hp; omega
theorem freeT_spec {v : Int} : ∀ {m a i : Nat},freeT v a m = some i → a ≤ i ∧ i < a + m ∧ usedB v i = false ∧ ∀ j,a ≤ j → j < i → usedB v j = true
 | 0,a,i,h => by cases h
 | m + 1,a,i,h => by
  unfold freeT at h
  split at h
  ·rename_i hu
   obtain ⟨h1,h2,h3,h4⟩ := freeT_spec h
   exact ⟨by omega,by omega,h3,fun j hj1 hj2 => (by
    by_cases e : j = a
    ·subst e; exact hu
    ·exact h4 j (by omega) hj2)⟩
  ·rename_i hu
   cases h
   exact ⟨Nat.le_refl _,by omega,by simpa using hu,fun j h1 h2 => by omega⟩
theorem lookT_ok {s : TkM} (hs : TkOk s) : okA (.tk (lookT s).1) ∧ (lookT s).1.l = s.l ∧ ((lookT s).2.2 = false → AskA s.l (lookT s).2.1) ∧ ((lookT s).2.2 = true → (lookT s).1.fin = true) := by
 unfold lookT
 split
 ·exact ⟨⟨⟨hs.lay,hs.g,hs.rng⟩,fun h => by cases h⟩,rfl,fun h => (by cases h),fun _ => rfl⟩
 ·rename_i p ps hp
  refine ⟨⟨⟨hs.lay,hs.g,hs.rng⟩,fun _ _ h => ?_⟩,rfl,fun _ => ⟨.inl rfl,p.1,tk_blk hs (by rw [hp]; exact List.mem_cons_self ..),rfl⟩,fun h => by cases h⟩
  simp only at h
  rw [hp] at h; cases h
theorem foundT_ok {s : TkM} (hs : TkOk s) (hne : s.parts ≠ []) (w : WordV) : okA (.tk (foundT s w).1) ∧ (foundT s w).1.l = s.l ∧ ((foundT s w).2.2 = false → AskA s.l (foundT s w).2.1) ∧ ((foundT s w).2.2 = true → (foundT s w).1.fin = true) := by
 unfold foundT
 split
 ·rename_i h; exact absurd h hne
 ·rename_i p ps hp
  have hr := hs.rng p (by rw [hp]; exact List.mem_cons_self ..)
  split
  ·rename_i i hi
   obtain ⟨h1,h2,_,_⟩ := freeT_spec hi
   refine ⟨⟨⟨hs.lay,hs.g,hs.rng⟩,fun _ _ h => ?_⟩,rfl,fun _ => ⟨.inr rfl,i,by omega,rfl⟩,fun h => by cases h⟩
   simp only at h
   rw [hp] at h; cases h
  ·exact lookT_ok ⟨hs.lay,by show (2 : Nat) ≠ 1; decide,fun q hq => hs.rng q (by rw [hp]; exact List.mem_cons_of_mem _ hq)⟩
theorem foundG_ok {s : GvM} (hs : GvOk s) (w : WordV) : GvOk (foundG s w).1 ∧ (foundG s w).1.l = s.l ∧ ((foundG s w).2.2 = false → AskA s.l (foundG s w).2.1) ∧ ((foundG s w).2.2 = true → (foundG s w).1.fin = true) := by
 unfold foundG
 split
 ·exact ⟨⟨hs.lay,hs.blk⟩,rfl,fun _ => ⟨.inr rfl,s.block,hs.blk,rfl⟩,fun h => by cases h⟩
 ·exact ⟨⟨hs.lay,hs.blk⟩,rfl,fun h => (by cases h),fun _ => rfl⟩
theorem nextA_ok {s : ArM} (hs : okA s) (g : GotV) : okA (nextA s g).1 ∧ layA (nextA s g).1 = layA s ∧ ((nextA s g).2.2 = false → AskA (layA s) (nextA s g).2.1) ∧ ((nextA s g).2.2 = true → finA (nextA s g).1 = true) := by
 cases s with
 | tk s =>
  show okA (.tk (nextT s g).1) ∧ (nextT s g).1.l = s.l ∧ ((nextT s g).2.2 = false → AskA s.l (nextT s g).2.1) ∧ ((nextT s g).2.2 = true → (nextT s g).1.fin = true)
  unfold nextT
  split
  ·rename_i hf
   exact ⟨hs,rfl,fun h => (by cases h),fun _ => hf⟩
  ·rename_i hf
   have hf : s.fin = false := by simpa using hf
   split
   ·exact lookT_ok hs.1
   ·rename_i hk
    exact foundT_ok hs.1 (hs.2 hf (by omega)) _
   ·rename_i h0 h1
    split
    ·exact ⟨⟨⟨hs.1.lay,hs.1.g,hs.1.rng⟩,fun h => by cases h⟩,rfl,fun h => (by cases h),fun _ => rfl⟩
    ·exact foundT_ok hs.1 (hs.2 hf (fun e => h0 e)) _
 | gv s =>
  show GvOk (nextG s g).1 ∧ (nextG s g).1.l = s.l ∧ ((nextG s g).2.2 = false → AskA s.l (nextG s g).2.1) ∧ ((nextG s g).2.2 = true → (nextG s g).1.fin = true)
  unfold nextG
  split
  ·rename_i hf
   exact ⟨hs,rfl,fun h => (by cases h),fun _ => hf⟩
  ·split
   ·exact ⟨⟨hs.lay,hs.blk⟩,rfl,fun _ => ⟨.inl rfl,s.block,hs.blk,rfl⟩,fun h => by cases h⟩
   ·exact foundG_ok hs _
   ·split
    ·exact ⟨⟨hs.lay,hs.blk⟩,rfl,fun h => (by cases h),fun _ => rfl⟩
    ·exact foundG_ok hs _
abbrev arC : Coder where
 St := ArM × ArL
 enc p := eAr p.1 p.2
 next p g := (((nextA p.1 g).1,p.2),(nextA p.1 g).2)
 good _ p := okA p.1
 up h _ := h
 keeps g h := (nextA_ok h g).1
 shape p := ⟨_,_,rfl⟩
def zArL : ArL := ⟨0,0,0,.any⟩
def arW : Owner arC where
 ids p := [p.2.i,p.2.g]
 own p O n := ArO p.1 p.2 O n
 fgt p := (p.1,zArL)
 lt {s O n} h e he := by
  simp only [List.mem_cons,List.not_mem_nil,or_false] at he
  rcases he with rfl | rfl
  ·exact h.i
  ·exact h.g
 to h hn hO := ArO.to h hn (hO _ (by simp)) (hO _ (by simp))
 good' {a b n} h hg := by
  have : a.1 = b.1 := (Prod.mk.inj h).1
  show okA b.1
  rw [← this]; exact hg
 nxt {a b} g h := by
  have : a.1 = b.1 := (Prod.mk.inj h).1
  show ((nextA a.1 g).1,zArL) = ((nextA b.1 g).1,zArL) ∧ (nextA a.1 g).2 = (nextA b.1 g).2
  rw [this]; exact ⟨rfl,rfl⟩
 step {n s} g hg _ := by
  obtain ⟨s,L⟩ := s
  refine ⟨tyA s,.agg (cAr s L.nx),?_⟩
  cases s with
  | tk s =>
   refine ⟨_,rfl,next_take,enters_arTNext,fun O n ho => (ok_arTNext s hg.1 hg.2 g ho).mono ?_⟩
   rintro J r O' n' ⟨L',h1,h2,h3,h4⟩
   refine ⟨((nextA (.tk s) g).1,L'),rfl,h1,h2,h3.le,fun e he hx => h3.old e he ?_,fun e he => ?_⟩
   ·intro h
    simp only [Option.map_some,Option.some.injEq] at h
    exact hx (by rw [← h]; simp)
   ·simp only [List.mem_cons,List.not_mem_nil,or_false] at he ⊢
    rcases h4 with ⟨a1,a2⟩ | ⟨_,a0,a1,a2⟩
    ·rcases he with rfl | rfl
     ·exact .inr a1
     ·exact .inr a2
    ·cases a0
     rcases he with rfl | rfl
     ·exact .inl (.inl a1)
     ·exact .inl (.inr a2)
  | gv s =>
   refine ⟨_,rfl,next_give,enters_arGNext,fun O n ho => (ok_arGNext s hg g ho).mono ?_⟩
   rintro J r O' n' ⟨L',h1,h2,h3,h4⟩
   refine ⟨((nextA (.gv s) g).1,L'),rfl,h1,h2,h3.le,fun e he hx => h3.old e he ?_,fun e he => ?_⟩
   ·intro h
    simp only [Option.map_some,Option.some.injEq] at h
    exact hx (by rw [← h]; simp)
   ·simp only [List.mem_cons,List.not_mem_nil,or_false] at he ⊢
    rcases h4 with ⟨a1,a2⟩ | ⟨_,a0,a1,a2⟩
    ·rcases he with rfl | rfl
     ·exact .inr a1
     ·exact .inr a2
    ·cases a0
     rcases he with rfl | rfl
     ·exact .inl (.inl a1)
     ·exact .inl (.inr a2)
def blockA : ArM → Int × Int × Bool
 | .tk s => if s.fin = true then (if s.err ≠ 0 then (0,s.err,true) else (s.block,0,true)) else (0,0,false)
 | .gv s => if s.fin = true then ((s.block : Int),s.err,true) else (0,0,false)
theorem infoTake : (Tryz.prog.info? 98).map (fun i => (i.zero,i.size,i.bytes)) = some (some (.agg #[.int .i64 0,.int .i64 0,.int .i64 0,.slice none 0 0,.int .i64 0,.int .i64 0,.bool false,.nilFunc]),8,80) := by kernel_rfl
abbrev zTkC : List Sh := [sI 0,sI 0,sI 0,.sl 2 0 [],sI 0,sI 0,sB false,.v .nilFunc]
theorem zTk_rep (H : Hp) : Rep H E0 (.agg zTkC) (.agg #[.int .i64 0,.int .i64 0,.int .i64 0,.slice none 0 0,.int .i64 0,.int .i64 0,.bool false,.nilFunc]) := by
 have := Rep.agg (E := E0) (zs_rep H E0 [.int .i64,.int .i64,.int .i64,.sl 2,.int .i64,.int .i64,.bool,.nilFunc]) (zs_one _)
 simpa [ZSh.sh,ZSh.val] using this
theorem zTk_run (w : World) : (zeroValue 98).run Tryz.prog w = .ok (.agg #[.int .i64 0,.int .i64 0,.int .i64 0,.slice none 0 0,.int .i64 0,.int .i64 0,.bool false,.nilFunc]) w := by
 obtain ⟨i,hi,hz,_⟩ := info_parts infoTake
 exact run_zero hi hz w
theorem ok_arBlock (s : ArM) {L : ArL} (hp : Plain L.nx) : Ok 44 [eAr s L] (.tup [sI (blockA s).1,sI (blockA s).2.1,sB (blockA s).2.2]) := by
 refine ok_of_tr Tryz.func44 tr_arBlock rfl ?_
 have hpl := plainF hp
 cases s with
 | tk s =>
  show evFn _ _ [.ifc 98 (.agg (cTk s L.nx))] _
  cases hf : s.fin
  ·rw [show blockA (.tk s) = (0,0,false) by unfold blockA; simp only [hf]; rfl]
   unfold evFn sc_arBlock rv_arBlock
   have F1 := And.intro @hpl @hf
   refine eS fun K1 hn1 hr1 he1 => ?_;refine eO fun K2 hk2 => ?_;refine tL F1 ?_;refine hk2 _ ?_;refine hn1 (some ([0],none)) _ ?_;refine eS fun K3 hn3 hr3 he3 => ?_;refine eS fun K4 hn4 hr4 he4 => ?_;refine eO fun K5 hk5 => ?_;refine tL F1 ?_;refine hk5 _ ?_;refine hn4 (some ([7],none)) _ ?_;refine eB fun K6 hn6 hx6 hr6 he6 => ?_;refine eS fun K7 hn7 hr7 he7 => ?_;refine eO fun K8 hk8 => ?_;refine tS 1 F1 ?_;refine Or.inl ⟨_,gen_asr_yes Tryz.underlying98 rfl,?_⟩;refine tL F1 ?_;refine hk8 _ ?_;refine hn7 (some ([7,9,10],none)) _ ?_;refine eCt ?_;refine eS fun K9 hn9 hr9 he9 => ?_;refine eO fun K10 hk10 => ?_;refine tZ F1 ?_;refine hk10 _ ?_;refine hn9 (some ([5],none)) _ ?_;refine eB fun K11 hn11 hx11 hr11 he11 => ?_;refine eS fun K12 hn12 hr12 he12 => ?_;refine eO fun K13 hk13 => ?_;refine tC 2 F1 ?_;refine tL F1 ?_;refine hk13 _ ?_;refine hn12 (some ([5,13],none)) _ ?_;refine eCt ?_
   refine hn11 _ ?_;refine hn6 _ ?_;refine hn3 (some ([],none)) _ ?_;refine eS fun K14 hn14 hr14 he14 => ?_;refine eO fun K15 hk15 => ?_;refine tL F1 ?_;refine hk15 _ ?_;refine hn14 (some ([2,3,4],none)) _ ?_
   exact sf1 F1
  ·by_cases he : s.err = 0
   ·have d : (s.err != 0) = false := by simpa using he
    rw [show blockA (.tk s) = (s.block,0,true) by unfold blockA; simp only [hf,he]; rfl]
    unfold evFn sc_arBlock rv_arBlock
    have F1 := And.intro @hpl (And.intro @hf @d)
    refine eS fun K1 hn1 hr1 he1 => ?_;refine eO fun K2 hk2 => ?_;refine tL F1 ?_;refine hk2 _ ?_;refine hn1 (some ([0],none)) _ ?_;refine eS fun K3 hn3 hr3 he3 => ?_;refine eS fun K4 hn4 hr4 he4 => ?_;refine eO fun K5 hk5 => ?_;refine tL F1 ?_;refine hk5 _ ?_;refine hn4 (some ([7],none)) _ ?_;refine eB fun K6 hn6 hx6 hr6 he6 => ?_;refine eS fun K7 hn7 hr7 he7 => ?_;refine eO fun K8 hk8 => ?_;refine tS 1 F1 ?_;refine Or.inl ⟨_,gen_asr_yes Tryz.underlying98 rfl,?_⟩;refine tL F1 ?_;refine hk8 _ ?_;refine hn7 (some ([7,9,10],none)) _ ?_;refine eCt ?_;refine eS fun K9 hn9 hr9 he9 => ?_;refine eO fun K10 hk10 => ?_;refine tZ F1 ?_;refine hk10 _ ?_;refine hn9 (some ([5],none)) _ ?_;refine eB fun K11 hn11 hx11 hr11 he11 => ?_;refine eS fun K12 hn12 hr12 he12 => ?_;refine eO fun K13 hk13 => ?_;refine tC 2 F1 ?_;refine tL F1 ?_;refine hk13 _ ?_;refine hn12 (some ([5,13],none)) _ ?_;refine eCf ?_
    refine eS fun K14 hn14 hr14 he14 => ?_;refine eO fun K15 hk15 => ?_;refine tC 2 F1 ?_;refine tC 1 F1 ?_;refine tL F1 ?_;refine hk15 _ ?_;refine hn14 (some ([5,17],none)) _ ?_;refine eCf ?_;refine eS fun K16 hn16 hr16 he16 => ?_;refine eO fun K17 hk17 => ?_;refine tC 2 F1 ?_;refine tL F1 ?_;refine hk17 _ ?_;refine hn16 (some ([2,3,4],none)) _ ?_;refine hr11 _ ?_;refine hr6 _ ?_;refine hr3 _ ?_
    exact sf1 F1
   ·have d : (s.err != 0) = true := by simpa using he
    rw [show blockA (.tk s) = (0,s.err,true) by unfold blockA; simp only [hf,if_true]; rw [if_pos he]]
    unfold evFn sc_arBlock rv_arBlock
    have F1 := And.intro @hpl (And.intro @hf @d)
    refine eS fun K1 hn1 hr1 he1 => ?_;refine eO fun K2 hk2 => ?_;refine tL F1 ?_;refine hk2 _ ?_;refine hn1 (some ([0],none)) _ ?_;refine eS fun K3 hn3 hr3 he3 => ?_;refine eS fun K4 hn4 hr4 he4 => ?_;refine eO fun K5 hk5 => ?_;refine tL F1 ?_;refine hk5 _ ?_;refine hn4 (some ([7],none)) _ ?_;refine eB fun K6 hn6 hx6 hr6 he6 => ?_;refine eS fun K7 hn7 hr7 he7 => ?_;refine eO fun K8 hk8 => ?_;refine tS 1 F1 ?_;refine Or.inl ⟨_,gen_asr_yes Tryz.underlying98 rfl,?_⟩;refine tL F1 ?_;refine hk8 _ ?_;refine hn7 (some ([7,9,10],none)) _ ?_;refine eCt ?_;refine eS fun K9 hn9 hr9 he9 => ?_;refine eO fun K10 hk10 => ?_;refine tZ F1 ?_;refine hk10 _ ?_;refine hn9 (some ([5],none)) _ ?_;refine eB fun K11 hn11 hx11 hr11 he11 => ?_;refine eS fun K12 hn12 hr12 he12 => ?_;refine eO fun K13 hk13 => ?_;refine tC 2 F1 ?_;refine tL F1 ?_;refine hk13 _ ?_;refine hn12 (some ([5,13],none)) _ ?_;refine eCf ?_
    refine eS fun K14 hn14 hr14 he14 => ?_;refine eO fun K15 hk15 => ?_;refine tC 2 F1 ?_;refine tC 1 F1 ?_;refine tL F1 ?_;refine hk15 _ ?_;refine hn14 (some ([5,17],none)) _ ?_;refine eCt ?_;refine eS fun K16 hn16 hr16 he16 => ?_;refine eD [] (n := 3) fun K17 hk17 => ?_;refine sq0 ?_;refine fC 2 F1 ?_;refine fL F1 ?_;refine hk17 _ ?_;refine sr0 ?_;refine tL F1 ?_;refine hn16 (some ([2,3,4],none)) _ ?_;refine hr11 _ ?_;refine hr6 _ ?_;refine hr3 _ ?_
    exact sf1 F1
 | gv s =>
  show evFn _ _ [.ifc 104 (.agg (cGv s L.nx))] _
  cases hf : s.fin
  ·rw [show blockA (.gv s) = (0,0,false) by unfold blockA; simp only [hf]; rfl]
   unfold evFn sc_arBlock rv_arBlock
   have F1 := And.intro @hpl @hf
   refine eS fun K1 hn1 hr1 he1 => ?_;refine eO fun K2 hk2 => ?_;refine tL F1 ?_;refine hk2 _ ?_;refine hn1 (some ([0],none)) _ ?_;refine eS fun K3 hn3 hr3 he3 => ?_;refine eS fun K4 hn4 hr4 he4 => ?_;refine eO fun K5 hk5 => ?_;refine tL F1 ?_;refine hk5 _ ?_;refine hn4 (some ([7],none)) _ ?_;refine eB fun K6 hn6 hx6 hr6 he6 => ?_;refine eS fun K7 hn7 hr7 he7 => ?_;refine eO fun K8 hk8 => ?_;refine tS 1 F1 ?_;refine Or.inl ⟨_,gen_asr_no Tryz.underlying98 rfl (by decide) zTk_run zTk_rep,?_⟩;refine tL F1 ?_;refine hk8 _ ?_;refine hn7 (some ([7,9,10],none)) _ ?_;refine eCf ?_;refine eS fun K9 hn9 hr9 he9 => ?_;refine eO fun K10 hk10 => ?_;refine tS 1 F1 ?_;refine Or.inl ⟨_,gen_asr_yes Tryz.underlying104 rfl,?_⟩;refine tL F1 ?_;refine hk10 _ ?_;refine hn9 (some ([24,25],none)) _ ?_;refine eCt ?_;refine eS fun K11 hn11 hr11 he11 => ?_;refine eO fun K12 hk12 => ?_;refine tZ F1 ?_;refine hk12 _ ?_
   refine hn11 (some ([6],none)) _ ?_;refine eS fun K13 hn13 hr13 he13 => ?_;refine eO fun K14 hk14 => ?_;refine tZ F1 ?_;refine hk14 _ ?_;refine hn13 (some ([6,27],none)) _ ?_;refine eCf ?_;refine hn6 _ ?_;refine hn3 (some ([],none)) _ ?_;refine eS fun K15 hn15 hr15 he15 => ?_;refine eO fun K16 hk16 => ?_;refine tL F1 ?_;refine hk16 _ ?_;refine hn15 (some ([2,3,4],none)) _ ?_
   exact sf1 F1
  ·rw [show blockA (.gv s) = ((s.block : Int),s.err,true) by unfold blockA; simp only [hf]; rfl]
   unfold evFn sc_arBlock rv_arBlock
   have F1 := And.intro @hpl @hf
   refine eS fun K1 hn1 hr1 he1 => ?_;refine eO fun K2 hk2 => ?_;refine tL F1 ?_;refine hk2 _ ?_;refine hn1 (some ([0],none)) _ ?_;refine eS fun K3 hn3 hr3 he3 => ?_;refine eS fun K4 hn4 hr4 he4 => ?_;refine eO fun K5 hk5 => ?_;refine tL F1 ?_;refine hk5 _ ?_;refine hn4 (some ([7],none)) _ ?_;refine eB fun K6 hn6 hx6 hr6 he6 => ?_;refine eS fun K7 hn7 hr7 he7 => ?_;refine eO fun K8 hk8 => ?_;refine tS 1 F1 ?_;refine Or.inl ⟨_,gen_asr_no Tryz.underlying98 rfl (by decide) zTk_run zTk_rep,?_⟩;refine tL F1 ?_;refine hk8 _ ?_;refine hn7 (some ([7,9,10],none)) _ ?_;refine eCf ?_;refine eS fun K9 hn9 hr9 he9 => ?_;refine eO fun K10 hk10 => ?_;refine tS 1 F1 ?_;refine Or.inl ⟨_,gen_asr_yes Tryz.underlying104 rfl,?_⟩;refine tL F1 ?_;refine hk10 _ ?_;refine hn9 (some ([24,25],none)) _ ?_;refine eCt ?_;refine eS fun K11 hn11 hr11 he11 => ?_;refine eO fun K12 hk12 => ?_;refine tZ F1 ?_;refine hk12 _ ?_
   refine hn11 (some ([6],none)) _ ?_;refine eS fun K13 hn13 hr13 he13 => ?_;refine eO fun K14 hk14 => ?_;refine tZ F1 ?_;refine hk14 _ ?_;refine hn13 (some ([6,27],none)) _ ?_;refine eCt ?_;refine eS fun K15 hn15 hr15 he15 => ?_;refine eD [] (n := 5) fun K16 hk16 => ?_;refine sq0 ?_;refine fC 2 F1 ?_;refine fC 2 F1 ?_;refine fL F1 ?_;refine hk16 _ ?_;refine sr0 ?_;refine tL F1 ?_;refine hn15 (some ([2,3,4],none)) _ ?_;refine hr6 _ ?_;refine hr3 _ ?_
   exact sf1 F1
end Go.Proofs.YtkmbcjnaaokilaaGreatDoor
