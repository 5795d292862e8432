/-
  Layer 6 by shadows: the machine's actions.
-/
import Derived.Test.YtkmbcjnaaokilaaGreatDoorK6a
import Derived.Test.YtkmbcjnaaokilaaGreatDoorK4f
import Derived.Test.YtkmbcjnaaokilaaGreatDoorMC
namespace Go.Proofs.YtkmbcjnaaokilaaGreatDoor
set_option linter.unusedSimpArgs false
set_option linter.unusedVariables false
open Go.RowKit Go.Maps
noncomputable def readM (M : MachM) (t : Int) (a : ActM) (c : Int) : MachM × GotV :=
 if a.op = 5 then ({ M with mem := (look1M M.mem t a.place).1 },⟨(look1M M.mem t a.place).2.1,true⟩)
 else ({ M with mem := (loadM M.mem t a.place (a.op == 2) c).1 },⟨(loadM M.mem t a.place (a.op == 2) c).2.1,true⟩)
noncomputable def writeM (M : MachM) (t : Int) (a : ActM) : MachM × GotV :=
 if a.op = 6 then
  (if (mswapM M.mem t a.place a.old a.new).2.2.1 = true then { M with mem := (mswapM M.mem t a.place a.old a.new).1,lines := storeM M.lines a.place a.new } else { M with mem := (mswapM M.mem t a.place a.old a.new).1 },
   ⟨(mswapM M.mem t a.place a.old a.new).2.1,(mswapM M.mem t a.place a.old a.new).2.2.1⟩)
 else ({ M with mem := (mstoreM M.mem t a.place a.new (a.op == 4)).1,lines := storeM M.lines a.place a.new },⟨zWord,true⟩)
def tickM (M : MachM) (t : Int) : MachM := { M with steps := M.steps.set (t - 1).toNat ((M.steps[(t - 1).toNat]?).getD 0 + 1) }
noncomputable def actM (M : MachM) (t : Int) (a : ActM) (c : Int) : MachM × GotV :=
 if changesB a.op = true then writeM M t a else if a.op = 7 then ({ M with lines := flushM M.lines t a.place },⟨zWord,true⟩)
 else if a.op = 8 then ({ M with lines := syncM M.lines t },⟨zWord,true⟩) else if a.op = 0 then (M,⟨zWord,true⟩) else readM M t a c
noncomputable def doM (M : MachM) (t : Int) (a : ActM) (c : Int) : MachM × GotV × Int :=
 if checkM M t a = 0 then (tickM (actM M t a c).1 t,(actM M t a c).2,0) else (M,zGot,checkM M t a)
noncomputable def crashM (M : MachM) (c : Int) : MachM :=
 if M.mem.views.length = 0 ∨ M.mem.places.length = 0 then M else
  ⟨(mnewM M.mem.views.length (leftM M.lines (mixF c))).1,newM (leftM M.lines (mixF c)),M.steps,M.crashes + 1⟩
structure MachOk (M : MachM) (n : Nat) : Prop where
 mem : MemOk M.mem n
 into : MemIn M.mem
 lines : LGood M.lines n
 threads : M.steps.length = M.mem.views.length
 size : M.lines.first.length = M.mem.places.length
 steps : ∀ s ∈ M.steps,0 ≤ s ∧ s ≤ (n : Int)
 crashes : 0 ≤ M.crashes ∧ M.crashes ≤ (n : Int)
theorem ok_cRead (M : MachM) (t : Int) (a : ActM) (c : Int) {n : Nat} (hM : MemOk M.mem n) (hn : n ≤ 1000) : Ok 93 [eMach M,sI t,.agg (eAct4 a),sI c] (.tup [eMach (readM M t a c).1,.agg (eGot (readM M t a c).2)]) := by
 refine ok_of_tr Tryz.func93 tr_cRead rfl ?_
 obtain ⟨op,a,o,w⟩ := a
 unfold readM
 simp only
 by_cases h : op = 5
 ·subst h
  have c0 := ok_mLook M.mem t a hM (by omega)
  rw [if_pos rfl]
  generalize look1M M.mem t a = R at c0 ⊢
  unfold evFn sc_cRead rv_cRead
  refine eS fun K1 hn1 hr1 he1 => ?_;refine eO fun K2 hk2 => ?_;refine tL0 ?_;refine hk2 _ ?_;refine hn1 (some ([1,3,4,6,8,9],none)) _ ?_;refine eS fun K3 hn3 hr3 he3 => ?_;refine eO fun K4 hk4 => ?_;refine tL0 ?_;refine hk4 _ ?_;refine hn3 (some ([1,3,4,6,8,9,10],none)) _ ?_;refine eS fun K5 hn5 hr5 he5 => ?_;refine eS fun K6 hn6 hr6 he6 => ?_;refine eO fun K7 hk7 => ?_;refine tC0 2 ?_;refine tZ0 ?_;refine hk7 _ ?_;refine hn6 (some ([1,3,4,6,8,9,10,13],none)) _ ?_;refine eCt ?_;refine eO fun K8 hk8 => ?_;refine tC0 2 ?_;refine tC0 3 ?_;refine tS0 1 ?_;refine Or.inl (Or.inl ⟨_,c0,?_⟩);refine tC0 6 ?_;refine tZ0 ?_;refine hk8 _ ?_;refine hn5 (some ([4,8,9,10],none)) _ ?_;refine eS fun K9 hn9 hr9 he9 => ?_;refine eP ([]) [8,9] [0,1,2] [3,4] (by kernel_rfl) (fun K10 hk10 => ?_);refine sp0 ?_
  have F1 := @shPP
  refine evP_take 1 fun K11 hk11 => ?_;refine sh1 F1 ?_;refine sd ?_;refine hk11 _ ?_;refine evP_take 1 fun K12 hk12 => ?_;refine sh1 F1 ?_;refine sd ?_;refine hk12 _ ?_;refine sh1 F1 ?_;refine hk10 _ (by rfl) (fun K13 hk13 => ?_);refine sp0 ?_;refine toKL ?_;refine tC 1 F1 ?_;refine tZ F1 ?_;refine hk13 _ ?_;refine so0 ?_;refine hn9 (some ([8,9],none)) _ ?_
  exact sf1 F1
 ·have d : (op == 5) = false := by simpa using h
  rw [if_neg h]
  have c0 := ok_mLoad M.mem t a (op == 2) c hM (by omega)
  generalize loadM M.mem t a (op == 2) c = R at c0 ⊢
  unfold evFn sc_cRead rv_cRead
  have F1 := @d
  refine eS fun K1 hn1 hr1 he1 => ?_;refine eO fun K2 hk2 => ?_;refine tL F1 ?_;refine hk2 _ ?_;refine hn1 (some ([1,3,4,6,8,9],none)) _ ?_;refine eS fun K3 hn3 hr3 he3 => ?_;refine eO fun K4 hk4 => ?_;refine tL F1 ?_;refine hk4 _ ?_;refine hn3 (some ([1,3,4,6,8,9,10],none)) _ ?_;refine eS fun K5 hn5 hr5 he5 => ?_;refine eS fun K6 hn6 hr6 he6 => ?_;refine eO fun K7 hk7 => ?_;refine tC 2 F1 ?_;refine tZ F1 ?_;refine hk7 _ ?_;refine hn6 (some ([1,3,4,6,8,9,10,13],none)) _ ?_;refine eCf ?_;refine eO fun K8 hk8 => ?_;refine tC 2 F1 ?_;refine tC 3 F1 ?_;refine tC 2 F1 ?_;refine tC 1 F1 ?_;refine tS 1 F1 ?_;refine tS 1 F1 ?_;refine Or.inl (Or.inl ⟨_,c0,?_⟩);refine tC 6 F1 ?_;refine tZ F1 ?_;refine hk8 _ ?_;refine hn5 (some ([4,8,9,10],none)) _ ?_;refine eS fun K9 hn9 hr9 he9 => ?_;refine eP ([]) [8,9] [0,1,2] [3,4] (by kernel_rfl) (fun K10 hk10 => ?_);refine sp0 ?_
  have F2 := And.intro F1 @shPP
  refine evP_take 1 fun K11 hk11 => ?_;refine sh1 F2 ?_;refine sd ?_;refine hk11 _ ?_;refine evP_take 1 fun K12 hk12 => ?_;refine sh1 F2 ?_;refine sd ?_;refine hk12 _ ?_;refine sh1 F2 ?_;refine hk10 _ (by rfl) (fun K13 hk13 => ?_);refine sp0 ?_;refine toKL ?_;refine tC 1 F2 ?_;refine tZ F2 ?_;refine hk13 _ ?_;refine so0 ?_;refine hn9 (some ([8,9],none)) _ ?_
  exact sf1 F2
set_option maxHeartbeats 2000000 in
theorem ok_cWrite (M : MachM) (t : Int) (a : ActM) {n : Nat} (hM : MachOk M n) (hn : n ≤ 900) (ha : PlcB M.mem a.place) : Ok 90 [eMach M,sI t,.agg (eAct4 a)] (.tup [eMach (writeM M t a).1,.agg (eGot (writeM M t a).2)]) := by
 refine ok_of_tr Tryz.func90 tr_cWrite rfl ?_
 obtain ⟨op,a,o,w⟩ := a
 have hL := hM.lines
 have c1 := ok_lStore M.lines a w ha.1 (by rw [hM.size]; exact ha.2) hL.lines.many hL.lines.most (fun y hy => Nat.le_trans (hL.most y hy) (by omega))
 unfold writeM
 simp only
 by_cases h : op = 6
 ·subst h
  have c0 := ok_mSwap M.mem t a o w hM.mem (by omega)
  rw [if_pos rfl]
  generalize mswapM M.mem t a o w = R at c0 ⊢
  obtain ⟨R1,R2,R3,R4⟩ := R
  simp only at c0 ⊢
  cases R3
  ·rw [if_neg (by simp)]
   unfold evFn sc_cWrite rv_cWrite
   refine eS fun K1 hn1 hr1 he1 => ?_;refine eO fun K2 hk2 => ?_;refine tL0 ?_;refine hk2 _ ?_;refine hn1 (some ([1,3,5,6,7],none)) _ ?_;refine eS fun K3 hn3 hr3 he3 => ?_;refine eO fun K4 hk4 => ?_;refine tZ0 ?_;refine hk4 _ ?_;refine hn3 (some ([1,3,5,6,7,8],none)) _ ?_;refine eS fun K5 hn5 hr5 he5 => ?_;refine eS fun K6 hn6 hr6 he6 => ?_;refine eO fun K7 hk7 => ?_;refine tC0 2 ?_;refine tZ0 ?_;refine hk7 _ ?_;refine hn6 (some ([1,3,5,6,7,8,12],none)) _ ?_;refine eCt ?_;refine eO fun K8 hk8 => ?_;refine tC0 2 ?_;refine tC0 3 ?_;refine tC0 2 ?_;refine tC0 2 ?_;refine tS0 1 ?_;refine Or.inl (Or.inl ⟨_,c0,?_⟩);refine tC0 7 ?_;refine tC0 2 ?_;refine tZ0 ?_;refine hk8 _ ?_;refine hn5 (some ([3,5,6,7,8],none)) _ ?_;refine eS fun K9 hn9 hr9 he9 => ?_;refine eS fun K10 hn10 hr10 he10 => ?_;refine eO fun K11 hk11 => ?_;refine tZ0 ?_;refine hk11 _ ?_;refine hn10 (some ([3,5,6,7,8,47],none)) _ ?_
   refine eCf ?_;refine hn9 (some ([3,6,7,8],none)) _ ?_;refine eS fun K12 hn12 _ _ => ?_;refine eP ([]) [6,7] [0,1] [2,3] (by kernel_rfl) (fun K13 hk13 => ?_);refine sp0 ?_
   have F1 := @shPP
   refine evP_take 1 fun K14 hk14 => ?_;refine sh1 F1 ?_;refine sd ?_;refine hk14 _ ?_;refine sh1 F1 ?_;refine sd ?_;refine hk13 _ (by rfl) (fun K15 hk15 => ?_);refine sp0 ?_;refine toKL ?_;refine tC 1 F1 ?_;refine tZ F1 ?_;refine hk15 _ ?_;refine so0 ?_;refine hn12 (some ([6,7],none)) _ ?_
   exact sf1 F1
  ·rw [if_pos rfl]
   unfold evFn sc_cWrite rv_cWrite
   refine eS fun K1 hn1 hr1 he1 => ?_;refine eO fun K2 hk2 => ?_;refine tL0 ?_;refine hk2 _ ?_;refine hn1 (some ([1,3,5,6,7],none)) _ ?_;refine eS fun K3 hn3 hr3 he3 => ?_;refine eO fun K4 hk4 => ?_;refine tZ0 ?_;refine hk4 _ ?_;refine hn3 (some ([1,3,5,6,7,8],none)) _ ?_;refine eS fun K5 hn5 hr5 he5 => ?_;refine eS fun K6 hn6 hr6 he6 => ?_;refine eO fun K7 hk7 => ?_;refine tC0 2 ?_;refine tZ0 ?_;refine hk7 _ ?_;refine hn6 (some ([1,3,5,6,7,8,12],none)) _ ?_;refine eCt ?_;refine eO fun K8 hk8 => ?_;refine tC0 2 ?_;refine tC0 3 ?_;refine tC0 2 ?_;refine tC0 2 ?_;refine tS0 1 ?_;refine Or.inl (Or.inl ⟨_,c0,?_⟩);refine tC0 7 ?_;refine tC0 2 ?_;refine tZ0 ?_;refine hk8 _ ?_;refine hn5 (some ([3,5,6,7,8],none)) _ ?_;refine eS fun K9 hn9 hr9 he9 => ?_;refine eS fun K10 hn10 hr10 he10 => ?_;refine eO fun K11 hk11 => ?_;refine tZ0 ?_;refine hk11 _ ?_;refine hn10 (some ([3,5,6,7,8,47],none)) _ ?_
   refine eCt ?_;refine eO fun K12 hk12 => ?_;refine tC0 2 ?_;refine tC0 2 ?_;refine tC0 2 ?_;refine tS0 1 ?_;refine Or.inl (Or.inl ⟨_,c1,?_⟩);refine tZ0 ?_;refine hk12 _ ?_;refine hn9 (some ([3,6,7,8],none)) _ ?_;refine eS fun K13 hn13 hr13 he13 => ?_;refine eP ([]) [6,7] [0,1] [2,3] (by kernel_rfl) (fun K14 hk14 => ?_);refine sp0 ?_
   have F1 := @shPP
   refine evP_take 1 fun K15 hk15 => ?_;refine sh1 F1 ?_;refine sd ?_;refine hk15 _ ?_;refine sh1 F1 ?_;refine sd ?_;refine hk14 _ (by rfl) (fun K16 hk16 => ?_);refine sp0 ?_;refine toKL ?_;refine tC 1 F1 ?_;refine tZ F1 ?_;refine hk16 _ ?_;refine so0 ?_;refine hn13 (some ([6,7],none)) _ ?_
   exact sf1 F1
 ·have d : (op == 6) = false := by simpa using h
  rw [if_neg h]
  have c0 := ok_mStore M.mem t a w (op == 4) hM.mem (by omega)
  generalize mstoreM M.mem t a w (op == 4) = R at c0 ⊢
  unfold evFn sc_cWrite rv_cWrite
  have F1 := @d
  refine eS fun K1 hn1 hr1 he1 => ?_;refine eO fun K2 hk2 => ?_;refine tL F1 ?_;refine hk2 _ ?_;refine hn1 (some ([1,3,5,6,7],none)) _ ?_;refine eS fun K3 hn3 hr3 he3 => ?_;refine eO fun K4 hk4 => ?_;refine tZ F1 ?_;refine hk4 _ ?_;refine hn3 (some ([1,3,5,6,7,8],none)) _ ?_;refine eS fun K5 hn5 hr5 he5 => ?_;refine eS fun K6 hn6 hr6 he6 => ?_;refine eO fun K7 hk7 => ?_;refine tC 2 F1 ?_;refine tZ F1 ?_;refine hk7 _ ?_;refine hn6 (some ([1,3,5,6,7,8,12],none)) _ ?_;refine eCf ?_;refine eO fun K8 hk8 => ?_;refine tC 2 F1 ?_;refine tC 3 F1 ?_;refine tC 2 F1 ?_;refine tC 2 F1 ?_;refine tC 1 F1 ?_;refine tS 1 F1 ?_;refine Or.inl (Or.inl ⟨_,c0,?_⟩);refine tZ F1 ?_;refine hk8 _ ?_;refine hn5 (some ([3,5,6,7,8],none)) _ ?_;refine eS fun K9 hn9 hr9 he9 => ?_;refine eS fun K10 hn10 hr10 he10 => ?_;refine eO fun K11 hk11 => ?_;refine tZ F1 ?_;refine hk11 _ ?_;refine hn10 (some ([3,5,6,7,8,47],none)) _ ?_
  refine eCt ?_;refine eO fun K12 hk12 => ?_;refine tC 2 F1 ?_;refine tC 2 F1 ?_;refine tC 2 F1 ?_;refine tS 1 F1 ?_;refine Or.inl (Or.inl ⟨_,c1,?_⟩);refine tZ F1 ?_;refine hk12 _ ?_;refine hn9 (some ([3,6,7,8],none)) _ ?_;refine eS fun K13 hn13 hr13 he13 => ?_;refine eP ([]) [6,7] [0,1] [2,3] (by kernel_rfl) (fun K14 hk14 => ?_);refine sp0 ?_
  have F2 := And.intro F1 @shPP
  refine evP_take 1 fun K15 hk15 => ?_;refine sh1 F2 ?_;refine sd ?_;refine hk15 _ ?_;refine sh1 F2 ?_;refine sd ?_;refine hk14 _ (by rfl) (fun K16 hk16 => ?_);refine sp0 ?_;refine toKL ?_;refine tC 1 F2 ?_;refine tZ F2 ?_;refine hk16 _ ?_;refine so0 ?_;refine hn13 (some ([6,7],none)) _ ?_;refine sg1 F2 ?_
  rfl
theorem size_load (M : MemM) (t a : Int) (q : Bool) (c : Int) : (loadM M t a q c).1.views.length = M.views.length ∧ (loadM M t a q c).1.places.length = M.places.length := by
 unfold loadM; split
 ·exact ⟨(size_finds _ _ _ _ _).1,by rw [(size_finds _ _ _ _ _).2]⟩
 ·exact ⟨rfl,rfl⟩
theorem size_store (M : MemM) (t a : Int) (w : WordV) (b : Bool) : (mstoreM M t a w b).1.views.length = M.views.length ∧ (mstoreM M t a w b).1.places.length = M.places.length := by
 unfold mstoreM; split
 ·exact size_adds _ _ _ _ _
 ·exact ⟨rfl,rfl⟩
theorem size_swap (M : MemM) (t a : Int) (o w : WordV) : (mswapM M t a o w).1.views.length = M.views.length ∧ (mswapM M t a o w).1.places.length = M.places.length := by
 have h := size_look M t a
 unfold mswapM; split
 ·have := size_adds (look1M M t a).1 t a w true
  exact ⟨this.1.trans h.1,this.2.trans (by rw [h.2])⟩
 ·exact ⟨h.1,by rw [h.2]⟩
theorem lgood_up {L : LinesM} {n k : Nat} (h : LGood L n) (hk : n ≤ k) : LGood L k := ⟨h.lines,h.asks,fun y hy => Nat.le_trans (h.most y hy) hk⟩
theorem machOk_up {M : MachM} {n k : Nat} (h : MachOk M n) (hk : n ≤ k) : MachOk M k := ⟨memOk_up h.mem hk,h.into,lgood_up h.lines hk,h.threads,h.size,fun s hs => by have := h.steps s hs; omega,by have := h.crashes; omega⟩
theorem check_zero {M : MachM} {t : Int} {a : ActM} (h : checkM M t a = 0) : ThrB M.mem t ∧ (0 ≤ a.op ∧ a.op ≤ 8) ∧ (a.op ≠ 0 → a.op ≠ 8 → PlcB M.mem a.place) := by
 unfold checkM at h
 split at h
 ·cases h
 ·split at h
  ·cases h
  ·split at h
   ·cases h
   ·rename_i h1 h2 h3
    refine ⟨⟨by omega,by omega⟩,by omega,fun h4 h5 => ⟨by omega,by omega⟩⟩
theorem first_flush (L : LinesM) (t a : Int) : (flushM L t a).first = L.first := by unfold flushM; split <;> rfl
theorem machOk_act {M : MachM} {n : Nat} (hM : MachOk M n) {t : Int} {a : ActM} (c : Int) (h : checkM M t a = 0) : MachOk (actM M t a c).1 (n + 1) ∧ (actM M t a c).1.steps = M.steps ∧ (actM M t a c).1.mem.views.length = M.mem.views.length ∧ (actM M t a c).1.mem.places.length = M.mem.places.length ∧ (actM M t a c).1.crashes = M.crashes := by
 obtain ⟨ht,hop,hpl⟩ := check_zero h
 have hup := machOk_up hM (show n ≤ n + 1 by omega)
 have hch : changesB a.op = true → a.op = 3 ∨ a.op = 4 ∨ a.op = 6 := fun h => by simp [changesB] at h; omega
 have hpl' : changesB a.op = true ∨ a.op = 7 → PlcB M.mem a.place := fun h => hpl (by rcases h with h | h; have := hch h; omega; omega) (by rcases h with h | h; have := hch h; omega; omega)
 unfold actM
 split
 ·rename_i hc
  have ha := hpl' (.inl hc)
  have hs := good_store hM.lines a.place a.new ha.1 (by rw [hM.size]; exact ha.2)
  unfold writeM
  split
  ·have s := size_swap M.mem t a.place a.old a.new
   have m1 := memOk_swap hM.mem t a.place a.old a.new
   have m2 := memIn_swap hM.mem hM.into t a.place a.old a.new
   simp only
   split
   ·exact ⟨⟨m1,m2,hs,hM.threads.trans s.1.symm,by show M.lines.first.length = _; rw [hM.size]; exact s.2.symm,hup.steps,hup.crashes⟩,rfl,s.1,s.2,rfl⟩
   ·exact ⟨⟨m1,m2,hup.lines,hM.threads.trans s.1.symm,hM.size.trans s.2.symm,hup.steps,hup.crashes⟩,rfl,s.1,s.2,rfl⟩
  ·have s := size_store M.mem t a.place a.new (a.op == 4)
   exact ⟨⟨memOk_store hM.mem _ _ _ _,memIn_store hM.mem hM.into _ _ _ _,hs,hM.threads.trans s.1.symm,hM.size.trans s.2.symm,hup.steps,hup.crashes⟩,rfl,s.1,s.2,rfl⟩
 ·split
  ·exact ⟨⟨hup.mem,hup.into,lgood_up (good_flush hM.lines t a.place ⟨ht.1,by have := ht.2; have := hM.mem.vl; omega⟩) (by omega),hup.threads,by show (flushM _ _ _).first.length = _; rw [first_flush]; exact hM.size,hup.steps,hup.crashes⟩,rfl,rfl,rfl,rfl⟩
  ·split
   ·exact ⟨⟨hup.mem,hup.into,lgood_up (good_sync hM.lines t) (by omega),hup.threads,hM.size,hup.steps,hup.crashes⟩,rfl,rfl,rfl,rfl⟩
   ·split
    ·exact ⟨hup,rfl,rfl,rfl,rfl⟩
    ·unfold readM
     split
     ·have s := size_look M.mem t a.place
      exact ⟨⟨memOk_up (memOk_look hM.mem t a.place) (by omega),memIn_look hM.mem hM.into _ _,hup.lines,hM.threads.trans s.1.symm,hM.size.trans (by show _ = (look1M M.mem t a.place).1.places.length; rw [s.2]),hup.steps,hup.crashes⟩,rfl,s.1,by show (look1M M.mem t a.place).1.places.length = _; rw [s.2],rfl⟩
     ·have s := size_load M.mem t a.place (a.op == 2) c
      exact ⟨⟨memOk_up (memOk_load hM.mem _ _ _ _) (by omega),memIn_load hM.mem hM.into _ _ _ _,hup.lines,hM.threads.trans s.1.symm,hM.size.trans s.2.symm,hup.steps,hup.crashes⟩,rfl,s.1,s.2,rfl⟩
theorem machOk_tick {M : MachM} {n : Nat} (hM : MachOk M (n + 1)) (t : Int) (hs : ∀ s ∈ M.steps,0 ≤ s ∧ s ≤ (n : Int)) : MachOk (tickM M t) (n + 1) := by
 refine ⟨hM.mem,hM.into,hM.lines,by simp [tickM,hM.threads],hM.size,fun s hs' => ?_,hM.crashes⟩
 rcases List.mem_or_eq_of_mem_set hs' with h | rfl
 ·have := hs s h; omega
 ·cases e : M.steps[(t - 1).toNat]? with
  | none => simp; omega
  | some x => have := hs x (List.mem_of_getElem? e); simp; omega
theorem machOk_do {M : MachM} {n : Nat} (hM : MachOk M n) (t : Int) (a : ActM) (c : Int) : MachOk (doM M t a c).1 (n + 1) := by
 unfold doM
 split
 ·rename_i h
  obtain ⟨h1,h2,_⟩ := machOk_act hM c h
  exact machOk_tick h1 t (by rw [h2]; exact hM.steps)
 ·exact machOk_up hM (by omega)
theorem left_len (L : LinesM) (more : Int → Int → Int) : (leftM L more).length = L.first.length := lefN_len L more _
theorem crash_new {M : MachM} {n : Nat} (hM : MachOk M n) (c : Int) (h : ¬ (M.mem.views.length = 0 ∨ M.mem.places.length = 0)) : (mnewM M.mem.views.length (leftM M.lines (mixF c))).2 = 0 := by
 have h1 := hM.mem.vl
 have h2 := hM.mem.pl
 have h3 := left_len M.lines (mixF c)
 rw [hM.size] at h3
 unfold mnewM
 rw [if_neg (by omega),if_neg (by omega),if_neg (by omega)]
theorem machOk_crash {M : MachM} {n : Nat} (hM : MachOk M n) (c : Int) : MachOk (crashM M c) (n + 1) := by
 unfold crashM
 split
 ·exact machOk_up hM (by omega)
 ·rename_i h
  have h0 := crash_new hM c h
  obtain ⟨h1,h2,h3,h4,e⟩ := mnew_ok h0
  have h5 := left_len M.lines (mixF c)
  rw [hM.size] at h5
  refine ⟨memOk_up (memOk_new _ _) (by omega),memIn_new _ _,lgood_up (good_new _ h4) (by omega),?_,?_,fun s hs => by have := hM.steps s hs; omega,by have := hM.crashes; show 0 ≤ M.crashes + 1 ∧ M.crashes + 1 ≤ _; omega⟩
  ·show M.steps.length = (mnewM M.mem.views.length (leftM M.lines (mixF c))).1.views.length
   rw [e]; simp [hM.threads]
  ·show (newM (leftM M.lines (mixF c))).first.length = (mnewM M.mem.views.length (leftM M.lines (mixF c))).1.places.length
   rw [e]; simp [newM]
theorem machOk_new (k : Int) (ws : List WordV) : MachOk (cnewM k ws).1 1 := by
 unfold cnewM
 split
 ·rename_i h
  obtain ⟨h1,h2,h3,h4,e⟩ := mnew_ok h
  refine ⟨memOk_new _ _,memIn_new _ _,lgood_up (good_new _ h4) (by omega),?_,?_,fun s hs => ?_,by simp⟩
  ·show (List.replicate k.toNat (0 : Int)).length = (mnewM k ws).1.views.length
   rw [e]; simp
  ·show (newM ws).first.length = (mnewM k ws).1.places.length
   rw [e]; simp [newM]
  ·rw [(List.mem_replicate.1 hs).2]; omega
 ·refine ⟨memOk_up memOk_zero (by omega),memIn_zero,⟨⟨by simp [zMach],by simp [zMach],fun y hy => by simp [zMach] at hy,fun i y hy => by simp [zMach] at hy⟩,⟨fun t h => absurd rfl h,fun t k m hm => by simp [askOf,zMach] at hm⟩,fun y hy => by simp [zMach] at hy⟩,rfl,rfl,fun s hs => by simp [zMach] at hs,by simp [zMach]⟩
set_option maxHeartbeats 8000000 in
theorem ok_cDo (M : MachM) (t : Int) (a : ActM) (c : Int) {n : Nat} (hM : MachOk M n) (hn : n ≤ 900) : Ok 73 [eMach M,sI t,.agg (eAct4 a),sI c] (.tup [eMach (doM M t a c).1,.agg (eGot (doM M t a c).2.1),sI (doM M t a c).2.2]) := by
 refine ok_of_tr Tryz.func73 tr_cDo rfl ?_
 have k0 := ok_cCheck M t a
 have k1 := ok_cChanges a
 unfold doM
 by_cases h : checkM M t a = 0
 case neg =>
  rw [if_neg h]
  have d : (checkM M t a != 0) = true := by simpa using h
  generalize checkM M t a = e at k0 d ⊢
  unfold evFn sc_cDo rv_cDo
  have F1 := @d
  refine eS fun K1 hn1 hr1 he1 => ?_;refine eO fun K2 hk2 => ?_;refine tL F1 ?_;refine hk2 _ ?_;refine hn1 (some ([1,3,4,6,8,9],none)) _ ?_;refine eS fun K3 hn3 hr3 he3 => ?_;refine eS fun K4 hn4 hr4 he4 => ?_;refine eO fun K5 hk5 => ?_;refine tC 1 F1 ?_;refine tC 2 F1 ?_;refine tS 1 F1 ?_;refine Or.inl (Or.inl ⟨_,k0,?_⟩);refine tL F1 ?_;refine hk5 _ ?_;refine hn4 (some ([1,3,4,6,8,9,11],none)) _ ?_;refine eS fun K6 hn6 hr6 he6 => ?_;refine eO fun K7 hk7 => ?_;refine tZ F1 ?_;refine hk7 _ ?_;refine hn6 (some ([1,3,4,6,8,9,11,18],none)) _ ?_;refine eCt ?_;refine eS fun K8 hn8 hr8 he8 => ?_;refine eO fun K9 hk9 => ?_;refine tC 1 F1 ?_;refine tC 3 F1 ?_;refine tC 1 F1 ?_;refine tL F1 ?_;refine hk9 _ ?_;refine hn8 (some ([8,9,10],none)) _ ?_;refine hr3 _ ?_;refine sg1 F1 ?_
  rfl
 rw [if_pos h]
 rw [h] at k0
 obtain ⟨ht,hop,hpl⟩ := check_zero h
 obtain ⟨hA,hst,_⟩ := machOk_act hM c h
 have hthr := hM.threads
 have hvl := hM.mem.vl
 obtain ⟨m,hm⟩ := Int.eq_ofNat_of_zero_le (show 0 ≤ t - 1 by have := ht.1; omega)
 obtain ⟨s,hs⟩ : ∃ s,M.steps[m]? = some s := ⟨_,List.getElem?_eq_getElem (by have := ht.2; omega)⟩
 have hsb := hM.steps s (List.mem_of_getElem? hs)
 have q1 : IntKind.i64.wrap (t - 1) = (m : Int) := by have := ht.1; have := ht.2; rw [IntKind.wrap_i64]; omega
 have q2 : IntKind.i64.wrap (s + 1) = s + 1 := by rw [IntKind.wrap_i64]; omega
 have q3 : m < M.steps.length := (List.getElem?_eq_some_iff.1 hs).1
 have q4 : (m : Int) < (M.steps.length : Int) := by omega
 have etick : ∀ A : MachM,A.steps = M.steps → tickM A t = ⟨A.mem,A.lines,M.steps.set m (s + 1),A.crashes⟩ := fun A hA => by
  unfold tickM
  rw [hm,hA,Int.toNat_natCast,hs]; rfl
 rw [etick _ hst]
 have hrow : ∀ g,OkRow 71 [.sl 1 g (M.steps.map eSt)] 3 1 (M.steps.map eSt) := fun g => row_cloneInt g _ (by simp; omega)
 have efin : (M.steps.map eSt).set m [sI (s + 1)] = (M.steps.set m (s + 1)).map eSt := by rw [List.map_set]
 clear etick hst hA
 unfold actM
 by_cases h1 : changesB a.op = true
 ·rw [if_pos h1]
  rw [h1] at k1
  have h9 : a.op = 3 ∨ a.op = 4 ∨ a.op = 6 := by simp [changesB] at h1; omega
  have k2 := ok_cWrite M t a hM hn (hpl (by omega) (by omega))
  have e3 : (writeM M t a).1.steps = M.steps := by
   unfold writeM
   split
   ·simp only; split <;> rfl
   ·rfl
  generalize writeM M t a = R at k2 e3 ⊢
  obtain ⟨⟨R1,R2,R3,R4⟩,R5⟩ := R
  simp only at k2 e3 ⊢
  subst e3
  unfold evFn sc_cDo rv_cDo
  have F1 := And.intro @q1 (And.intro @q2 (And.intro @q3 (And.intro @q4 (And.intro @hs @efin))))
  refine eS fun K1 hn1 hr1 he1 => ?_;refine eO fun K2 hk2 => ?_;refine tL F1 ?_;refine hk2 _ ?_;refine hn1 (some ([1,3,4,6,8,9],none)) _ ?_;refine eS fun K3 hn3 hr3 he3 => ?_;refine eS fun K4 hn4 hr4 he4 => ?_;refine eO fun K5 hk5 => ?_;refine tC 1 F1 ?_;refine tC 2 F1 ?_;refine tS 1 F1 ?_;refine Or.inl (Or.inl ⟨_,k0,?_⟩);refine tL F1 ?_;refine hk5 _ ?_;refine hn4 (some ([1,3,4,6,8,9,11],none)) _ ?_;refine eS fun K6 hn6 hr6 he6 => ?_;refine eO fun K7 hk7 => ?_;refine tZ F1 ?_;refine hk7 _ ?_;refine hn6 (some ([1,3,4,6,8,9,11,18],none)) _ ?_;refine eCf ?_;refine hn3 (some ([1,3,4,6,8,9],none)) _ ?_;refine eS fun K8 hn8 hr8 he8 => ?_;refine eO fun K9 hk9 => ?_;refine tZ F1 ?_;refine hk9 _ ?_;refine hn8 (some ([1,3,4,6,8,9,12],none)) _ ?_;refine eS fun K10 hn10 hr10 he10 => ?_;refine eB fun K11 hn11 hx11 hr11 he11 => ?_;refine eS fun K12 hn12 hr12 he12 => ?_;refine eO fun K13 hk13 => ?_
  refine tC 1 F1 ?_;refine tS 1 F1 ?_;refine Or.inl (Or.inl ⟨_,k1,?_⟩);refine tL F1 ?_;refine hk13 _ ?_;refine hn12 (some ([1,3,4,6,8,9,12,23],none)) _ ?_;refine eCt ?_;refine eO fun K14 hk14 => ?_;refine tC 1 F1 ?_;refine tC 2 F1 ?_;refine tS 1 F1 ?_;refine Or.inl (Or.inl ⟨_,k2,?_⟩);refine tC 4 F1 ?_;refine tZ F1 ?_;refine hk14 _ ?_;refine hn11 _ ?_;refine hn10 (some ([1,4,8,9,12],none)) _ ?_;refine eS fun K15 hn15 _ _ => ?_;refine eO fun K16 hk16 => ?_;refine tC 2 F1 ?_;refine tS 1 F1 ?_;refine Or.inl (Or.inr (Or.inl ⟨_,_,_,hrow _,?_⟩));refine tZ F1 ?_;refine hk16 _ ?_;refine hn15 (some ([1,4,8,9,12],none)) _ ?_;refine eS fun K17 hn17 hr17 he17 => ?_;refine eO fun K18 hk18 => ?_;refine tC 2 F1 ?_;refine tC 2 F1 ?_;refine tC 1 F1 ?_;refine tC 1 F1 ?_;refine tC 1 F1 ?_;refine tC 1 F1 ?_;refine tZ F1 ?_;refine hk18 _ ?_;refine hn17 (some ([4,8,9,12],none)) _ ?_;refine eS fun K19 hn19 hr19 he19 => ?_
  refine eP ([]) [8,9,10] [0,1,4] [2,3] (by kernel_rfl) (fun K20 hk20 => ?_);refine sp0 ?_
  have F2 := And.intro F1 @shPP
  refine evP_take 1 fun K21 hk21 => ?_;refine sh1 F2 ?_;refine sd ?_;refine hk21 _ ?_;refine evP_take 1 fun K22 hk22 => ?_;refine sh1 F2 ?_;refine sd ?_;refine hk22 _ ?_;refine sh1 F2 ?_;refine hk20 _ (by rfl) (fun K23 hk23 => ?_);refine sp0 ?_;refine toKL ?_;refine tC 1 F2 ?_;refine tZ F2 ?_;refine hk23 _ ?_;refine so0 ?_;refine hn19 (some ([8,9,10],none)) _ ?_
  exact sf1 F2
 rw [if_neg h1]
 have h1 : changesB a.op = false := by simpa using h1
 rw [h1] at k1
 by_cases h2 : a.op = 7
 ·rw [if_pos h2]
  have hp := hpl (by omega) (by omega)
  have k2 := ok_lFlush M.lines t a.place hM.lines.lines hM.lines.asks ⟨ht.1,by have := ht.2; omega⟩ ⟨hp.1,by rw [hM.size]; exact hp.2⟩
  generalize flushM M.lines t a.place = R at k2 ⊢
  have d2 : (a.op == 7) = true := by simpa using h2
  unfold evFn sc_cDo rv_cDo
  have F1 := And.intro @q1 (And.intro @q2 (And.intro @q3 (And.intro @q4 (And.intro @hs (And.intro @efin @d2)))))
  refine eS fun K1 hn1 hr1 he1 => ?_;refine eO fun K2 hk2 => ?_;refine tL F1 ?_;refine hk2 _ ?_;refine hn1 (some ([1,3,4,6,8,9],none)) _ ?_;refine eS fun K3 hn3 hr3 he3 => ?_;refine eS fun K4 hn4 hr4 he4 => ?_;refine eO fun K5 hk5 => ?_;refine tC 1 F1 ?_;refine tC 2 F1 ?_;refine tS 1 F1 ?_;refine Or.inl (Or.inl ⟨_,k0,?_⟩);refine tL F1 ?_;refine hk5 _ ?_;refine hn4 (some ([1,3,4,6,8,9,11],none)) _ ?_;refine eS fun K6 hn6 hr6 he6 => ?_;refine eO fun K7 hk7 => ?_;refine tZ F1 ?_;refine hk7 _ ?_;refine hn6 (some ([1,3,4,6,8,9,11,18],none)) _ ?_;refine eCf ?_;refine hn3 (some ([1,3,4,6,8,9],none)) _ ?_;refine eS fun K8 hn8 hr8 he8 => ?_;refine eO fun K9 hk9 => ?_;refine tZ F1 ?_;refine hk9 _ ?_;refine hn8 (some ([1,3,4,6,8,9,12],none)) _ ?_;refine eS fun K10 hn10 hr10 he10 => ?_;refine eB fun K11 hn11 hx11 hr11 he11 => ?_;refine eS fun K12 hn12 hr12 he12 => ?_;refine eO fun K13 hk13 => ?_
  refine tC 1 F1 ?_;refine tS 1 F1 ?_;refine Or.inl (Or.inl ⟨_,k1,?_⟩);refine tL F1 ?_;refine hk13 _ ?_;refine hn12 (some ([1,3,4,6,8,9,12,23],none)) _ ?_;refine eCf ?_;refine eS fun K14 hn14 hr14 he14 => ?_;refine eO fun K15 hk15 => ?_;refine tC 2 F1 ?_;refine tC 1 F1 ?_;refine tL F1 ?_;refine hk15 _ ?_;refine hn14 (some ([1,3,4,6,8,9,12,33],none)) _ ?_;refine eCt ?_;refine eO fun K16 hk16 => ?_;refine tC 2 F1 ?_;refine tC 3 F1 ?_;refine tS 1 F1 ?_;refine Or.inl (Or.inl ⟨_,k2,?_⟩);refine tZ F1 ?_;refine hk16 _ ?_;refine hn11 _ ?_;refine hn10 (some ([1,4,8,9,12],none)) _ ?_;refine eS fun K17 hn17 hr17 he17 => ?_;refine eO fun K18 hk18 => ?_;refine tC 2 F1 ?_;refine tS 1 F1 ?_;refine Or.inl (Or.inr (Or.inl ⟨_,_,_,hrow _,?_⟩));refine tZ F1 ?_;refine hk18 _ ?_;refine hn17 (some ([1,4,8,9,12],none)) _ ?_;refine eS fun K19 hn19 hr19 he19 => ?_;refine eO fun K20 hk20 => ?_;refine tC 2 F1 ?_
  refine tC 2 F1 ?_;refine tC 1 F1 ?_;refine tC 1 F1 ?_;refine tC 1 F1 ?_;refine tC 1 F1 ?_;refine tZ F1 ?_;refine hk20 _ ?_;refine hn19 (some ([4,8,9,12],none)) _ ?_;refine eS fun K21 hn21 hr21 he21 => ?_;refine eP ([]) [8,9,10] [0,1,4] [2,3] (by kernel_rfl) (fun K22 hk22 => ?_);refine sp0 ?_
  have F2 := And.intro F1 @shPP
  refine evP_take 1 fun K23 hk23 => ?_;refine sh1 F2 ?_;refine sd ?_;refine hk23 _ ?_;refine evP_take 1 fun K24 hk24 => ?_;refine sh1 F2 ?_;refine sd ?_;refine hk24 _ ?_;refine sh1 F2 ?_;refine hk22 _ (by rfl) (fun K25 hk25 => ?_);refine sp0 ?_;refine toKL ?_;refine tC 1 F2 ?_;refine tZ F2 ?_;refine hk25 _ ?_;refine so0 ?_;refine hn21 (some ([8,9,10],none)) _ ?_;refine sg1 F2 ?_
  rfl
 rw [if_neg h2]
 have d2 : (a.op == 7) = false := by simpa using h2
 by_cases h3 : a.op = 8
 ·rw [if_pos h3]
  have k2 := ok_lSync M.lines t hM.lines.lines hM.lines.asks ⟨ht.1,by have := ht.2; omega⟩
  generalize syncM M.lines t = R at k2 ⊢
  have d3 : (a.op == 8) = true := by simpa using h3
  unfold evFn sc_cDo rv_cDo
  have F1 := And.intro @q1 (And.intro @q2 (And.intro @q3 (And.intro @q4 (And.intro @hs (And.intro @efin (And.intro @d2 @d3))))))
  refine eS fun K1 hn1 hr1 he1 => ?_;refine eO fun K2 hk2 => ?_;refine tL F1 ?_;refine hk2 _ ?_;refine hn1 (some ([1,3,4,6,8,9],none)) _ ?_;refine eS fun K3 hn3 hr3 he3 => ?_;refine eS fun K4 hn4 hr4 he4 => ?_;refine eO fun K5 hk5 => ?_;refine tC 1 F1 ?_;refine tC 2 F1 ?_;refine tS 1 F1 ?_;refine Or.inl (Or.inl ⟨_,k0,?_⟩);refine tL F1 ?_;refine hk5 _ ?_;refine hn4 (some ([1,3,4,6,8,9,11],none)) _ ?_;refine eS fun K6 hn6 hr6 he6 => ?_;refine eO fun K7 hk7 => ?_;refine tZ F1 ?_;refine hk7 _ ?_;refine hn6 (some ([1,3,4,6,8,9,11,18],none)) _ ?_;refine eCf ?_;refine hn3 (some ([1,3,4,6,8,9],none)) _ ?_;refine eS fun K8 hn8 hr8 he8 => ?_;refine eO fun K9 hk9 => ?_;refine tZ F1 ?_;refine hk9 _ ?_;refine hn8 (some ([1,3,4,6,8,9,12],none)) _ ?_;refine eS fun K10 hn10 hr10 he10 => ?_;refine eB fun K11 hn11 hx11 hr11 he11 => ?_;refine eS fun K12 hn12 hr12 he12 => ?_;refine eO fun K13 hk13 => ?_
  refine tC 1 F1 ?_;refine tS 1 F1 ?_;refine Or.inl (Or.inl ⟨_,k1,?_⟩);refine tL F1 ?_;refine hk13 _ ?_;refine hn12 (some ([1,3,4,6,8,9,12,23],none)) _ ?_;refine eCf ?_;refine eS fun K14 hn14 hr14 he14 => ?_;refine eO fun K15 hk15 => ?_;refine tC 2 F1 ?_;refine tC 1 F1 ?_;refine tL F1 ?_;refine hk15 _ ?_;refine hn14 (some ([1,3,4,6,8,9,12,33],none)) _ ?_;refine eCf ?_;refine eS fun K16 hn16 hr16 he16 => ?_;refine eO fun K17 hk17 => ?_;refine tC 2 F1 ?_;refine tC 1 F1 ?_;refine tL F1 ?_;refine hk17 _ ?_;refine hn16 (some ([1,3,4,6,8,9,12,47],none)) _ ?_;refine eCt ?_;refine eO fun K18 hk18 => ?_;refine tC 2 F1 ?_;refine tS 1 F1 ?_;refine tS 1 F1 ?_;refine Or.inl (Or.inl ⟨_,k2,?_⟩);refine tZ F1 ?_;refine hk18 _ ?_;refine hn11 _ ?_;refine hn10 (some ([1,4,8,9,12],none)) _ ?_;refine eS fun K19 hn19 hr19 he19 => ?_;refine eO fun K20 hk20 => ?_;refine tC 2 F1 ?_;refine tS 1 F1 ?_;refine Or.inl (Or.inr (Or.inl ⟨_,_,_,hrow _,?_⟩))
  refine tZ F1 ?_;refine hk20 _ ?_;refine hn19 (some ([1,4,8,9,12],none)) _ ?_;refine eS fun K21 hn21 hr21 he21 => ?_;refine eO fun K22 hk22 => ?_;refine tC 2 F1 ?_;refine tC 2 F1 ?_;refine tC 1 F1 ?_;refine tC 1 F1 ?_;refine tC 1 F1 ?_;refine tC 1 F1 ?_;refine tZ F1 ?_;refine hk22 _ ?_;refine hn21 (some ([4,8,9,12],none)) _ ?_;refine eS fun K23 hn23 hr23 he23 => ?_;refine eP ([]) [8,9,10] [0,1,4] [2,3] (by kernel_rfl) (fun K24 hk24 => ?_);refine sp0 ?_
  have F2 := And.intro F1 @shPP
  refine evP_take 1 fun K25 hk25 => ?_;refine sh1 F2 ?_;refine sd ?_;refine hk25 _ ?_;refine evP_take 1 fun K26 hk26 => ?_;refine sh1 F2 ?_;refine sd ?_;refine hk26 _ ?_;refine sh1 F2 ?_;refine hk24 _ (by rfl) (fun K27 hk27 => ?_);refine sp0 ?_;refine toKL ?_;refine tC 1 F2 ?_;refine tZ F2 ?_;refine hk27 _ ?_;refine so0 ?_;refine hn23 (some ([8,9,10],none)) _ ?_;refine sg1 F2 ?_
  rfl
 rw [if_neg h3]
 have d3 : (a.op == 8) = false := by simpa using h3
 by_cases h4 : a.op = 0
 ·rw [if_pos h4]
  have d4 : (a.op != 0) = false := by simpa using h4
  unfold evFn sc_cDo rv_cDo
  have F1 := And.intro @q1 (And.intro @q2 (And.intro @q3 (And.intro @q4 (And.intro @hs (And.intro @efin (And.intro @d2 (And.intro @d3 @d4)))))))
  refine eS fun K1 hn1 hr1 he1 => ?_;refine eO fun K2 hk2 => ?_;refine tL F1 ?_;refine hk2 _ ?_;refine hn1 (some ([1,3,4,6,8,9],none)) _ ?_;refine eS fun K3 hn3 hr3 he3 => ?_;refine eS fun K4 hn4 hr4 he4 => ?_;refine eO fun K5 hk5 => ?_;refine tC 1 F1 ?_;refine tC 2 F1 ?_;refine tS 1 F1 ?_;refine Or.inl (Or.inl ⟨_,k0,?_⟩);refine tL F1 ?_;refine hk5 _ ?_;refine hn4 (some ([1,3,4,6,8,9,11],none)) _ ?_;refine eS fun K6 hn6 hr6 he6 => ?_;refine eO fun K7 hk7 => ?_;refine tZ F1 ?_;refine hk7 _ ?_;refine hn6 (some ([1,3,4,6,8,9,11,18],none)) _ ?_;refine eCf ?_;refine hn3 (some ([1,3,4,6,8,9],none)) _ ?_;refine eS fun K8 hn8 hr8 he8 => ?_;refine eO fun K9 hk9 => ?_;refine tZ F1 ?_;refine hk9 _ ?_;refine hn8 (some ([1,3,4,6,8,9,12],none)) _ ?_;refine eS fun K10 hn10 hr10 he10 => ?_;refine eB fun K11 hn11 hx11 hr11 he11 => ?_;refine eS fun K12 hn12 hr12 he12 => ?_;refine eO fun K13 hk13 => ?_
  refine tC 1 F1 ?_;refine tS 1 F1 ?_;refine Or.inl (Or.inl ⟨_,k1,?_⟩);refine tL F1 ?_;refine hk13 _ ?_;refine hn12 (some ([1,3,4,6,8,9,12,23],none)) _ ?_;refine eCf ?_;refine eS fun K14 hn14 hr14 he14 => ?_;refine eO fun K15 hk15 => ?_;refine tC 2 F1 ?_;refine tC 1 F1 ?_;refine tL F1 ?_;refine hk15 _ ?_;refine hn14 (some ([1,3,4,6,8,9,12,33],none)) _ ?_;refine eCf ?_;refine eS fun K16 hn16 hr16 he16 => ?_;refine eO fun K17 hk17 => ?_;refine tC 2 F1 ?_;refine tC 1 F1 ?_;refine tL F1 ?_;refine hk17 _ ?_;refine hn16 (some ([1,3,4,6,8,9,12,47],none)) _ ?_;refine eCf ?_;refine eS fun K18 hn18 hr18 he18 => ?_;refine eO fun K19 hk19 => ?_;refine tC 2 F1 ?_;refine tC 1 F1 ?_;refine tL F1 ?_;refine hk19 _ ?_;refine hn18 (some ([1,3,4,6,8,9,12,59],none)) _ ?_;refine eCf ?_;refine hn11 _ ?_;refine hn10 (some ([1,4,8,9,12],none)) _ ?_;refine eS fun K20 hn20 _ _ => ?_;refine eO fun K21 hk21 => ?_
  refine tC 2 F1 ?_;refine tS 1 F1 ?_;refine Or.inl (Or.inr (Or.inl ⟨_,_,_,hrow _,?_⟩));refine tZ F1 ?_;refine hk21 _ ?_;refine hn20 (some ([1,4,8,9,12],none)) _ ?_;refine eS fun K22 hn22 _ _ => ?_;refine eO fun K23 hk23 => ?_;refine tC 2 F1 ?_;refine tC 2 F1 ?_;refine tC 1 F1 ?_;refine tC 1 F1 ?_;refine tC 1 F1 ?_;refine tC 1 F1 ?_;refine tZ F1 ?_;refine hk23 _ ?_;refine hn22 (some ([4,8,9,12],none)) _ ?_;refine eS fun K24 hn24 _ _ => ?_;refine eP ([]) [8,9,10] [0,1,4] [2,3] (by kernel_rfl) (fun K25 hk25 => ?_);refine sp0 ?_
  have F2 := And.intro F1 @shPP
  refine evP_take 1 fun K26 hk26 => ?_;refine sh1 F2 ?_;refine sd ?_;refine hk26 _ ?_;refine evP_take 1 fun K27 hk27 => ?_;refine sh1 F2 ?_;refine sd ?_;refine hk27 _ ?_;refine sh1 F2 ?_;refine hk25 _ (by rfl) (fun K28 hk28 => ?_);refine sp0 ?_;refine toKL ?_;refine tC 1 F2 ?_;refine tZ F2 ?_;refine hk28 _ ?_;refine so0 ?_;refine hn24 (some ([8,9,10],none)) _ ?_;refine sg1 F2 ?_
  rfl
 rw [if_neg h4]
 have d4 : (a.op != 0) = true := by simpa using h4
 have k2 := ok_cRead M t a c hM.mem (by omega)
 have e3 : (readM M t a c).1.steps = M.steps := by unfold readM; split <;> rfl
 generalize readM M t a c = R at k2 e3 ⊢
 obtain ⟨⟨R1,R2,R3,R4⟩,R5⟩ := R
 simp only at k2 e3 ⊢
 subst e3
 unfold evFn sc_cDo rv_cDo
 have F1 := And.intro @q1 (And.intro @q2 (And.intro @q3 (And.intro @q4 (And.intro @hs (And.intro @efin (And.intro @d2 (And.intro @d3 @d4)))))))
 refine eS fun K1 hn1 hr1 he1 => ?_;refine eO fun K2 hk2 => ?_;refine tL F1 ?_;refine hk2 _ ?_;refine hn1 (some ([1,3,4,6,8,9],none)) _ ?_;refine eS fun K3 hn3 hr3 he3 => ?_;refine eS fun K4 hn4 hr4 he4 => ?_;refine eO fun K5 hk5 => ?_;refine tC 1 F1 ?_;refine tC 2 F1 ?_;refine tS 1 F1 ?_;refine Or.inl (Or.inl ⟨_,k0,?_⟩);refine tL F1 ?_;refine hk5 _ ?_;refine hn4 (some ([1,3,4,6,8,9,11],none)) _ ?_;refine eS fun K6 hn6 hr6 he6 => ?_;refine eO fun K7 hk7 => ?_;refine tZ F1 ?_;refine hk7 _ ?_;refine hn6 (some ([1,3,4,6,8,9,11,18],none)) _ ?_;refine eCf ?_;refine hn3 (some ([1,3,4,6,8,9],none)) _ ?_;refine eS fun K8 hn8 hr8 he8 => ?_;refine eO fun K9 hk9 => ?_;refine tZ F1 ?_;refine hk9 _ ?_;refine hn8 (some ([1,3,4,6,8,9,12],none)) _ ?_;refine eS fun K10 hn10 hr10 he10 => ?_;refine eB fun K11 hn11 hx11 hr11 he11 => ?_;refine eS fun K12 hn12 hr12 he12 => ?_;refine eO fun K13 hk13 => ?_
 refine tC 1 F1 ?_;refine tS 1 F1 ?_;refine Or.inl (Or.inl ⟨_,k1,?_⟩);refine tL F1 ?_;refine hk13 _ ?_;refine hn12 (some ([1,3,4,6,8,9,12,23],none)) _ ?_;refine eCf ?_;refine eS fun K14 hn14 hr14 he14 => ?_;refine eO fun K15 hk15 => ?_;refine tC 2 F1 ?_;refine tC 1 F1 ?_;refine tL F1 ?_;refine hk15 _ ?_;refine hn14 (some ([1,3,4,6,8,9,12,33],none)) _ ?_;refine eCf ?_;refine eS fun K16 hn16 hr16 he16 => ?_;refine eO fun K17 hk17 => ?_;refine tC 2 F1 ?_;refine tC 1 F1 ?_;refine tL F1 ?_;refine hk17 _ ?_;refine hn16 (some ([1,3,4,6,8,9,12,47],none)) _ ?_;refine eCf ?_;refine eS fun K18 hn18 hr18 he18 => ?_;refine eO fun K19 hk19 => ?_;refine tC 2 F1 ?_;refine tC 1 F1 ?_;refine tL F1 ?_;refine hk19 _ ?_;refine hn18 (some ([1,3,4,6,8,9,12,59],none)) _ ?_;refine eCt ?_;refine eO fun K20 hk20 => ?_;refine tC 1 F1 ?_;refine tC 2 F1 ?_;refine tS 1 F1 ?_;refine tS 1 F1 ?_;refine Or.inl (Or.inl ⟨_,k2,?_⟩)
 refine tC 4 F1 ?_;refine tZ F1 ?_;refine hk20 _ ?_;refine hn11 _ ?_;refine hn10 (some ([1,4,8,9,12],none)) _ ?_;refine eS fun K21 hn21 hr21 he21 => ?_;refine eO fun K22 hk22 => ?_;refine tC 2 F1 ?_;refine tS 1 F1 ?_;refine Or.inl (Or.inr (Or.inl ⟨_,_,_,hrow _,?_⟩));refine tZ F1 ?_;refine hk22 _ ?_;refine hn21 (some ([1,4,8,9,12],none)) _ ?_;refine eS fun K23 hn23 hr23 he23 => ?_;refine eO fun K24 hk24 => ?_;refine tC 2 F1 ?_;refine tC 2 F1 ?_;refine tC 1 F1 ?_;refine tC 1 F1 ?_;refine tC 1 F1 ?_;refine tC 1 F1 ?_;refine tZ F1 ?_;refine hk24 _ ?_;refine hn23 (some ([4,8,9,12],none)) _ ?_;refine eS fun K25 hn25 _ _ => ?_;refine eP ([]) [8,9,10] [0,1,4] [2,3] (by kernel_rfl) (fun K26 hk26 => ?_);refine sp0 ?_
 have F2 := And.intro F1 @shPP
 refine evP_take 1 fun K27 hk27 => ?_;refine sh1 F2 ?_;refine sd ?_;refine hk27 _ ?_;refine evP_take 1 fun K28 hk28 => ?_;refine sh1 F2 ?_;refine sd ?_;refine hk28 _ ?_;refine sh1 F2 ?_;refine hk26 _ (by rfl) (fun _ hk29 => ?_);refine sp0 ?_;refine toKL ?_;refine tC 1 F2 ?_;refine tZ F2 ?_;refine hk29 _ ?_;refine so0 ?_;refine hn25 (some ([8,9,10],none)) _ ?_
 exact sf1 F2
set_option maxHeartbeats 4000000 in
theorem ok_cCrash (M : MachM) (c : Int) {n : Nat} (hM : MachOk M n) (hn : n ≤ 900) : Ok 50 [eMach M,sI c] (eMach (crashM M c)) := by
 refine ok_of_tr Tryz.func50 tr_cCrash rfl ?_
 have k0 := ok_cSize M
 unfold crashM
 by_cases h1 : M.mem.views.length = 0
 ·rw [if_pos (.inl h1)]
  have d1 : ((M.mem.views.length : Int) == 0) = true := by simp [h1]
  unfold evFn sc_cCrash rv_cCrash
  have F1 := @d1
  refine eS fun K1 hn1 hr1 he1 => ?_;refine eO fun K2 hk2 => ?_;refine tL F1 ?_;refine hk2 _ ?_;refine hn1 (some ([1,2,4],none)) _ ?_;refine eS fun K3 hn3 hr3 he3 => ?_;refine eO fun K4 hk4 => ?_;refine tC 1 F1 ?_;refine tS 1 F1 ?_;refine Or.inl (Or.inl ⟨_,k0,?_⟩);refine tL F1 ?_;refine hk4 _ ?_;refine hn3 (some ([1,2,4,5,6],none)) _ ?_;refine eS fun K5 hn5 hr5 he5 => ?_;refine eS fun K6 hn6 hr6 he6 => ?_;refine eO fun K7 hk7 => ?_;refine tC 2 F1 ?_;refine tC 3 F1 ?_;refine tL F1 ?_;refine hk7 _ ?_;refine hn6 (some ([1,2,4,5,19],none)) _ ?_;refine eCt ?_;refine eS fun K8 hn8 hr8 he8 => ?_;refine eO fun K9 hk9 => ?_;refine tC 1 F1 ?_;refine tZ F1 ?_;refine hk9 _ ?_;refine hn8 (some ([4],none)) _ ?_;refine hr5 _ ?_
  exact sf1 F1
 have d1 : ((M.mem.views.length : Int) == 0) = false := by simp; exact fun e => h1 (by rw [e]; rfl)
 by_cases h2 : M.mem.places.length = 0
 ·rw [if_pos (.inr h2)]
  have d2 : ((M.mem.places.length : Int) == 0) = true := by simp [h2]
  unfold evFn sc_cCrash rv_cCrash
  have F1 := And.intro @d1 @d2
  refine eS fun K1 hn1 hr1 he1 => ?_;refine eO fun K2 hk2 => ?_;refine tL F1 ?_;refine hk2 _ ?_;refine hn1 (some ([1,2,4],none)) _ ?_;refine eS fun K3 hn3 hr3 he3 => ?_;refine eO fun K4 hk4 => ?_;refine tC 1 F1 ?_;refine tS 1 F1 ?_;refine Or.inl (Or.inl ⟨_,k0,?_⟩);refine tL F1 ?_;refine hk4 _ ?_;refine hn3 (some ([1,2,4,5,6],none)) _ ?_;refine eS fun K5 hn5 hr5 he5 => ?_;refine eS fun K6 hn6 hr6 he6 => ?_;refine eO fun K7 hk7 => ?_;refine tC 2 F1 ?_;refine tC 3 F1 ?_;refine tL F1 ?_;refine hk7 _ ?_;refine hn6 (some ([1,2,4,5,19],none)) _ ?_;refine eCt ?_;refine eS fun K8 hn8 hr8 he8 => ?_;refine eO fun K9 hk9 => ?_;refine tC 1 F1 ?_;refine tZ F1 ?_;refine hk9 _ ?_;refine hn8 (some ([4],none)) _ ?_;refine hr5 _ ?_
  exact sf1 F1
 have d2 : ((M.mem.places.length : Int) == 0) = false := by simp; exact fun e => h2 (by rw [e]; rfl)
 have h : ¬ (M.mem.views.length = 0 ∨ M.mem.places.length = 0) := fun h => h.elim h1 h2
 rw [if_neg h]
 have k1 := ok_lCrash M.lines c hM.lines.lines (fun y hy => Nat.le_trans (hM.lines.most y hy) (by omega))
 have k2 := ok_cNew M.mem.views.length 0 (leftM M.lines (mixF c))
 have h0 := crash_new hM c h
 unfold cnewM at k2
 rw [if_pos h0] at k2
 have hc := hM.crashes
 have q1 : IntKind.i64.wrap (M.crashes + 1) = M.crashes + 1 := by rw [IntKind.wrap_i64]; omega
 have k3 := fun g => (row_cloneInt g (M.steps.map eSt) (by have := hM.threads; have := hM.mem.vl; simp; omega)).ok
 generalize leftM M.lines (mixF c) = W at k1 k2 ⊢
 generalize (mnewM M.mem.views.length W).1 = R at k2 ⊢
 unfold evFn sc_cCrash rv_cCrash
 have F1 := And.intro @d1 (And.intro @d2 @q1)
 refine eS fun K1 hn1 hr1 he1 => ?_;refine eO fun K2 hk2 => ?_;refine tL F1 ?_;refine hk2 _ ?_;refine hn1 (some ([1,2,4],none)) _ ?_;refine eS fun K3 hn3 hr3 he3 => ?_;refine eO fun K4 hk4 => ?_;refine tC 1 F1 ?_;refine tS 1 F1 ?_;refine Or.inl (Or.inl ⟨_,k0,?_⟩);refine tL F1 ?_;refine hk4 _ ?_;refine hn3 (some ([1,2,4,5,6],none)) _ ?_;refine eS fun K5 hn5 hr5 he5 => ?_;refine eS fun K6 hn6 hr6 he6 => ?_;refine eO fun K7 hk7 => ?_;refine tC 2 F1 ?_;refine tC 3 F1 ?_;refine tL F1 ?_;refine hk7 _ ?_;refine hn6 (some ([1,2,4,5,19],none)) _ ?_;refine eCf ?_;refine hn5 (some ([1,2,4,5],none)) _ ?_;refine eS fun K8 hn8 hr8 he8 => ?_;refine eO fun K9 hk9 => ?_;refine tC 3 F1 ?_;refine tS 1 F1 ?_;refine tS 1 F1 ?_;refine Or.inl (Or.inl ⟨_,k1,?_⟩);refine tS 1 F1 ?_;refine Or.inl (Or.inl ⟨_,k2,?_⟩);refine tC 5 F1 ?_;refine tL F1 ?_;refine hk9 _ ?_;refine hn8 (some ([2,4,7,8],none)) _ ?_
 refine eS fun _ hn10 _ _ => ?_;refine eS fun _ hn11 _ _ => ?_;refine eO fun _ hk12 => ?_;refine tZ F1 ?_;refine hk12 _ ?_;refine hn11 (some ([2,4,7,31],none)) _ ?_;refine eCf ?_;refine hn10 (some ([2,4,7],none)) _ ?_;refine eS fun _ hn13 _ _ => ?_;refine eP ([]) [4,7] [0,1,2,3,4,5,6,8] [7,9] (by kernel_rfl) (fun _ hk14 => ?_);refine sp0 ?_
 have F2 := And.intro F1 @shPP
 refine evP_take 2 fun _ hk15 => ?_;refine sh1 F2 ?_;refine sd ?_;refine hk15 _ ?_;refine evP_take 1 fun _ hk16 => ?_;refine sh1 F2 ?_;refine ⟨_,k3 _,?_⟩;refine hk16 _ ?_;refine evP_take 2 fun _ hk17 => ?_;refine sh1 F2 ?_;refine sd ?_;refine hk17 _ ?_;refine evP_take 1 fun _ hk18 => ?_;refine sh1 F2 ?_;refine sd ?_;refine hk18 _ ?_;refine sh1 F2 ?_;refine hk14 _ (by rfl) (fun _ hk19 => ?_);refine sp0 ?_;refine toKL ?_;refine tC 1 F2 ?_;refine tZ F2 ?_;refine hk19 _ ?_;refine so0 ?_;refine hn13 (some ([4,7],none)) _ ?_;refine eS fun _ hn20 _ _ => ?_;refine eO fun _ hk21 => ?_;refine tC 1 F2 ?_;refine tZ F2 ?_;refine hk21 _ ?_;refine hn20 (some ([4],none)) _ ?_
 exact sf1 F2
end Go.Proofs.YtkmbcjnaaokilaaGreatDoor
