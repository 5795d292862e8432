/-
  Layer 4, plain law: what a thread knows exists.
-/
import Derived.Test.YtkmbcjnaaokilaaGreatDoorMK10
namespace Go.Proofs.YtkmbcjnaaokilaaGreatDoor
set_option linter.unusedSimpArgs false
set_option linter.unusedVariables false
open Go.RowKit Go.Maps
theorem hist_with (M : MemM) (t : Int) (v : ViewV) (p : Int) : histM (withM M t v) p = histM M p := rfl
theorem hist_set {M : MemM} {a : Int} (ha : PlcB M a) (x : List MsgV) (V : List ViewV) (p : Int) : histM ⟨M.places.set a.toNat x,V⟩ p = if p = a then x else histM M p := by
 obtain ⟨m,rfl,hm,e,_⟩ := plc_hist ha
 unfold histM
 simp only [Int.toNat_natCast]
 by_cases hp : p = (m : Int)
 ·subst hp
  rw [if_pos (by omega),Int.toNat_natCast,List.getElem?_set,if_pos rfl,if_pos (by simpa using hm)]
  simp
 ·rw [if_neg hp]
  split
  ·rw [List.getElem?_set,if_neg (by omega)]
  ·rfl
theorem hist_adds {M : MemM} {a : Int} (ha : PlcB M a) (t : Int) (w : WordV) (b : Bool) (p : Int) : histM (addsM M t a w b) p = if p = a then histM M a ++ [⟨w,t,toldM M t a b⟩] else histM M p := by
 unfold addsM
 rw [hist_with]
 exact hist_set ha _ _ p
theorem seen_with {M : MemM} {t : Int} (ht : ThrB M t) (v : ViewV) (s : Int) : seenM (withM M t v) s = if s = t then v else seenM M s := by
 obtain ⟨m,rfl,hm,e,_⟩ := thr_seen ht
 unfold seenM withM
 have e0 : ((m : Int) + 1 - 1).toNat = m := by omega
 simp only [e0]
 by_cases hs : s = (m : Int) + 1
 ·subst hs
  rw [if_pos (by omega),e0,List.getElem?_set,if_pos rfl,if_pos (by simpa using hm)]
  simp
 ·rw [if_neg hs]
  split
  ·rw [List.getElem?_set,if_neg (by omega)]
  ·rfl
theorem seen_adds {M : MemM} {t : Int} (ht : ThrB M t) (a : Int) (w : WordV) (b : Bool) (s : Int) : seenM (addsM M t a w b) s = if s = t then vWith (seenM M t) a (histM M a).length else seenM M s := by
 unfold addsM
 exact seen_with (M := { M with places := M.places.set a.toNat (histM M a ++ [⟨w,t,toldM M t a b⟩]) }) ht _ s
noncomputable def readV (M : MemM) (t a i : Int) (j : Bool) : ViewV := if j = true then vJoin (vWith (seenM M t) a i) (atM (histM M a) i).view else vWith (seenM M t) a i
theorem seen_finds {M : MemM} {t : Int} (ht : ThrB M t) (a i : Int) (j : Bool) (s : Int) : seenM (findsM M t a i j).1 s = if s = t then readV M t a i j else seenM M s := seen_with ht _ s
theorem hist_finds (M : MemM) (t a i : Int) (j : Bool) (p : Int) : histM (findsM M t a i j).1 p = histM M p := rfl
theorem at_app (h : List MsgV) (m : MsgV) (i : Int) : atM (h ++ [m]) i = if i = (h.length : Int) then m else atM h i := by
 unfold atM
 by_cases h0 : 0 ≤ i
 ·obtain ⟨k,rfl⟩ := Int.eq_ofNat_of_zero_le h0
  rw [if_pos h0,if_pos h0,Int.toNat_natCast]
  rcases Nat.lt_trichotomy k h.length with hk | hk | hk
  ·rw [List.getElem?_append_left hk,if_neg (by omega)]
  ·subst hk
   rw [if_pos rfl]; simp
  ·rw [if_neg (by omega),List.getElem?_eq_none (by simp; omega),List.getElem?_eq_none (by omega)]
 ·rw [if_neg h0,if_neg h0,if_neg (by omega)]
theorem last_app (h : List MsgV) (m : MsgV) : lastM (h ++ [m]) = m := by
 unfold lastM
 rw [at_app,if_pos (by simp)]
structure MemIn (M : MemM) : Prop where
 seen : ∀ s p,PlcB M p → vGet (seenM M s) p ≤ ((histM M p).length : Int) - 1
 told : ∀ q i p,PlcB M p → vGet (atM (histM M q) i).view p ≤ ((histM M p).length : Int) - 1
theorem hist_pos {M : MemM} {n : Nat} (h : MemOk M n) {p : Int} (hp : PlcB M p) : 0 < (histM M p).length := by
 obtain ⟨_,_,_,_,hm⟩ := plc_hist hp
 exact h.one _ hm
theorem get_read {M : MemM} {n : Nat} (h : MemOk M n) (t a i : Int) (j : Bool) (ha : PlcB M a) (p : Int) : vGet (readV M t a i j) p = max (if p = a then max (vGet (seenM M t) a) i else vGet (seenM M t) p) (if j = true then vGet (atM (histM M a) i).view p else vGet (seenM M t) p) := by
 obtain ⟨_,a0,a1⟩ := plc_in h ha
 unfold readV
 cases j
 ·simp only [Bool.false_eq_true,if_false]
  rw [vGet_with _ _ _ _ a0 a1]
  split
  ·rename_i e; subst e; omega
  ·omega
 ·simp only [if_true]
  rw [vGet_join (viewOk_with (seen_ok h t) _ _) (at_ok h a i),vGet_with _ _ _ _ a0 a1]
theorem memIn_finds {M : MemM} {n : Nat} (h : MemOk M n) (hi : MemIn M) {t a i : Int} (j : Bool) (ht : ThrB M t) (ha : PlcB M a) (hii : i ≤ ((histM M a).length : Int) - 1) : MemIn (findsM M t a i j).1 := by
 refine ⟨fun s p hp => ?_,fun q k p hp => hi.told q k p hp⟩
 have hp' : PlcB M p := hp
 rw [hist_finds,seen_finds ht]
 split
 ·rw [get_read h t a i j ha]
  have h1 := hi.seen t p hp'
  have h2 := hi.told a i p hp'
  have h3 := hi.seen t a ha
  by_cases e : p = a
  ·subst e; rw [if_pos rfl]; split <;> omega
  ·rw [if_neg e]; split <;> omega
 ·exact hi.seen s p hp'
theorem get_told {M : MemM} {n : Nat} (h : MemOk M n) (t a : Int) (b : Bool) (ha : PlcB M a) (p : Int) : vGet (toldM M t a b) p = if p = a then max (if b = true then vGet (seenM M t) a else 0) (histM M a).length else if b = true then vGet (seenM M t) p else 0 := by
 obtain ⟨_,a0,a1⟩ := plc_in h ha
 unfold toldM
 cases b
 ·simp only [Bool.false_eq_true,if_false]
  rw [vGet_with _ _ _ _ a0 a1]
  split <;> simp [vGet]
 ·simp only [if_true]
  rw [vGet_with _ _ _ _ a0 a1]
theorem memIn_adds {M : MemM} {n : Nat} (h : MemOk M n) (hi : MemIn M) {t a : Int} (w : WordV) (b : Bool) (ht : ThrB M t) (ha : PlcB M a) : MemIn (addsM M t a w b) := by
 obtain ⟨_,a0,a1⟩ := plc_in h ha
 have hpl : ∀ p,PlcB (addsM M t a w b) p → PlcB M p := fun p hp => by unfold PlcB at hp ⊢; rw [(size_adds M t a w b).2] at hp; exact hp
 have hl : ∀ p,PlcB M p → ((histM M p).length : Int) ≤ ((histM (addsM M t a w b) p).length : Int) := fun p _ => by
  rw [hist_adds ha]; split
  ·rename_i e; subst e; simp; omega
  ·omega
 have hla : ((histM (addsM M t a w b) a).length : Int) = (histM M a).length + 1 := by rw [hist_adds ha,if_pos rfl]; simp
 refine ⟨fun s p hp => ?_,fun q i p hp => ?_⟩
 ·have hp' := hpl p hp
  have h1 := hl p hp'
  rw [seen_adds ht]
  split
  ·rw [vGet_with _ _ _ _ a0 a1]
   have h2 := hi.seen t a ha
   split
   ·rename_i e; subst e; omega
   ·have := hi.seen t p hp'; omega
  ·have := hi.seen s p hp'; omega
 ·have hp' := hpl p hp
  have h1 := hl p hp'
  have h2 := hi.seen t p hp'
  have h3 := hi.seen t a ha
  have h4 := hist_pos h hp'
  have hold : ∀ q,vGet (atM (histM M q) i).view p ≤ ((histM (addsM M t a w b) p).length : Int) - 1 := fun q => by have := hi.told q i p hp'; omega
  rw [hist_adds ha t w b q]
  split
  ·rw [at_app]
   split
   ·show vGet (toldM M t a b) p ≤ _
    rw [get_told h t a b ha]
    by_cases e : p = a
    ·subst e; rw [if_pos rfl,hla]; split <;> omega
    ·rw [if_neg e]; split <;> omega
   ·exact hold a
  ·exact hold q
theorem memIn_zero : MemIn ⟨[],[]⟩ := ⟨fun s p hp => by have h1 := hp.1; have h2 := hp.2; simp at h2; omega,fun q i p hp => by have h1 := hp.1; have h2 := hp.2; simp at h2; omega⟩
theorem memIn_new (k : Int) (ws : List WordV) : MemIn (mnewM k ws).1 := by
 have hM := memOk_new k ws
 have h0 : ∀ s p,vGet (seenM (mnewM k ws).1 s) p = 0 := fun s p => by
  have hv : ∀ v ∈ (mnewM k ws).1.views,v = fun _ => none := fun v hv => by
   unfold mnewM at hv
   split at hv
   ·simp at hv
   ·split at hv
    ·simp at hv
    ·split at hv
     ·simp at hv
     ·exact (List.mem_replicate.1 hv).2
  have : seenM (mnewM k ws).1 s = fun _ => none := by
   unfold seenM
   split
   ·cases e : (mnewM k ws).1.views[(s - 1).toNat]? with
    | none => rfl
    | some v => exact hv v (List.mem_of_getElem? e)
   ·rfl
  rw [this]; rfl
 have h1 : ∀ q i p,vGet (atM (histM (mnewM k ws).1 q) i).view p = 0 := fun q i p => by
  have hm : ∀ m ∈ histM (mnewM k ws).1 q,m.view = fun _ => none := fun m hm => by
   unfold histM at hm
   split at hm
   ·cases e : (mnewM k ws).1.places[q.toNat]? with
    | none => rw [e] at hm; simp at hm
    | some h =>
     rw [e] at hm
     have hh := List.mem_of_getElem? e
     unfold mnewM at hh
     split at hh
     ·simp at hh
     ·split at hh
      ·simp at hh
      ·split at hh
       ·simp at hh
       ·obtain ⟨w,_,rfl⟩ := List.mem_map.1 hh
        simp only [newP,Option.getD_some,List.mem_singleton] at hm
        subst hm; rfl
   ·simp at hm
  unfold atM
  split
  ·cases e : (histM (mnewM k ws).1 q)[i.toNat]? with
   | none => rfl
   | some m => simp only [Option.getD_some]; rw [hm m (List.mem_of_getElem? e)]; rfl
  ·rfl
 exact ⟨fun s p hp => by rw [h0]; have := hist_pos hM hp; omega,fun q i p hp => by rw [h1]; have := hist_pos hM hp; omega⟩
theorem choose_le {M : MemM} {n : Nat} (h : MemOk M n) {a : Int} (ha : PlcB M a) (f c : Int) : chooseF (histM M a).length f c ≤ ((histM M a).length : Int) - 1 := (chooseF_le (hist_pos h ha) f c).2
theorem memIn_load {M : MemM} {n : Nat} (h : MemOk M n) (hi : MemIn M) (t a : Int) (q : Bool) (c : Int) : MemIn (loadM M t a q c).1 := by
 unfold loadM; split
 ·rename_i hw
  obtain ⟨ht,ha⟩ := wrong_zero.1 hw
  exact memIn_finds h hi q ht ha (choose_le h ha _ _)
 ·exact hi
theorem memIn_look {M : MemM} {n : Nat} (h : MemOk M n) (hi : MemIn M) (t a : Int) : MemIn (look1M M t a).1 := by
 unfold look1M; split
 ·rename_i hw
  obtain ⟨ht,ha⟩ := wrong_zero.1 hw
  exact memIn_finds h hi true ht ha (Int.le_refl _)
 ·exact hi
theorem memIn_store {M : MemM} {n : Nat} (h : MemOk M n) (hi : MemIn M) (t a : Int) (w : WordV) (b : Bool) : MemIn (mstoreM M t a w b).1 := by
 unfold mstoreM; split
 ·rename_i hw
  obtain ⟨ht,ha⟩ := wrong_zero.1 hw
  exact memIn_adds h hi w b ht ha
 ·exact hi
theorem thr_look {M : MemM} {t a s : Int} : ThrB (look1M M t a).1 s ↔ ThrB M s := by unfold ThrB; rw [(size_look M t a).1]
theorem plc_look {M : MemM} {t a p : Int} : PlcB (look1M M t a).1 p ↔ PlcB M p := by unfold PlcB; rw [(size_look M t a).2]
theorem memIn_swap {M : MemM} {n : Nat} (h : MemOk M n) (hi : MemIn M) (t a : Int) (o w : WordV) : MemIn (mswapM M t a o w).1 := by
 unfold mswapM; split
 ·rename_i hw
  obtain ⟨ht,ha⟩ := wrong_zero.1 hw.1
  exact memIn_adds (memOk_look h t a) (memIn_look h hi t a) w true (thr_look.2 ht) (plc_look.2 ha)
 ·exact memIn_look h hi t a
theorem look_word {M : MemM} {t a : Int} (ht : ThrB M t) (ha : PlcB M a) : (look1M M t a).2 = (lastWM M a,0) := by
 unfold look1M; rw [if_pos (wrong_zero.2 ⟨ht,ha⟩)]; rfl
theorem look_hist (M : MemM) (t a p : Int) : histM (look1M M t a).1 p = histM M p := by
 unfold histM; rw [(size_look M t a).2]
theorem look_seen {M : MemM} {n : Nat} (h : MemOk M n) (hi : MemIn M) {t a : Int} (ht : ThrB M t) (ha : PlcB M a) : vGet (seenM (look1M M t a).1 t) a = ((histM M a).length : Int) - 1 := by
 unfold look1M
 rw [if_pos (wrong_zero.2 ⟨ht,ha⟩)]
 show vGet (seenM (findsM M t a _ true).1 t) a = _
 rw [seen_finds ht,if_pos rfl,get_read h t a _ true ha,if_pos rfl,if_pos rfl]
 have h1 := hi.seen t a ha
 have h2 := hi.told a ((histM M a).length - 1) a ha
 omega
theorem swap_yes {M : MemM} {n : Nat} (h : MemOk M n) (hi : MemIn M) {t a : Int} {o w : WordV} (ht : ThrB M t) (ha : PlcB M a) (ho : weq (lastWM M a) o = true) :
  (mswapM M t a o w).2 = (lastWM M a,true,0) ∧ histM (mswapM M t a o w).1 a = histM M a ++ [⟨w,t,toldM (look1M M t a).1 t a true⟩] ∧ vGet (seenM (mswapM M t a o w).1 t) a = (histM M a).length := by
 have e := look_word ht ha
 unfold mswapM
 rw [if_pos ⟨wrong_zero.2 ⟨ht,ha⟩,by rw [e]; exact ho⟩]
 refine ⟨by rw [e],?_,?_⟩
 ·show histM (addsM (look1M M t a).1 t a w true) a = _
  rw [hist_adds (plc_look.2 ha),if_pos rfl,look_hist]
 ·show vGet (seenM (addsM (look1M M t a).1 t a w true) t) a = _
  obtain ⟨_,a0,a1⟩ := plc_in h ha
  rw [seen_adds (thr_look.2 ht),if_pos rfl,vGet_with _ _ _ _ a0 a1,if_pos rfl,look_seen h hi ht ha,look_hist]
  omega
theorem swap_no {M : MemM} {t a : Int} {o w : WordV} (ht : ThrB M t) (ha : PlcB M a) (ho : ¬ weq (lastWM M a) o = true) :
  mswapM M t a o w = ((look1M M t a).1,lastWM M a,false,0) := by
 have e := look_word ht ha
 unfold mswapM
 rw [if_neg (fun h => ho (by have := h.2; rw [e] at this; exact this)),e]
theorem lastW_look (M : MemM) (t a p : Int) : lastWM (look1M M t a).1 p = lastWM M p := by unfold lastWM; rw [look_hist]
end Go.Proofs.YtkmbcjnaaokilaaGreatDoor
