/-
  Layer 5 by shadows: what the operations keep.
-/
import Derived.Test.YtkmbcjnaaokilaaGreatDoorM5c
namespace Go.Proofs.YtkmbcjnaaokilaaGreatDoor
set_option linter.unusedSimpArgs false
set_option linter.unusedVariables false
open Go.RowKit Go.Maps
structure LGood (L : LinesM) (n : Nat) : Prop where
 lines : LinesOk L
 asks : AsksOk L
 most : ∀ y ∈ L.logs,y.stores.length ≤ n
theorem good_new (l : List WordV) (h : l.length ≤ 4096) : LGood (newM l) 0 := by
 have hk : ∀ y ∈ (newM l).logs,y = ⟨[],0⟩ := fun y hy => by
  simp only [newM,List.mem_replicate] at hy; exact hy.2
 refine ⟨⟨by simp [newM],h,fun y hy => by rw [hk y hy]; simp,fun n y hy s hs => ?_⟩,⟨fun t h => absurd rfl h,fun t k m hm => ?_⟩,fun y hy => by rw [hk y hy]; simp⟩
 ·rw [hk y (List.mem_of_getElem? hy)] at hs; cases hs
 ·simp [askOf,newM] at hm
theorem good_store {L : LinesM} {n : Nat} (h : LGood L n) (a : Int) (v : WordV) (h0 : 0 ≤ a) (h1 : a < (L.first.length : Int)) : LGood (storeM L a v) (n + 1) := by
 obtain ⟨⟨a1,a2,a3,a4⟩,⟨b1,b2⟩,c⟩ := h
 have hget : ∀ (i : Nat) y,(storeM L a v).logs[i]? = some y → ∃ y0,L.logs[i]? = some y0 ∧ y.kept = y0.kept ∧ ((y = y0) ∨ (i = a.toNat / 8 ∧ y.stores = y0.stores ++ [⟨a,v⟩])) := fun i y hy => by
  simp only [storeM,List.getElem?_modify] at hy
  cases e : L.logs[i]? with
  | none => rw [e] at hy; simp at hy
  | some y0 =>
   rw [e] at hy
   by_cases e2 : a.toNat / 8 = i
   ·simp only [if_pos e2,Option.map_eq_map,Option.map_some,Option.some.injEq] at hy; subst hy; exact ⟨y0,rfl,rfl,.inr ⟨e2.symm,rfl⟩⟩
   ·simp only [if_neg e2,Option.map_eq_map,Option.map_some,Option.some.injEq,id] at hy; subst hy; exact ⟨y0,rfl,rfl,.inl rfl⟩
 have hlen : ∀ (y y0 : LogV),((y = y0) ∨ y.stores = y0.stores ++ [⟨a,v⟩]) → y0.stores.length ≤ y.stores.length ∧ y.stores.length ≤ y0.stores.length + 1 := fun y y0 h => by
  rcases h with rfl | h
  ·omega
  ·rw [h]; simp
 refine ⟨⟨by simp [storeM,a1],a2,fun y hy => ?_,fun i y hy s hs => ?_⟩,⟨b1,fun t k m hm => ?_⟩,fun y hy => ?_⟩
 ·obtain ⟨i,hi⟩ := List.mem_iff_getElem?.1 hy
  obtain ⟨y0,e1,e2,e3⟩ := hget i y hi
  have := a3 y0 (List.mem_of_getElem? e1)
  have := hlen y y0 (e3.imp id (·.2))
  omega
 ·obtain ⟨y0,e1,e2,e3⟩ := hget i y hy
  rcases e3 with rfl | ⟨rfl,e3⟩
  ·exact a4 i y e1 s hs
  ·rw [e3] at hs
   rcases List.mem_append.1 hs with hs | hs
   ·exact a4 _ y0 e1 s hs
   ·simp only [List.mem_singleton] at hs; subst hs
    refine ⟨h0,h1,?_⟩
    show a / 8 = _
    omega
 ·obtain ⟨i,y0,rfl,e1,e2,e3⟩ := b2 t k m hm
  obtain ⟨y,hy⟩ : ∃ y,(storeM L a v).logs[i]? = some y := ⟨_,List.getElem?_eq_getElem (by simp [storeM]; exact (List.getElem?_eq_some_iff.1 e1).1)⟩
  obtain ⟨y1,e4,_,e5⟩ := hget i y hy
  rw [e1] at e4; cases e4
  have := hlen y y0 (e5.imp id (·.2))
  exact ⟨i,y,rfl,hy,e2,by omega⟩
 ·obtain ⟨i,hi⟩ := List.mem_iff_getElem?.1 hy
  obtain ⟨y0,e1,e2,e3⟩ := hget i y hi
  have := c y0 (List.mem_of_getElem? e1)
  have := hlen y y0 (e3.imp id (·.2))
  omega
theorem good_flush {L : LinesM} {n : Nat} (h : LGood L n) (t a : Int) (ht : 1 ≤ t ∧ t ≤ 8) : LGood (flushM L t a) n := by
 unfold flushM
 split
 ·rename_i y hy
  obtain ⟨⟨a1,a2,a3,a4⟩,⟨b1,b2⟩,c⟩ := h
  refine ⟨⟨a1,a2,a3,a4⟩,⟨fun s hs => ?_,fun s k m hm => ?_⟩,c⟩
  ·by_cases e : s = t
   ·subst e; exact ht
   ·simp only [if_neg e] at hs; exact b1 s hs
  ·by_cases e : s = t
   ·subst e
    simp only [askOf,if_true,Option.getD_some] at hm
    by_cases e2 : k = ((a.toNat / 8 : Nat) : Int)
    ·rw [if_pos e2] at hm; cases hm
     exact ⟨_,y,e2,hy,by omega,by omega⟩
    ·rw [if_neg e2] at hm; exact b2 s k m hm
   ·simp only [askOf,if_neg e] at hm; exact b2 s k m hm
 ·exact h
theorem good_sync {L : LinesM} {n : Nat} (h : LGood L n) (t : Int) : LGood (syncM L t) n := by
 obtain ⟨⟨a1,a2,a3,a4⟩,⟨b1,b2⟩,c⟩ := h
 have hget : ∀ (i : Nat) y,(syncM L t).logs[i]? = some y → ∃ y0,L.logs[i]? = some y0 ∧ y.stores = y0.stores ∧ 0 ≤ y.kept ∧ y.kept ≤ (y.stores.length : Int) := fun i y hy => by
  simp only [syncM,List.getElem?_mapIdx] at hy
  cases e : L.logs[i]? with
  | none => rw [e] at hy; simp at hy
  | some y0 =>
   rw [e] at hy
   simp only [Option.map_some,Option.some.injEq] at hy
   have h3 := a3 y0 (List.mem_of_getElem? e)
   unfold syncLog at hy
   split at hy
   ·rename_i m hm
    obtain ⟨i',y1,e1,e2,e3,e4⟩ := b2 t i m hm
    have : i = i' := by omega
    subst this
    rw [e] at e2; cases e2
    subst hy
    refine ⟨y0,rfl,rfl,?_,?_⟩
    ·show 0 ≤ max y0.kept m
     omega
    ·show max y0.kept m ≤ _
     simp only
     omega
   ·subst hy; exact ⟨y0,rfl,rfl,h3.1,h3.2⟩
 refine ⟨⟨by simp [syncM,a1],a2,fun y hy => ?_,fun i y hy s hs => ?_⟩,⟨fun s hs => ?_,fun s k m hm => ?_⟩,fun y hy => ?_⟩
 ·obtain ⟨i,hi⟩ := List.mem_iff_getElem?.1 hy
  obtain ⟨y0,_,_,e⟩ := hget i y hi
  exact e
 ·obtain ⟨y0,e1,e2,_⟩ := hget i y hy
  rw [e2] at hs; exact a4 i y0 e1 s hs
 ·by_cases e : s = t
  ·simp [syncM,e] at hs
  ·simp only [syncM,if_neg e] at hs; exact b1 s hs
 ·by_cases e : s = t
  ·simp [askOf,syncM,e] at hm
  ·have hm' : askOf L s k = some m := by simpa [askOf,syncM,e] using hm
   obtain ⟨i,y0,rfl,e1,e2,e3⟩ := b2 s k m hm'
   obtain ⟨y,hy⟩ : ∃ y,(syncM L t).logs[i]? = some y := ⟨_,List.getElem?_eq_getElem (by simp [syncM]; exact (List.getElem?_eq_some_iff.1 e1).1)⟩
   obtain ⟨y1,e4,e5,_⟩ := hget i y hy
   rw [e1] at e4; cases e4
   exact ⟨i,y,rfl,hy,e2,by rw [e5]; exact e3⟩
 ·obtain ⟨i,hi⟩ := List.mem_iff_getElem?.1 hy
  obtain ⟨y0,e1,e2,_⟩ := hget i y hi
  rw [e2]; exact c y0 (List.mem_of_getElem? e1)
end Go.Proofs.YtkmbcjnaaokilaaGreatDoor
