/-
  Layer 12, plain: bits; what an allocation and a free come to.
-/
import Derived.Test.YtkmbcjnaaokilaaGreatDoorK12l
namespace Go.Proofs.YtkmbcjnaaokilaaGreatDoor
set_option linter.unusedSimpArgs false
set_option linter.unusedVariables false
open Go.RowKit Go.Maps
def bitB (v : Int) (j : Nat) : Bool := (BitVec.ofInt 64 v).getLsbD j
theorem ofInt_wrap (x : Int) : BitVec.ofInt 64 (IntKind.i64.wrap x) = BitVec.ofInt 64 x := by
 apply BitVec.eq_of_toNat_eq
 rw [BitVec.toNat_ofInt,BitVec.toNat_ofInt,IntKind.wrap_i64]
 congr 1
 omega
theorem ofInt_toNat (b : BitVec 64) : BitVec.ofInt 64 (b.toNat : Int) = b := by
 apply BitVec.eq_of_toNat_eq
 rw [BitVec.toNat_ofInt]
 have := b.isLt
 omega
theorem wrap_zero (b : BitVec 64) : IntKind.i64.wrap (b.toNat : Int) = 0 ↔ b = 0#64 := by
 constructor
 ·intro h
  have := ofInt_wrap (b.toNat : Int)
  rw [h,ofInt_toNat] at this
  rw [← this]; rfl
 ·rintro rfl; rfl
theorem ofInt_bitV (i : Nat) : BitVec.ofInt 64 (bitV i) = BitVec.twoPow 64 (i % 32) := by
 apply BitVec.eq_of_toNat_eq
 rw [BitVec.toNat_ofInt,BitVec.toNat_twoPow]
 unfold bitV
 have h : i % 32 < 32 := Nat.mod_lt _ (by decide)
 have h2 : 2 ^ (i % 32) < 2 ^ 64 := Nat.pow_lt_pow_right (by decide) (by omega)
 rw [Nat.mod_eq_of_lt h2]
 generalize 2 ^ (i % 32) = P at h2 ⊢
 omega
theorem and_two (b : BitVec 64) (j : Nat) (hj : j < 64) : (b &&& BitVec.twoPow 64 j) = 0#64 ↔ b.getLsbD j = false := by
 constructor
 ·intro h
  have := congrArg (fun x => x.getLsbD j) h
  simp only [BitVec.getLsbD_and,BitVec.getLsbD_twoPow,BitVec.getLsbD_zero] at this
  simpa [hj] using this
 ·intro h
  apply BitVec.eq_of_getLsbD_eq
  intro i hi
  simp only [BitVec.getLsbD_and,BitVec.getLsbD_twoPow,BitVec.getLsbD_zero]
  by_cases e : j = i
  ·subst e; simp [h]
  ·simp [e]
theorem usedB_eq (v : Int) (i : Nat) : usedB v i = bitB v (i % 32) := by
 have h : i % 32 < 32 := Nat.mod_lt _ (by decide)
 unfold usedB bitsI bitB
 show (IntKind.i64.wrap ((BitVec.ofInt 64 v &&& BitVec.ofInt 64 (bitV i)).toNat : Int) != 0) = _
 rw [ofInt_bitV]
 cases hb : (BitVec.ofInt 64 v).getLsbD (i % 32)
 ·rw [bne_eq_false_iff_eq]
  exact (wrap_zero _).2 ((and_two _ _ (by omega)).2 hb)
 ·rw [bne_iff_ne]
  intro h0
  rw [(and_two _ _ (by omega)).1 ((wrap_zero _).1 h0)] at hb
  cases hb
theorem bitB_or (v : Int) (i j : Nat) (hj : j < 64) : bitB (bitsI .or .i64 v (bitV i)) j = (bitB v j || decide (i % 32 = j)) := by
 unfold bitB bitsI
 show (BitVec.ofInt 64 (IntKind.i64.wrap ((BitVec.ofInt 64 v ||| BitVec.ofInt 64 (bitV i)).toNat : Int))).getLsbD j = _
 rw [ofInt_wrap,ofInt_toNat,ofInt_bitV,BitVec.getLsbD_or,BitVec.getLsbD_twoPow]
 simp [show i % 32 < 64 by omega]
theorem bitB_andNot (v : Int) (i j : Nat) (hj : j < 64) : bitB (bitsI .andNot .i64 v (bitV i)) j = (bitB v j && !decide (i % 32 = j)) := by
 unfold bitB bitsI
 show (BitVec.ofInt 64 (IntKind.i64.wrap ((BitVec.ofInt 64 v &&& ~~~BitVec.ofInt 64 (bitV i)).toNat : Int))).getLsbD j = _
 rw [ofInt_wrap,ofInt_toNat,ofInt_bitV,BitVec.getLsbD_and,BitVec.getLsbD_not,BitVec.getLsbD_twoPow]
 simp [hj,show i % 32 < 64 by omega]
def usedF (l : LayV) (f : Int → WordV) (i : Nat) : Bool := usedB (f (bitP l i)).val i
def setB (l : LayV) (f : Int → WordV) (b : Nat) (q : Int) : WordV := if q = bitP l b then ⟨bitsI .or .i64 (f q).val (bitV b),(f q).ver,(f q).ref⟩ else f q
def clrB (l : LayV) (f : Int → WordV) (b : Nat) (q : Int) : WordV := if q = bitP l b then ⟨bitsI .andNot .i64 (f q).val (bitV b),(f q).ver,(f q).ref⟩ else f q
theorem bitP_inj {l : LayV} {i j : Nat} : bitP l i = bitP l j ↔ i / 32 = j / 32 := by unfold bitP; omega
theorem used_set (l : LayV) (f : Int → WordV) (b i : Nat) : usedF l (setB l f b) i = (usedF l f i || decide (b = i)) := by
 have hm : i % 32 < 64 := by omega
 unfold usedF setB
 split
 ·rename_i h
  rw [usedB_eq,usedB_eq,bitB_or _ _ _ hm]
  congr 1
  have := bitP_inj.1 h
  rw [decide_eq_decide]; omega
 ·rename_i h
  have : ¬ b = i := fun e => h (by rw [e])
  simp [this]
theorem used_clr (l : LayV) (f : Int → WordV) (b i : Nat) : usedF l (clrB l f b) i = (usedF l f i && !decide (b = i)) := by
 have hm : i % 32 < 64 := by omega
 unfold usedF clrB
 split
 ·rename_i h
  rw [usedB_eq,usedB_eq,bitB_andNot _ _ _ hm]
  congr 2
  have := bitP_inj.1 h
  rw [decide_eq_decide]; omega
 ·rename_i h
  have : ¬ b = i := fun e => h (by rw [e])
  simp [this]
def freeU (U : Nat → Bool) (a : Nat) : Nat → Option Nat
 | 0 => none
 | m + 1 => if U a = true then freeU U (a + 1) m else some a
theorem freeU_succ (U : Nat → Bool) (a m : Nat) : freeU U a (m + 1) = if U a = true then freeU U (a + 1) m else some a := rfl
theorem freeU_add (U : Nat → Bool) : ∀ (m n a : Nat),freeU U a (m + n) = match freeU U a m with | some i => some i | none => freeU U (a + m) n
 | 0,n,a => by rw [Nat.zero_add]; rfl
 | m + 1,n,a => by
  rw [show m + 1 + n = (m + n) + 1 by omega,freeU_succ U a (m + n),freeU_succ U a m]
  by_cases hu : U a = true
  ·rw [if_pos hu,if_pos hu,freeU_add U m n (a + 1),show a + 1 + m = a + (m + 1) by omega]
  ·rw [if_neg hu,if_neg hu]
theorem freeU_congr {U V : Nat → Bool} : ∀ (m a : Nat),(∀ i,a ≤ i → i < a + m → U i = V i) → freeU U a m = freeU V a m
 | 0,_,_ => rfl
 | m + 1,a,h => by
  unfold freeU
  rw [h a (Nat.le_refl _) (by omega),freeU_congr m (a + 1) fun i h1 h2 => h i (by omega) (by omega)]
theorem freeT_eq (v : Int) : ∀ (m a : Nat),freeT v a m = freeU (usedB v) a m
 | 0,_ => rfl
 | m + 1,a => by unfold freeT freeU; rw [freeT_eq v m (a + 1)]
theorem freeU_some {U : Nat → Bool} : ∀ {m a i : Nat},freeU U a m = some i → a ≤ i ∧ i < a + m ∧ U i = false ∧ ∀ j,a ≤ j → j < i → U j = true
 | 0,a,i,h => by cases h
 | m + 1,a,i,h => by
  unfold freeU at h
  split at h
  ·rename_i hu
   obtain ⟨h1,h2,h3,h4⟩ := freeU_some h
   exact ⟨by omega,by omega,h3,fun j hj1 hj2 => (by
    by_cases e : j = a
    ·subst e; exact hu
    ·exact h4 j (by omega) hj2)⟩
  ·rename_i hu
   cases h
   exact ⟨Nat.le_refl _,by omega,by simpa using hu,fun j h1 h2 => by omega⟩
def firstP (U : Nat → Bool) : List (Nat × Nat) → Option Nat
 | [] => none
 | p :: ps => match freeU U p.1 (p.2 - p.1) with
  | some i => some i
  | none => firstP U ps
theorem firstP_cons (U : Nat → Bool) (p : Nat × Nat) (ps : List (Nat × Nat)) : firstP U (p :: ps) = match freeU U p.1 (p.2 - p.1) with
  | some i => some i
  | none => firstP U ps := rfl
theorem firstP_app (U : Nat → Bool) : ∀ (a b : List (Nat × Nat)),firstP U (a ++ b) = match firstP U a with | some i => some i | none => firstP U b
 | [],_ => rfl
 | p :: a,b => by
  rw [List.cons_append,firstP_cons,firstP_cons]
  cases freeU U p.1 (p.2 - p.1) with
  | some i => rfl
  | none => exact firstP_app U a b
theorem firstP_segs (U : Nat → Bool) (b : Nat) : ∀ (f a : Nat),b ≤ a + f → firstP U (segs b f a) = freeU U a (b - a)
 | 0,a,h => by rw [show b - a = 0 by omega]; rfl
 | f + 1,a,h => by
  unfold segs
  split
  ·rename_i hlt
   have hc := cutP_gt hlt
   unfold firstP
   rw [firstP_segs U b f (cutP b a) (by omega),show b - a = (cutP b a - a) + (b - cutP b a) by omega,freeU_add,show a + (cutP b a - a) = cutP b a by omega]
  ·rw [show b - a = 0 by omega]; rfl
def takeU (U : Nat → Bool) (B a : Nat) : Option Nat := match freeU U a (B - a) with
 | some i => some i
 | none => freeU U 0 a
theorem firstP_parts (U : Nat → Bool) (B a : Nat) : firstP U (partsL B a) = takeU U B a := by
 unfold partsL takeU
 rw [firstP_app,firstP_segs U B B a (by omega),firstP_segs U a a 0 (by omega),Nat.sub_zero]
theorem set_look (f : Int → WordV) (p : Int) (o n : WordV) : scSet f ⟨5,p,o,n⟩ = f := by
 funext q
 unfold scSet scHits
 rw [if_neg (by simp)]
theorem got_look (f : Int → WordV) (p : Int) (o n : WordV) : scGot f ⟨5,p,o,n⟩ = ⟨f p,true⟩ := rfl
theorem got_swap (f : Int → WordV) (p : Int) (n : WordV) : scGot f ⟨6,p,f p,n⟩ = ⟨f p,true⟩ := by
 unfold scGot
 rw [if_neg (by show ¬ (6 : Int) = 5; decide),if_pos rfl]
 show GotV.mk (f p) (weq (f p) (f p)) = _
 rw [weq_self]
theorem set_swap (f : Int → WordV) (p : Int) (n : WordV) (q : Int) : scSet f ⟨6,p,f p,n⟩ q = if q = p then n else f q := by
 unfold scSet scHits
 by_cases h : q = p
 ·rw [if_pos h,if_pos ⟨h,by show ((6 : Int) == 4 || ((6 : Int) == 6 && weq (f p) (f p))) = true; rw [weq_self]; rfl⟩]
 ·rw [if_neg h,if_neg (fun h' => h h'.1)]
theorem solo_look : ∀ (ps : List (Nat × Nat)) (s : TkM) (f : Int → WordV) (k : Nat),s.parts = ps → ps ≠ [] → s.fin = false → s.k = 1 → s.err = 0 → (∀ p ∈ ps,p.1 < p.2 ∧ p.2 ≤ (p.1 / 32 + 1) * 32) → ps.length + 1 ≤ k →
  ∀ p0 r,ps = p0 :: r → ∃ X,soloA k ⟨.tk s,⟨5,bitP s.l p0.1,zWord,zWord⟩,true,f⟩ = X ∧ X.live = false ∧
   ((∃ b,firstP (usedF s.l f) ps = some b ∧ blockA X.s = ((b : Int),0,true) ∧ X.f = setB s.l f b) ∨ (firstP (usedF s.l f) ps = none ∧ blockA X.s = (0,9,true) ∧ X.f = f))
 | [],_,_,_,_,h,_,_,_,_,_,_,_,_ => absurd rfl h
 | p :: ps,s,f,k,hps,_,hfin,hk1,herr,hr,hk,p0,r,he => by
  cases he
  obtain ⟨k,rfl⟩ : ∃ k',k = k' + 1 := ⟨k - 1,by omega⟩
  obtain ⟨hp1,hp2⟩ := hr p (List.mem_cons_self ..)
  have hsame : ∀ i,p.1 ≤ i → i < p.2 → bitP s.l i = bitP s.l p.1 := fun i h1 h2 => bitP_inj.2 (by omega)
  have hfree : freeT (f (bitP s.l p.1)).val p.1 (p.2 - p.1) = freeU (usedF s.l f) p.1 (p.2 - p.1) := by
   rw [freeT_eq]
   refine freeU_congr _ _ fun i h1 h2 => ?_
   unfold usedF
   rw [hsame i h1 (by omega)]
  have hn : nextA (.tk s) ⟨f (bitP s.l p.1),true⟩ = arT (foundT s (f (bitP s.l p.1))) := by
   show arT (nextT s _) = _
   unfold nextT
   rw [if_neg (by rw [hfin]; simp),hk1]
   rfl
  have h1 : soloA (k + 1) ⟨.tk s,⟨5,bitP s.l p.1,zWord,zWord⟩,true,f⟩ = soloA k (told1 (arT (foundT s (f (bitP s.l p.1)))) f) := by
   show (if true = true then soloA k (solo1 _) else _) = _
   rw [if_pos rfl]
   unfold solo1
   rw [got_look,set_look]
   show soloA k (told1 (nextA (.tk s) ⟨f (bitP s.l p.1),true⟩) f) = _
   rw [hn]
  rw [h1]
  cases hfu : freeU (usedF s.l f) p.1 (p.2 - p.1) with
  | some i =>
   obtain ⟨i1,i2,i3,_⟩ := freeU_some hfu
   have hpi := hsame i i1 (by omega)
   have hft : foundT s (f (bitP s.l p.1)) = ({ s with block := i,k := 2 },⟨6,bitP s.l i,f (bitP s.l p.1),⟨bitsI .or .i64 (f (bitP s.l p.1)).val (bitV i),(f (bitP s.l p.1)).ver,(f (bitP s.l p.1)).ref⟩⟩,false) := by
    unfold foundT
    rw [hps]
    simp only
    rw [hfree,hfu]
   rw [hft]
   obtain ⟨k,rfl⟩ : ∃ k',k = k' + 1 := ⟨k - 1,by simp at hk; omega⟩
   have h2 : soloA (k + 1) (told1 (arT ({ s with block := i,k := 2 },⟨6,bitP s.l i,f (bitP s.l p.1),⟨bitsI .or .i64 (f (bitP s.l p.1)).val (bitV i),(f (bitP s.l p.1)).ver,(f (bitP s.l p.1)).ref⟩⟩,false)) f) = ⟨.tk { s with block := i,k := 2,fin := true },zAct,false,setB s.l f i⟩ := by
    show (if true = true then soloA k (solo1 _) else _) = _
    rw [if_pos rfl]
    have h3 : solo1 (told1 (arT ({ s with block := i,k := 2 },⟨6,bitP s.l i,f (bitP s.l p.1),⟨bitsI .or .i64 (f (bitP s.l p.1)).val (bitV i),(f (bitP s.l p.1)).ver,(f (bitP s.l p.1)).ref⟩⟩,false)) f) = ⟨.tk { s with block := i,k := 2,fin := true },zAct,false,setB s.l f i⟩ := by
     unfold solo1
     show told1 (nextA (.tk { s with block := i,k := 2 }) (scGot f ⟨6,bitP s.l i,f (bitP s.l p.1),_⟩)) (scSet f ⟨6,bitP s.l i,f (bitP s.l p.1),_⟩) = _
     rw [← hpi,got_swap]
     have hn2 : nextA (.tk { s with block := i,k := 2 }) ⟨f (bitP s.l i),true⟩ = (.tk { s with block := i,k := 2,fin := true },zAct,true) := by
      show arT (nextT { s with block := i,k := 2 } ⟨f (bitP s.l i),true⟩) = _
      unfold nextT
      rw [if_neg (by show ¬ s.fin = true; rw [hfin]; simp)]
      rfl
     rw [hn2]
     unfold told1
     have hset : scSet f ⟨6,bitP s.l i,f (bitP s.l i),⟨bitsI .or .i64 (f (bitP s.l i)).val (bitV i),(f (bitP s.l i)).ver,(f (bitP s.l i)).ref⟩⟩ = setB s.l f i := by
      funext q
      rw [set_swap]
      unfold setB
      split
      ·rename_i hq; rw [hq]
      ·rfl
     rw [hset]
     rfl
    rw [h3]
    exact soloA_done rfl k
   refine ⟨_,h2,rfl,.inl ⟨i,?_,?_,rfl⟩⟩
   ·unfold firstP; rw [hfu]
   ·unfold blockA
    simp only [if_true]
    rw [if_neg (by rw [herr]; simp)]
  | none =>
   have hft : foundT s (f (bitP s.l p.1)) = lookT { s with parts := ps,g := 2 } := by
    unfold foundT
    rw [hps]
    simp only
    rw [hfree,hfu]
   have hfp : firstP (usedF s.l f) (p :: ps) = firstP (usedF s.l f) ps := by
    show (match freeU (usedF s.l f) p.1 (p.2 - p.1) with | some i => some i | none => firstP (usedF s.l f) ps) = _
    rw [hfu]
   rw [hft,hfp]
   cases ps with
   | nil =>
    have h2 : soloA k (told1 (arT (lookT { s with parts := [],g := 2 })) f) = ⟨.tk { s with parts := [],g := 2,fin := true,err := 9 },zAct,false,f⟩ := soloA_done (x := ⟨.tk { s with parts := [],g := 2,fin := true,err := 9 },zAct,false,f⟩) rfl k
    exact ⟨_,h2,rfl,.inr ⟨rfl,rfl,rfl⟩⟩
   | cons p' ps' =>
    have h2 : told1 (arT (lookT { s with parts := p' :: ps',g := 2 })) f = ⟨.tk { s with parts := p' :: ps',g := 2,k := 1 },⟨5,bitP s.l p'.1,zWord,zWord⟩,true,f⟩ := rfl
    rw [h2]
    exact solo_look (p' :: ps') { s with parts := p' :: ps',g := 2,k := 1 } f k rfl (by simp) hfin rfl herr (fun q hq => hr q (List.mem_cons_of_mem _ hq)) (by simp at hk ⊢; omega) p' ps' rfl
theorem parts_len (B a : Nat) (hB : B ≤ 64) (ha : a ≤ B) : (partsL B a).length ≤ 4 := by
 have h : ∀ (f b a : Nat),b ≤ 64 → (segs b f a).length ≤ (b + 31) / 32 - a / 32 := by
  intro f
  induction f with
  | zero => intro b a _; exact Nat.zero_le _
  | succ f ih =>
   intro b a hb
   unfold segs
   split
   ·rename_i hlt
    have := ih b (cutP b a) hb
    have hc := cutP_gt hlt
    rw [List.length_cons]
    have h9 : cutP b a = b ∨ cutP b a = (a / 32 + 1) * 32 := by unfold cutP; omega
    rcases h9 with h9 | h9
    ·have : segs b f (cutP b a) = [] := by
      rw [h9]
      cases f with
      | zero => rfl
      | succ f => unfold segs; rw [if_neg (by omega)]
     rw [this]; simp; omega
    ·omega
   ·exact Nat.zero_le _
 unfold partsL
 rw [List.length_append]
 have h1 := h B B a hB
 have h2 := h a a 0 (by omega)
 omega
theorem solo_take {l : LayV} (hl : checkL l = 0) {a : Nat} (ha : (a : Int) < l.blocks) (f : Int → WordV) : ∃ X,soloA 100 (sol0 (.tk (takeM l a)) f) = X ∧ X.live = false ∧
  ((∃ b,takeU (usedF l f) l.blocks.toNat a = some b ∧ blockA X.s = ((b : Int),0,true) ∧ X.f = setB l f b) ∨ (takeU (usedF l f) l.blocks.toNat a = none ∧ blockA X.s = (0,9,true) ∧ X.f = f)) := by
 have hb := (checkL_zero hl).1.2.2
 have haB : a < l.blocks.toNat := by omega
 obtain ⟨r,hr⟩ : ∃ r,partsL l.blocks.toNat a = (a,cutP l.blocks.toNat a) :: r := by
  unfold partsL
  rw [segs_step haB]
  exact ⟨_,rfl⟩
 have hs : sol0 (.tk (takeM l a)) f = ⟨.tk { takeM l a with k := 1 },⟨5,bitP l a,zWord,zWord⟩,true,f⟩ := by
  have h2 : lookT (takeM l a) = ({ takeM l a with k := 1 },⟨5,bitP l a,zWord,zWord⟩,false) := by
   unfold lookT
   show (match partsL l.blocks.toNat a with | [] => _ | p :: _ => _) = _
   rw [hr]
   rfl
  unfold sol0
  show told1 (arT (nextT (takeM l a) zGot)) f = _
  unfold nextT
  rw [if_neg (by show ¬ false = true; simp)]
  show told1 (arT (lookT (takeM l a))) f = _
  rw [h2]; rfl
 rw [hs,← firstP_parts]
 have hlen := parts_len l.blocks.toNat a (by omega) (by omega)
 exact solo_look (partsL l.blocks.toNat a) { takeM l a with k := 1 } f 100 rfl (by rw [hr]; simp) rfl rfl rfl (fun p hp => by
  unfold partsL at hp
  rcases List.mem_append.1 hp with h | h
  ·have := segs_mem _ _ h; exact ⟨this.1,this.2.2⟩
  ·have := segs_mem _ _ h; exact ⟨this.1,this.2.2⟩) (by omega) (a,cutP l.blocks.toNat a) r hr
theorem solo_give {l : LayV} (b : Nat) (f : Int → WordV) : ∃ X,soloA 100 (sol0 (.gv (giveA l b)) f) = X ∧ X.live = false ∧
  ((usedF l f b = true ∧ blockA X.s = ((b : Int),0,true) ∧ X.f = clrB l f b) ∨ (usedF l f b = false ∧ blockA X.s = ((b : Int),13,true) ∧ X.f = f)) := by
 have hs : sol0 (.gv (giveA l b)) f = ⟨.gv ⟨l,b,0,false,1⟩,⟨5,bitP l b,zWord,zWord⟩,true,f⟩ := rfl
 have hn : nextA (.gv ⟨l,b,0,false,1⟩) ⟨f (bitP l b),true⟩ = arG (foundG ⟨l,b,0,false,1⟩ (f (bitP l b))) := rfl
 have h1 : soloA 100 (sol0 (.gv (giveA l b)) f) = soloA 99 (told1 (arG (foundG ⟨l,b,0,false,1⟩ (f (bitP l b)))) f) := by
  rw [hs]
  show (if true = true then soloA 99 (solo1 _) else _) = _
  rw [if_pos rfl]
  unfold solo1
  rw [got_look,set_look]
  show soloA 99 (told1 (nextA (.gv ⟨l,b,0,false,1⟩) ⟨f (bitP l b),true⟩) f) = _
  rw [hn]
 rw [h1]
 cases hu : usedF l f b
 ·have hft : foundG ⟨l,b,0,false,1⟩ (f (bitP l b)) = (⟨l,b,13,true,1⟩,zAct,true) := by
   unfold foundG
   exact if_neg (by show ¬ usedF l f b = true; rw [hu]; simp)
  rw [hft]
  exact ⟨_,soloA_done (x := ⟨.gv ⟨l,b,13,true,1⟩,zAct,false,f⟩) rfl 99,rfl,.inr ⟨rfl,rfl,rfl⟩⟩
 ·have hft : foundG ⟨l,b,0,false,1⟩ (f (bitP l b)) = (⟨l,b,0,false,2⟩,⟨6,bitP l b,f (bitP l b),⟨bitsI .andNot .i64 (f (bitP l b)).val (bitV b),(f (bitP l b)).ver,(f (bitP l b)).ref⟩⟩,false) := by
   unfold foundG
   exact if_pos (show usedF l f b = true from hu)
  rw [hft]
  have h3 : solo1 (told1 (arG (⟨l,b,0,false,2⟩,⟨6,bitP l b,f (bitP l b),⟨bitsI .andNot .i64 (f (bitP l b)).val (bitV b),(f (bitP l b)).ver,(f (bitP l b)).ref⟩⟩,false)) f) = ⟨.gv ⟨l,b,0,true,2⟩,zAct,false,clrB l f b⟩ := by
   unfold solo1
   show told1 (nextA (.gv ⟨l,b,0,false,2⟩) (scGot f ⟨6,bitP l b,f (bitP l b),_⟩)) (scSet f ⟨6,bitP l b,f (bitP l b),_⟩) = _
   rw [got_swap]
   have hn2 : nextA (.gv ⟨l,b,0,false,2⟩) ⟨f (bitP l b),true⟩ = (.gv ⟨l,b,0,true,2⟩,zAct,true) := rfl
   rw [hn2]
   unfold told1
   have hset : scSet f ⟨6,bitP l b,f (bitP l b),⟨bitsI .andNot .i64 (f (bitP l b)).val (bitV b),(f (bitP l b)).ver,(f (bitP l b)).ref⟩⟩ = clrB l f b := by
    funext q
    rw [set_swap]
    unfold clrB
    split
    ·rename_i hq; rw [hq]
    ·rfl
   rw [hset]
   rfl
  have h2 : soloA 99 (told1 (arG (⟨l,b,0,false,2⟩,⟨6,bitP l b,f (bitP l b),⟨bitsI .andNot .i64 (f (bitP l b)).val (bitV b),(f (bitP l b)).ver,(f (bitP l b)).ref⟩⟩,false)) f) = ⟨.gv ⟨l,b,0,true,2⟩,zAct,false,clrB l f b⟩ := by
   show (if true = true then soloA 98 (solo1 _) else _) = _
   rw [if_pos rfl,h3]
   exact soloA_done rfl 98
  exact ⟨_,h2,rfl,.inl ⟨rfl,rfl,rfl⟩⟩
end Go.Proofs.YtkmbcjnaaokilaaGreatDoor
