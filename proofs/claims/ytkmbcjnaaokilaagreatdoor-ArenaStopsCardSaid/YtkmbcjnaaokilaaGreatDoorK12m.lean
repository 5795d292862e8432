/-
  Layer 12, plain: bits; what an allocation and a free come to.
-/
import Derived.Test.YtkmbcjnaaokilaaGreatDoorK12l
namespace Go.Proofs.YtkmbcjnaaokilaaGreatDoor
set_option linter.unusedSimpArgs false
set_option linter.unusedVariables false
open Go.RowKit Go.Maps
def tA (v : Int) (j : Nat) : Bool := (BitVec.ofInt 64 v).getLsbD j
theorem J4 (x : Int) : BitVec.ofInt 64 (IntKind.i64.wrap x) = BitVec.ofInt 64 x := by
 apply BitVec.eq_of_toNat_eq
 rw [BitVec.toNat_ofInt,BitVec.toNat_ofInt,IntKind.wrap_i64]
 congr 1
 omega
theorem J3 (b : BitVec 64) : BitVec.ofInt 64 (b.toNat : Int) = b := by
 apply BitVec.eq_of_toNat_eq
 rw [BitVec.toNat_ofInt]
 have := b.isLt
 omega
theorem wrap_zero (b : BitVec 64) : IntKind.i64.wrap (b.toNat : Int) = 0 ↔ b = 0#64 := by
 constructor
 ·intro h
  have := J4 (b.toNat : Int)
  rw [h,J3] at this
  rw [← this]; rfl
 ·rintro rfl; rfl
theorem J2 (i : Nat) : BitVec.ofInt 64 (fP i) = BitVec.twoPow 64 (i % 32) := by
 apply BitVec.eq_of_toNat_eq
 rw [BitVec.toNat_ofInt,BitVec.toNat_twoPow]
 unfold fP
 have h : i % 32 < 32 := Nat.mod_lt _ (by decide)
 have aj : 2 ^ (i % 32) < 2 ^ 64 := Nat.pow_lt_pow_right (by decide) (by omega)
 rw [Nat.mod_eq_of_lt aj]
 generalize 2 ^ (i % 32) = P at aj ⊢
 omega
theorem MZ (b : BitVec 64) (j : Nat) (aM : j < 64) : (b &&& BitVec.twoPow 64 j) = 0#64 ↔ b.getLsbD j = false := by
 constructor
 ·intro h
  have := congrArg (fun x => x.getLsbD j) h
  simp only [BitVec.getLsbD_and,BitVec.getLsbD_twoPow,BitVec.getLsbD_zero] at this
  simpa [aM] using this
 ·intro h
  apply BitVec.eq_of_getLsbD_eq
  intro i aq
  simp only [BitVec.getLsbD_and,BitVec.getLsbD_twoPow,BitVec.getLsbD_zero]
  by_cases e : j = i
  ·subst e; simp [h]
  ·simp [e]
theorem zv (v : Int) (i : Nat) : ly v i = tA v (i % 32) := by
 have h : i % 32 < 32 := Nat.mod_lt _ (by decide)
 unfold ly gN tA
 show (IntKind.i64.wrap ((BitVec.ofInt 64 v &&& BitVec.ofInt 64 (fP i)).toNat : Int) != 0) = _
 rw [J2]
 cases aJ : (BitVec.ofInt 64 v).getLsbD (i % 32)
 ·rw [bne_eq_false_iff_eq]
  exact (wrap_zero _).2 ((MZ _ _ (by omega)).2 aJ)
 ·rw [bne_iff_ne]
  intro bb
  rw [(MZ _ _ (by omega)).1 ((wrap_zero _).1 bb)] at aJ
  cases aJ
theorem ZK (v : Int) (i j : Nat) (aM : j < 64) : tA (gN .or .i64 v (fP i)) j = (tA v j || decide (i % 32 = j)) := by
 unfold tA gN
 show (BitVec.ofInt 64 (IntKind.i64.wrap ((BitVec.ofInt 64 v ||| BitVec.ofInt 64 (fP i)).toNat : Int))).getLsbD j = _
 rw [J4,J3,J2,BitVec.getLsbD_or,BitVec.getLsbD_twoPow]
 simp [show i % 32 < 64 by omega]
theorem ZJ (v : Int) (i j : Nat) (aM : j < 64) : tA (gN .andNot .i64 v (fP i)) j = (tA v j && !decide (i % 32 = j)) := by
 unfold tA gN
 show (BitVec.ofInt 64 (IntKind.i64.wrap ((BitVec.ofInt 64 v &&& ~~~BitVec.ofInt 64 (fP i)).toNat : Int))).getLsbD j = _
 rw [J4,J3,J2,BitVec.getLsbD_and,BitVec.getLsbD_not,BitVec.getLsbD_twoPow]
 simp [aM,show i % 32 < 64 by omega]
def dZ (l : cc) (f : Int → bq) (i : Nat) : Bool := ly (f (bA l i)).val i
def lZ (l : cc) (f : Int → bq) (b : Nat) (q : Int) : bq := if q = bA l b then ⟨gN .or .i64 (f q).val (fP b),(f q).eZ,(f q).ref⟩ else f q
def nr (l : cc) (f : Int → bq) (b : Nat) (q : Int) : bq := if q = bA l b then ⟨gN .andNot .i64 (f q).val (fP b),(f q).eZ,(f q).ref⟩ else f q
theorem Dw {l : cc} {i j : Nat} : bA l i = bA l j ↔ i / 32 = j / 32 := by unfold bA; omega
theorem L7 (l : cc) (f : Int → bq) (b i : Nat) : dZ l (lZ l f b) i = (dZ l f i || decide (b = i)) := by
 have hm : i % 32 < 64 := by omega
 unfold dZ lZ
 split
 ·rename_i h
  rw [zv,zv,ZK _ _ _ hm]
  congr 1
  have := Dw.1 h
  rw [decide_eq_decide]; omega
 ·rename_i h
  have : ¬ b = i := fun e => h (by rw [e])
  simp [this]
theorem Uo (l : cc) (f : Int → bq) (b i : Nat) : dZ l (nr l f b) i = (dZ l f i && !decide (b = i)) := by
 have hm : i % 32 < 64 := by omega
 unfold dZ nr
 split
 ·rename_i h
  rw [zv,zv,ZJ _ _ _ hm]
  congr 2
  have := Dw.1 h
  rw [decide_eq_decide]; omega
 ·rename_i h
  have : ¬ b = i := fun e => h (by rw [e])
  simp [this]
def lh (U : Nat → Bool) (a : Nat) : Nat → Option Nat
 | 0 => none
 | m + 1 => if U a = true then lh U (a + 1) m else some a
theorem Od (U : Nat → Bool) (a m : Nat) : lh U a (m + 1) = if U a = true then lh U (a + 1) m else some a := rfl
theorem Ob (U : Nat → Bool) : ∀ (m n a : Nat),lh U a (m + n) = match lh U a m with | some i => some i | none => lh U (a + m) n
 | 0,n,a => by rw [Nat.zero_add]; rfl
 | m + 1,n,a => by
  rw [show m + 1 + n = (m + n) + 1 by omega,Od U a (m + n),Od U a m]
  by_cases hu : U a = true
  ·rw [if_pos hu,if_pos hu,Ob U m n (a + 1),show a + 1 + m = a + (m + 1) by omega]
  ·rw [if_neg hu,if_neg hu]
theorem DW {U V : Nat → Bool} : ∀ (m a : Nat),(∀ i,a ≤ i → i < a + m → U i = V i) → lh U a m = lh V a m
 | 0,_,_ => rfl
 | m + 1,a,h => by
  unfold lh
  rw [h a (Nat.le_refl _) (by omega),DW m (a + 1) fun i af aj => h i (by omega) (by omega)]
theorem N9 (v : Int) : ∀ (m a : Nat),rC v a m = lh (ly v) a m
 | 0,_ => rfl
 | m + 1,a => by unfold rC lh; rw [N9 v m (a + 1)]
theorem Oc {U : Nat → Bool} : ∀ {m a i : Nat},lh U a m = some i → a ≤ i ∧ i < a + m ∧ U i = false ∧ ∀ j,a ≤ j → j < i → U j = true
 | 0,a,i,h => by cases h
 | m + 1,a,i,h => by
  unfold lh at h
  split at h
  ·rename_i hu
   obtain ⟨af,aj,aw,aV⟩ := Oc h
   exact ⟨by omega,by omega,aw,fun j qW kB => (by
    by_cases e : j = a
    ·subst e; exact hu
    ·exact aV j (by omega) kB)⟩
  ·rename_i hu
   cases h
   exact ⟨Nat.le_refl _,by omega,by simpa using hu,fun j af aj => by omega⟩
def oB (U : Nat → Bool) : List (Nat × Nat) → Option Nat
 | [] => none
 | p :: ps => match lh U p.1 (p.2 - p.1) with
  | some i => some i
  | none => oB U ps
theorem NW (U : Nat → Bool) (p : Nat × Nat) (ps : List (Nat × Nat)) : oB U (p :: ps) = match lh U p.1 (p.2 - p.1) with
  | some i => some i
  | none => oB U ps := rfl
theorem NV (U : Nat → Bool) : ∀ (a b : List (Nat × Nat)),oB U (a ++ b) = match oB U a with | some i => some i | none => oB U b
 | [],_ => rfl
 | p :: a,b => by
  rw [List.cons_append,NW,NW]
  cases lh U p.1 (p.2 - p.1) with
  | some i => rfl
  | none => exact NV U a b
theorem HE (U : Nat → Bool) (b : Nat) : ∀ (f a : Nat),b ≤ a + f → oB U (il b f a) = lh U a (b - a)
 | 0,a,h => by rw [show b - a = 0 by omega]; rfl
 | f + 1,a,h => by
  unfold il
  split
  ·rename_i bN
   have az := u5 bN
   unfold oB
   rw [HE U b f (hq b a) (by omega),show b - a = (hq b a - a) + (b - hq b a) by omega,Ob,show a + (hq b a - a) = hq b a by omega]
  ·rw [show b - a = 0 by omega]; rfl
def re (U : Nat → Bool) (B a : Nat) : Option Nat := match lh U a (B - a) with
 | some i => some i
 | none => lh U 0 a
theorem aaQ (U : Nat → Bool) (B a : Nat) : oB U (k5 B a) = re U B a := by
 unfold k5 re
 rw [NV,HE U B B a (by omega),HE U a a 0 (by omega),Nat.sub_zero]
theorem Cs (f : Int → bq) (p : Int) (o n : bq) : iA f ⟨5,p,o,n⟩ = f := by
 funext q
 unfold iA uD
 rw [if_neg (by simp)]
theorem D2 (f : Int → bq) (p : Int) (o n : bq) : cQ f ⟨5,p,o,n⟩ = ⟨f p,true⟩ := rfl
theorem D3 (f : Int → bq) (p : Int) (n : bq) : cQ f ⟨6,p,f p,n⟩ = ⟨f p,true⟩ := by
 unfold cQ
 rw [if_neg (by show ¬ (6 : Int) = 5; decide),if_pos rfl]
 show dW.mk (f p) (mY (f p) (f p)) = _
 rw [Uw]
theorem FZ (f : Int → bq) (p : Int) (n : bq) (q : Int) : iA f ⟨6,p,f p,n⟩ q = if q = p then n else f q := by
 unfold iA uD
 by_cases h : q = p
 ·rw [if_pos h,if_pos ⟨h,by show ((6 : Int) == 4 || ((6 : Int) == 6 && mY (f p) (f p))) = true; rw [Uw]; rfl⟩]
 ·rw [if_neg h,if_neg (fun dh => h dh.1)]
theorem Ra {s : g8} (ao : ∀ p ∈ s.parts,p.2 ≤ (p.1 / 32 + 1) * 32) {p : Nat × Nat} (hp : p ∈ s.parts) {i : Nat} (af : p.1 ≤ i) (aj : i < p.2) : bA s.l i = bA s.l p.1 := by
 have := ao p hp
 exact Dw.2 (by omega)
theorem TZ : ∀ (ps : List (Nat × Nat)) (s : g8) (f : Int → bq) (k : Nat),s.parts = ps → ps ≠ [] → s.fin = false → s.k = 1 → s.err = 0 → (∀ p ∈ ps,p.1 < p.2 ∧ p.2 ≤ (p.1 / 32 + 1) * 32) → ps.length + 1 ≤ k →
  ∀ y4 r,ps = y4 :: r → ∃ X,jd k ⟨.c9 s,⟨5,bA s.l y4.1,gv,gv⟩,true,f⟩ = X ∧ X.live = false ∧
   ((∃ b,oB (dZ s.l f) ps = some b ∧ fc X.s = ((b : Int),0,true) ∧ X.f = lZ s.l f b) ∨ (oB (dZ s.l f) ps = none ∧ fc X.s = (0,9,true) ∧ X.f = f))
 | [],_,_,_,_,h,_,_,_,_,_,_,_,_ => absurd rfl h
 | p :: ps,s,f,k,yS,_,n4,p5,O9,ax,aB,y4,r,he => by
  cases he
  obtain ⟨k,rfl⟩ : ∃ dA,k = dA + 1 := ⟨k - 1,by omega⟩
  obtain ⟨yR,Px⟩ := ax p (List.mem_cons_self ..)
  have oa : ∀ i,p.1 ≤ i → i < p.2 → bA s.l i = bA s.l p.1 := fun i af aj => Dw.2 (by omega)
  have Pe : rC (f (bA s.l p.1)).val p.1 (p.2 - p.1) = lh (dZ s.l f) p.1 (p.2 - p.1) := by
   rw [N9]
   refine DW _ _ fun i af aj => ?_
   unfold dZ
   rw [oa i af (by omega)]
  have a7 : cI (.c9 s) ⟨f (bA s.l p.1),true⟩ = hZ (gT s (f (bA s.l p.1))) := by
   show hZ (hU s _) = _
   unfold hU
   rw [if_neg (by rw [n4]; simp),p5]
   rfl
  have af : jd (k + 1) ⟨.c9 s,⟨5,bA s.l p.1,gv,gv⟩,true,f⟩ = jd k (km (hZ (gT s (f (bA s.l p.1)))) f) := by
   show (if true = true then jd k (oZ _) else _) = _
   rw [if_pos rfl]
   unfold oZ
   rw [D2,Cs]
   show jd k (km (cI (.c9 s) ⟨f (bA s.l p.1),true⟩) f) = _
   rw [a7]
  rw [af]
  cases AV : lh (dZ s.l f) p.1 (p.2 - p.1) with
  | some i =>
   obtain ⟨i1,i2,i3,_⟩ := Oc AV
   have adz := oa i i1 (by omega)
   have wW : gT s (f (bA s.l p.1)) = ({ s with block := i,k := 2 },⟨6,bA s.l i,f (bA s.l p.1),⟨gN .or .i64 (f (bA s.l p.1)).val (fP i),(f (bA s.l p.1)).eZ,(f (bA s.l p.1)).ref⟩⟩,false) := by
    unfold gT
    rw [yS]
    simp only
    rw [Pe,AV]
   rw [wW]
   obtain ⟨k,rfl⟩ : ∃ dA,k = dA + 1 := ⟨k - 1,by simp at aB; omega⟩
   have aj : jd (k + 1) (km (hZ ({ s with block := i,k := 2 },⟨6,bA s.l i,f (bA s.l p.1),⟨gN .or .i64 (f (bA s.l p.1)).val (fP i),(f (bA s.l p.1)).eZ,(f (bA s.l p.1)).ref⟩⟩,false)) f) = ⟨.c9 { s with block := i,k := 2,fin := true },hi,false,lZ s.l f i⟩ := by
    show (if true = true then jd k (oZ _) else _) = _
    rw [if_pos rfl]
    have aw : oZ (km (hZ ({ s with block := i,k := 2 },⟨6,bA s.l i,f (bA s.l p.1),⟨gN .or .i64 (f (bA s.l p.1)).val (fP i),(f (bA s.l p.1)).eZ,(f (bA s.l p.1)).ref⟩⟩,false)) f) = ⟨.c9 { s with block := i,k := 2,fin := true },hi,false,lZ s.l f i⟩ := by
     unfold oZ
     show km (cI (.c9 { s with block := i,k := 2 }) (cQ f ⟨6,bA s.l i,f (bA s.l p.1),_⟩)) (iA f ⟨6,bA s.l i,f (bA s.l p.1),_⟩) = _
     rw [← adz,D3]
     have Bh : cI (.c9 { s with block := i,k := 2 }) ⟨f (bA s.l i),true⟩ = (.c9 { s with block := i,k := 2,fin := true },hi,true) := by
      show hZ (hU { s with block := i,k := 2 } ⟨f (bA s.l i),true⟩) = _
      unfold hU
      rw [if_neg (by show ¬ s.fin = true; rw [n4]; simp)]
      rfl
     rw [Bh]
     unfold km
     have BB : iA f ⟨6,bA s.l i,f (bA s.l i),⟨gN .or .i64 (f (bA s.l i)).val (fP i),(f (bA s.l i)).eZ,(f (bA s.l i)).ref⟩⟩ = lZ s.l f i := by
      funext q
      rw [FZ]
      unfold lZ
      split
      ·rename_i aS; rw [aS]
      ·rfl
     rw [BB]
     rfl
    rw [aw]
    exact Cu rfl k
   refine ⟨_,aj,rfl,.inl ⟨i,?_,?_,rfl⟩⟩
   ·unfold oB; rw [AV]
   ·unfold fc
    simp only [if_true]
    rw [if_neg (by rw [O9]; simp)]
  | none =>
   have wW : gT s (f (bA s.l p.1)) = h6 { s with parts := ps,g := 2 } := by
    unfold gT
    rw [yS]
    simp only
    rw [Pe,AV]
   have AU : oB (dZ s.l f) (p :: ps) = oB (dZ s.l f) ps := by
    show (match lh (dZ s.l f) p.1 (p.2 - p.1) with | some i => some i | none => oB (dZ s.l f) ps) = _
    rw [AV]
   rw [wW,AU]
   cases ps with
   | nil =>
    have aj : jd k (km (hZ (h6 { s with parts := [],g := 2 })) f) = ⟨.c9 { s with parts := [],g := 2,fin := true,err := 9 },hi,false,f⟩ := Cu (x := ⟨.c9 { s with parts := [],g := 2,fin := true,err := 9 },hi,false,f⟩) rfl k
    exact ⟨_,aj,rfl,.inr ⟨rfl,rfl,rfl⟩⟩
   | cons vP xG =>
    have aj : km (hZ (h6 { s with parts := vP :: xG,g := 2 })) f = ⟨.c9 { s with parts := vP :: xG,g := 2,k := 1 },⟨5,bA s.l vP.1,gv,gv⟩,true,f⟩ := rfl
    rw [aj]
    exact TZ (vP :: xG) { s with parts := vP :: xG,g := 2,k := 1 } f k rfl (by simp) n4 rfl O9 (fun q aS => ax q (List.mem_cons_of_mem _ aS)) (by simp at aB ⊢; omega) vP xG rfl
theorem ag2 (B a : Nat) (fD : B ≤ 64) (aZ : a ≤ B) : (k5 B a).length ≤ 4 := by
 have h : ∀ (f b a : Nat),b ≤ 64 → (il b f a).length ≤ (b + 31) / 32 - a / 32 := by
  intro f
  induction f with
  | zero => intro b a _; exact Nat.zero_le _
  | succ f dO =>
   intro b a aJ
   unfold il
   split
   ·rename_i bN
    have := dO b (hq b a) aJ
    have az := u5 bN
    rw [List.length_cons]
    have ch : hq b a = b ∨ hq b a = (a / 32 + 1) * 32 := by unfold hq; omega
    rcases ch with ch | ch
    ·have : il b f (hq b a) = [] := by
      rw [ch]
      cases f with
      | zero => rfl
      | succ f => unfold il; rw [if_neg (by omega)]
     rw [this]; simp; omega
    ·omega
   ·exact Nat.zero_le _
 unfold k5
 rw [List.length_append]
 have af := h B B a fD
 have aj := h a a 0 (by omega)
 omega
theorem ahX {l : cc} (aF : fj l = 0) {a : Nat} (aZ : (a : Int) < l.blocks) (f : Int → bq) : ∃ X,jd 100 (nO (.c9 (fJ l a)) f) = X ∧ X.live = false ∧
  ((∃ b,re (dZ l f) l.blocks.toNat a = some b ∧ fc X.s = ((b : Int),0,true) ∧ X.f = lZ l f b) ∨ (re (dZ l f) l.blocks.toNat a = none ∧ fc X.s = (0,9,true) ∧ X.f = f)) := by
 have aJ := (ku aF).1.2.2
 have ab3 : a < l.blocks.toNat := by omega
 obtain ⟨r,ax⟩ : ∃ r,k5 l.blocks.toNat a = (a,hq l.blocks.toNat a) :: r := by
  unfold k5
  rw [FY ab3]
  exact ⟨_,rfl⟩
 have ao : nO (.c9 (fJ l a)) f = ⟨.c9 { fJ l a with k := 1 },⟨5,bA l a,gv,gv⟩,true,f⟩ := by
  have aj : h6 (fJ l a) = ({ fJ l a with k := 1 },⟨5,bA l a,gv,gv⟩,false) := by
   unfold h6
   show (match k5 l.blocks.toNat a with | [] => _ | p :: _ => _) = _
   rw [ax]
   rfl
  unfold nO
  show km (hZ (hU (fJ l a) e4)) f = _
  unfold hU
  rw [if_neg (by show ¬ false = true; simp)]
  show km (hZ (h6 (fJ l a))) f = _
  rw [aj]; rfl
 rw [ao,← aaQ]
 have hlen := ag2 l.blocks.toNat a (by omega) (by omega)
 exact TZ (k5 l.blocks.toNat a) { fJ l a with k := 1 } f 100 rfl (by rw [ax]; simp) rfl rfl rfl (fun p hp => by
  unfold k5 at hp
  rcases List.mem_append.1 hp with h | h
  ·have := xW _ _ h; exact ⟨this.1,this.2.2⟩
  ·have := xW _ _ h; exact ⟨this.1,this.2.2⟩) (by omega) (a,hq l.blocks.toNat a) r ax
theorem TY {l : cc} (b : Nat) (f : Int → bq) : ∃ X,jd 100 (nO (.ec (h2 l b)) f) = X ∧ X.live = false ∧
  ((dZ l f b = true ∧ fc X.s = ((b : Int),0,true) ∧ X.f = nr l f b) ∨ (dZ l f b = false ∧ fc X.s = ((b : Int),13,true) ∧ X.f = f)) := by
 have ao : nO (.ec (h2 l b)) f = ⟨.ec ⟨l,b,0,false,1⟩,⟨5,bA l b,gv,gv⟩,true,f⟩ := rfl
 have a7 : cI (.ec ⟨l,b,0,false,1⟩) ⟨f (bA l b),true⟩ = lf (h1 ⟨l,b,0,false,1⟩ (f (bA l b))) := rfl
 have af : jd 100 (nO (.ec (h2 l b)) f) = jd 99 (km (lf (h1 ⟨l,b,0,false,1⟩ (f (bA l b)))) f) := by
  rw [ao]
  show (if true = true then jd 99 (oZ _) else _) = _
  rw [if_pos rfl]
  unfold oZ
  rw [D2,Cs]
  show jd 99 (km (cI (.ec ⟨l,b,0,false,1⟩) ⟨f (bA l b),true⟩) f) = _
  rw [a7]
 rw [af]
 cases hu : dZ l f b
 ·have wW : h1 ⟨l,b,0,false,1⟩ (f (bA l b)) = (⟨l,b,13,true,1⟩,hi,true) := by
   unfold h1
   exact if_neg (by show ¬ dZ l f b = true; rw [hu]; simp)
  rw [wW]
  exact ⟨_,Cu (x := ⟨.ec ⟨l,b,13,true,1⟩,hi,false,f⟩) rfl 99,rfl,.inr ⟨rfl,rfl,rfl⟩⟩
 ·have wW : h1 ⟨l,b,0,false,1⟩ (f (bA l b)) = (⟨l,b,0,false,2⟩,⟨6,bA l b,f (bA l b),⟨gN .andNot .i64 (f (bA l b)).val (fP b),(f (bA l b)).eZ,(f (bA l b)).ref⟩⟩,false) := by
   unfold h1
   exact if_pos (show dZ l f b = true from hu)
  rw [wW]
  have aw : oZ (km (lf (⟨l,b,0,false,2⟩,⟨6,bA l b,f (bA l b),⟨gN .andNot .i64 (f (bA l b)).val (fP b),(f (bA l b)).eZ,(f (bA l b)).ref⟩⟩,false)) f) = ⟨.ec ⟨l,b,0,true,2⟩,hi,false,nr l f b⟩ := by
   unfold oZ
   show km (cI (.ec ⟨l,b,0,false,2⟩) (cQ f ⟨6,bA l b,f (bA l b),_⟩)) (iA f ⟨6,bA l b,f (bA l b),_⟩) = _
   rw [D3]
   have Bh : cI (.ec ⟨l,b,0,false,2⟩) ⟨f (bA l b),true⟩ = (.ec ⟨l,b,0,true,2⟩,hi,true) := rfl
   rw [Bh]
   unfold km
   have BB : iA f ⟨6,bA l b,f (bA l b),⟨gN .andNot .i64 (f (bA l b)).val (fP b),(f (bA l b)).eZ,(f (bA l b)).ref⟩⟩ = nr l f b := by
    funext q
    rw [FZ]
    unfold nr
    split
    ·rename_i aS; rw [aS]
    ·rfl
   rw [BB]
   rfl
  have aj : jd 99 (km (lf (⟨l,b,0,false,2⟩,⟨6,bA l b,f (bA l b),⟨gN .andNot .i64 (f (bA l b)).val (fP b),(f (bA l b)).eZ,(f (bA l b)).ref⟩⟩,false)) f) = ⟨.ec ⟨l,b,0,true,2⟩,hi,false,nr l f b⟩ := by
   show (if true = true then jd 98 (oZ _) else _) = _
   rw [if_pos rfl,aw]
   exact Cu rfl 98
  exact ⟨_,aj,rfl,.inl ⟨rfl,rfl,rfl⟩⟩
end Go.Proofs.YtkmbcjnaaokilaaGreatDoor
