/-
  Layer 12, plain: bits; what an allocation and a free come to.
-/
import Derived.Test.YtkmbcjnaaokilaaGreatDoorMK20
namespace Go.Proofs.YtkmbcjnaaokilaaGreatDoor
set_option linter.unusedSimpArgs false
set_option linter.unusedVariables false
open Go.RowKit Go.Maps
def uS (v : Int) (j : Nat) : Bool := (BitVec.ofInt 64 v).getLsbD j
theorem MB (x : Int) : BitVec.ofInt 64 (IntKind.i64.wrap x) = BitVec.ofInt 64 x := by
 apply BitVec.eq_of_toNat_eq
 rw [BitVec.toNat_ofInt,BitVec.toNat_ofInt,IntKind.wrap_i64]
 congr 1
 omega
theorem MA (b : BitVec 64) : BitVec.ofInt 64 (b.toNat : Int) = b := by
 apply BitVec.eq_of_toNat_eq
 rw [BitVec.toNat_ofInt]
 have := b.isLt
 omega
theorem wrap_zero (b : BitVec 64) : IntKind.i64.wrap (b.toNat : Int) = 0 ↔ b = 0#64 := by
 constructor
 ·intro h
  have := MB (b.toNat : Int)
  rw [h,MA] at this
  rw [← this]; rfl
 ·rintro rfl; rfl
theorem Mz (i : Nat) : BitVec.ofInt 64 (fX i) = BitVec.twoPow 64 (i % 32) := by
 apply BitVec.eq_of_toNat_eq
 rw [BitVec.toNat_ofInt,BitVec.toNat_twoPow]
 unfold fX
 have h : i % 32 < 32 := Nat.mod_lt _ (by decide)
 have aj : 2 ^ (i % 32) < 2 ^ 64 := Nat.pow_lt_pow_right (by decide) (by omega)
 rw [Nat.mod_eq_of_lt aj]
 generalize 2 ^ (i % 32) = P at aj ⊢
 omega
theorem PQ (b : BitVec 64) (j : Nat) (aN : j < 64) : (b &&& BitVec.twoPow 64 j) = 0#64 ↔ b.getLsbD j = false := by
 constructor
 ·intro h
  have := congrArg (fun x => x.getLsbD j) h
  simp only [BitVec.getLsbD_and,BitVec.getLsbD_twoPow,BitVec.getLsbD_zero] at this
  simpa [aN] using this
 ·intro h
  apply BitVec.eq_of_getLsbD_eq
  intro i aq
  simp only [BitVec.getLsbD_and,BitVec.getLsbD_twoPow,BitVec.getLsbD_zero]
  by_cases e : j = i
  ·subst e; simp [h]
  ·simp [e]
theorem A9 (v : Int) (i : Nat) : l7 v i = uS v (i % 32) := by
 have h : i % 32 < 32 := Nat.mod_lt _ (by decide)
 unfold l7 gV uS
 show (IntKind.i64.wrap ((BitVec.ofInt 64 v &&& BitVec.ofInt 64 (fX i)).toNat : Int) != 0) = _
 rw [Mz]
 cases aI : (BitVec.ofInt 64 v).getLsbD (i % 32)
 ·rw [bne_eq_false_iff_eq]
  exact (wrap_zero _).2 ((PQ _ _ (by omega)).2 aI)
 ·rw [bne_iff_ne]
  intro ba
  rw [(PQ _ _ (by omega)).1 ((wrap_zero _).1 ba)] at aI
  cases aI
theorem acY (v : Int) (i j : Nat) (aN : j < 64) : uS (gV .or .i64 v (fX i)) j = (uS v j || decide (i % 32 = j)) := by
 unfold uS gV
 show (BitVec.ofInt 64 (IntKind.i64.wrap ((BitVec.ofInt 64 v ||| BitVec.ofInt 64 (fX i)).toNat : Int))).getLsbD j = _
 rw [MB,MA,Mz,BitVec.getLsbD_or,BitVec.getLsbD_twoPow]
 simp [show i % 32 < 64 by omega]
theorem acX (v : Int) (i j : Nat) (aN : j < 64) : uS (gV .andNot .i64 v (fX i)) j = (uS v j && !decide (i % 32 = j)) := by
 unfold uS gV
 show (BitVec.ofInt 64 (IntKind.i64.wrap ((BitVec.ofInt 64 v &&& ~~~BitVec.ofInt 64 (fX i)).toNat : Int))).getLsbD j = _
 rw [MB,MA,Mz,BitVec.getLsbD_and,BitVec.getLsbD_not,BitVec.getLsbD_twoPow]
 simp [aN,show i % 32 < 64 by omega]
def eg (l : b1) (f : Int → bm) (i : Nat) : Bool := l7 (f (bw l i)).val i
def mE (l : b1) (f : Int → bm) (b : Nat) (q : Int) : bm := if q = bw l b then ⟨gV .or .i64 (f q).val (fX b),(f q).eV,(f q).ref⟩ else f q
def oa (l : b1) (f : Int → bm) (b : Nat) (q : Int) : bm := if q = bw l b then ⟨gV .andNot .i64 (f q).val (fX b),(f q).eV,(f q).ref⟩ else f q
theorem Fg {l : b1} {i j : Nat} : bw l i = bw l j ↔ i / 32 = j / 32 := by unfold bw; omega
theorem OP (l : b1) (f : Int → bm) (b i : Nat) : eg l (mE l f b) i = (eg l f i || decide (b = i)) := by
 have hm : i % 32 < 64 := by omega
 unfold eg mE
 split
 ·rename_i h
  rw [A9,A9,acY _ _ _ hm]
  congr 1
  have := Fg.1 h
  rw [decide_eq_decide]; omega
 ·rename_i h
  have : ¬ b = i := fun e => h (by rw [e])
  simp [this]
theorem XE (l : b1) (f : Int → bm) (b i : Nat) : eg l (oa l f b) i = (eg l f i && !decide (b = i)) := by
 have hm : i % 32 < 64 := by omega
 unfold eg oa
 split
 ·rename_i h
  rw [A9,A9,acX _ _ _ hm]
  congr 2
  have := Fg.1 h
  rw [decide_eq_decide]; omega
 ·rename_i h
  have : ¬ b = i := fun e => h (by rw [e])
  simp [this]
def lT (U : Nat → Bool) (a : Nat) : Nat → Option Nat
 | 0 => none
 | m + 1 => if U a = true then lT U (a + 1) m else some a
theorem Q3 (U : Nat → Bool) (a m : Nat) : lT U a (m + 1) = if U a = true then lT U (a + 1) m else some a := rfl
theorem Q1 (U : Nat → Bool) : ∀ (m n a : Nat),lT U a (m + n) = match lT U a m with | some i => some i | none => lT U (a + m) n
 | 0,n,a => by rw [Nat.zero_add]; rfl
 | m + 1,n,a => by
  rw [show m + 1 + n = (m + n) + 1 by omega,Q3 U a (m + n),Q3 U a m]
  by_cases hu : U a = true
  ·rw [if_pos hu,if_pos hu,Q1 U m n (a + 1),show a + 1 + m = a + (m + 1) by omega]
  ·rw [if_neg hu,if_neg hu]
theorem FZ {U V : Nat → Bool} : ∀ (m a : Nat),(∀ i,a ≤ i → i < a + m → U i = V i) → lT U a m = lT V a m
 | 0,_,_ => rfl
 | m + 1,a,h => by
  unfold lT
  rw [h a (Nat.le_refl _) (by omega),FZ m (a + 1) fun i af aj => h i (by omega) (by omega)]
theorem QZ (v : Int) : ∀ (m a : Nat),sO v a m = lT (l7 v) a m
 | 0,_ => rfl
 | m + 1,a => by unfold sO lT; rw [QZ v m (a + 1)]
theorem Q2 {U : Nat → Bool} : ∀ {m a i : Nat},lT U a m = some i → a ≤ i ∧ i < a + m ∧ U i = false ∧ ∀ j,a ≤ j → j < i → U j = true
 | 0,a,i,h => by cases h
 | m + 1,a,i,h => by
  unfold lT at h
  split at h
  ·rename_i hu
   obtain ⟨af,aj,av,aY⟩ := Q2 h
   exact ⟨by omega,by omega,av,fun j r1 kA => (by
    by_cases e : j = a
    ·subst e; exact hu
    ·exact aY j (by omega) kA)⟩
  ·rename_i hu
   cases h
   exact ⟨Nat.le_refl _,by omega,by simpa using hu,fun j af aj => by omega⟩
def pC (U : Nat → Bool) : List (Nat × Nat) → Option Nat
 | [] => none
 | p :: ps => match lT U p.1 (p.2 - p.1) with
  | some i => some i
  | none => pC U ps
theorem QM (U : Nat → Bool) (p : Nat × Nat) (ps : List (Nat × Nat)) : pC U (p :: ps) = match lT U p.1 (p.2 - p.1) with
  | some i => some i
  | none => pC U ps := rfl
theorem QL (U : Nat → Bool) : ∀ (a b : List (Nat × Nat)),pC U (a ++ b) = match pC U a with | some i => some i | none => pC U b
 | [],_ => rfl
 | p :: a,b => by
  rw [List.cons_append,QM,QM]
  cases lT U p.1 (p.2 - p.1) with
  | some i => rfl
  | none => exact QL U a b
theorem JT (U : Nat → Bool) (b : Nat) : ∀ (f a : Nat),b ≤ a + f → pC U (iF b f a) = lT U a (b - a)
 | 0,a,h => by rw [show b - a = 0 by omega]; rfl
 | f + 1,a,h => by
  unfold iF
  split
  ·rename_i bQ
   have aB := wI bQ
   unfold pC
   rw [JT U b f (hF b a) (by omega),show b - a = (hF b a - a) + (b - hF b a) by omega,Q1,show a + (hF b a - a) = hF b a by omega]
  ·rw [show b - a = 0 by omega]; rfl
def sl (U : Nat → Bool) (B a : Nat) : Option Nat := match lT U a (B - a) with
 | some i => some i
 | none => lT U 0 a
theorem aeg (U : Nat → Bool) (B a : Nat) : pC U (lC B a) = sl U B a := by
 unfold lC sl
 rw [QL,JT U B B a (by omega),JT U a a 0 (by omega),Nat.sub_zero]
theorem Ea (f : Int → bm) (p : Int) (o n : bm) : iT f ⟨5,p,o,n⟩ = f := by
 funext q
 unfold iT vU
 rw [if_neg (by simp)]
theorem F7 (f : Int → bm) (p : Int) (o n : bm) : cY f ⟨5,p,o,n⟩ = ⟨f p,true⟩ := rfl
theorem F8 (f : Int → bm) (p : Int) (n : bm) : cY f ⟨6,p,f p,n⟩ = ⟨f p,true⟩ := by
 unfold cY
 rw [if_neg (by show ¬ (6 : Int) = 5; decide),if_pos rfl]
 show ei.mk (f p) (nH (f p) (f p)) = _
 rw [XN]
theorem HW (f : Int → bm) (p : Int) (n : bm) (q : Int) : iT f ⟨6,p,f p,n⟩ q = if q = p then n else f q := by
 unfold iT vU
 by_cases h : q = p
 ·rw [if_pos h,if_pos ⟨h,by show ((6 : Int) == 4 || ((6 : Int) == 6 && nH (f p) (f p))) = true; rw [XN]; rfl⟩]
 ·rw [if_neg h,if_neg (fun e6 => h e6.1)]
theorem Ui {s : hl} (ao : ∀ p ∈ s.parts,p.2 ≤ (p.1 / 32 + 1) * 32) {p : Nat × Nat} (hp : p ∈ s.parts) {i : Nat} (af : p.1 ≤ i) (aj : i < p.2) : bw s.l i = bw s.l p.1 := by
 have := ao p hp
 exact Fg.2 (by omega)
theorem Xh : ∀ (ps : List (Nat × Nat)) (s : hl) (f : Int → bm) (k : Nat),s.parts = ps → ps ≠ [] → s.fin = false → s.k = 1 → s.err = 0 → (∀ p ∈ ps,p.1 < p.2 ∧ p.2 ≤ (p.1 / 32 + 1) * 32) → ps.length + 1 ≤ k →
  ∀ xB r,ps = xB :: r → ∃ X,js k ⟨.dp s,⟨5,bw s.l xB.1,gE,gE⟩,true,f⟩ = X ∧ X.live = false ∧
   ((∃ b,pC (eg s.l f) ps = some b ∧ fk X.s = ((b : Int),0,true) ∧ X.f = mE s.l f b) ∨ (pC (eg s.l f) ps = none ∧ fk X.s = (0,9,true) ∧ X.f = f))
 | [],_,_,_,_,h,_,_,_,_,_,_,_,_ => absurd rfl h
 | p :: ps,s,f,k,Ay,_,oW,tZ,RW,aA,az,xB,r,he => by
  cases he
  obtain ⟨k,rfl⟩ : ∃ dG,k = dG + 1 := ⟨k - 1,by omega⟩
  obtain ⟨Ax,Sj⟩ := aA p (List.mem_cons_self ..)
  have o2 : ∀ i,p.1 ≤ i → i < p.2 → bw s.l i = bw s.l p.1 := fun i af aj => Fg.2 (by omega)
  have R1 : sO (f (bw s.l p.1)).val p.1 (p.2 - p.1) = lT (eg s.l f) p.1 (p.2 - p.1) := by
   rw [QZ]
   refine FZ _ _ fun i af aj => ?_
   unfold eg
   rw [o2 i af (by omega)]
  have a9 : cU (.dp s) ⟨f (bw s.l p.1),true⟩ = ic (g5 s (f (bw s.l p.1))) := by
   show ic (h6 s _) = _
   unfold h6
   rw [if_neg (by rw [oW]; simp),tZ]
   rfl
  have af : js (k + 1) ⟨.dp s,⟨5,bw s.l p.1,gE,gE⟩,true,f⟩ = js k (kI (ic (g5 s (f (bw s.l p.1)))) f) := by
   show (if true = true then js k (p0 _) else _) = _
   rw [if_pos rfl]
   unfold p0
   rw [F7,Ea]
   show js k (kI (cU (.dp s) ⟨f (bw s.l p.1),true⟩) f) = _
   rw [a9]
  rw [af]
  cases CC : lT (eg s.l f) p.1 (p.2 - p.1) with
  | some i =>
   obtain ⟨i1,i2,i3,_⟩ := Q2 CC
   have agW := o2 i i1 (by omega)
   have yA : g5 s (f (bw s.l p.1)) = ({ s with block := i,k := 2 },⟨6,bw s.l i,f (bw s.l p.1),⟨gV .or .i64 (f (bw s.l p.1)).val (fX i),(f (bw s.l p.1)).eV,(f (bw s.l p.1)).ref⟩⟩,false) := by
    unfold g5
    rw [Ay]
    simp only
    rw [R1,CC]
   rw [yA]
   obtain ⟨k,rfl⟩ : ∃ dG,k = dG + 1 := ⟨k - 1,by simp at az; omega⟩
   have aj : js (k + 1) (kI (ic ({ s with block := i,k := 2 },⟨6,bw s.l i,f (bw s.l p.1),⟨gV .or .i64 (f (bw s.l p.1)).val (fX i),(f (bw s.l p.1)).eV,(f (bw s.l p.1)).ref⟩⟩,false)) f) = ⟨.dp { s with block := i,k := 2,fin := true },hx,false,mE s.l f i⟩ := by
    show (if true = true then js k (p0 _) else _) = _
    rw [if_pos rfl]
    have av : p0 (kI (ic ({ s with block := i,k := 2 },⟨6,bw s.l i,f (bw s.l p.1),⟨gV .or .i64 (f (bw s.l p.1)).val (fX i),(f (bw s.l p.1)).eV,(f (bw s.l p.1)).ref⟩⟩,false)) f) = ⟨.dp { s with block := i,k := 2,fin := true },hx,false,mE s.l f i⟩ := by
     unfold p0
     show kI (cU (.dp { s with block := i,k := 2 }) (cY f ⟨6,bw s.l i,f (bw s.l p.1),_⟩)) (iT f ⟨6,bw s.l i,f (bw s.l p.1),_⟩) = _
     rw [← agW,F8]
     have CZ : cU (.dp { s with block := i,k := 2 }) ⟨f (bw s.l i),true⟩ = (.dp { s with block := i,k := 2,fin := true },hx,true) := by
      show ic (h6 { s with block := i,k := 2 } ⟨f (bw s.l i),true⟩) = _
      unfold h6
      rw [if_neg (by show ¬ s.fin = true; rw [oW]; simp)]
      rfl
     rw [CZ]
     unfold kI
     have De : iT f ⟨6,bw s.l i,f (bw s.l i),⟨gV .or .i64 (f (bw s.l i)).val (fX i),(f (bw s.l i)).eV,(f (bw s.l i)).ref⟩⟩ = mE s.l f i := by
      funext q
      rw [HW]
      unfold mE
      split
      ·rename_i aT; rw [aT]
      ·rfl
     rw [De]
     rfl
    rw [av]
    exact Ec rfl k
   refine ⟨_,aj,rfl,.inl ⟨i,?_,?_,rfl⟩⟩
   ·unfold pC; rw [CC]
   ·unfold fk
    simp only [if_true]
    rw [if_neg (by rw [RW]; simp)]
  | none =>
   have yA : g5 s (f (bw s.l p.1)) = iv { s with parts := ps,g := 2 } := by
    unfold g5
    rw [Ay]
    simp only
    rw [R1,CC]
   have CB : pC (eg s.l f) (p :: ps) = pC (eg s.l f) ps := by
    show (match lT (eg s.l f) p.1 (p.2 - p.1) with | some i => some i | none => pC (eg s.l f) ps) = _
    rw [CC]
   rw [yA,CB]
   cases ps with
   | nil =>
    have aj : js k (kI (ic (iv { s with parts := [],g := 2 })) f) = ⟨.dp { s with parts := [],g := 2,fin := true,err := 9 },hx,false,f⟩ := Ec (x := ⟨.dp { s with parts := [],g := 2,fin := true,err := 9 },hx,false,f⟩) rfl k
    exact ⟨_,aj,rfl,.inr ⟨rfl,rfl,rfl⟩⟩
   | cons xA zl =>
    have aj : kI (ic (iv { s with parts := xA :: zl,g := 2 })) f = ⟨.dp { s with parts := xA :: zl,g := 2,k := 1 },⟨5,bw s.l xA.1,gE,gE⟩,true,f⟩ := rfl
    rw [aj]
    exact Xh (xA :: zl) { s with parts := xA :: zl,g := 2,k := 1 } f k rfl (by simp) oW rfl RW (fun q aT => aA q (List.mem_cons_of_mem _ aT)) (by simp at az ⊢; omega) xA zl rfl
theorem akA (B a : Nat) (fw : B ≤ 64) (a5 : a ≤ B) : (lC B a).length ≤ 4 := by
 have h : ∀ (f b a : Nat),b ≤ 64 → (iF b f a).length ≤ (b + 31) / 32 - a / 32 := by
  intro f
  induction f with
  | zero => intro b a _; exact Nat.zero_le _
  | succ f dW =>
   intro b a aI
   unfold iF
   split
   ·rename_i bQ
    have := dW b (hF b a) aI
    have aB := wI bQ
    rw [List.length_cons]
    have c1 : hF b a = b ∨ hF b a = (a / 32 + 1) * 32 := by unfold hF; omega
    rcases c1 with c1 | c1
    ·have : iF b f (hF b a) = [] := by
      rw [c1]
      cases f with
      | zero => rfl
      | succ f => unfold iF; rw [if_neg (by omega)]
     rw [this]; simp; omega
    ·omega
   ·exact Nat.zero_le _
 unfold lC
 rw [List.length_append]
 have af := h B B a fw
 have aj := h a a 0 (by omega)
 omega
theorem alA {l : b1} (aE : e4 l = 0) {a : Nat} (a5 : (a : Int) < l.blocks) (f : Int → bm) : ∃ X,js 100 (oI (.dp (fV l a)) f) = X ∧ X.live = false ∧
  ((∃ b,sl (eg l f) l.blocks.toNat a = some b ∧ fk X.s = ((b : Int),0,true) ∧ X.f = mE l f b) ∨ (sl (eg l f) l.blocks.toNat a = none ∧ fk X.s = (0,9,true) ∧ X.f = f)) := by
 have aI := (kb aE).1.2.2
 have afx : a < l.blocks.toNat := by omega
 obtain ⟨r,aA⟩ : ∃ r,lC l.blocks.toNat a = (a,hF l.blocks.toNat a) :: r := by
  unfold lC
  rw [HV afx]
  exact ⟨_,rfl⟩
 have ao : oI (.dp (fV l a)) f = ⟨.dp { fV l a with k := 1 },⟨5,bw l a,gE,gE⟩,true,f⟩ := by
  have aj : iv (fV l a) = ({ fV l a with k := 1 },⟨5,bw l a,gE,gE⟩,false) := by
   unfold iv
   show (match lC l.blocks.toNat a with | [] => _ | p :: _ => _) = _
   rw [aA]
   rfl
  unfold oI
  show kI (ic (h6 (fV l a) e9)) f = _
  unfold h6
  rw [if_neg (by show ¬ false = true; simp)]
  show kI (ic (iv (fV l a))) f = _
  rw [aj]; rfl
 rw [ao,← aeg]
 have hlen := akA l.blocks.toNat a (by omega) (by omega)
 exact Xh (lC l.blocks.toNat a) { fV l a with k := 1 } f 100 rfl (by rw [aA]; simp) rfl rfl rfl (fun p hp => by
  unfold lC at hp
  rcases List.mem_append.1 hp with h | h
  ·have := zC _ _ h; exact ⟨this.1,this.2.2⟩
  ·have := zC _ _ h; exact ⟨this.1,this.2.2⟩) (by omega) (a,hF l.blocks.toNat a) r aA
theorem Xg {l : b1} (b : Nat) (f : Int → bm) : ∃ X,js 100 (oI (.ev (ij l b)) f) = X ∧ X.live = false ∧
  ((eg l f b = true ∧ fk X.s = ((b : Int),0,true) ∧ X.f = oa l f b) ∨ (eg l f b = false ∧ fk X.s = ((b : Int),13,true) ∧ X.f = f)) := by
 have ao : oI (.ev (ij l b)) f = ⟨.ev ⟨l,b,0,false,1⟩,⟨5,bw l b,gE,gE⟩,true,f⟩ := rfl
 have a9 : cU (.ev ⟨l,b,0,false,1⟩) ⟨f (bw l b),true⟩ = lO (ih ⟨l,b,0,false,1⟩ (f (bw l b))) := rfl
 have af : js 100 (oI (.ev (ij l b)) f) = js 99 (kI (lO (ih ⟨l,b,0,false,1⟩ (f (bw l b)))) f) := by
  rw [ao]
  show (if true = true then js 99 (p0 _) else _) = _
  rw [if_pos rfl]
  unfold p0
  rw [F7,Ea]
  show js 99 (kI (cU (.ev ⟨l,b,0,false,1⟩) ⟨f (bw l b),true⟩) f) = _
  rw [a9]
 rw [af]
 cases hu : eg l f b
 ·have yA : ih ⟨l,b,0,false,1⟩ (f (bw l b)) = (⟨l,b,13,true,1⟩,hx,true) := by
   unfold ih
   exact if_neg (by show ¬ eg l f b = true; rw [hu]; simp)
  rw [yA]
  exact ⟨_,Ec (x := ⟨.ev ⟨l,b,13,true,1⟩,hx,false,f⟩) rfl 99,rfl,.inr ⟨rfl,rfl,rfl⟩⟩
 ·have yA : ih ⟨l,b,0,false,1⟩ (f (bw l b)) = (⟨l,b,0,false,2⟩,⟨6,bw l b,f (bw l b),⟨gV .andNot .i64 (f (bw l b)).val (fX b),(f (bw l b)).eV,(f (bw l b)).ref⟩⟩,false) := by
   unfold ih
   exact if_pos (show eg l f b = true from hu)
  rw [yA]
  have av : p0 (kI (lO (⟨l,b,0,false,2⟩,⟨6,bw l b,f (bw l b),⟨gV .andNot .i64 (f (bw l b)).val (fX b),(f (bw l b)).eV,(f (bw l b)).ref⟩⟩,false)) f) = ⟨.ev ⟨l,b,0,true,2⟩,hx,false,oa l f b⟩ := by
   unfold p0
   show kI (cU (.ev ⟨l,b,0,false,2⟩) (cY f ⟨6,bw l b,f (bw l b),_⟩)) (iT f ⟨6,bw l b,f (bw l b),_⟩) = _
   rw [F8]
   have CZ : cU (.ev ⟨l,b,0,false,2⟩) ⟨f (bw l b),true⟩ = (.ev ⟨l,b,0,true,2⟩,hx,true) := rfl
   rw [CZ]
   unfold kI
   have De : iT f ⟨6,bw l b,f (bw l b),⟨gV .andNot .i64 (f (bw l b)).val (fX b),(f (bw l b)).eV,(f (bw l b)).ref⟩⟩ = oa l f b := by
    funext q
    rw [HW]
    unfold oa
    split
    ·rename_i aT; rw [aT]
    ·rfl
   rw [De]
   rfl
  have aj : js 99 (kI (lO (⟨l,b,0,false,2⟩,⟨6,bw l b,f (bw l b),⟨gV .andNot .i64 (f (bw l b)).val (fX b),(f (bw l b)).eV,(f (bw l b)).ref⟩⟩,false)) f) = ⟨.ev ⟨l,b,0,true,2⟩,hx,false,oa l f b⟩ := by
   show (if true = true then js 98 (p0 _) else _) = _
   rw [if_pos rfl,av]
   exact Ec rfl 98
  exact ⟨_,aj,rfl,.inl ⟨rfl,rfl,rfl⟩⟩
end Go.Proofs.YtkmbcjnaaokilaaGreatDoor
