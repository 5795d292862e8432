/-
  Layer 12, plain: what a chain's act comes to.
-/
import Derived.Test.YtkmbcjnaaokilaaGreatDoorMK13
namespace Go.Proofs.YtkmbcjnaaokilaaGreatDoor
set_option linter.unusedSimpArgs false
set_option linter.unusedVariables false
open Go.RowKit Go.Maps
def kZ (l : b1) : Nat := (l.blocks.toNat + 31) / 32 + 1
structure wk (s : hl) : Prop where
 one : ∀ p ∈ s.parts,p.1 < p.2 ∧ p.2 ≤ (p.1 / 32 + 1) * 32
 oT : s.parts.length ≤ kZ s.l
theorem wk.tail {s : hl} {p : Nat × Nat} {ps : List (Nat × Nat)} (h : wk s) (hp : s.parts = p :: ps) (k g : Nat) : wk { s with parts := ps,k := k,g := g } :=
 ⟨fun q aT => h.one q (by rw [hp]; exact List.mem_cons_of_mem _ aT),by have := h.oT; rw [hp] at this; show ps.length ≤ kZ s.l; simp at this; omega⟩
inductive k6 : fa → dJ → Prop
 | Ef {s : hl} {p : Nat × Nat} {ps : List (Nat × Nat)} (aZ : s.fin = false) (az : s.k = 1) (he : s.err = 0) (aT : wk s) (hp : s.parts = p :: ps) : k6 (.dp s) ⟨5,bw s.l p.1,gE,gE⟩
 | Ia {s : hl} {p : Nat × Nat} {ps : List (Nat × Nat)} {w : bm} (b : Nat) (aZ : s.fin = false) (az : s.k = 2) (he : s.err = 0) (aT : wk s) (hp : s.parts = p :: ps) (aI : s.block = (b : Int)) (af : p.1 ≤ b) (aj : b < p.2) (hu : l7 w.val b = false) : k6 (.dp s) ⟨6,bw s.l b,w,⟨gV .or .i64 w.val (fX b),w.eV,w.ref⟩⟩
 | F3 {s : ko} (aZ : s.fin = false) (az : s.k = 1) (he : s.err = 0) : k6 (.ev s) ⟨5,bw s.l s.block,gE,gE⟩
 | Ch {s : ko} {w : bm} (aZ : s.fin = false) (az : s.k = 2) (he : s.err = 0) (hu : l7 w.val s.block = true) : k6 (.ev s) ⟨6,bw s.l s.block,w,⟨gV .andNot .i64 w.val (fX s.block),w.eV,w.ref⟩⟩
theorem k6.ask {a : fa} {act : dJ} (h : k6 a act) (nt : pW a) : tC (lW a) act := by
 cases h with
 | Ef aZ az he aT hp => exact ⟨.inl rfl,_,Xq nt.1 (by rw [hp]; exact List.mem_cons_self ..),rfl⟩
 | @Ia s p ps w b aZ az he aT hp aI af aj hu =>
  have := nt.1.kl p (by rw [hp]; exact List.mem_cons_self ..)
  exact ⟨.inr rfl,b,by show (b : Int) < s.l.blocks; omega,rfl⟩
 | F3 aZ az he => exact ⟨.inl rfl,_,nt.uU,rfl⟩
 | Ch aZ az he hu => exact ⟨.inr rfl,_,nt.uU,rfl⟩
noncomputable def lR (f : Int → bm) (a : fa) (act : dJ) : Nat :=
 open Classical in if act.op = 6 ∧ f act.place = act.old then 1 else match a with
  | .dp s => s.parts.length + 1
  | .ev _ => 2
theorem ado (f : Int → bm) (s : hl) (act : dJ) : lR f (.dp s) act ≤ s.parts.length + 1 := by
 unfold lR; split <;> simp
theorem Jx {f : Int → bm} {a : fa} {act : dJ} (h : act.op = 6 ∧ f act.place = act.old) : lR f a act = 1 := if_pos h
theorem Ft {f : Int → bm} {a : fa} {act : dJ} (h : ¬ (act.op = 6 ∧ f act.place = act.old)) : lR f a act = match a with
  | .dp s => s.parts.length + 1
  | .ev _ => 2 := if_neg h
def ml : fa → Option Nat
 | .dp _ => none
 | .ev s => some s.block
theorem k6.Fu {f : Int → bm} {a : fa} {act : dJ} (h : k6 a act) (aI : 0 < (lW a).blocks) : lR f a act ≤ kZ (lW a) + 1 ∧ 1 ≤ lR f a act := by
 unfold lR
 split
 ·exact ⟨by omega,Nat.le_refl _⟩
 ·cases h with
  | Ef aZ az he aT hp => have := aT.oT; exact ⟨by simp only [lW]; omega,by simp⟩
  | Ia b aZ az he aT hp aI af aj hu => have := aT.oT; exact ⟨by simp only [lW]; omega,by simp⟩
  | F3 aZ az he => exact ⟨by unfold kZ; simp only; omega,by simp⟩
  | Ch aZ az he hu => exact ⟨by unfold kZ; simp only; omega,by simp⟩
theorem aik {s : hl} (aZ : s.fin = false) (he : s.err = 0) (aT : wk s) : ((iv s).2.2 = false ∧ k6 (.dp (iv s).1) (iv s).2.1 ∧ ∀ f,lR f (.dp (iv s).1) (iv s).2.1 ≤ s.parts.length + 1) ∨ ((iv s).2.2 = true ∧ fk (.dp (iv s).1) = (0,9,true)) := by
 unfold iv
 split
 ·exact .inr ⟨rfl,rfl⟩
 ·rename_i p ps hp
  exact .inl ⟨rfl,k6.Ef (s := { s with k := 1 }) (ps := ps) aZ rfl he ⟨aT.one,aT.oT⟩ hp,fun f => ado f _ _⟩
theorem QY {s : hl} (aZ : s.fin = false) (he : s.err = 0) (aT : wk s) {p : Nat × Nat} {ps : List (Nat × Nat)} (hp : s.parts = p :: ps) (w : bm) :
  ((g5 s w).2.2 = false ∧ k6 (.dp (g5 s w).1) (g5 s w).2.1 ∧ ∀ f : Int → bm,f (bw s.l p.1) = w → lR f (.dp (g5 s w).1) (g5 s w).2.1 < s.parts.length + 1) ∨ ((g5 s w).2.2 = true ∧ fk (.dp (g5 s w).1) = (0,9,true)) := by
 unfold g5
 split
 ·rename_i h; rw [hp] at h; cases h
 ·rename_i xA zl mz
  have jW := hp.symm.trans mz
  injection jW with a1 a7
  subst a1 a7
  split
  ·rename_i i aq
   obtain ⟨af,aj,av,_⟩ := FY aq
   refine .inl ⟨rfl,k6.Ia (s := { s with block := (i : Int),k := 2 }) (ps := ps) i aZ rfl he ⟨aT.one,aT.oT⟩ hp rfl af (by omega) av,fun f hw => ?_⟩
   have ao : bw s.l i = bw s.l p.1 := Ui (fun q h => (aT.one q h).2) (by rw [hp]; exact List.mem_cons_self ..) af (by omega)
   rw [Jx ⟨rfl,by show f (bw s.l i) = w; rw [ao]; exact hw⟩,hp]
   simp
  ·rcases aik (s := { s with parts := ps,g := 2 }) aZ he (aT.tail hp s.k 2) with ⟨bS,bH,bP⟩ | h
   ·refine .inl ⟨bS,bH,fun f _ => Nat.lt_of_le_of_lt (bP f) ?_⟩
    rw [hp]; show ps.length + 1 < _; simp
   ·exact .inr h
inductive ZR (f : Int → bm) (a : fa) (act : dJ) : Prop
 | live (af : (cU a (cY f act)).2.2 = false) (aj : iT f act = f) (av : k6 (cU a (cY f act)).1 (cU a (cY f act)).2.1) (aY : ml (cU a (cY f act)).1 = ml a) (bM : lR f (cU a (cY f act)).1 (cU a (cY f act)).2.1 < lR f a act)
 | OK (b : Nat) (af : (cU a (cY f act)).2.2 = true) (aj : fk (cU a (cY f act)).1 = ((b : Int),0,true)) (aI : (b : Int) < (lW a).blocks) (hu : eg (lW a) f b = false) (ao : iT f act = mE (lW a) f b) (aJ : ml a = none)
 | full (af : (cU a (cY f act)).2.2 = true) (aj : fk (cU a (cY f act)).1 = (0,9,true)) (ao : iT f act = f) (aJ : ml a = none)
 | J3 (b : Nat) (af : (cU a (cY f act)).2.2 = true) (aj : fk (cU a (cY f act)).1 = ((b : Int),0,true)) (ao : iT f act = oa (lW a) f b) (aJ : ml a = some b)
 | lost (b : Nat) (hu : eg (lW a) f b = false) (aJ : ml a = some b)
theorem Om {f : Int → bm} {p : Int} {o n : bm} (h : f p ≠ o) : iT f ⟨6,p,o,n⟩ = f := by
 funext q
 unfold iT vU
 rw [if_neg]
 rintro ⟨_,aj⟩
 have aj : nH (f p) o = true := by simpa using aj
 exact h (OZ.1 aj)
theorem Ry {f : Int → bm} {p : Int} {o n : bm} (h : f p ≠ o) : cY f ⟨6,p,o,n⟩ = ⟨f p,false⟩ := by
 unfold cY
 rw [if_neg (by show ¬ (6 : Int) = 5; decide),if_pos rfl]
 have : nH (f p) o = false := by
  cases hw : nH (f p) o
  ·rfl
  ·exact absurd (OZ.1 hw) h
 show ei.mk (f p) (nH (f p) o) = _
 rw [this]
theorem aiT {s : hl} (aZ : s.fin = false) (az : s.k = 1) (g : ei) : h6 s g = g5 s g.word := by
 unfold h6; rw [if_neg (by rw [aZ]; simp),az]; rfl
theorem Tn {s : hl} (aZ : s.fin = false) (az : s.k = 2) (g : ei) : h6 s g = if g.ok = true then ({ s with fin := true },hx,true) else g5 s g.word := by
 unfold h6; rw [if_neg (by rw [aZ]; simp),az]; rfl
theorem aiS {s : ko} (aZ : s.fin = false) (az : s.k = 1) (g : ei) : kY s g = ih s g.word := by
 unfold kY; rw [if_neg (by rw [aZ]; simp),az]; rfl
theorem Tm {s : ko} (aZ : s.fin = false) (az : s.k = 2) (g : ei) : kY s g = if g.ok = true then ({ s with fin := true },hx,true) else ih s g.word := by
 unfold kY; rw [if_neg (by rw [aZ]; simp),az]; rfl
theorem akp {f : Int → bm} {a : fa} {act : dJ} (h : k6 a act) (nt : pW a) : ZR f a act := by
 cases h with
 | @Ef s p ps aZ az he aT hp =>
  have fI : cU (.dp s) (cY f ⟨5,bw s.l p.1,gE,gE⟩) = ic (g5 s (f (bw s.l p.1))) := by
   rw [F7]; exact congrArg ic (aiT aZ az _)
  have yg : lR f (.dp s) ⟨5,bw s.l p.1,gE,gE⟩ = s.parts.length + 1 := Ft (fun h => by have := h.1; simp at this)
  rcases QY aZ he aT hp (f (bw s.l p.1)) with ⟨bS,bH,bP⟩ | ⟨bS,bH⟩
  ·exact .live (by rw [fI]; exact bS) (Ea ..) (by rw [fI]; exact bH) (by rw [fI]; rfl) (by rw [fI,yg]; exact bP f rfl)
  ·exact .full (by rw [fI]; exact bS) (by rw [fI]; exact bH) (Ea ..) rfl
 | @Ia s p ps w b aZ az he aT hp aI af aj hu =>
  have aA := nt.1.kl p (by rw [hp]; exact List.mem_cons_self ..)
  by_cases hw : f (bw s.l b) = w
  ·subst hw
   have fI : cU (.dp s) (cY f ⟨6,bw s.l b,f (bw s.l b),⟨gV .or .i64 (f (bw s.l b)).val (fX b),(f (bw s.l b)).eV,(f (bw s.l b)).ref⟩⟩) = (.dp { s with fin := true },hx,true) := by
    rw [F8]
    refine (congrArg ic (Tn aZ az _)).trans ?_
    rw [if_pos rfl]; rfl
   refine .OK b (by rw [fI]) (by rw [fI]; show (if true = true then (if s.err ≠ 0 then ((0 : Int),s.err,true) else (s.block,0,true)) else (0,0,false)) = _; rw [if_pos rfl,if_neg (by rw [he]; simp),aI]) (by show (b : Int) < s.l.blocks; omega) hu ?_ rfl
   funext q
   rw [HW]
   unfold mE
   by_cases ly : q = bw s.l b
   ·subst ly; rw [if_pos rfl]; exact (if_pos rfl).symm
   ·rw [if_neg ly]; exact (if_neg ly).symm
  ·have fI : cU (.dp s) (cY f ⟨6,bw s.l b,w,⟨gV .or .i64 w.val (fX b),w.eV,w.ref⟩⟩) = ic (g5 s (f (bw s.l b))) := by
    rw [Ry hw]
    refine (congrArg ic (Tn aZ az _)).trans ?_
    rw [if_neg (by simp)]
   have yg : lR f (.dp s) ⟨6,bw s.l b,w,⟨gV .or .i64 w.val (fX b),w.eV,w.ref⟩⟩ = s.parts.length + 1 := Ft (fun h => hw h.2)
   have ao : bw s.l b = bw s.l p.1 := Ui (fun q h => (aT.one q h).2) (by rw [hp]; exact List.mem_cons_self ..) af aj
   rcases QY aZ he aT hp (f (bw s.l b)) with ⟨bS,bH,bP⟩ | ⟨bS,bH⟩
   ·exact .live (by rw [fI]; exact bS) (Om hw) (by rw [fI]; exact bH) (by rw [fI]; rfl) (by rw [fI,yg]; exact bP f (by rw [ao]))
   ·exact .full (by rw [fI]; exact bS) (by rw [fI]; exact bH) (Om hw) rfl
 | @F3 s aZ az he =>
  have fI : cU (.ev s) (cY f ⟨5,bw s.l s.block,gE,gE⟩) = lO (ih s (f (bw s.l s.block))) := by
   rw [F7]; exact congrArg lO (aiS aZ az _)
  have yg : lR f (.ev s) ⟨5,bw s.l s.block,gE,gE⟩ = 2 := Ft (fun h => by have := h.1; simp at this)
  cases hu : l7 (f (bw s.l s.block)).val s.block
  ·exact .lost s.block hu rfl
  ·have pz : ih s (f (bw s.l s.block)) = ({ s with k := 2 },⟨6,bw s.l s.block,f (bw s.l s.block),⟨gV .andNot .i64 (f (bw s.l s.block)).val (fX s.block),(f (bw s.l s.block)).eV,(f (bw s.l s.block)).ref⟩⟩,false) := by
    unfold ih; rw [if_pos hu]
   refine .live (by rw [fI,pz]; rfl) (Ea ..) (by rw [fI,pz]; exact k6.Ch (s := { s with k := 2 }) aZ rfl he hu) (by rw [fI,pz]; rfl) ?_
   rw [fI,pz,yg]
   show lR _ (.ev _) _ < 2
   rw [Jx ⟨rfl,rfl⟩]; decide
 | @Ch s w aZ az he hu =>
  by_cases hw : f (bw s.l s.block) = w
  ·subst hw
   have fI : cU (.ev s) (cY f ⟨6,bw s.l s.block,f (bw s.l s.block),⟨gV .andNot .i64 (f (bw s.l s.block)).val (fX s.block),(f (bw s.l s.block)).eV,(f (bw s.l s.block)).ref⟩⟩) = (.ev { s with fin := true },hx,true) := by
    rw [F8]
    refine (congrArg lO (Tm aZ az _)).trans ?_
    rw [if_pos rfl]; rfl
   refine .J3 s.block (by rw [fI]) (by rw [fI]; show (if true = true then ((s.block : Int),s.err,true) else (0,0,false)) = _; rw [if_pos rfl,he]) ?_ rfl
   funext q
   rw [HW]
   show _ = oa s.l f s.block q
   unfold oa
   by_cases ly : q = bw s.l s.block
   ·subst ly; rw [if_pos rfl]
   ·rw [if_neg ly,if_neg ly]
  ·have fI : cU (.ev s) (cY f ⟨6,bw s.l s.block,w,⟨gV .andNot .i64 w.val (fX s.block),w.eV,w.ref⟩⟩) = lO (ih s (f (bw s.l s.block))) := by
    rw [Ry hw]
    refine (congrArg lO (Tm aZ az _)).trans ?_
    rw [if_neg (by simp)]
   have yg : lR f (.ev s) ⟨6,bw s.l s.block,w,⟨gV .andNot .i64 w.val (fX s.block),w.eV,w.ref⟩⟩ = 2 := Ft (fun h => hw h.2)
   cases uf : l7 (f (bw s.l s.block)).val s.block
   ·exact .lost s.block uf rfl
   ·have pz : ih s (f (bw s.l s.block)) = ({ s with k := 2 },⟨6,bw s.l s.block,f (bw s.l s.block),⟨gV .andNot .i64 (f (bw s.l s.block)).val (fX s.block),(f (bw s.l s.block)).eV,(f (bw s.l s.block)).ref⟩⟩,false) := by
     unfold ih; rw [if_pos uf]
    refine .live (by rw [fI,pz]; rfl) (Om hw) (by rw [fI,pz]; exact k6.Ch (s := { s with k := 2 }) aZ rfl he uf) (by rw [fI,pz]; rfl) ?_
    rw [fI,pz,yg]
    show lR _ (.ev _) _ < 2
    rw [Jx ⟨rfl,rfl⟩]; decide
def Holds (s : cO) (b : Nat) : Prop := b ∈ s.has ∨ s.now.bind ml = some b
def EX (s : cO) : Prop := ∀ b,s.now.bind ml = some b → b ∉ s.has
theorem Ok (b : Nat) : ∀ (f a : Nat),(iF b f a).length ≤ (b + 31) / 32 - a / 32
 | 0,a => by simp [iF]
 | f + 1,a => by
  unfold iF
  split
  ·rename_i h
   have aB := wI h
   have dW := Ok b f (hF b a)
   rw [List.length_cons]
   by_cases e : hF b a = b
   ·rw [e] at dW
    have : iF b f b = [] := by cases f with | zero => rfl | succ f => unfold iF; rw [if_neg (by omega)]
    rw [e,this]; simp; omega
   ·have a7 : hF b a = (a / 32 + 1) * 32 := by unfold hF at e ⊢; omega
    rw [a7] at dW ⊢
    omega
  ·simp
theorem alL {l : b1} {a : Nat} (a5 : (a : Int) < l.blocks) : wk (fV l a) := by
 refine ⟨fun p hp => ?_,?_⟩
 ·have hp : p ∈ lC l.blocks.toNat a := hp
  unfold lC at hp
  rcases List.mem_append.1 hp with h | h
  ·have := zC _ _ h; exact ⟨this.1,this.2.2⟩
  ·have := zC _ _ h; exact ⟨this.1,this.2.2⟩
 ·show (lC l.blocks.toNat a).length ≤ (l.blocks.toNat + 31) / 32 + 1
  unfold lC
  have af := Ok l.blocks.toNat l.blocks.toNat a
  have aj := Ok a a 0
  rw [List.length_append]
  omega
theorem adn {s : cO} {o : gq} (aE : e4 s.l = 0) (bQ : ((hf s o : Nat) : Int) < s.l.blocks) : k6 (cU (qd s o) e9).1 (cU (qd s o) e9).2.1 ∧ ml (cU (qd s o) e9).1 = if o.oU = true then some (hf s o) else none := by
 unfold qd
 split
 ·exact ⟨k6.F3 (s := ⟨s.l,hf s o,0,false,1⟩) rfl rfl rfl,rfl⟩
 ·obtain ⟨p,ps,hp⟩ := Uf (b := s.l.blocks.toNat) (a := hf s o) (by omega)
  have e : cU (.dp (fV s.l (hf s o))) e9 = (.dp { fV s.l (hf s o) with k := 1 },⟨5,bw s.l p.1,gE,gE⟩,false) := by
   show ic (h6 (fV s.l (hf s o)) e9) = _
   have : h6 (fV s.l (hf s o)) e9 = iv (fV s.l (hf s o)) := rfl
   rw [this]
   unfold iv
   split
   ·rename_i h; rw [show (fV s.l (hf s o)).parts = lC s.l.blocks.toNat (hf s o) from rfl,hp] at h; cases h
   ·rename_i xA zl h
    rw [show (fV s.l (hf s o)).parts = lC s.l.blocks.toNat (hf s o) from rfl,hp] at h
    cases h; rfl
  have aL := alL (l := s.l) bQ
  rw [e]
  exact ⟨k6.Ef (s := { fV s.l (hf s o) with k := 1 }) (ps := ps) rfl rfl rfl ⟨aL.one,aL.oT⟩ hp,rfl⟩
structure Pg (s : cO) (R : cO × dJ × Bool) : Prop where
 l : R.1.l = s.l
 bad : R.1.bad = s.bad
 hold : ∀ b,Holds R.1 b ↔ b ∈ s.has
 once : EX R.1
 live : R.2.2 = false → ∃ a,R.1.now = some a ∧ k6 a R.2.1 ∧ lW a = R.1.l
 dead : R.2.2 = true → R.1.now = none ∧ R.1.ops = []
 len : R.1.ops.length ≤ s.ops.length
 ne : R.2.2 = false → R.1.ops ≠ []
 head : ∀ a,R.1.now = some a → q6 R.1 = (ml a).isSome
theorem Ff {n : Nat} {s : cO} (h : jI n s) (aI : 0 < s.l.blocks) (ba : s.now = none) : Pg s (hT s) := by
 unfold hT
 split
 ·exact ⟨rfl,rfl,fun b => ⟨fun h => (by
   rcases h with h | h
   ·exact h
   ·rw [show _ = s.now.bind ml from rfl,ba] at h; cases h),fun h => .inl h⟩,fun b h => (by rw [show _ = s.now.bind ml from rfl,ba] at h; cases h),fun h => (by cases h),fun _ => ⟨ba,rfl⟩,Nat.zero_le _,fun h => (by cases h),fun a a5 => (by rw [show _ = s.now from rfl,ba] at a5; cases a5)⟩
 ·rename_i o os he
  have a9 := Ot he
  have bQ := Fh h.lay aI h.has a9
  obtain ⟨bS,bH⟩ := adn (s := s) (o := o) h.lay bQ
  obtain ⟨cd,c2,eu,fR,pq⟩ := Jw (s := s) (o := o) h.lay bQ
  have aE := (zd cd e9).2.1.trans c2
  refine ⟨rfl,rfl,fun b => ?_,fun b ql => ?_,fun _ => ⟨_,rfl,bS,aE⟩,fun h => (by cases h),?_,fun _ h => (by cases h),fun a a5 => ?_⟩
  ·show b ∈ yw s o ∨ ml (cU (qd s o) e9).1 = some b ↔ b ∈ s.has
   rw [bH]
   unfold yw
   split
   ·rename_i aJ
    have hm := ac0 aJ a9
    rw [List.mem_filter]
    constructor
    ·rintro (⟨af,_⟩ | af)
     ·exact af
     ·cases af; exact hm
    ·intro af
     by_cases e : b = hf s o
     ·exact .inr (by rw [e])
     ·exact .inl ⟨af,by simpa using e⟩
   ·simp
  ·change ml (cU (qd s o) e9).1 = some b at ql
   rw [bH] at ql
   show b ∉ yw s o
   unfold yw
   split
   ·rename_i aJ
    rw [if_pos aJ] at ql
    cases ql
    rw [List.mem_filter]
    simp
   ·rename_i aJ
    rw [if_neg aJ] at ql; cases ql
  ·have := HY s.has s.ops; rw [he] at this; exact this
  ·cases a5
   rw [bH]
   show o.oU = _
   cases o.oU <;> rfl
noncomputable def rr (f : Int → bm) (s : cO) (act : dJ) (live : Bool) : Nat := if live = true then (match s.now with
 | some a => lR f a act
 | none => 0) + (kZ s.l + 1) * (s.ops.length - 1) else 0
theorem AM {f : Int → bm} {s : cO} {act : dJ} {a : fa} (a5 : s.now = some a) : rr f s act true = lR f a act + (kZ s.l + 1) * (s.ops.length - 1) := by
 unfold rr; rw [if_pos rfl,a5]
theorem Ug (f : Int → bm) (s : cO) (act : dJ) : rr f s act false = 0 := if_neg (by simp)
inductive PD (f : Int → bm) (s : cO) (act : dJ) : Prop
 | same (ao : iT f act = f) (cy : ∀ b,Holds (eb s (cY f act)).1 b ↔ Holds s b)
 | OK (b : Nat) (aI : (b : Int) < s.l.blocks) (hu : eg s.l f b = false) (ao : iT f act = mE s.l f b) (cy : ∀ c,Holds (eb s (cY f act)).1 c ↔ Holds s c ∨ c = b)
 | J3 (b : Nat) (aI : Holds s b) (ao : iT f act = oa s.l f b) (cy : ∀ c,Holds (eb s (cY f act)).1 c ↔ Holds s c ∧ c ≠ b)
structure IT (f : Int → bm) (s : cO) (act : dJ) : Prop where
 l : (eb s (cY f act)).1.l = s.l
 bad : (eb s (cY f act)).1.bad = s.bad
 once : EX (eb s (cY f act)).1
 live : (eb s (cY f act)).2.2 = false → ∃ a,(eb s (cY f act)).1.now = some a ∧ k6 a (eb s (cY f act)).2.1 ∧ lW a = s.l
 dead : (eb s (cY f act)).2.2 = true → (eb s (cY f act)).1.now = none ∧ (eb s (cY f act)).1.ops = []
 cost : rr (iT f act) (eb s (cY f act)).1 (eb s (cY f act)).2.1 (!(eb s (cY f act)).2.2) < rr f s act true
 head : ∀ a,(eb s (cY f act)).1.now = some a → q6 (eb s (cY f act)).1 = (ml a).isSome
 out : PD f s act
theorem adp {n : Nat} {s s1 : cO} (af : jI n s1) (aI : 0 < s.l.blocks) (ba : s1.now = none) (aE : s1.l = s.l) (hlen : s1.ops = s.ops.tail) (dj : s.ops ≠ []) {f Ad : Int → bm} {a : fa} (a5 : s.now = some a) {act : dJ} (aB : 1 ≤ lR f a act) : rr Ad (hT s1).1 (hT s1).2.1 (!(hT s1).2.2) < rr f s act true := by
 have fw := Ff af (by rw [aE]; exact aI) ba
 generalize hT s1 = R at fw ⊢
 obtain ⟨lJ,lK,rH⟩ := R
 have il := fw.len
 have aqF : 0 < s.ops.length := List.length_pos_iff.2 dj
 have aL : s1.ops.length = s.ops.length - 1 := by rw [hlen]; simp
 rw [AM a5]
 cases rH with
 | true => rw [Bool.not_true,Ug]; omega
 | false =>
  obtain ⟨dN,a1,a7,ct⟩ := fw.live rfl
  have hp := List.length_pos_iff.2 (fw.ne rfl)
  have qY : lJ.l = s1.l := fw.l
  simp only at a1 a7 ct hp il
  have gP := (a7.Fu (f := Ad) (by rw [ct,qY,aE]; exact aI)).1
  rw [ct,qY,aE] at gP
  change lR Ad dN lK ≤ kZ s.l + 1 at gP
  rw [Bool.not_false,AM a1]
  show lR Ad dN lK + (kZ lJ.l + 1) * (lJ.ops.length - 1) < _
  rw [qY,aE]
  have hm : (kZ s.l + 1) * lJ.ops.length ≤ (kZ s.l + 1) * (s.ops.length - 1) := Nat.mul_le_mul_left _ (by omega)
  have yJ : (kZ s.l + 1) * lJ.ops.length = (kZ s.l + 1) * (lJ.ops.length - 1) + (kZ s.l + 1) := by
   conv => lhs; rw [show lJ.ops.length = (lJ.ops.length - 1) + 1 by omega]
   rw [Nat.mul_add,Nat.mul_one]
  omega
theorem Mu {s : cO} {a : fa} (a5 : s.now = some a) (g : ei) : eb s g = if (cU a g).2.2 = true then hT (um s (cU a g).1) else ({ s with now := some (cU a g).1 },(cU a g).2.1,false) := by unfold eb; rw [a5]
theorem aiV {n : Nat} {s : cO} (h : jI n s) (aI : 0 < s.l.blocks) (ax : EX s) {a : fa} (a5 : s.now = some a) {f : Int → bm} {act : dJ} (br : k6 a act) (aJ : q6 s = (ml a).isSome) : IT f s act ∨ ∃ b,Holds s b ∧ (b : Int) < s.l.blocks ∧ eg s.l f b = false := by
 obtain ⟨af,aj,av,aY⟩ := h.now a a5
 have gP := (br.Fu (f := f) (by rw [aj]; exact aI)).2
 have As : ∀ c,Holds s c ↔ c ∈ s.has ∨ ml a = some c := fun c => by unfold Holds; rw [a5]; rfl
 have afE : ∀ b,ml a = some b → (b : Int) < s.l.blocks := fun b R4 => by
  cases a with
  | dp _ => cases R4
  | ev g => cases R4; exact av
 have fI := Mu a5 (cY f act)
 have fw := DI af aj av (cY f act)
 have a6 : ∀ s1 : cO,(cU a (cY f act)).2.2 = true → um s (cU a (cY f act)).1 = s1 → s1.bad = s.bad → PD f s act → IT f s act := fun s1 ar a1 a7 LD => by
  have ct : eb s (cY f act) = hT s1 := by rw [fI,if_pos ar,a1]
  have Av : jI (n + 1) s1 := by rw [← a1]; exact h.Hb aI fw
  have RD : s1.now = none := by rw [← a1]; rfl
  have rb : s1.l = s.l := by rw [← a1]; rfl
  have ahi : s1.ops = s.ops.tail := by rw [← a1]; rfl
  have aO := Ff Av (by rw [rb]; exact aI) RD
  refine ⟨by rw [ct,aO.l,rb],by rw [ct,aO.bad,a7],by rw [ct]; exact aO.once,fun ar => ?_,fun ar => ?_,?_,fun dN vb => ?_,LD⟩
  ·rw [ct] at ar ⊢
   obtain ⟨dN,bJ,cf,dA⟩ := aO.live ar
   exact ⟨dN,bJ,cf,by rw [dA,aO.l,rb]⟩
  ·rw [ct] at ar ⊢
   exact aO.dead ar
  ·rw [ct]
   exact adp Av aI RD rb ahi aY a5 gP
  ·rw [ct] at vb ⊢
   exact aO.head dN vb
 have KU : ∀ s1 : cO,(cU a (cY f act)).2.2 = true → um s (cU a (cY f act)).1 = s1 → ∀ c,Holds (eb s (cY f act)).1 c ↔ c ∈ s1.has := fun s1 ar a1 c => by
  have ct : eb s (cY f act) = hT s1 := by rw [fI,if_pos ar,a1]
  have Av : jI (n + 1) s1 := by rw [← a1]; exact h.Hb aI fw
  rw [ct]
  exact (Ff Av (by rw [← a1]; exact aI) (by rw [← a1]; rfl)).hold c
 rcases akp (f := f) br af with ⟨e2,eQ,oE,qx,AJ⟩ | ⟨b,e2,eQ,oE,qx,AJ,Tu⟩ | ⟨e2,eQ,oE,qx⟩ | ⟨b,e2,eQ,oE,qx⟩ | ⟨b,e2,eQ⟩
 ·left
  rw [if_neg (by rw [e2]; simp)] at fI
  have lx := (zd af (cY f act)).2.1
  refine ⟨by rw [fI],by rw [fI],fun b ql => ?_,fun _ => ⟨_,by rw [fI],by rw [fI]; exact oE,by rw [lx,aj]⟩,fun ar => (by rw [fI] at ar; cases ar),?_,fun dN vb => ?_,.same eQ fun c => ?_⟩
  ·rw [fI] at ql ⊢
   change ml (cU a (cY f act)).1 = some b at ql
   rw [qx] at ql
   exact ax b (by rw [a5]; exact ql)
  ·rw [fI,eQ]
   rw [AM a5]
   refine Nat.lt_of_le_of_lt (Nat.le_of_eq (AM (a := (cU a (cY f act)).1) rfl)) ?_
   exact Nat.add_lt_add_right AJ _
  ·rw [fI] at vb ⊢
   cases vb
   rw [qx]; exact aJ
  ·rw [fI,As]
   show c ∈ s.has ∨ ml (cU a (cY f act)).1 = some c ↔ _
   rw [qx]
 ·left
  rw [aj] at oE qx AJ
  have cy : q6 s = false := by rw [aJ,Tu]; rfl
  refine a6 _ e2 rfl (by show (s.bad || !(fk (cU a (cY f act)).1).2.2) = _; rw [eQ]; simp) (.OK b oE qx AJ fun c => ?_)
  rw [KU _ e2 rfl,As,Tu]
  show c ∈ (if q6 s = false ∧ (fk (cU a (cY f act)).1).2.1 = 0 then gT s.has (fk (cU a (cY f act)).1).1.toNat false else s.has) ↔ _
  rw [eQ,if_pos ⟨cy,rfl⟩]
  simp only [Int.toNat_natCast]
  rw [h.has.aiC (by omega)]
  simp
 ·left
  have cy : q6 s = false := by rw [aJ,qx]; rfl
  refine a6 _ e2 rfl (by show (s.bad || !(fk (cU a (cY f act)).1).2.2) = _; rw [eQ]; simp) (.same oE fun c => ?_)
  rw [KU _ e2 rfl,As,qx]
  show c ∈ (if q6 s = false ∧ (fk (cU a (cY f act)).1).2.1 = 0 then gT s.has (fk (cU a (cY f act)).1).1.toNat false else s.has) ↔ _
  rw [eQ,if_neg (by simp)]
  simp
 ·left
  rw [aj] at oE
  have cy : q6 s = true := by rw [aJ,qx]; rfl
  have agK : b ∉ s.has := ax b (by rw [a5]; exact qx)
  refine a6 _ e2 rfl (by show (s.bad || !(fk (cU a (cY f act)).1).2.2) = _; rw [eQ]; simp) (.J3 b ((As b).2 (.inr qx)) oE fun c => ?_)
  rw [KU _ e2 rfl,As,qx]
  show c ∈ (if q6 s = false ∧ (fk (cU a (cY f act)).1).2.1 = 0 then gT s.has (fk (cU a (cY f act)).1).1.toNat false else s.has) ↔ _
  rw [if_neg (by rw [cy]; simp)]
  constructor
  ·intro aB
   exact ⟨.inl aB,fun e => agK (e ▸ aB)⟩
  ·rintro ⟨aB | aB,dj⟩
   ·exact aB
   ·cases aB; exact absurd rfl dj
 ·rw [aj] at e2
  exact .inr ⟨b,(As b).2 (.inr eQ),afE b eQ,e2⟩
end Go.Proofs.YtkmbcjnaaokilaaGreatDoor
