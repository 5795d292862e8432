/-
  Layer 12, plain: what a chain's act comes to.
-/
import Derived.Test.YtkmbcjnaaokilaaGreatDoorMK18
namespace Go.Proofs.YtkmbcjnaaokilaaGreatDoor
set_option linter.unusedSimpArgs false
set_option linter.unusedVariables false
open Go.RowKit Go.Maps
def h7 (l : cc) : Nat := (l.blocks.toNat + 31) / 32 + 1
structure uW (s : g8) : Prop where
 one : ∀ p ∈ s.parts,p.1 < p.2 ∧ p.2 ≤ (p.1 / 32 + 1) * 32
 pd : s.parts.length ≤ h7 s.l
theorem uW.tail {s : g8} {p : Nat × Nat} {ps : List (Nat × Nat)} (h : uW s) (hp : s.parts = p :: ps) (k g : Nat) : uW { s with parts := ps,k := k,g := g } :=
 ⟨fun q aS => h.one q (by rw [hp]; exact List.mem_cons_of_mem _ aS),by have := h.pd; rw [hp] at this; show ps.length ≤ h7 s.l; simp at this; omega⟩
inductive kM : e5 → dB → Prop
 | Cy {s : g8} {p : Nat × Nat} {ps : List (Nat × Nat)} (aW : s.fin = false) (aB : s.k = 1) (he : s.err = 0) (aS : uW s) (hp : s.parts = p :: ps) : kM (.c9 s) ⟨5,bA s.l p.1,gv,gv⟩
 | Gb {s : g8} {p : Nat × Nat} {ps : List (Nat × Nat)} {w : bq} (b : Nat) (aW : s.fin = false) (aB : s.k = 2) (he : s.err = 0) (aS : uW s) (hp : s.parts = p :: ps) (aJ : s.block = (b : Int)) (af : p.1 ≤ b) (aj : b < p.2) (hu : ly w.val b = false) : kM (.c9 s) ⟨6,bA s.l b,w,⟨gN .or .i64 w.val (fP b),w.eZ,w.ref⟩⟩
 | DY {s : j2} (aW : s.fin = false) (aB : s.k = 1) (he : s.err = 0) : kM (.ec s) ⟨5,bA s.l s.block,gv,gv⟩
 | AA {s : j2} {w : bq} (aW : s.fin = false) (aB : s.k = 2) (he : s.err = 0) (hu : ly w.val s.block = true) : kM (.ec s) ⟨6,bA s.l s.block,w,⟨gN .andNot .i64 w.val (fP s.block),w.eZ,w.ref⟩⟩
theorem kM.ask {a : e5} {act : dB} (h : kM a act) (mM : oT a) : sz (ln a) act := by
 cases h with
 | Cy aW aB he aS hp => exact ⟨.inl rfl,_,Uc mM.1 (by rw [hp]; exact List.mem_cons_self ..),rfl⟩
 | @Gb s p ps w b aW aB he aS hp aJ af aj hu =>
  have := mM.1.jZ p (by rw [hp]; exact List.mem_cons_self ..)
  exact ⟨.inr rfl,b,by show (b : Int) < s.l.blocks; omega,rfl⟩
 | DY aW aB he => exact ⟨.inl rfl,_,mM.tC,rfl⟩
 | AA aW aB he hu => exact ⟨.inr rfl,_,mM.tC,rfl⟩
noncomputable def lg (f : Int → bq) (a : e5) (act : dB) : Nat :=
 open Classical in if act.op = 6 ∧ f act.place = act.old then 1 else match a with
  | .c9 s => s.parts.length + 1
  | .ec _ => 2
theorem Z2 (f : Int → bq) (s : g8) (act : dB) : lg f (.c9 s) act ≤ s.parts.length + 1 := by
 unfold lg; split <;> simp
theorem Hk {f : Int → bq} {a : e5} {act : dB} (h : act.op = 6 ∧ f act.place = act.old) : lg f a act = 1 := if_pos h
theorem DB {f : Int → bq} {a : e5} {act : dB} (h : ¬ (act.op = 6 ∧ f act.place = act.old)) : lg f a act = match a with
  | .c9 s => s.parts.length + 1
  | .ec _ => 2 := if_neg h
def lL : e5 → Option Nat
 | .c9 _ => none
 | .ec s => some s.block
theorem kM.DC {f : Int → bq} {a : e5} {act : dB} (h : kM a act) (aJ : 0 < (ln a).blocks) : lg f a act ≤ h7 (ln a) + 1 ∧ 1 ≤ lg f a act := by
 unfold lg
 split
 ·exact ⟨by omega,Nat.le_refl _⟩
 ·cases h with
  | Cy aW aB he aS hp => have := aS.pd; exact ⟨by simp only [ln]; omega,by simp⟩
  | Gb b aW aB he aS hp aJ af aj hu => have := aS.pd; exact ⟨by simp only [ln]; omega,by simp⟩
  | DY aW aB he => exact ⟨by unfold h7; simp only; omega,by simp⟩
  | AA aW aB he hu => exact ⟨by unfold h7; simp only; omega,by simp⟩
theorem aeK {s : g8} (aW : s.fin = false) (he : s.err = 0) (aS : uW s) : ((h6 s).2.2 = false ∧ kM (.c9 (h6 s).1) (h6 s).2.1 ∧ ∀ f,lg f (.c9 (h6 s).1) (h6 s).2.1 ≤ s.parts.length + 1) ∨ ((h6 s).2.2 = true ∧ fc (.c9 (h6 s).1) = (0,9,true)) := by
 unfold h6
 split
 ·exact .inr ⟨rfl,rfl⟩
 ·rename_i p ps hp
  exact .inl ⟨rfl,kM.Cy (s := { s with k := 1 }) (ps := ps) aW rfl he ⟨aS.one,aS.pd⟩ hp,fun f => Z2 f _ _⟩
theorem N8 {s : g8} (aW : s.fin = false) (he : s.err = 0) (aS : uW s) {p : Nat × Nat} {ps : List (Nat × Nat)} (hp : s.parts = p :: ps) (w : bq) :
  ((gT s w).2.2 = false ∧ kM (.c9 (gT s w).1) (gT s w).2.1 ∧ ∀ f : Int → bq,f (bA s.l p.1) = w → lg f (.c9 (gT s w).1) (gT s w).2.1 < s.parts.length + 1) ∨ ((gT s w).2.2 = true ∧ fc (.c9 (gT s w).1) = (0,9,true)) := by
 unfold gT
 split
 ·rename_i h; rw [hp] at h; cases h
 ·rename_i vP xG lU
  have jG := hp.symm.trans lU
  injection jG with a2 a8
  subst a2 a8
  split
  ·rename_i i aq
   obtain ⟨af,aj,aw,_⟩ := DV aq
   refine .inl ⟨rfl,kM.Gb (s := { s with block := (i : Int),k := 2 }) (ps := ps) i aW rfl he ⟨aS.one,aS.pd⟩ hp rfl af (by omega) aw,fun f hw => ?_⟩
   have ao : bA s.l i = bA s.l p.1 := Ra (fun q h => (aS.one q h).2) (by rw [hp]; exact List.mem_cons_self ..) af (by omega)
   rw [Hk ⟨rfl,by show f (bA s.l i) = w; rw [ao]; exact hw⟩,hp]
   simp
  ·rcases aeK (s := { s with parts := ps,g := 2 }) aW he (aS.tail hp s.k 2) with ⟨bE,bP,cK⟩ | h
   ·refine .inl ⟨bE,bP,fun f _ => Nat.lt_of_le_of_lt (cK f) ?_⟩
    rw [hp]; show ps.length + 1 < _; simp
   ·exact .inr h
inductive Wu (f : Int → bq) (a : e5) (act : dB) : Prop
 | live (af : (cI a (cQ f act)).2.2 = false) (aj : iA f act = f) (aw : kM (cI a (cQ f act)).1 (cI a (cQ f act)).2.1) (aV : lL (cI a (cQ f act)).1 = lL a) (bF : lg f (cI a (cQ f act)).1 (cI a (cQ f act)).2.1 < lg f a act)
 | L1 (b : Nat) (af : (cI a (cQ f act)).2.2 = true) (aj : fc (cI a (cQ f act)).1 = ((b : Int),0,true)) (aJ : (b : Int) < (ln a).blocks) (hu : dZ (ln a) f b = false) (ao : iA f act = lZ (ln a) f b) (aH : lL a = none)
 | full (af : (cI a (cQ f act)).2.2 = true) (aj : fc (cI a (cQ f act)).1 = (0,9,true)) (ao : iA f act = f) (aH : lL a = none)
 | HP (b : Nat) (af : (cI a (cQ f act)).2.2 = true) (aj : fc (cI a (cQ f act)).1 = ((b : Int),0,true)) (ao : iA f act = nr (ln a) f b) (aH : lL a = some b)
 | lost (b : Nat) (hu : dZ (ln a) f b = false) (aH : lL a = some b)
theorem LK {f : Int → bq} {p : Int} {o n : bq} (h : f p ≠ o) : iA f ⟨6,p,o,n⟩ = f := by
 funext q
 unfold iA uD
 rw [if_neg]
 rintro ⟨_,aj⟩
 have aj : mY (f p) o = true := by simpa using aj
 exact h (Mc.1 aj)
theorem OK {f : Int → bq} {p : Int} {o n : bq} (h : f p ≠ o) : cQ f ⟨6,p,o,n⟩ = ⟨f p,false⟩ := by
 unfold cQ
 rw [if_neg (by show ¬ (6 : Int) = 5; decide),if_pos rfl]
 have : mY (f p) o = false := by
  cases hw : mY (f p) o
  ·rfl
  ·exact absurd (Mc.1 hw) h
 show dW.mk (f p) (mY (f p) o) = _
 rw [this]
theorem afh {s : g8} (aW : s.fin = false) (aB : s.k = 1) (g : dW) : hU s g = gT s g.word := by
 unfold hU; rw [if_neg (by rw [aW]; simp),aB]; rfl
theorem Qq {s : g8} (aW : s.fin = false) (aB : s.k = 2) (g : dW) : hU s g = if g.ok = true then ({ s with fin := true },hi,true) else gT s g.word := by
 unfold hU; rw [if_neg (by rw [aW]; simp),aB]; rfl
theorem afg {s : j2} (aW : s.fin = false) (aB : s.k = 1) (g : dW) : kI s g = h1 s g.word := by
 unfold kI; rw [if_neg (by rw [aW]; simp),aB]; rfl
theorem Qp {s : j2} (aW : s.fin = false) (aB : s.k = 2) (g : dW) : kI s g = if g.ok = true then ({ s with fin := true },hi,true) else h1 s g.word := by
 unfold kI; rw [if_neg (by rw [aW]; simp),aB]; rfl
theorem agV {f : Int → bq} {a : e5} {act : dB} (h : kM a act) (mM : oT a) : Wu f a act := by
 cases h with
 | @Cy s p ps aW aB he aS hp =>
  have fw : cI (.c9 s) (cQ f ⟨5,bA s.l p.1,gv,gv⟩) = hZ (gT s (f (bA s.l p.1))) := by
   rw [D2]; exact congrArg hZ (afh aW aB _)
  have wF : lg f (.c9 s) ⟨5,bA s.l p.1,gv,gv⟩ = s.parts.length + 1 := DB (fun h => by have := h.1; simp at this)
  rcases N8 aW he aS hp (f (bA s.l p.1)) with ⟨bE,bP,cK⟩ | ⟨bE,bP⟩
  ·exact .live (by rw [fw]; exact bE) (Cs ..) (by rw [fw]; exact bP) (by rw [fw]; rfl) (by rw [fw,wF]; exact cK f rfl)
  ·exact .full (by rw [fw]; exact bE) (by rw [fw]; exact bP) (Cs ..) rfl
 | @Gb s p ps w b aW aB he aS hp aJ af aj hu =>
  have ax := mM.1.jZ p (by rw [hp]; exact List.mem_cons_self ..)
  by_cases hw : f (bA s.l b) = w
  ·subst hw
   have fw : cI (.c9 s) (cQ f ⟨6,bA s.l b,f (bA s.l b),⟨gN .or .i64 (f (bA s.l b)).val (fP b),(f (bA s.l b)).eZ,(f (bA s.l b)).ref⟩⟩) = (.c9 { s with fin := true },hi,true) := by
    rw [D3]
    refine (congrArg hZ (Qq aW aB _)).trans ?_
    rw [if_pos rfl]; rfl
   refine .L1 b (by rw [fw]) (by rw [fw]; show (if true = true then (if s.err ≠ 0 then ((0 : Int),s.err,true) else (s.block,0,true)) else (0,0,false)) = _; rw [if_pos rfl,if_neg (by rw [he]; simp),aJ]) (by show (b : Int) < s.l.blocks; omega) hu ?_ rfl
   funext q
   rw [FZ]
   unfold lZ
   by_cases k1 : q = bA s.l b
   ·subst k1; rw [if_pos rfl]; exact (if_pos rfl).symm
   ·rw [if_neg k1]; exact (if_neg k1).symm
  ·have fw : cI (.c9 s) (cQ f ⟨6,bA s.l b,w,⟨gN .or .i64 w.val (fP b),w.eZ,w.ref⟩⟩) = hZ (gT s (f (bA s.l b))) := by
    rw [OK hw]
    refine (congrArg hZ (Qq aW aB _)).trans ?_
    rw [if_neg (by simp)]
   have wF : lg f (.c9 s) ⟨6,bA s.l b,w,⟨gN .or .i64 w.val (fP b),w.eZ,w.ref⟩⟩ = s.parts.length + 1 := DB (fun h => hw h.2)
   have ao : bA s.l b = bA s.l p.1 := Ra (fun q h => (aS.one q h).2) (by rw [hp]; exact List.mem_cons_self ..) af aj
   rcases N8 aW he aS hp (f (bA s.l b)) with ⟨bE,bP,cK⟩ | ⟨bE,bP⟩
   ·exact .live (by rw [fw]; exact bE) (LK hw) (by rw [fw]; exact bP) (by rw [fw]; rfl) (by rw [fw,wF]; exact cK f (by rw [ao]))
   ·exact .full (by rw [fw]; exact bE) (by rw [fw]; exact bP) (LK hw) rfl
 | @DY s aW aB he =>
  have fw : cI (.ec s) (cQ f ⟨5,bA s.l s.block,gv,gv⟩) = lf (h1 s (f (bA s.l s.block))) := by
   rw [D2]; exact congrArg lf (afg aW aB _)
  have wF : lg f (.ec s) ⟨5,bA s.l s.block,gv,gv⟩ = 2 := DB (fun h => by have := h.1; simp at this)
  cases hu : ly (f (bA s.l s.block)).val s.block
  ·exact .lost s.block hu rfl
  ·have tJ : h1 s (f (bA s.l s.block)) = ({ s with k := 2 },⟨6,bA s.l s.block,f (bA s.l s.block),⟨gN .andNot .i64 (f (bA s.l s.block)).val (fP s.block),(f (bA s.l s.block)).eZ,(f (bA s.l s.block)).ref⟩⟩,false) := by
    unfold h1; rw [if_pos hu]
   refine .live (by rw [fw,tJ]; rfl) (Cs ..) (by rw [fw,tJ]; exact kM.AA (s := { s with k := 2 }) aW rfl he hu) (by rw [fw,tJ]; rfl) ?_
   rw [fw,tJ,wF]
   show lg _ (.ec _) _ < 2
   rw [Hk ⟨rfl,rfl⟩]; decide
 | @AA s w aW aB he hu =>
  by_cases hw : f (bA s.l s.block) = w
  ·subst hw
   have fw : cI (.ec s) (cQ f ⟨6,bA s.l s.block,f (bA s.l s.block),⟨gN .andNot .i64 (f (bA s.l s.block)).val (fP s.block),(f (bA s.l s.block)).eZ,(f (bA s.l s.block)).ref⟩⟩) = (.ec { s with fin := true },hi,true) := by
    rw [D3]
    refine (congrArg lf (Qp aW aB _)).trans ?_
    rw [if_pos rfl]; rfl
   refine .HP s.block (by rw [fw]) (by rw [fw]; show (if true = true then ((s.block : Int),s.err,true) else (0,0,false)) = _; rw [if_pos rfl,he]) ?_ rfl
   funext q
   rw [FZ]
   show _ = nr s.l f s.block q
   unfold nr
   by_cases k1 : q = bA s.l s.block
   ·subst k1; rw [if_pos rfl]
   ·rw [if_neg k1,if_neg k1]
  ·have fw : cI (.ec s) (cQ f ⟨6,bA s.l s.block,w,⟨gN .andNot .i64 w.val (fP s.block),w.eZ,w.ref⟩⟩) = lf (h1 s (f (bA s.l s.block))) := by
    rw [OK hw]
    refine (congrArg lf (Qp aW aB _)).trans ?_
    rw [if_neg (by simp)]
   have wF : lg f (.ec s) ⟨6,bA s.l s.block,w,⟨gN .andNot .i64 w.val (fP s.block),w.eZ,w.ref⟩⟩ = 2 := DB (fun h => hw h.2)
   cases s3 : ly (f (bA s.l s.block)).val s.block
   ·exact .lost s.block s3 rfl
   ·have tJ : h1 s (f (bA s.l s.block)) = ({ s with k := 2 },⟨6,bA s.l s.block,f (bA s.l s.block),⟨gN .andNot .i64 (f (bA s.l s.block)).val (fP s.block),(f (bA s.l s.block)).eZ,(f (bA s.l s.block)).ref⟩⟩,false) := by
     unfold h1; rw [if_pos s3]
    refine .live (by rw [fw,tJ]; rfl) (LK hw) (by rw [fw,tJ]; exact kM.AA (s := { s with k := 2 }) aW rfl he s3) (by rw [fw,tJ]; rfl) ?_
    rw [fw,tJ,wF]
    show lg _ (.ec _) _ < 2
    rw [Hk ⟨rfl,rfl⟩]; decide
def Holds (s : da) (b : Nat) : Prop := b ∈ s.has ∨ s.now.bind lL = some b
def Dg (s : da) : Prop := ∀ b,s.now.bind lL = some b → b ∉ s.has
theorem LI (b : Nat) : ∀ (f a : Nat),(il b f a).length ≤ (b + 31) / 32 - a / 32
 | 0,a => by simp [il]
 | f + 1,a => by
  unfold il
  split
  ·rename_i h
   have az := u5 h
   have dO := LI b f (hq b a)
   rw [List.length_cons]
   by_cases e : hq b a = b
   ·rw [e] at dO
    have : il b f b = [] := by cases f with | zero => rfl | succ f => unfold il; rw [if_neg (by omega)]
    rw [e,this]; simp; omega
   ·have a8 : hq b a = (a / 32 + 1) * 32 := by unfold hq at e ⊢; omega
    rw [a8] at dO ⊢
    omega
  ·simp
theorem ah7 {l : cc} {a : Nat} (aZ : (a : Int) < l.blocks) : uW (fJ l a) := by
 refine ⟨fun p hp => ?_,?_⟩
 ·have hp : p ∈ k5 l.blocks.toNat a := hp
  unfold k5 at hp
  rcases List.mem_append.1 hp with h | h
  ·have := xW _ _ h; exact ⟨this.1,this.2.2⟩
  ·have := xW _ _ h; exact ⟨this.1,this.2.2⟩
 ·show (k5 l.blocks.toNat a).length ≤ (l.blocks.toNat + 31) / 32 + 1
  unfold k5
  have af := LI l.blocks.toNat l.blocks.toNat a
  have aj := LI a a 0
  rw [List.length_append]
  omega
theorem Z1 {s : da} {o : fi} (aF : fj s.l = 0) (bN : ((g0 s o : Nat) : Int) < s.l.blocks) : kM (cI (o9 s o) e4).1 (cI (o9 s o) e4).2.1 ∧ lL (cI (o9 s o) e4).1 = if o.n1 = true then some (g0 s o) else none := by
 unfold o9
 split
 ·exact ⟨kM.DY (s := ⟨s.l,g0 s o,0,false,1⟩) rfl rfl rfl,rfl⟩
 ·obtain ⟨p,ps,hp⟩ := Q7 (b := s.l.blocks.toNat) (a := g0 s o) (by omega)
  have e : cI (.c9 (fJ s.l (g0 s o))) e4 = (.c9 { fJ s.l (g0 s o) with k := 1 },⟨5,bA s.l p.1,gv,gv⟩,false) := by
   show hZ (hU (fJ s.l (g0 s o)) e4) = _
   have : hU (fJ s.l (g0 s o)) e4 = h6 (fJ s.l (g0 s o)) := rfl
   rw [this]
   unfold h6
   split
   ·rename_i h; rw [show (fJ s.l (g0 s o)).parts = k5 s.l.blocks.toNat (g0 s o) from rfl,hp] at h; cases h
   ·rename_i vP xG h
    rw [show (fJ s.l (g0 s o)).parts = k5 s.l.blocks.toNat (g0 s o) from rfl,hp] at h
    cases h; rfl
  have aO := ah7 (l := s.l) bN
  rw [e]
  exact ⟨kM.Cy (s := { fJ s.l (g0 s o) with k := 1 }) (ps := ps) rfl rfl rfl ⟨aO.one,aO.pd⟩ hp,rfl⟩
structure Mq (s : da) (R : da × dB × Bool) : Prop where
 l : R.1.l = s.l
 bad : R.1.bad = s.bad
 hold : ∀ b,Holds R.1 b ↔ b ∈ s.has
 once : Dg R.1
 live : R.2.2 = false → ∃ a,R.1.now = some a ∧ kM a R.2.1 ∧ ln a = R.1.l
 dead : R.2.2 = true → R.1.now = none ∧ R.1.ops = []
 len : R.1.ops.length ≤ s.ops.length
 ne : R.2.2 = false → R.1.ops ≠ []
 head : ∀ a,R.1.now = some a → p3 R.1 = (lL a).isSome
theorem Dv {n : Nat} {s : da} (h : ju n s) (aJ : 0 < s.l.blocks) (bb : s.now = none) : Mq s (hF s) := by
 unfold hF
 split
 ·exact ⟨rfl,rfl,fun b => ⟨fun h => (by
   rcases h with h | h
   ·exact h
   ·rw [show _ = s.now.bind lL from rfl,bb] at h; cases h),fun h => .inl h⟩,fun b h => (by rw [show _ = s.now.bind lL from rfl,bb] at h; cases h),fun h => (by cases h),fun _ => ⟨bb,rfl⟩,Nat.zero_le _,fun h => (by cases h),fun a aZ => (by rw [show _ = s.now from rfl,bb] at aZ; cases aZ)⟩
 ·rename_i o os he
  have a7 := LO he
  have bN := Dx h.lay aJ h.has a7
  obtain ⟨bE,bP⟩ := Z1 (s := s) (o := o) h.lay bN
  obtain ⟨cw,c2,eE,hb,pR⟩ := Hj (s := s) (o := o) h.lay bN
  have aF := (xA cw e4).2.1.trans c2
  refine ⟨rfl,rfl,fun b => ?_,fun b pf => ?_,fun _ => ⟨_,rfl,bE,aF⟩,fun h => (by cases h),?_,fun _ h => (by cases h),fun a aZ => ?_⟩
  ·show b ∈ wT s o ∨ lL (cI (o9 s o) e4).1 = some b ↔ b ∈ s.has
   rw [bP]
   unfold wT
   split
   ·rename_i aH
    have hm := ZM aH a7
    rw [List.mem_filter]
    constructor
    ·rintro (⟨af,_⟩ | af)
     ·exact af
     ·cases af; exact hm
    ·intro af
     by_cases e : b = g0 s o
     ·exact .inr (by rw [e])
     ·exact .inl ⟨af,by simpa using e⟩
   ·simp
  ·change lL (cI (o9 s o) e4).1 = some b at pf
   rw [bP] at pf
   show b ∉ wT s o
   unfold wT
   split
   ·rename_i aH
    rw [if_pos aH] at pf
    cases pf
    rw [List.mem_filter]
    simp
   ·rename_i aH
    rw [if_neg aH] at pf; cases pf
  ·have := F1 s.has s.ops; rw [he] at this; exact this
  ·cases aZ
   rw [bP]
   show o.n1 = _
   cases o.n1 <;> rfl
noncomputable def qm (f : Int → bq) (s : da) (act : dB) (live : Bool) : Nat := if live = true then (match s.now with
 | some a => lg f a act
 | none => 0) + (h7 s.l + 1) * (s.ops.length - 1) else 0
theorem y6 {f : Int → bq} {s : da} {act : dB} {a : e5} (aZ : s.now = some a) : qm f s act true = lg f a act + (h7 s.l + 1) * (s.ops.length - 1) := by
 unfold qm; rw [if_pos rfl,aZ]
theorem Q8 (f : Int → bq) (s : da) (act : dB) : qm f s act false = 0 := if_neg (by simp)
inductive MJ (f : Int → bq) (s : da) (act : dB) : Prop
 | same (ao : iA f act = f) (dq : ∀ b,Holds (dN s (cQ f act)).1 b ↔ Holds s b)
 | L1 (b : Nat) (aJ : (b : Int) < s.l.blocks) (hu : dZ s.l f b = false) (ao : iA f act = lZ s.l f b) (dq : ∀ c,Holds (dN s (cQ f act)).1 c ↔ Holds s c ∨ c = b)
 | HP (b : Nat) (aJ : Holds s b) (ao : iA f act = nr s.l f b) (dq : ∀ c,Holds (dN s (cQ f act)).1 c ↔ Holds s c ∧ c ≠ b)
structure GG (f : Int → bq) (s : da) (act : dB) : Prop where
 l : (dN s (cQ f act)).1.l = s.l
 bad : (dN s (cQ f act)).1.bad = s.bad
 once : Dg (dN s (cQ f act)).1
 live : (dN s (cQ f act)).2.2 = false → ∃ a,(dN s (cQ f act)).1.now = some a ∧ kM a (dN s (cQ f act)).2.1 ∧ ln a = s.l
 dead : (dN s (cQ f act)).2.2 = true → (dN s (cQ f act)).1.now = none ∧ (dN s (cQ f act)).1.ops = []
 cost : qm (iA f act) (dN s (cQ f act)).1 (dN s (cQ f act)).2.1 (!(dN s (cQ f act)).2.2) < qm f s act true
 head : ∀ a,(dN s (cQ f act)).1.now = some a → p3 (dN s (cQ f act)).1 = (lL a).isSome
 out : MJ f s act
theorem Z3 {n : Nat} {s s1 : da} (af : ju n s1) (aJ : 0 < s.l.blocks) (bb : s1.now = none) (aF : s1.l = s.l) (hlen : s1.ops = s.ops.tail) (dd : s.ops ≠ []) {f yw : Int → bq} {a : e5} (aZ : s.now = some a) {act : dB} (az : 1 ≤ lg f a act) : qm yw (hF s1).1 (hF s1).2.1 (!(hF s1).2.2) < qm f s act true := by
 have fD := Dv af (by rw [aF]; exact aJ) bb
 generalize hF s1 = R at fD ⊢
 obtain ⟨la,lb,qD⟩ := R
 have ib := fD.len
 have am9 : 0 < s.ops.length := List.length_pos_iff.2 dd
 have aO : s1.ops.length = s.ops.length - 1 := by rw [hlen]; simp
 rw [y6 aZ]
 cases qD with
 | true => rw [Bool.not_true,Q8]; omega
 | false =>
  obtain ⟨dD,a2,a8,cg⟩ := fD.live rfl
  have hp := List.length_pos_iff.2 (fD.ne rfl)
  have u9 : la.l = s1.l := fD.l
  simp only at a2 a8 cg hp ib
  have gz := (a8.DC (f := yw) (by rw [cg,u9,aF]; exact aJ)).1
  rw [cg,u9,aF] at gz
  change lg yw dD lb ≤ h7 s.l + 1 at gz
  rw [Bool.not_false,y6 a2]
  show lg yw dD lb + (h7 la.l + 1) * (la.ops.length - 1) < _
  rw [u9,aF]
  have hm : (h7 s.l + 1) * la.ops.length ≤ (h7 s.l + 1) * (s.ops.length - 1) := Nat.mul_le_mul_left _ (by omega)
  have w7 : (h7 s.l + 1) * la.ops.length = (h7 s.l + 1) * (la.ops.length - 1) + (h7 s.l + 1) := by
   conv => lhs; rw [show la.ops.length = (la.ops.length - 1) + 1 by omega]
   rw [Nat.mul_add,Nat.mul_one]
  omega
theorem JY {s : da} {a : e5} (aZ : s.now = some a) (g : dW) : dN s g = if (cI a g).2.2 = true then hF (ta s (cI a g).1) else ({ s with now := some (cI a g).1 },(cI a g).2.1,false) := by unfold dN; rw [aZ]
theorem afj {n : Nat} {s : da} (h : ju n s) (aJ : 0 < s.l.blocks) (ay : Dg s) {a : e5} (aZ : s.now = some a) {f : Int → bq} {act : dB} (br : kM a act) (aH : p3 s = (lL a).isSome) : GG f s act ∨ ∃ b,Holds s b ∧ (b : Int) < s.l.blocks ∧ dZ s.l f b = false := by
 obtain ⟨af,aj,aw,aV⟩ := h.now a aZ
 have gz := (br.DC (f := f) (by rw [aj]; exact aJ)).2
 have yM : ∀ c,Holds s c ↔ c ∈ s.has ∨ lL a = some c := fun c => by unfold Holds; rw [aZ]; rfl
 have ab8 : ∀ b,lL a = some b → (b : Int) < s.l.blocks := fun b Ph => by
  cases a with
  | c9 _ => cases Ph
  | ec g => cases Ph; exact aw
 have fw := JY aZ (cQ f act)
 have fD := BW af aj aw (cQ f act)
 have aX : ∀ s1 : da,(cI a (cQ f act)).2.2 = true → ta s (cI a (cQ f act)).1 = s1 → s1.bad = s.bad → MJ f s act → GG f s act := fun s1 ar a2 a8 Jg => by
  have cg : dN s (cQ f act) = hF s1 := by rw [fw,if_pos ar,a2]
  have yP : ju (n + 1) s1 := by rw [← a2]; exact h.E7 aJ fD
  have OP : s1.now = none := by rw [← a2]; rfl
  have qa : s1.l = s.l := by rw [← a2]; rfl
  have adW : s1.ops = s.ops.tail := by rw [← a2]; rfl
  have aN := Dv yP (by rw [qa]; exact aJ) OP
  refine ⟨by rw [cg,aN.l,qa],by rw [cg,aN.bad,a8],by rw [cg]; exact aN.once,fun ar => ?_,fun ar => ?_,?_,fun dD tR => ?_,Jg⟩
  ·rw [cg] at ar ⊢
   obtain ⟨dD,bL,cd,dV⟩ := aN.live ar
   exact ⟨dD,bL,cd,by rw [dV,aN.l,qa]⟩
  ·rw [cg] at ar ⊢
   exact aN.dead ar
  ·rw [cg]
   exact Z3 yP aJ OP qa adW aV aZ gz
  ·rw [cg] at tR ⊢
   exact aN.head dD tR
 have IE : ∀ s1 : da,(cI a (cQ f act)).2.2 = true → ta s (cI a (cQ f act)).1 = s1 → ∀ c,Holds (dN s (cQ f act)).1 c ↔ c ∈ s1.has := fun s1 ar a2 c => by
  have cg : dN s (cQ f act) = hF s1 := by rw [fw,if_pos ar,a2]
  have yP : ju (n + 1) s1 := by rw [← a2]; exact h.E7 aJ fD
  rw [cg]
  exact (Dv yP (by rw [← a2]; exact aJ) (by rw [← a2]; rfl)).hold c
 rcases agV (f := f) br af with ⟨eX,eI,nI,py,E8⟩ | ⟨b,eX,eI,nI,py,E8,E9⟩ | ⟨eX,eI,nI,py⟩ | ⟨b,eX,eI,nI,py⟩ | ⟨b,eX,eI⟩
 ·left
  rw [if_neg (by rw [eX]; simp)] at fw
  have k0 := (xA af (cQ f act)).2.1
  refine ⟨by rw [fw],by rw [fw],fun b pf => ?_,fun _ => ⟨_,by rw [fw],by rw [fw]; exact nI,by rw [k0,aj]⟩,fun ar => (by rw [fw] at ar; cases ar),?_,fun dD tR => ?_,.same eI fun c => ?_⟩
  ·rw [fw] at pf ⊢
   change lL (cI a (cQ f act)).1 = some b at pf
   rw [py] at pf
   exact ay b (by rw [aZ]; exact pf)
  ·rw [fw,eI]
   rw [y6 aZ]
   refine Nat.lt_of_le_of_lt (Nat.le_of_eq (y6 (a := (cI a (cQ f act)).1) rfl)) ?_
   exact Nat.add_lt_add_right E8 _
  ·rw [fw] at tR ⊢
   cases tR
   rw [py]; exact aH
  ·rw [fw,yM]
   show c ∈ s.has ∨ lL (cI a (cQ f act)).1 = some c ↔ _
   rw [py]
 ·left
  rw [aj] at nI py E8
  have dq : p3 s = false := by rw [aH,E9]; rfl
  refine aX _ eX rfl (by show (s.bad || !(fc (cI a (cQ f act)).1).2.2) = _; rw [eI]; simp) (.L1 b nI py E8 fun c => ?_)
  rw [IE _ eX rfl,yM,E9]
  show c ∈ (if p3 s = false ∧ (fc (cI a (cQ f act)).1).2.1 = 0 then gM s.has (fc (cI a (cQ f act)).1).1.toNat false else s.has) ↔ _
  rw [eI,if_pos ⟨dq,rfl⟩]
  simp only [Int.toNat_natCast]
  rw [h.has.ae0 (by omega)]
  simp
 ·left
  have dq : p3 s = false := by rw [aH,py]; rfl
  refine aX _ eX rfl (by show (s.bad || !(fc (cI a (cQ f act)).1).2.2) = _; rw [eI]; simp) (.same nI fun c => ?_)
  rw [IE _ eX rfl,yM,py]
  show c ∈ (if p3 s = false ∧ (fc (cI a (cQ f act)).1).2.1 = 0 then gM s.has (fc (cI a (cQ f act)).1).1.toNat false else s.has) ↔ _
  rw [eI,if_neg (by simp)]
  simp
 ·left
  rw [aj] at nI
  have dq : p3 s = true := by rw [aH,py]; rfl
  have adm : b ∉ s.has := ay b (by rw [aZ]; exact py)
  refine aX _ eX rfl (by show (s.bad || !(fc (cI a (cQ f act)).1).2.2) = _; rw [eI]; simp) (.HP b ((yM b).2 (.inr py)) nI fun c => ?_)
  rw [IE _ eX rfl,yM,py]
  show c ∈ (if p3 s = false ∧ (fc (cI a (cQ f act)).1).2.1 = 0 then gM s.has (fc (cI a (cQ f act)).1).1.toNat false else s.has) ↔ _
  rw [if_neg (by rw [dq]; simp)]
  constructor
  ·intro az
   exact ⟨.inl az,fun e => adm (e ▸ az)⟩
  ·rintro ⟨az | az,dd⟩
   ·exact az
   ·cases az; exact absurd rfl dd
 ·rw [aj] at eX
  exact .inr ⟨b,(yM b).2 (.inr eI),ab8 b eI,eX⟩
end Go.Proofs.YtkmbcjnaaokilaaGreatDoor
