/-
  Layer 6 by shadows: the machine's actions.
-/
import Derived.Test.YtkmbcjnaaokilaaGreatDoorK6a
import Derived.Test.YtkmbcjnaaokilaaGreatDoorK4f
import Derived.Test.YtkmbcjnaaokilaaGreatDoorMC
namespace Go.Proofs.YtkmbcjnaaokilaaGreatDoor
set_option linter.unusedSimpArgs false
set_option linter.unusedVariables false
open Go.RowKit Go.Maps
noncomputable def xE (M : e3) (t : Int) (a : dJ) (c : Int) : e3 × ei :=
 if a.op = 5 then ({ M with mem := (fh M.mem t a.place).1 },⟨(fh M.mem t a.place).2.1,true⟩)
 else ({ M with mem := (ny M.mem t a.place (a.op == 2) c).1 },⟨(ny M.mem t a.place (a.op == 2) c).2.1,true⟩)
noncomputable def tB (M : e3) (t : Int) (a : dJ) : e3 × ei :=
 if a.op = 6 then
  (if (iD M.mem t a.place a.old a.new).2.2.1 = true then { M with mem := (iD M.mem t a.place a.old a.new).1,lines := sk M.lines a.place a.new } else { M with mem := (iD M.mem t a.place a.old a.new).1 },
   ⟨(iD M.mem t a.place a.old a.new).2.1,(iD M.mem t a.place a.old a.new).2.2.1⟩)
 else ({ M with mem := (oB M.mem t a.place a.new (a.op == 4)).1,lines := sk M.lines a.place a.new },⟨gE,true⟩)
def Ee (M : e3) (t : Int) : e3 := { M with steps := M.steps.set (t - 1).toNat ((M.steps[(t - 1).toNat]?).getD 0 + 1) }
noncomputable def tI (M : e3) (t : Int) (a : dJ) (c : Int) : e3 × ei :=
 if uX a.op = true then tB M t a else if a.op = 7 then ({ M with lines := tT M.lines t a.place },⟨gE,true⟩)
 else if a.op = 8 then ({ M with lines := pe M.lines t },⟨gE,true⟩) else if a.op = 0 then (M,⟨gE,true⟩) else xE M t a c
noncomputable def kQ (M : e3) (t : Int) (a : dJ) (c : Int) : e3 × ei × Int :=
 if qW M t a = 0 then (Ee (tI M t a c).1 t,(tI M t a c).2,0) else (M,e9,qW M t a)
noncomputable def z7 (M : e3) (c : Int) : e3 :=
 if M.mem.views.length = 0 ∨ M.mem.places.length = 0 then M else
  ⟨(gI M.mem.views.length (td M.lines (kW c))).1,rq (td M.lines (kW c)),M.steps,M.kc + 1⟩
structure nK (M : e3) (n : Nat) : Prop where
 mem : gp M.mem n
 vG : n4 M.mem
 lines : tD M.lines n
 threads : M.steps.length = M.mem.views.length
 size : M.lines.first.length = M.mem.places.length
 steps : ∀ s ∈ M.steps,0 ≤ s ∧ s ≤ (n : Int)
 kc : 0 ≤ M.kc ∧ M.kc ≤ (n : Int)
theorem aju (M : e3) (t : Int) (a : dJ) (c : Int) {n : Nat} (bA : gp M.mem n) (a9 : n ≤ 1000) : cq 93 [lS M,aG t,.agg (qf a),aG c] (.bY [lS (xE M t a c).1,.agg (kR (xE M t a c).2)]) := by
 refine df Tryz.func93 amU rfl ?_
 obtain ⟨op,a,o,w⟩ := a
 unfold xE
 simp only
 by_cases h : op = 5
 ·subst h
  have de := T1 M.mem t a bA (by omega)
  rw [if_pos rfl]
  generalize fh M.mem t a = R at de ⊢
  unfold bK N2 Ny;delta ab aQ aa ay a3
  refine ae fun bD aK b9 ck => ai fun ca aH => ?_;refine cE ?_;refine aH _ (aK (some ([1,3,4,6,8,9],none)) _ (ae fun cg aP bx b8 => ai fun ch bk => ?_));refine cE ?_;refine bk _ (aP (some ([1,3,4,6,8,9,10],none)) _ (ae fun cM bV dQ eP => ae fun cG bp c5 dn => ai fun cI bE => ?_));refine c4 2 ?_;refine nF ?_;refine bE _ (bp (some ([1,3,4,6,8,9,10,13],none)) _ (bU (ai fun dB c7 => ?_)));refine c4 2 ?_;refine c4 3 ?_;refine eH 1 ?_;refine Or.inl (Or.inl ⟨_,de,?_⟩);refine c4 6 ?_;refine nF ?_;refine c7 _ (bV (some ([4,8,9,10],none)) _ (ae fun bz cR h1 gQ => ?_));refine nR ([]) [8,9] [0,1,2] [3,4] (by kernel_rfl) (fun eK cK => ?_);refine iG ?_
  have ad := @pb
  refine gG 1 fun fM fe => ?_;refine a2 ad ?_;refine bh ?_;refine fe _ ?_;refine gG 1 fun ga cD => ?_;refine a2 ad ?_;refine bh ?_;refine cD _ ?_;refine a2 ad ?_;refine cK _ (by rfl) (fun gK ew => ?_);refine iG ?_;refine mF ?_;refine ag 1 ad ?_;refine aS ad ?_;refine ew _ ?_;refine pc ?_;refine cR (some ([8,9],none)) _ ?_
  exact cQ ad
 ·have d : (op == 5) = false := by simpa using h
  rw [if_neg h]
  have de := aj2 M.mem t a (op == 2) c bA (by omega)
  generalize ny M.mem t a (op == 2) c = R at de ⊢
  unfold bK N2 Ny;delta ab aQ aa ay a3
  have ad := @d
  refine ae fun bD aK b9 ck => ai fun ca aH => ?_;refine al ad ?_;refine aH _ (aK (some ([1,3,4,6,8,9],none)) _ (ae fun cg aP bx b8 => ai fun ch bk => ?_));refine al ad ?_;refine bk _ (aP (some ([1,3,4,6,8,9,10],none)) _ (ae fun cM bV dQ eP => ae fun cG bp c5 dn => ai fun cI bE => ?_));refine ag 2 ad ?_;refine aS ad ?_;refine bE _ (bp (some ([1,3,4,6,8,9,10,13],none)) _ (bs (ai fun dB c7 => ?_)));refine ag 2 ad ?_;refine ag 3 ad ?_;refine ag 2 ad ?_;refine ag 1 ad ?_;refine aM 1 ad ?_;refine aM 1 ad ?_;refine Or.inl (Or.inl ⟨_,de,?_⟩);refine ag 6 ad ?_;refine aS ad ?_;refine c7 _ (bV (some ([4,8,9,10],none)) _ (ae fun bz cR h1 gQ => ?_));refine nR ([]) [8,9] [0,1,2] [3,4] (by kernel_rfl) (fun eK cK => ?_);refine iG ?_
  have aD := And.intro ad @pb
  refine gG 1 fun fM fe => ?_;refine a2 aD ?_;refine bh ?_;refine fe _ ?_;refine gG 1 fun ga cD => ?_;refine a2 aD ?_;refine bh ?_;refine cD _ ?_;refine a2 aD ?_;refine cK _ (by rfl) (fun gK ew => ?_);refine iG ?_;refine mF ?_;refine ag 1 aD ?_;refine aS aD ?_;refine ew _ ?_;refine pc ?_;refine cR (some ([8,9],none)) _ ?_
  exact cQ aD
set_option maxHeartbeats 2000000 in
theorem ajw (M : e3) (t : Int) (a : dJ) {n : Nat} (bA : nK M n) (a9 : n ≤ 900) (a5 : fC M.mem a.place) : cq 90 [lS M,aG t,.agg (qf a)] (.bY [lS (tB M t a).1,.agg (kR (tB M t a).2)]) := by
 refine df Tryz.func90 amY rfl ?_
 obtain ⟨op,a,o,w⟩ := a
 have fS := bA.lines
 have cd := ajS M.lines a w a5.1 (by rw [bA.size]; exact a5.2) fS.lines.many fS.lines.mZ (fun y aV => Nat.le_trans (fS.mZ y aV) (by omega))
 unfold tB
 simp only
 by_cases h : op = 6
 ·subst h
  have de := aj6 M.mem t a o w bA.mem (by omega)
  rw [if_pos rfl]
  generalize iD M.mem t a o w = R at de ⊢
  obtain ⟨lJ,lK,rH,PH⟩ := R
  simp only at de ⊢
  cases rH
  ·rw [if_neg (by simp)]
   unfold bK HP HE;delta ab aQ aa ay a3
   refine ae fun bD aK b9 ck => ai fun ca aH => ?_;refine cE ?_;refine aH _ (aK (some ([1,3,5,6,7],none)) _ (ae fun cg aP bx b8 => ai fun ch bk => ?_));refine nF ?_;refine bk _ (aP (some ([1,3,5,6,7,8],none)) _ (ae fun cM bV dQ eP => ae fun cG bp c5 dn => ai fun cI bE => ?_));refine c4 2 ?_;refine nF ?_;refine bE _ (bp (some ([1,3,5,6,7,8,12],none)) _ (bU (ai fun dB c7 => ?_)));refine c4 2 ?_;refine c4 3 ?_;refine c4 2 ?_;refine c4 2 ?_;refine eH 1 ?_;refine Or.inl (Or.inl ⟨_,de,?_⟩);refine c4 7 ?_;refine c4 2 ?_;refine nF ?_;refine c7 _ (bV (some ([3,5,6,7,8],none)) _ (ae fun bz cR h1 gQ => ae fun eK eo mT jb => ai fun fM fe => ?_));refine nF ?_;refine fe _ (eo (some ([3,5,6,7,8,47],none)) _ ?_)
   refine bs (cR (some ([3,6,7,8],none)) _ (ae fun ga ff _ _ => ?_));refine nR ([]) [6,7] [0,1] [2,3] (by kernel_rfl) (fun gK ew => ?_);refine iG ?_
   have ad := @pb
   refine gG 1 fun hc dq => ?_;refine a2 ad ?_;refine bh ?_;refine dq _ ?_;refine a2 ad ?_;refine bh ?_;refine ew _ (by rfl) (fun jf eJ => ?_);refine iG ?_;refine mF ?_;refine ag 1 ad ?_;refine aS ad ?_;refine eJ _ ?_;refine pc ?_;refine ff (some ([6,7],none)) _ ?_
   exact cQ ad
  ·rw [if_pos rfl]
   unfold bK HP HE;delta ab aQ aa ay a3
   refine ae fun bD aK b9 ck => ai fun ca aH => ?_;refine cE ?_;refine aH _ (aK (some ([1,3,5,6,7],none)) _ (ae fun cg aP bx b8 => ai fun ch bk => ?_));refine nF ?_;refine bk _ (aP (some ([1,3,5,6,7,8],none)) _ (ae fun cM bV dQ eP => ae fun cG bp c5 dn => ai fun cI bE => ?_));refine c4 2 ?_;refine nF ?_;refine bE _ (bp (some ([1,3,5,6,7,8,12],none)) _ (bU (ai fun dB c7 => ?_)));refine c4 2 ?_;refine c4 3 ?_;refine c4 2 ?_;refine c4 2 ?_;refine eH 1 ?_;refine Or.inl (Or.inl ⟨_,de,?_⟩);refine c4 7 ?_;refine c4 2 ?_;refine nF ?_;refine c7 _ (bV (some ([3,5,6,7,8],none)) _ (ae fun bz cR h1 gQ => ae fun eK eo mT jb => ai fun fM fe => ?_));refine nF ?_;refine fe _ (eo (some ([3,5,6,7,8,47],none)) _ ?_)
   refine bU (ai fun ga cD => ?_);refine c4 2 ?_;refine c4 2 ?_;refine c4 2 ?_;refine eH 1 ?_;refine Or.inl (Or.inl ⟨_,cd,?_⟩);refine nF ?_;refine cD _ (cR (some ([3,6,7,8],none)) _ (ae fun gK dF nu ln => ?_));refine nR ([]) [6,7] [0,1] [2,3] (by kernel_rfl) (fun hc dq => ?_);refine iG ?_
   have ad := @pb
   refine gG 1 fun jf eJ => ?_;refine a2 ad ?_;refine bh ?_;refine eJ _ ?_;refine a2 ad ?_;refine bh ?_;refine dq _ (by rfl) (fun kp gC => ?_);refine iG ?_;refine mF ?_;refine ag 1 ad ?_;refine aS ad ?_;refine gC _ ?_;refine pc ?_;refine dF (some ([6,7],none)) _ ?_
   exact cQ ad
 ·have d : (op == 6) = false := by simpa using h
  rw [if_neg h]
  have de := aj5 M.mem t a w (op == 4) bA.mem (by omega)
  generalize oB M.mem t a w (op == 4) = R at de ⊢
  unfold bK HP HE;delta ab aQ aa ay a3
  have ad := @d
  refine ae fun bD aK b9 ck => ai fun ca aH => ?_;refine al ad ?_;refine aH _ (aK (some ([1,3,5,6,7],none)) _ (ae fun cg aP bx b8 => ai fun ch bk => ?_));refine aS ad ?_;refine bk _ (aP (some ([1,3,5,6,7,8],none)) _ (ae fun cM bV dQ eP => ae fun cG bp c5 dn => ai fun cI bE => ?_));refine ag 2 ad ?_;refine aS ad ?_;refine bE _ (bp (some ([1,3,5,6,7,8,12],none)) _ (bs (ai fun dB c7 => ?_)));refine ag 2 ad ?_;refine ag 3 ad ?_;refine ag 2 ad ?_;refine ag 2 ad ?_;refine ag 1 ad ?_;refine aM 1 ad ?_;refine Or.inl (Or.inl ⟨_,de,?_⟩);refine aS ad ?_;refine c7 _ (bV (some ([3,5,6,7,8],none)) _ (ae fun bz cR h1 gQ => ae fun eK eo mT jb => ai fun fM fe => ?_));refine aS ad ?_;refine fe _ (eo (some ([3,5,6,7,8,47],none)) _ ?_)
  refine bU (ai fun ga cD => ?_);refine ag 2 ad ?_;refine ag 2 ad ?_;refine ag 2 ad ?_;refine aM 1 ad ?_;refine Or.inl (Or.inl ⟨_,cd,?_⟩);refine aS ad ?_;refine cD _ (cR (some ([3,6,7,8],none)) _ (ae fun gK dF nu ln => ?_));refine nR ([]) [6,7] [0,1] [2,3] (by kernel_rfl) (fun hc dq => ?_);refine iG ?_
  have aD := And.intro ad @pb
  refine gG 1 fun jf eJ => ?_;refine a2 aD ?_;refine bh ?_;refine eJ _ ?_;refine a2 aD ?_;refine bh ?_;refine dq _ (by rfl) (fun kp gC => ?_);refine iG ?_;refine mF ?_;refine ag 1 aD ?_;refine aS aD ?_;refine gC _ ?_;refine pc ?_;refine dF (some ([6,7],none)) _ ?_;refine jr aD ?_
  rfl
theorem alu (M : c8) (t a : Int) (q : Bool) (c : Int) : (ny M t a q c).1.views.length = M.views.length ∧ (ny M t a q c).1.places.length = M.places.length := by
 unfold ny; split
 ·exact ⟨(Oo _ _ _ _ _).1,by rw [(Oo _ _ _ _ _).2]⟩
 ·exact ⟨rfl,rfl⟩
theorem alv (M : c8) (t a : Int) (w : bm) (b : Bool) : (oB M t a w b).1.views.length = M.views.length ∧ (oB M t a w b).1.places.length = M.places.length := by
 unfold oB; split
 ·exact On _ _ _ _ _
 ·exact ⟨rfl,rfl⟩
theorem size_swap (M : c8) (t a : Int) (o w : bm) : (iD M t a o w).1.views.length = M.views.length ∧ (iD M t a o w).1.places.length = M.places.length := by
 have h := A2 M t a
 unfold iD; split
 ·have := On (fh M t a).1 t a w true
  exact ⟨this.1.trans h.1,this.2.trans (by rw [h.2])⟩
 ·exact ⟨h.1,by rw [h.2]⟩
theorem Dy {L : hz} {n k : Nat} (h : tD L n) (az : n ≤ k) : tD L k := ⟨h.lines,h.asks,fun y aV => Nat.le_trans (h.mZ y aV) az⟩
theorem G7 {M : e3} {n k : Nat} (h : nK M n) (az : n ≤ k) : nK M k := ⟨uk h.mem az,h.vG,Dy h.lines az,h.threads,h.size,fun s ao => by have := h.steps s ao; omega,by have := h.kc; omega⟩
theorem P9 {M : e3} {t : Int} {a : dJ} (h : qW M t a = 0) : hA M.mem t ∧ (0 ≤ a.op ∧ a.op ≤ 8) ∧ (a.op ≠ 0 → a.op ≠ 8 → fC M.mem a.place) := by
 unfold qW at h
 split at h
 ·cases h
 ·split at h
  ·cases h
  ·split at h
   ·cases h
   ·rename_i af aj av
    refine ⟨⟨by omega,by omega⟩,by omega,fun aY bM => ⟨by omega,by omega⟩⟩
theorem aeh (L : hz) (t a : Int) : (tT L t a).first = L.first := by unfold tT; split <;> rfl
theorem Mk {M : e3} {n : Nat} (bA : nK M n) {t : Int} {a : dJ} (c : Int) (h : qW M t a = 0) : nK (tI M t a c).1 (n + 1) ∧ (tI M t a c).1.steps = M.steps ∧ (tI M t a c).1.mem.views.length = M.mem.views.length ∧ (tI M t a c).1.mem.places.length = M.mem.places.length ∧ (tI M t a c).1.kc = M.kc := by
 obtain ⟨aL,ki,fg⟩ := P9 h
 have jX := G7 bA (show n ≤ n + 1 by omega)
 have RR : uX a.op = true → a.op = 3 ∨ a.op = 4 ∨ a.op = 6 := fun h => by simp [uX] at h; omega
 have agX : uX a.op = true ∨ a.op = 7 → fC M.mem a.place := fun h => fg (by rcases h with h | h; have := RR h; omega; omega) (by rcases h with h | h; have := RR h; omega; omega)
 unfold tI
 split
 ·rename_i aB
  have a5 := agX (.inl aB)
  have ao := ae6 bA.lines a.place a.new a5.1 (by rw [bA.size]; exact a5.2)
  unfold tB
  split
  ·have s := size_swap M.mem t a.place a.old a.new
   have oA := aiB bA.mem t a.place a.old a.new
   have tf := aix bA.mem bA.vG t a.place a.old a.new
   simp only
   split
   ·exact ⟨⟨oA,tf,ao,bA.threads.trans s.1.symm,by show M.lines.first.length = _; rw [bA.size]; exact s.2.symm,jX.steps,jX.kc⟩,rfl,s.1,s.2,rfl⟩
   ·exact ⟨⟨oA,tf,jX.lines,bA.threads.trans s.1.symm,bA.size.trans s.2.symm,jX.steps,jX.kc⟩,rfl,s.1,s.2,rfl⟩
  ·have s := alv M.mem t a.place a.new (a.op == 4)
   exact ⟨⟨aiA bA.mem _ _ _ _,aiw bA.mem bA.vG _ _ _ _,ao,bA.threads.trans s.1.symm,bA.size.trans s.2.symm,jX.steps,jX.kc⟩,rfl,s.1,s.2,rfl⟩
 ·split
  ·exact ⟨⟨jX.mem,jX.vG,Dy (aeT bA.lines t a.place ⟨aL.1,by have := aL.2; have := bA.mem.p4; omega⟩) (by omega),jX.threads,by show (tT _ _ _).first.length = _; rw [aeh]; exact bA.size,jX.steps,jX.kc⟩,rfl,rfl,rfl,rfl⟩
  ·split
   ·exact ⟨⟨jX.mem,jX.vG,Dy (ae7 bA.lines t) (by omega),jX.threads,bA.size,jX.steps,jX.kc⟩,rfl,rfl,rfl,rfl⟩
   ·split
    ·exact ⟨jX,rfl,rfl,rfl,rfl⟩
    ·unfold xE
     split
     ·have s := A2 M.mem t a.place
      exact ⟨⟨uk (DC bA.mem t a.place) (by omega),Mn bA.mem bA.vG _ _,jX.lines,bA.threads.trans s.1.symm,bA.size.trans (by show _ = (fh M.mem t a.place).1.places.length; rw [s.2]),jX.steps,jX.kc⟩,rfl,s.1,by show (fh M.mem t a.place).1.places.length = _; rw [s.2],rfl⟩
     ·have s := alu M.mem t a.place (a.op == 2) c
      exact ⟨⟨uk (aiz bA.mem _ _ _ _) (by omega),aiv bA.mem bA.vG _ _ _ _,jX.lines,bA.threads.trans s.1.symm,bA.size.trans s.2.symm,jX.steps,jX.kc⟩,rfl,s.1,s.2,rfl⟩
theorem air {M : e3} {n : Nat} (bA : nK M (n + 1)) (t : Int) (ao : ∀ s ∈ M.steps,0 ≤ s ∧ s ≤ (n : Int)) : nK (Ee M t) (n + 1) := by
 refine ⟨bA.mem,bA.vG,bA.lines,by simp [Ee,bA.threads],bA.size,fun s yY => ?_,bA.kc⟩
 rcases List.mem_or_eq_of_mem_set yY with h | rfl
 ·have := ao s h; omega
 ·cases e : M.steps[(t - 1).toNat]? with
  | none => simp; omega
  | some x => have := ao x (List.mem_of_getElem? e); simp; omega
theorem aiq {M : e3} {n : Nat} (bA : nK M n) (t : Int) (a : dJ) (c : Int) : nK (kQ M t a c).1 (n + 1) := by
 unfold kQ
 split
 ·rename_i h
  obtain ⟨af,aj,_⟩ := Mk bA c h
  exact air af t (by rw [aj]; exact bA.steps)
 ·exact G7 bA (by omega)
theorem SX (L : hz) (more : Int → Int → Int) : (td L more).length = L.first.length := G3 L more _
theorem Qc {M : e3} {n : Nat} (bA : nK M n) (c : Int) (h : ¬ (M.mem.views.length = 0 ∨ M.mem.places.length = 0)) : (gI M.mem.views.length (td M.lines (kW c))).2 = 0 := by
 have af := bA.mem.p4
 have aj := bA.mem.pl
 have av := SX M.lines (kW c)
 rw [bA.size] at av
 unfold gI
 rw [if_neg (by omega),if_neg (by omega),if_neg (by omega)]
theorem aip {M : e3} {n : Nat} (bA : nK M n) (c : Int) : nK (z7 M c) (n + 1) := by
 unfold z7
 split
 ·exact G7 bA (by omega)
 ·rename_i h
  have ba := Qc bA c h
  obtain ⟨af,aj,av,aY,e⟩ := DF ba
  have bM := SX M.lines (kW c)
  rw [bA.size] at bM
  refine ⟨uk (Mo _ _) (by omega),Tc _ _,Dy (Rw _ aY) (by omega),?_,?_,fun s ao => by have := bA.steps s ao; omega,by have := bA.kc; show 0 ≤ M.kc + 1 ∧ M.kc + 1 ≤ _; omega⟩
  ·show M.steps.length = (gI M.mem.views.length (td M.lines (kW c))).1.views.length
   rw [e]; simp [bA.threads]
  ·show (rq (td M.lines (kW c))).first.length = (gI M.mem.views.length (td M.lines (kW c))).1.places.length
   rw [e]; simp [rq]
theorem S6 (k : Int) (ws : List bm) : nK (ks k ws).1 1 := by
 unfold ks
 split
 ·rename_i h
  obtain ⟨af,aj,av,aY,e⟩ := DF h
  refine ⟨Mo _ _,Tc _ _,Dy (Rw _ aY) (by omega),?_,?_,fun s ao => ?_,by simp⟩
  ·show (List.replicate k.toNat (0 : Int)).length = (gI k ws).1.views.length
   rw [e]; simp
  ·show (rq ws).first.length = (gI k ws).1.places.length
   rw [e]; simp [rq]
  ·rw [(List.mem_replicate.1 ao).2]; omega
 ·refine ⟨uk G9 (by omega),aiy,⟨⟨by simp [v8],by simp [v8],fun y aV => by simp [v8] at aV,fun i y aV => by simp [v8] at aV⟩,⟨fun t h => absurd rfl h,fun t k m hm => by simp [iH,v8] at hm⟩,fun y aV => by simp [v8] at aV⟩,rfl,rfl,fun s ao => by simp [v8] at ao,by simp [v8]⟩
set_option maxHeartbeats 8000000 in
theorem ajt (M : e3) (t : Int) (a : dJ) (c : Int) {n : Nat} (bA : nK M n) (a9 : n ≤ 900) : cq 73 [lS M,aG t,.agg (qf a),aG c] (.bY [lS (kQ M t a c).1,.agg (kR (kQ M t a c).2.1),aG (kQ M t a c).2.2]) := by
 refine df Tryz.func73 amS rfl ?_
 have bX := ajr M t a
 have cL := ajq a
 unfold kQ
 by_cases h : qW M t a = 0
 case neg =>
  rw [if_neg h]
  have d : (qW M t a != 0) = true := by simpa using h
  generalize qW M t a = e at bX d ⊢
  unfold bK zy zv;delta ab aQ aa ay a3
  have ad := @d
  refine ae fun bD aK b9 ck => ai fun ca aH => ?_;refine al ad ?_;refine aH _ (aK (some ([1,3,4,6,8,9],none)) _ (ae fun cg aP bx b8 => ae fun ch bI dd dU => ai fun cM b0 => ?_));refine ag 1 ad ?_;refine ag 2 ad ?_;refine aM 1 ad ?_;refine Or.inl (Or.inl ⟨_,bX,?_⟩);refine al ad ?_;refine b0 _ (bI (some ([1,3,4,6,8,9,11],none)) _ (ae fun cG bp c5 dn => ai fun cI bE => ?_));refine aS ad ?_;refine bE _ (bp (some ([1,3,4,6,8,9,11,18],none)) _ (bU (ae fun dB cv g7 gw => ai fun bz aR => ?_)));refine ag 1 ad ?_;refine ag 3 ad ?_;refine ag 1 ad ?_;refine al ad ?_;refine aR _ (cv (some ([8,9,10],none)) _ (bx _ ?_));refine jr ad ?_
  rfl
 rw [if_pos h]
 rw [h] at bX
 obtain ⟨aL,ki,fg⟩ := P9 h
 obtain ⟨br,iB,_⟩ := Mk bA c h
 have aqR := bA.threads
 have Sv := bA.mem.p4
 obtain ⟨m,hm⟩ := Int.eq_ofNat_of_zero_le (show 0 ≤ t - 1 by have := aL.1; omega)
 obtain ⟨s,ao⟩ : ∃ s,M.steps[m]? = some s := ⟨_,List.getElem?_eq_getElem (by have := aL.2; omega)⟩
 have aqQ := bA.steps s (List.mem_of_getElem? ao)
 have bJ : IntKind.i64.wrap (t - 1) = (m : Int) := by have := aL.1; have := aL.2; rw [IntKind.wrap_i64]; omega
 have cf : IntKind.i64.wrap (s + 1) = s + 1 := by rw [IntKind.wrap_i64]; omega
 have dA : m < M.steps.length := (List.getElem?_eq_some_iff.1 ao).1
 have fr : (m : Int) < (M.steps.length : Int) := by omega
 have Qq : ∀ A : e3,A.steps = M.steps → Ee A t = ⟨A.mem,A.lines,M.steps.set m (s + 1),A.kc⟩ := fun A br => by
  unfold Ee
  rw [hm,br,Int.toNat_natCast,ao]; rfl
 rw [Qq _ iB]
 have qp : ∀ g,uJ 71 [.au 1 g (M.steps.map u2)] 3 1 (M.steps.map u2) := fun g => UD g _ (by simp; omega)
 have BY : (M.steps.map u2).set m [aG (s + 1)] = (M.steps.set m (s + 1)).map u2 := by rw [List.map_set]
 clear Qq iB br
 unfold tI
 by_cases af : uX a.op = true
 ·rw [if_pos af]
  rw [af] at cL
  have c1 : a.op = 3 ∨ a.op = 4 ∨ a.op = 6 := by simp [uX] at af; omega
  have k2 := ajw M t a bA a9 (fg (by omega) (by omega))
  have ct : (tB M t a).1.steps = M.steps := by
   unfold tB
   split
   ·simp only; split <;> rfl
   ·rfl
  generalize tB M t a = R at k2 ct ⊢
  obtain ⟨⟨lJ,lK,rH,PH⟩,ZX⟩ := R
  simp only at k2 ct ⊢
  subst ct
  unfold bK zy zv;delta ab aQ aa ay a3
  have ad := And.intro @bJ (And.intro @cf (And.intro @dA (And.intro @fr (And.intro @ao @BY))))
  refine ae fun bD aK b9 ck => ai fun ca aH => ?_;refine al ad ?_;refine aH _ (aK (some ([1,3,4,6,8,9],none)) _ (ae fun cg aP bx b8 => ae fun ch bI dd dU => ai fun cM b0 => ?_));refine ag 1 ad ?_;refine ag 2 ad ?_;refine aM 1 ad ?_;refine Or.inl (Or.inl ⟨_,bX,?_⟩);refine al ad ?_;refine b0 _ (bI (some ([1,3,4,6,8,9,11],none)) _ (ae fun cG bp c5 dn => ai fun cI bE => ?_));refine aS ad ?_;refine bE _ (bp (some ([1,3,4,6,8,9,11,18],none)) _ (bs (aP (some ([1,3,4,6,8,9],none)) _ (ae fun dB cv g7 gw => ai fun bz aR => ?_))));refine aS ad ?_;refine aR _ (cv (some ([1,3,4,6,8,9,12],none)) _ (ae fun eK eo mT jb => cj fun fM cr rl h0 g6 => ae fun ga ff rk kx => ai fun gK ew => ?_))
  refine ag 1 ad ?_;refine aM 1 ad ?_;refine Or.inl (Or.inl ⟨_,cL,?_⟩);refine al ad ?_;refine ew _ (ff (some ([1,3,4,6,8,9,12,23],none)) _ (bU (ai fun hc dq => ?_)));refine ag 1 ad ?_;refine ag 2 ad ?_;refine aM 1 ad ?_;refine Or.inl (Or.inl ⟨_,k2,?_⟩);refine ag 4 ad ?_;refine aS ad ?_;refine dq _ (cr _ (eo (some ([1,4,8,9,12],none)) _ (ae fun jf gl _ _ => ai fun kp gC => ?_)));refine ag 2 ad ?_;refine aM 1 ad ?_;refine Or.inl (Or.inr (Or.inl ⟨_,_,_,qp _,?_⟩));refine aS ad ?_;refine gC _ (gl (some ([1,4,8,9,12],none)) _ (ae fun n3 kC yW yx => ai fun su hI => ?_));refine ag 2 ad ?_;refine ag 2 ad ?_;refine ag 1 ad ?_;refine ag 1 ad ?_;refine ag 1 ad ?_;refine ag 1 ad ?_;refine aS ad ?_;refine hI _ (kC (some ([4,8,9,12],none)) _ (ae fun sv hJ GD Gk => ?_))
  refine nR ([]) [8,9,10] [0,1,4] [2,3] (by kernel_rfl) (fun sw hX => ?_);refine iG ?_
  have aD := And.intro ad @pb
  refine gG 1 fun sx hh => ?_;refine a2 aD ?_;refine bh ?_;refine hh _ ?_;refine gG 1 fun uH gf => ?_;refine a2 aD ?_;refine bh ?_;refine gf _ ?_;refine a2 aD ?_;refine hX _ (by rfl) (fun uI im => ?_);refine iG ?_;refine mF ?_;refine ag 1 aD ?_;refine aS aD ?_;refine im _ ?_;refine pc ?_;refine hJ (some ([8,9,10],none)) _ ?_
  exact cQ aD
 rw [if_neg af]
 have af : uX a.op = false := by simpa using af
 rw [af] at cL
 by_cases aj : a.op = 7
 ·rw [if_pos aj]
  have hp := fg (by omega) (by omega)
  have k2 := ajP M.lines t a.place bA.lines.lines bA.lines.asks ⟨aL.1,by have := aL.2; omega⟩ ⟨hp.1,by rw [bA.size]; exact hp.2⟩
  generalize tT M.lines t a.place = R at k2 ⊢
  have d2 : (a.op == 7) = true := by simpa using aj
  unfold bK zy zv;delta ab aQ aa ay a3
  have ad := And.intro @bJ (And.intro @cf (And.intro @dA (And.intro @fr (And.intro @ao (And.intro @BY @d2)))))
  refine ae fun bD aK b9 ck => ai fun ca aH => ?_;refine al ad ?_;refine aH _ (aK (some ([1,3,4,6,8,9],none)) _ (ae fun cg aP bx b8 => ae fun ch bI dd dU => ai fun cM b0 => ?_));refine ag 1 ad ?_;refine ag 2 ad ?_;refine aM 1 ad ?_;refine Or.inl (Or.inl ⟨_,bX,?_⟩);refine al ad ?_;refine b0 _ (bI (some ([1,3,4,6,8,9,11],none)) _ (ae fun cG bp c5 dn => ai fun cI bE => ?_));refine aS ad ?_;refine bE _ (bp (some ([1,3,4,6,8,9,11,18],none)) _ (bs (aP (some ([1,3,4,6,8,9],none)) _ (ae fun dB cv g7 gw => ai fun bz aR => ?_))));refine aS ad ?_;refine aR _ (cv (some ([1,3,4,6,8,9,12],none)) _ (ae fun eK eo mT jb => cj fun fM cr rl h0 g6 => ae fun ga ff rk kx => ai fun gK ew => ?_))
  refine ag 1 ad ?_;refine aM 1 ad ?_;refine Or.inl (Or.inl ⟨_,cL,?_⟩);refine al ad ?_;refine ew _ (ff (some ([1,3,4,6,8,9,12,23],none)) _ (bs (ae fun hc fx r3 mq => ai fun jf eJ => ?_)));refine ag 2 ad ?_;refine ag 1 ad ?_;refine al ad ?_;refine eJ _ (fx (some ([1,3,4,6,8,9,12,33],none)) _ (bU (ai fun kp gC => ?_)));refine ag 2 ad ?_;refine ag 3 ad ?_;refine aM 1 ad ?_;refine Or.inl (Or.inl ⟨_,k2,?_⟩);refine aS ad ?_;refine gC _ (cr _ (eo (some ([1,4,8,9,12],none)) _ (ae fun n3 kC yW yx => ai fun su hI => ?_)));refine ag 2 ad ?_;refine aM 1 ad ?_;refine Or.inl (Or.inr (Or.inl ⟨_,_,_,qp _,?_⟩));refine aS ad ?_;refine hI _ (kC (some ([1,4,8,9,12],none)) _ (ae fun sv hJ GD Gk => ai fun sw hX => ?_));refine ag 2 ad ?_
  refine ag 2 ad ?_;refine ag 1 ad ?_;refine ag 1 ad ?_;refine ag 1 ad ?_;refine ag 1 ad ?_;refine aS ad ?_;refine hX _ (hJ (some ([4,8,9,12],none)) _ (ae fun sx hK So Aq => ?_));refine nR ([]) [8,9,10] [0,1,4] [2,3] (by kernel_rfl) (fun uH gf => ?_);refine iG ?_
  have aD := And.intro ad @pb
  refine gG 1 fun uI im => ?_;refine a2 aD ?_;refine bh ?_;refine im _ ?_;refine gG 1 fun we iq => ?_;refine a2 aD ?_;refine bh ?_;refine iq _ ?_;refine a2 aD ?_;refine gf _ (by rfl) (fun wg gD => ?_);refine iG ?_;refine mF ?_;refine ag 1 aD ?_;refine aS aD ?_;refine gD _ ?_;refine pc ?_;refine hK (some ([8,9,10],none)) _ ?_;refine jr aD ?_
  rfl
 rw [if_neg aj]
 have d2 : (a.op == 7) = false := by simpa using aj
 by_cases av : a.op = 8
 ·rw [if_pos av]
  have k2 := ajT M.lines t bA.lines.lines bA.lines.asks ⟨aL.1,by have := aL.2; omega⟩
  generalize pe M.lines t = R at k2 ⊢
  have d3 : (a.op == 8) = true := by simpa using av
  unfold bK zy zv;delta ab aQ aa ay a3
  have ad := And.intro @bJ (And.intro @cf (And.intro @dA (And.intro @fr (And.intro @ao (And.intro @BY (And.intro @d2 @d3))))))
  refine ae fun bD aK b9 ck => ai fun ca aH => ?_;refine al ad ?_;refine aH _ (aK (some ([1,3,4,6,8,9],none)) _ (ae fun cg aP bx b8 => ae fun ch bI dd dU => ai fun cM b0 => ?_));refine ag 1 ad ?_;refine ag 2 ad ?_;refine aM 1 ad ?_;refine Or.inl (Or.inl ⟨_,bX,?_⟩);refine al ad ?_;refine b0 _ (bI (some ([1,3,4,6,8,9,11],none)) _ (ae fun cG bp c5 dn => ai fun cI bE => ?_));refine aS ad ?_;refine bE _ (bp (some ([1,3,4,6,8,9,11,18],none)) _ (bs (aP (some ([1,3,4,6,8,9],none)) _ (ae fun dB cv g7 gw => ai fun bz aR => ?_))));refine aS ad ?_;refine aR _ (cv (some ([1,3,4,6,8,9,12],none)) _ (ae fun eK eo mT jb => cj fun fM cr rl h0 g6 => ae fun ga ff rk kx => ai fun gK ew => ?_))
  refine ag 1 ad ?_;refine aM 1 ad ?_;refine Or.inl (Or.inl ⟨_,cL,?_⟩);refine al ad ?_;refine ew _ (ff (some ([1,3,4,6,8,9,12,23],none)) _ (bs (ae fun hc fx r3 mq => ai fun jf eJ => ?_)));refine ag 2 ad ?_;refine ag 1 ad ?_;refine al ad ?_;refine eJ _ (fx (some ([1,3,4,6,8,9,12,33],none)) _ (bs (ae fun kp fF r4 tW => ai fun n3 eF => ?_)));refine ag 2 ad ?_;refine ag 1 ad ?_;refine al ad ?_;refine eF _ (fF (some ([1,3,4,6,8,9,12,47],none)) _ (bU (ai fun su hI => ?_)));refine ag 2 ad ?_;refine aM 1 ad ?_;refine aM 1 ad ?_;refine Or.inl (Or.inl ⟨_,k2,?_⟩);refine aS ad ?_;refine hI _ (cr _ (eo (some ([1,4,8,9,12],none)) _ (ae fun sv hJ GD Gk => ai fun sw hX => ?_)));refine ag 2 ad ?_;refine aM 1 ad ?_;refine Or.inl (Or.inr (Or.inl ⟨_,_,_,qp _,?_⟩))
  refine aS ad ?_;refine hX _ (hJ (some ([1,4,8,9,12],none)) _ (ae fun sx hK So Aq => ai fun uH gf => ?_));refine ag 2 ad ?_;refine ag 2 ad ?_;refine ag 1 ad ?_;refine ag 1 ad ?_;refine ag 1 ad ?_;refine ag 1 ad ?_;refine aS ad ?_;refine gf _ (hK (some ([4,8,9,12],none)) _ (ae fun uI iu ag1 Cv => ?_));refine nR ([]) [8,9,10] [0,1,4] [2,3] (by kernel_rfl) (fun we iq => ?_);refine iG ?_
  have aD := And.intro ad @pb
  refine gG 1 fun wg gD => ?_;refine a2 aD ?_;refine bh ?_;refine gD _ ?_;refine gG 1 fun xY ir => ?_;refine a2 aD ?_;refine bh ?_;refine ir _ ?_;refine a2 aD ?_;refine iq _ (by rfl) (fun xZ jT => ?_);refine iG ?_;refine mF ?_;refine ag 1 aD ?_;refine aS aD ?_;refine jT _ ?_;refine pc ?_;refine iu (some ([8,9,10],none)) _ ?_;refine jr aD ?_
  rfl
 rw [if_neg av]
 have d3 : (a.op == 8) = false := by simpa using av
 by_cases aY : a.op = 0
 ·rw [if_pos aY]
  have d4 : (a.op != 0) = false := by simpa using aY
  unfold bK zy zv;delta ab aQ aa ay a3
  have ad := And.intro @bJ (And.intro @cf (And.intro @dA (And.intro @fr (And.intro @ao (And.intro @BY (And.intro @d2 (And.intro @d3 @d4)))))))
  refine ae fun bD aK b9 ck => ai fun ca aH => ?_;refine al ad ?_;refine aH _ (aK (some ([1,3,4,6,8,9],none)) _ (ae fun cg aP bx b8 => ae fun ch bI dd dU => ai fun cM b0 => ?_));refine ag 1 ad ?_;refine ag 2 ad ?_;refine aM 1 ad ?_;refine Or.inl (Or.inl ⟨_,bX,?_⟩);refine al ad ?_;refine b0 _ (bI (some ([1,3,4,6,8,9,11],none)) _ (ae fun cG bp c5 dn => ai fun cI bE => ?_));refine aS ad ?_;refine bE _ (bp (some ([1,3,4,6,8,9,11,18],none)) _ (bs (aP (some ([1,3,4,6,8,9],none)) _ (ae fun dB cv g7 gw => ai fun bz aR => ?_))));refine aS ad ?_;refine aR _ (cv (some ([1,3,4,6,8,9,12],none)) _ (ae fun eK eo mT jb => cj fun fM cr rl h0 g6 => ae fun ga ff rk kx => ai fun gK ew => ?_))
  refine ag 1 ad ?_;refine aM 1 ad ?_;refine Or.inl (Or.inl ⟨_,cL,?_⟩);refine al ad ?_;refine ew _ (ff (some ([1,3,4,6,8,9,12,23],none)) _ (bs (ae fun hc fx r3 mq => ai fun jf eJ => ?_)));refine ag 2 ad ?_;refine ag 1 ad ?_;refine al ad ?_;refine eJ _ (fx (some ([1,3,4,6,8,9,12,33],none)) _ (bs (ae fun kp fF r4 tW => ai fun n3 eF => ?_)));refine ag 2 ad ?_;refine ag 1 ad ?_;refine al ad ?_;refine eF _ (fF (some ([1,3,4,6,8,9,12,47],none)) _ (bs (ae fun su hM agZ vd => ai fun sv hr => ?_)));refine ag 2 ad ?_;refine ag 1 ad ?_;refine al ad ?_;refine hr _ (hM (some ([1,3,4,6,8,9,12,59],none)) _ (bs (cr _ (eo (some ([1,4,8,9,12],none)) _ (ae fun sw hZ _ _ => ai fun sx hh => ?_)))))
  refine ag 2 ad ?_;refine aM 1 ad ?_;refine Or.inl (Or.inr (Or.inl ⟨_,_,_,qp _,?_⟩));refine aS ad ?_;refine hh _ (hZ (some ([1,4,8,9,12],none)) _ (ae fun uH lu _ _ => ai fun uI im => ?_));refine ag 2 ad ?_;refine ag 2 ad ?_;refine ag 1 ad ?_;refine ag 1 ad ?_;refine ag 1 ad ?_;refine ag 1 ad ?_;refine aS ad ?_;refine im _ (lu (some ([4,8,9,12],none)) _ (ae fun we iP _ _ => ?_));refine nR ([]) [8,9,10] [0,1,4] [2,3] (by kernel_rfl) (fun wg gD => ?_);refine iG ?_
  have aD := And.intro ad @pb
  refine gG 1 fun xY ir => ?_;refine a2 aD ?_;refine bh ?_;refine ir _ ?_;refine gG 1 fun xZ jT => ?_;refine a2 aD ?_;refine bh ?_;refine jT _ ?_;refine a2 aD ?_;refine gD _ (by rfl) (fun IK iO => ?_);refine iG ?_;refine mF ?_;refine ag 1 aD ?_;refine aS aD ?_;refine iO _ ?_;refine pc ?_;refine iP (some ([8,9,10],none)) _ ?_;refine jr aD ?_
  rfl
 rw [if_neg aY]
 have d4 : (a.op != 0) = true := by simpa using aY
 have k2 := aju M t a c bA.mem (by omega)
 have ct : (xE M t a c).1.steps = M.steps := by unfold xE; split <;> rfl
 generalize xE M t a c = R at k2 ct ⊢
 obtain ⟨⟨lJ,lK,rH,PH⟩,ZX⟩ := R
 simp only at k2 ct ⊢
 subst ct
 unfold bK zy zv;delta ab aQ aa ay a3
 have ad := And.intro @bJ (And.intro @cf (And.intro @dA (And.intro @fr (And.intro @ao (And.intro @BY (And.intro @d2 (And.intro @d3 @d4)))))))
 refine ae fun bD aK b9 ck => ai fun ca aH => ?_;refine al ad ?_;refine aH _ (aK (some ([1,3,4,6,8,9],none)) _ (ae fun cg aP bx b8 => ae fun ch bI dd dU => ai fun cM b0 => ?_));refine ag 1 ad ?_;refine ag 2 ad ?_;refine aM 1 ad ?_;refine Or.inl (Or.inl ⟨_,bX,?_⟩);refine al ad ?_;refine b0 _ (bI (some ([1,3,4,6,8,9,11],none)) _ (ae fun cG bp c5 dn => ai fun cI bE => ?_));refine aS ad ?_;refine bE _ (bp (some ([1,3,4,6,8,9,11,18],none)) _ (bs (aP (some ([1,3,4,6,8,9],none)) _ (ae fun dB cv g7 gw => ai fun bz aR => ?_))));refine aS ad ?_;refine aR _ (cv (some ([1,3,4,6,8,9,12],none)) _ (ae fun eK eo mT jb => cj fun fM cr rl h0 g6 => ae fun ga ff rk kx => ai fun gK ew => ?_))
 refine ag 1 ad ?_;refine aM 1 ad ?_;refine Or.inl (Or.inl ⟨_,cL,?_⟩);refine al ad ?_;refine ew _ (ff (some ([1,3,4,6,8,9,12,23],none)) _ (bs (ae fun hc fx r3 mq => ai fun jf eJ => ?_)));refine ag 2 ad ?_;refine ag 1 ad ?_;refine al ad ?_;refine eJ _ (fx (some ([1,3,4,6,8,9,12,33],none)) _ (bs (ae fun kp fF r4 tW => ai fun n3 eF => ?_)));refine ag 2 ad ?_;refine ag 1 ad ?_;refine al ad ?_;refine eF _ (fF (some ([1,3,4,6,8,9,12,47],none)) _ (bs (ae fun su hM agZ vd => ai fun sv hr => ?_)));refine ag 2 ad ?_;refine ag 1 ad ?_;refine al ad ?_;refine hr _ (hM (some ([1,3,4,6,8,9,12,59],none)) _ (bU (ai fun sw hX => ?_)));refine ag 1 ad ?_;refine ag 2 ad ?_;refine aM 1 ad ?_;refine aM 1 ad ?_;refine Or.inl (Or.inl ⟨_,k2,?_⟩)
 refine ag 4 ad ?_;refine aS ad ?_;refine hX _ (cr _ (eo (some ([1,4,8,9,12],none)) _ (ae fun sx hK So Aq => ai fun uH gf => ?_)));refine ag 2 ad ?_;refine aM 1 ad ?_;refine Or.inl (Or.inr (Or.inl ⟨_,_,_,qp _,?_⟩));refine aS ad ?_;refine gf _ (hK (some ([1,4,8,9,12],none)) _ (ae fun uI iu ag1 Cv => ai fun we iq => ?_));refine ag 2 ad ?_;refine ag 2 ad ?_;refine ag 1 ad ?_;refine ag 1 ad ?_;refine ag 1 ad ?_;refine ag 1 ad ?_;refine aS ad ?_;refine iq _ (iu (some ([4,8,9,12],none)) _ (ae fun wg ns _ _ => ?_));refine nR ([]) [8,9,10] [0,1,4] [2,3] (by kernel_rfl) (fun xY ir => ?_);refine iG ?_
 have aD := And.intro ad @pb
 refine gG 1 fun xZ jT => ?_;refine a2 aD ?_;refine bh ?_;refine jT _ ?_;refine gG 1 fun IK iO => ?_;refine a2 aD ?_;refine bh ?_;refine iO _ ?_;refine a2 aD ?_;refine ir _ (by rfl) (fun _ hY => ?_);refine iG ?_;refine mF ?_;refine ag 1 aD ?_;refine aS aD ?_;refine hY _ ?_;refine pc ?_;refine ns (some ([8,9,10],none)) _ ?_
 exact cQ aD
set_option maxHeartbeats 4000000 in
theorem ajs (M : e3) (c : Int) {n : Nat} (bA : nK M n) (a9 : n ≤ 900) : cq 50 [lS M,aG c] (lS (z7 M c)) := by
 refine df Tryz.func50 amR rfl ?_
 have bX := DM M
 unfold z7
 by_cases af : M.mem.views.length = 0
 ·rw [if_pos (.inl af)]
  have d1 : ((M.mem.views.length : Int) == 0) = true := by simp [af]
  unfold bK HO HD;delta ab aQ a8 aa ay a3
  have ad := @d1
  refine ae fun bD aK b9 ck => ai fun ca aH => ?_;refine al ad ?_;refine aH _ (aK (some ([1,2,4],none)) _ (ae fun cg aP bx b8 => ai fun ch bk => ?_));refine ag 1 ad ?_;refine aM 1 ad ?_;refine Or.inl (Or.inl ⟨_,bX,?_⟩);refine al ad ?_;refine bk _ (aP (some ([1,2,4,5,6],none)) _ (ae fun cM bV dQ eP => ae fun cG bp c5 dn => ai fun cI bE => ?_));refine ag 2 ad ?_;refine ag 3 ad ?_;refine al ad ?_;refine bE _ (bp (some ([1,2,4,5,19],none)) _ (bU (ae fun dB cv g7 gw => ai fun bz aR => ?_)));refine ag 1 ad ?_;refine aS ad ?_;refine aR _ (cv (some ([4],none)) _ (dQ _ ?_))
  exact cQ ad
 have d1 : ((M.mem.views.length : Int) == 0) = false := by simp; exact fun e => af (by rw [e]; rfl)
 by_cases aj : M.mem.places.length = 0
 ·rw [if_pos (.inr aj)]
  have d2 : ((M.mem.places.length : Int) == 0) = true := by simp [aj]
  unfold bK HO HD;delta ab aQ a8 aa ay a3
  have ad := And.intro @d1 @d2
  refine ae fun bD aK b9 ck => ai fun ca aH => ?_;refine al ad ?_;refine aH _ (aK (some ([1,2,4],none)) _ (ae fun cg aP bx b8 => ai fun ch bk => ?_));refine ag 1 ad ?_;refine aM 1 ad ?_;refine Or.inl (Or.inl ⟨_,bX,?_⟩);refine al ad ?_;refine bk _ (aP (some ([1,2,4,5,6],none)) _ (ae fun cM bV dQ eP => ae fun cG bp c5 dn => ai fun cI bE => ?_));refine ag 2 ad ?_;refine ag 3 ad ?_;refine al ad ?_;refine bE _ (bp (some ([1,2,4,5,19],none)) _ (bU (ae fun dB cv g7 gw => ai fun bz aR => ?_)));refine ag 1 ad ?_;refine aS ad ?_;refine aR _ (cv (some ([4],none)) _ (dQ _ ?_))
  exact cQ ad
 have d2 : ((M.mem.places.length : Int) == 0) = false := by simp; exact fun e => aj (by rw [e]; rfl)
 have h : ¬ (M.mem.views.length = 0 ∨ M.mem.places.length = 0) := fun h => h.elim af aj
 rw [if_neg h]
 have cL := ajN M.lines c bA.lines.lines (fun y aV => Nat.le_trans (bA.lines.mZ y aV) (by omega))
 have k2 := MG M.mem.views.length 0 (td M.lines (kW c))
 have ba := Qc bA c h
 unfold ks at k2
 rw [if_pos ba] at k2
 have aB := bA.kc
 have bJ : IntKind.i64.wrap (M.kc + 1) = M.kc + 1 := by rw [IntKind.wrap_i64]; omega
 have qt := fun g => (UD g (M.steps.map u2) (by have := bA.threads; have := bA.mem.p4; simp; omega)).ok
 generalize td M.lines (kW c) = W at cL k2 ⊢
 generalize (gI M.mem.views.length W).1 = R at k2 ⊢
 unfold bK HO HD;delta ab aQ a8 aa ay a3
 have ad := And.intro @d1 (And.intro @d2 @bJ)
 refine ae fun bD aK b9 ck => ai fun ca aH => ?_;refine al ad ?_;refine aH _ (aK (some ([1,2,4],none)) _ (ae fun cg aP bx b8 => ai fun ch bk => ?_));refine ag 1 ad ?_;refine aM 1 ad ?_;refine Or.inl (Or.inl ⟨_,bX,?_⟩);refine al ad ?_;refine bk _ (aP (some ([1,2,4,5,6],none)) _ (ae fun cM bV dQ eP => ae fun cG bp c5 dn => ai fun cI bE => ?_));refine ag 2 ad ?_;refine ag 3 ad ?_;refine al ad ?_;refine bE _ (bp (some ([1,2,4,5,19],none)) _ (bs (bV (some ([1,2,4,5],none)) _ (ae fun dB cv g7 gw => ai fun bz aR => ?_))));refine ag 3 ad ?_;refine aM 1 ad ?_;refine aM 1 ad ?_;refine Or.inl (Or.inl ⟨_,cL,?_⟩);refine aM 1 ad ?_;refine Or.inl (Or.inl ⟨_,k2,?_⟩);refine ag 5 ad ?_;refine al ad ?_;refine aR _ (cv (some ([2,4,7,8],none)) _ ?_)
 refine ae fun _ eo _ _ => ae fun _ cr _ _ => ai fun _ cD => ?_;refine aS ad ?_;refine cD _ (cr (some ([2,4,7,31],none)) _ (bs (eo (some ([2,4,7],none)) _ (ae fun _ dF _ _ => ?_))));refine nR ([]) [4,7] [0,1,2,3,4,5,6,8] [7,9] (by kernel_rfl) (fun _ dq => ?_);refine iG ?_
 have aD := And.intro ad @pb
 refine gG 2 fun _ eJ => ?_;refine a2 aD ?_;refine bh ?_;refine eJ _ ?_;refine gG 1 fun _ gC => ?_;refine a2 aD ?_;refine ⟨_,qt _,?_⟩;refine gC _ ?_;refine gG 2 fun _ eF => ?_;refine a2 aD ?_;refine bh ?_;refine eF _ ?_;refine gG 1 fun _ hI => ?_;refine a2 aD ?_;refine bh ?_;refine hI _ ?_;refine a2 aD ?_;refine dq _ (by rfl) (fun _ hr => ?_);refine iG ?_;refine mF ?_;refine ag 1 aD ?_;refine aS aD ?_;refine hr _ ?_;refine pc ?_;refine dF (some ([4,7],none)) _ (ae fun _ hZ _ _ => ai fun _ hh => ?_);refine ag 1 aD ?_;refine aS aD ?_;refine hh _ (hZ (some ([4],none)) _ ?_)
 exact cQ aD
end Go.Proofs.YtkmbcjnaaokilaaGreatDoor
