/-
  Layer 6 by shadows: the machine's actions.
-/
import Derived.Test.YtkmbcjnaaokilaaGreatDoorK6a
import Derived.Test.YtkmbcjnaaokilaaGreatDoorK4f
import Derived.Test.YtkmbcjnaaokilaaGreatDoorMC
namespace Go.Proofs.YtkmbcjnaaokilaaGreatDoor
set_option linter.unusedSimpArgs false
set_option linter.unusedVariables false
open Go.RowKit Go.Maps
noncomputable def vS (M : e0) (t : Int) (a : dB) (c : Int) : e0 × dW :=
 if a.op = 5 then ({ M with mem := (fb M.mem t a.place).1 },⟨(fb M.mem t a.place).2.1,true⟩)
 else ({ M with mem := (nc M.mem t a.place (a.op == 2) c).1 },⟨(nc M.mem t a.place (a.op == 2) c).2.1,true⟩)
noncomputable def sy (M : e0) (t : Int) (a : dB) : e0 × dW :=
 if a.op = 6 then
  (if (ih M.mem t a.place a.old a.new).2.2.1 = true then { M with mem := (ih M.mem t a.place a.old a.new).1,lines := rb M.lines a.place a.new } else { M with mem := (ih M.mem t a.place a.old a.new).1 },
   ⟨(ih M.mem t a.place a.old a.new).2.1,(ih M.mem t a.place a.old a.new).2.2.1⟩)
 else ({ M with mem := (nH M.mem t a.place a.new (a.op == 4)).1,lines := rb M.lines a.place a.new },⟨gv,true⟩)
def Cx (M : e0) (t : Int) : e0 := { M with steps := M.steps.set (t - 1).toNat ((M.steps[(t - 1).toNat]?).getD 0 + 1) }
noncomputable def sF (M : e0) (t : Int) (a : dB) (c : Int) : e0 × dW :=
 if tF a.op = true then sy M t a else if a.op = 7 then ({ M with lines := sQ M.lines t a.place },⟨gv,true⟩)
 else if a.op = 8 then ({ M with lines := oq M.lines t },⟨gv,true⟩) else if a.op = 0 then (M,⟨gv,true⟩) else vS M t a c
noncomputable def kx (M : e0) (t : Int) (a : dB) (c : Int) : e0 × dW × Int :=
 if pV M t a = 0 then (Cx (sF M t a c).1 t,(sF M t a c).2,0) else (M,e4,pV M t a)
noncomputable def yq (M : e0) (c : Int) : e0 :=
 if M.mem.views.length = 0 ∨ M.mem.places.length = 0 then M else
  ⟨(gC M.mem.views.length (r8 M.lines (kG c))).1,ql (r8 M.lines (kG c)),M.steps,M.jR + 1⟩
structure m1 (M : e0) (n : Nat) : Prop where
 mem : gg M.mem n
 ur : nm M.mem
 lines : sB M.lines n
 threads : M.steps.length = M.mem.views.length
 size : M.lines.first.length = M.mem.places.length
 steps : ∀ s ∈ M.steps,0 ≤ s ∧ s ≤ (n : Int)
 jR : 0 ≤ M.jR ∧ M.jR ≤ (n : Int)
theorem afW (M : e0) (t : Int) (a : dB) (c : Int) {n : Nat} (bk : gg M.mem n) (a7 : n ≤ 1000) : cu 93 [mA M,aI t,.agg (pa a),aI c] (.bR [mA (vS M t a c).1,.agg (kz (vS M t a c).2)]) := by
 refine df Tryz.func93 ajh rfl ?_
 obtain ⟨op,a,o,w⟩ := a
 unfold vS
 simp only
 by_cases h : op = 5
 ·subst h
  have dn := QY M.mem t a bk (by omega)
  rw [if_pos rfl]
  generalize fb M.mem t a = R at dn ⊢
  unfold bJ Lo KW;delta ab aR aa aA a6
  refine ae fun bz aK b6 cb => ai fun b7 aG => ?_;refine cz ?_;refine aG _ (aK (some ([1,3,4,6,8,9],none)) _ (ae fun b8 aQ bt b5 => ai fun b9 bh => ?_));refine cz ?_;refine bh _ (aQ (some ([1,3,4,6,8,9,10],none)) _ (ae fun cD bT dG eG => ae fun cv bp cY dk => ai fun cC bD => ?_));refine cV 2 ?_;refine mW ?_;refine bD _ (bp (some ([1,3,4,6,8,9,10,13],none)) _ (bY (ai fun dy c0 => ?_)));refine cV 2 ?_;refine cV 3 ?_;refine eu 1 ?_;refine Or.inl (Or.inl ⟨_,dn,?_⟩);refine cV 6 ?_;refine mW ?_;refine c0 _ (bT (some ([4,8,9,10],none)) _ (ae fun bo cN hM gR => ?_));refine n0 ([]) [8,9] [0,1,2] [3,4] (by kernel_rfl) (fun ey cF => ?_);refine im ?_
  have ad := @oj
  refine gx 1 fun fB eU => ?_;refine aT ad ?_;refine bd ?_;refine eU _ ?_;refine gx 1 fun fN cG => ?_;refine aT ad ?_;refine bd ?_;refine cG _ ?_;refine aT ad ?_;refine cF _ (by rfl) (fun gG ed => ?_);refine im ?_;refine l3 ?_;refine ag 1 ad ?_;refine aU ad ?_;refine ed _ ?_;refine om ?_;refine cN (some ([8,9],none)) _ ?_
  exact cO ad
 ·have d : (op == 5) = false := by simpa using h
  rw [if_neg h]
  have dn := agw M.mem t a (op == 2) c bk (by omega)
  generalize nc M.mem t a (op == 2) c = R at dn ⊢
  unfold bJ Lo KW;delta ab aR aa aA a6
  have ad := @d
  refine ae fun bz aK b6 cb => ai fun b7 aG => ?_;refine an ad ?_;refine aG _ (aK (some ([1,3,4,6,8,9],none)) _ (ae fun b8 aQ bt b5 => ai fun b9 bh => ?_));refine an ad ?_;refine bh _ (aQ (some ([1,3,4,6,8,9,10],none)) _ (ae fun cD bT dG eG => ae fun cv bp cY dk => ai fun cC bD => ?_));refine ag 2 ad ?_;refine aU ad ?_;refine bD _ (bp (some ([1,3,4,6,8,9,10,13],none)) _ (bB (ai fun dy c0 => ?_)));refine ag 2 ad ?_;refine ag 3 ad ?_;refine ag 2 ad ?_;refine ag 1 ad ?_;refine aL 1 ad ?_;refine aL 1 ad ?_;refine Or.inl (Or.inl ⟨_,dn,?_⟩);refine ag 6 ad ?_;refine aU ad ?_;refine c0 _ (bT (some ([4,8,9,10],none)) _ (ae fun bo cN hM gR => ?_));refine n0 ([]) [8,9] [0,1,2] [3,4] (by kernel_rfl) (fun ey cF => ?_);refine im ?_
  have aD := And.intro ad @oj
  refine gx 1 fun fB eU => ?_;refine aT aD ?_;refine bd ?_;refine eU _ ?_;refine gx 1 fun fN cG => ?_;refine aT aD ?_;refine bd ?_;refine cG _ ?_;refine aT aD ?_;refine cF _ (by rfl) (fun gG ed => ?_);refine im ?_;refine l3 ?_;refine ag 1 aD ?_;refine aU aD ?_;refine ed _ ?_;refine om ?_;refine cN (some ([8,9],none)) _ ?_
  exact cO aD
set_option maxHeartbeats 2000000 in
theorem afZ (M : e0) (t : Int) (a : dB) {n : Nat} (bk : m1 M n) (a7 : n ≤ 900) (aZ : fq M.mem a.place) : cu 90 [mA M,aI t,.agg (pa a)] (.bR [mA (sy M t a).1,.agg (kz (sy M t a).2)]) := by
 refine df Tryz.func90 ajl rfl ?_
 obtain ⟨op,a,o,w⟩ := a
 have ej := bk.lines
 have cw := agm M.lines a w aZ.1 (by rw [bk.size]; exact aZ.2) ej.lines.many ej.lines.mn (fun y a1 => Nat.le_trans (ej.mn y a1) (by omega))
 unfold sy
 simp only
 by_cases h : op = 6
 ·subst h
  have dn := agA M.mem t a o w bk.mem (by omega)
  rw [if_pos rfl]
  generalize ih M.mem t a o w = R at dn ⊢
  obtain ⟨la,lb,qD,MQ⟩ := R
  simp only at dn ⊢
  cases qD
  ·rw [if_neg (by simp)]
   unfold bJ FR FH;delta ab aR aa aA a6
   refine ae fun bz aK b6 cb => ai fun b7 aG => ?_;refine cz ?_;refine aG _ (aK (some ([1,3,5,6,7],none)) _ (ae fun b8 aQ bt b5 => ai fun b9 bh => ?_));refine mW ?_;refine bh _ (aQ (some ([1,3,5,6,7,8],none)) _ (ae fun cD bT dG eG => ae fun cv bp cY dk => ai fun cC bD => ?_));refine cV 2 ?_;refine mW ?_;refine bD _ (bp (some ([1,3,5,6,7,8,12],none)) _ (bY (ai fun dy c0 => ?_)));refine cV 2 ?_;refine cV 3 ?_;refine cV 2 ?_;refine cV 2 ?_;refine eu 1 ?_;refine Or.inl (Or.inl ⟨_,dn,?_⟩);refine cV 7 ?_;refine cV 2 ?_;refine mW ?_;refine c0 _ (bT (some ([3,5,6,7,8],none)) _ (ae fun bo cN hM gR => ae fun ey ee mg jm => ai fun fB eU => ?_));refine mW ?_;refine eU _ (ee (some ([3,5,6,7,8,47],none)) _ ?_)
   refine bB (cN (some ([3,6,7,8],none)) _ (ae fun fN eW _ _ => ?_));refine n0 ([]) [6,7] [0,1] [2,3] (by kernel_rfl) (fun gG ed => ?_);refine im ?_
   have ad := @oj
   refine gx 1 fun gZ dt => ?_;refine aT ad ?_;refine bd ?_;refine dt _ ?_;refine aT ad ?_;refine bd ?_;refine ed _ (by rfl) (fun iK eB => ?_);refine im ?_;refine l3 ?_;refine ag 1 ad ?_;refine aU ad ?_;refine eB _ ?_;refine om ?_;refine eW (some ([6,7],none)) _ ?_
   exact cO ad
  ·rw [if_pos rfl]
   unfold bJ FR FH;delta ab aR aa aA a6
   refine ae fun bz aK b6 cb => ai fun b7 aG => ?_;refine cz ?_;refine aG _ (aK (some ([1,3,5,6,7],none)) _ (ae fun b8 aQ bt b5 => ai fun b9 bh => ?_));refine mW ?_;refine bh _ (aQ (some ([1,3,5,6,7,8],none)) _ (ae fun cD bT dG eG => ae fun cv bp cY dk => ai fun cC bD => ?_));refine cV 2 ?_;refine mW ?_;refine bD _ (bp (some ([1,3,5,6,7,8,12],none)) _ (bY (ai fun dy c0 => ?_)));refine cV 2 ?_;refine cV 3 ?_;refine cV 2 ?_;refine cV 2 ?_;refine eu 1 ?_;refine Or.inl (Or.inl ⟨_,dn,?_⟩);refine cV 7 ?_;refine cV 2 ?_;refine mW ?_;refine c0 _ (bT (some ([3,5,6,7,8],none)) _ (ae fun bo cN hM gR => ae fun ey ee mg jm => ai fun fB eU => ?_));refine mW ?_;refine eU _ (ee (some ([3,5,6,7,8,47],none)) _ ?_)
   refine bY (ai fun fN cG => ?_);refine cV 2 ?_;refine cV 2 ?_;refine cV 2 ?_;refine eu 1 ?_;refine Or.inl (Or.inl ⟨_,cw,?_⟩);refine mW ?_;refine cG _ (cN (some ([3,6,7,8],none)) _ (ae fun gG dJ mN kW => ?_));refine n0 ([]) [6,7] [0,1] [2,3] (by kernel_rfl) (fun gZ dt => ?_);refine im ?_
   have ad := @oj
   refine gx 1 fun iK eB => ?_;refine aT ad ?_;refine bd ?_;refine eB _ ?_;refine aT ad ?_;refine bd ?_;refine dt _ (by rfl) (fun j3 gq => ?_);refine im ?_;refine l3 ?_;refine ag 1 ad ?_;refine aU ad ?_;refine gq _ ?_;refine om ?_;refine dJ (some ([6,7],none)) _ ?_
   exact cO ad
 ·have d : (op == 6) = false := by simpa using h
  rw [if_neg h]
  have dn := agz M.mem t a w (op == 4) bk.mem (by omega)
  generalize nH M.mem t a w (op == 4) = R at dn ⊢
  unfold bJ FR FH;delta ab aR aa aA a6
  have ad := @d
  refine ae fun bz aK b6 cb => ai fun b7 aG => ?_;refine an ad ?_;refine aG _ (aK (some ([1,3,5,6,7],none)) _ (ae fun b8 aQ bt b5 => ai fun b9 bh => ?_));refine aU ad ?_;refine bh _ (aQ (some ([1,3,5,6,7,8],none)) _ (ae fun cD bT dG eG => ae fun cv bp cY dk => ai fun cC bD => ?_));refine ag 2 ad ?_;refine aU ad ?_;refine bD _ (bp (some ([1,3,5,6,7,8,12],none)) _ (bB (ai fun dy c0 => ?_)));refine ag 2 ad ?_;refine ag 3 ad ?_;refine ag 2 ad ?_;refine ag 2 ad ?_;refine ag 1 ad ?_;refine aL 1 ad ?_;refine Or.inl (Or.inl ⟨_,dn,?_⟩);refine aU ad ?_;refine c0 _ (bT (some ([3,5,6,7,8],none)) _ (ae fun bo cN hM gR => ae fun ey ee mg jm => ai fun fB eU => ?_));refine aU ad ?_;refine eU _ (ee (some ([3,5,6,7,8,47],none)) _ ?_)
  refine bY (ai fun fN cG => ?_);refine ag 2 ad ?_;refine ag 2 ad ?_;refine ag 2 ad ?_;refine aL 1 ad ?_;refine Or.inl (Or.inl ⟨_,cw,?_⟩);refine aU ad ?_;refine cG _ (cN (some ([3,6,7,8],none)) _ (ae fun gG dJ mN kW => ?_));refine n0 ([]) [6,7] [0,1] [2,3] (by kernel_rfl) (fun gZ dt => ?_);refine im ?_
  have aD := And.intro ad @oj
  refine gx 1 fun iK eB => ?_;refine aT aD ?_;refine bd ?_;refine eB _ ?_;refine aT aD ?_;refine bd ?_;refine dt _ (by rfl) (fun j3 gq => ?_);refine im ?_;refine l3 ?_;refine ag 1 aD ?_;refine aU aD ?_;refine gq _ ?_;refine om ?_;refine dJ (some ([6,7],none)) _ ?_;refine jc aD ?_
  rfl
theorem ahR (M : c6) (t a : Int) (q : Bool) (c : Int) : (nc M t a q c).1.views.length = M.views.length ∧ (nc M t a q c).1.places.length = M.places.length := by
 unfold nc; split
 ·exact ⟨(LM _ _ _ _ _).1,by rw [(LM _ _ _ _ _).2]⟩
 ·exact ⟨rfl,rfl⟩
theorem ahS (M : c6) (t a : Int) (w : bq) (b : Bool) : (nH M t a w b).1.views.length = M.views.length ∧ (nH M t a w b).1.places.length = M.places.length := by
 unfold nH; split
 ·exact LL _ _ _ _ _
 ·exact ⟨rfl,rfl⟩
theorem size_swap (M : c6) (t a : Int) (o w : bq) : (ih M t a o w).1.views.length = M.views.length ∧ (ih M t a o w).1.places.length = M.places.length := by
 have h := zp M t a
 unfold ih; split
 ·have := LL (fb M t a).1 t a w true
  exact ⟨this.1.trans h.1,this.2.trans (by rw [h.2])⟩
 ·exact ⟨h.1,by rw [h.2]⟩
theorem BL {L : hk} {n k : Nat} (h : sB L n) (aB : n ≤ k) : sB L k := ⟨h.lines,h.asks,fun y a1 => Nat.le_trans (h.mn y a1) aB⟩
theorem E2 {M : e0} {n k : Nat} (h : m1 M n) (aB : n ≤ k) : m1 M k := ⟨s9 h.mem aB,h.ur,BL h.lines aB,h.threads,h.size,fun s ao => by have := h.steps s ao; omega,by have := h.jR; omega⟩
theorem Nl {M : e0} {t : Int} {a : dB} (h : pV M t a = 0) : hl M.mem t ∧ (0 ≤ a.op ∧ a.op ≤ 8) ∧ (a.op ≠ 0 → a.op ≠ 8 → fq M.mem a.place) := by
 unfold pV at h
 split at h
 ·cases h
 ·split at h
  ·cases h
  ·split at h
   ·cases h
   ·rename_i af aj aw
    refine ⟨⟨by omega,by omega⟩,by omega,fun aV bF => ⟨by omega,by omega⟩⟩
theorem aaR (L : hk) (t a : Int) : (sQ L t a).first = L.first := by unfold sQ; split <;> rfl
theorem JO {M : e0} {n : Nat} (bk : m1 M n) {t : Int} {a : dB} (c : Int) (h : pV M t a = 0) : m1 (sF M t a c).1 (n + 1) ∧ (sF M t a c).1.steps = M.steps ∧ (sF M t a c).1.mem.views.length = M.mem.views.length ∧ (sF M t a c).1.mem.places.length = M.mem.places.length ∧ (sF M t a c).1.jR = M.jR := by
 obtain ⟨aO,jX,fa⟩ := Nl h
 have jH := E2 bk (show n ≤ n + 1 by omega)
 have O3 : tF a.op = true → a.op = 3 ∨ a.op = 4 ∨ a.op = 6 := fun h => by simp [tF] at h; omega
 have adA : tF a.op = true ∨ a.op = 7 → fq M.mem a.place := fun h => fa (by rcases h with h | h; have := O3 h; omega; omega) (by rcases h with h | h; have := O3 h; omega; omega)
 unfold sF
 split
 ·rename_i az
  have aZ := adA (.inl az)
  have ao := abG bk.lines a.place a.new aZ.1 (by rw [bk.size]; exact aZ.2)
  unfold sy
  split
  ·have s := size_swap M.mem t a.place a.old a.new
   have nG := aeZ bk.mem t a.place a.old a.new
   have sa := aeV bk.mem bk.ur t a.place a.old a.new
   simp only
   split
   ·exact ⟨⟨nG,sa,ao,bk.threads.trans s.1.symm,by show M.lines.first.length = _; rw [bk.size]; exact s.2.symm,jH.steps,jH.jR⟩,rfl,s.1,s.2,rfl⟩
   ·exact ⟨⟨nG,sa,jH.lines,bk.threads.trans s.1.symm,bk.size.trans s.2.symm,jH.steps,jH.jR⟩,rfl,s.1,s.2,rfl⟩
  ·have s := ahS M.mem t a.place a.new (a.op == 4)
   exact ⟨⟨aeY bk.mem _ _ _ _,aeU bk.mem bk.ur _ _ _ _,ao,bk.threads.trans s.1.symm,bk.size.trans s.2.symm,jH.steps,jH.jR⟩,rfl,s.1,s.2,rfl⟩
 ·split
  ·exact ⟨⟨jH.mem,jH.ur,BL (abt bk.lines t a.place ⟨aO.1,by have := aO.2; have := bk.mem.o2; omega⟩) (by omega),jH.threads,by show (sQ _ _ _).first.length = _; rw [aaR]; exact bk.size,jH.steps,jH.jR⟩,rfl,rfl,rfl,rfl⟩
  ·split
   ·exact ⟨⟨jH.mem,jH.ur,BL (abH bk.lines t) (by omega),jH.threads,bk.size,jH.steps,jH.jR⟩,rfl,rfl,rfl,rfl⟩
   ·split
    ·exact ⟨jH,rfl,rfl,rfl,rfl⟩
    ·unfold vS
     split
     ·have s := zp M.mem t a.place
      exact ⟨⟨s9 (BO bk.mem t a.place) (by omega),JR bk.mem bk.ur _ _,jH.lines,bk.threads.trans s.1.symm,bk.size.trans (by show _ = (fb M.mem t a.place).1.places.length; rw [s.2]),jH.steps,jH.jR⟩,rfl,s.1,by show (fb M.mem t a.place).1.places.length = _; rw [s.2],rfl⟩
     ·have s := ahR M.mem t a.place (a.op == 2) c
      exact ⟨⟨s9 (aeX bk.mem _ _ _ _) (by omega),aeT bk.mem bk.ur _ _ _ _,jH.lines,bk.threads.trans s.1.symm,bk.size.trans s.2.symm,jH.steps,jH.jR⟩,rfl,s.1,s.2,rfl⟩
theorem aeP {M : e0} {n : Nat} (bk : m1 M (n + 1)) (t : Int) (ao : ∀ s ∈ M.steps,0 ≤ s ∧ s ≤ (n : Int)) : m1 (Cx M t) (n + 1) := by
 refine ⟨bk.mem,bk.ur,bk.lines,by simp [Cx,bk.threads],bk.size,fun s xk => ?_,bk.jR⟩
 rcases List.mem_or_eq_of_mem_set xk with h | rfl
 ·have := ao s h; omega
 ·cases e : M.steps[(t - 1).toNat]? with
  | none => simp; omega
  | some x => have := ao x (List.mem_of_getElem? e); simp; omega
theorem aeO {M : e0} {n : Nat} (bk : m1 M n) (t : Int) (a : dB) (c : Int) : m1 (kx M t a c).1 (n + 1) := by
 unfold kx
 split
 ·rename_i h
  obtain ⟨af,aj,_⟩ := JO bk c h
  exact aeP af t (by rw [aj]; exact bk.steps)
 ·exact E2 bk (by omega)
theorem P4 (L : hk) (more : Int → Int → Int) : (r8 L more).length = L.first.length := EW L more _
theorem No {M : e0} {n : Nat} (bk : m1 M n) (c : Int) (h : ¬ (M.mem.views.length = 0 ∨ M.mem.places.length = 0)) : (gC M.mem.views.length (r8 M.lines (kG c))).2 = 0 := by
 have af := bk.mem.o2
 have aj := bk.mem.pl
 have aw := P4 M.lines (kG c)
 rw [bk.size] at aw
 unfold gC
 rw [if_neg (by omega),if_neg (by omega),if_neg (by omega)]
theorem aeN {M : e0} {n : Nat} (bk : m1 M n) (c : Int) : m1 (yq M c) (n + 1) := by
 unfold yq
 split
 ·exact E2 bk (by omega)
 ·rename_i h
  have bb := No bk c h
  obtain ⟨af,aj,aw,aV,e⟩ := BR bb
  have bF := P4 M.lines (kG c)
  rw [bk.size] at bF
  refine ⟨s9 (JS _ _) (by omega),Qg _ _,BL (OI _ aV) (by omega),?_,?_,fun s ao => by have := bk.steps s ao; omega,by have := bk.jR; show 0 ≤ M.jR + 1 ∧ M.jR + 1 ≤ _; omega⟩
  ·show M.steps.length = (gC M.mem.views.length (r8 M.lines (kG c))).1.views.length
   rw [e]; simp [bk.threads]
  ·show (ql (r8 M.lines (kG c))).first.length = (gC M.mem.views.length (r8 M.lines (kG c))).1.places.length
   rw [e]; simp [ql]
theorem Qa (k : Int) (ws : List bq) : m1 (j5 k ws).1 1 := by
 unfold j5
 split
 ·rename_i h
  obtain ⟨af,aj,aw,aV,e⟩ := BR h
  refine ⟨JS _ _,Qg _ _,BL (OI _ aV) (by omega),?_,?_,fun s ao => ?_,by simp⟩
  ·show (List.replicate k.toNat (0 : Int)).length = (gC k ws).1.views.length
   rw [e]; simp
  ·show (ql ws).first.length = (gC k ws).1.places.length
   rw [e]; simp [ql]
  ·rw [(List.mem_replicate.1 ao).2]; omega
 ·refine ⟨s9 E4 (by omega),aeW,⟨⟨by simp [uM],by simp [uM],fun y a1 => by simp [uM] at a1,fun i y a1 => by simp [uM] at a1⟩,⟨fun t h => absurd rfl h,fun t k m hm => by simp [iq,uM] at hm⟩,fun y a1 => by simp [uM] at a1⟩,rfl,rfl,fun s ao => by simp [uM] at ao,by simp [uM]⟩
set_option maxHeartbeats 8000000 in
theorem afV (M : e0) (t : Int) (a : dB) (c : Int) {n : Nat} (bk : m1 M n) (a7 : n ≤ 900) : cu 73 [mA M,aI t,.agg (pa a),aI c] (.bR [mA (kx M t a c).1,.agg (kz (kx M t a c).2.1),aI (kx M t a c).2.2]) := by
 refine df Tryz.func73 ajf rfl ?_
 have b2 := afT M t a
 have cy := afS a
 unfold kx
 by_cases h : pV M t a = 0
 case neg =>
  rw [if_neg h]
  have d : (pV M t a != 0) = true := by simpa using h
  generalize pV M t a = e at b2 d ⊢
  unfold bJ xS xP;delta ab aR aa aA a6
  have ad := @d
  refine ae fun bz aK b6 cb => ai fun b7 aG => ?_;refine an ad ?_;refine aG _ (aK (some ([1,3,4,6,8,9],none)) _ (ae fun b8 aQ bt b5 => ae fun b9 bG c7 dF => ai fun cD bZ => ?_));refine ag 1 ad ?_;refine ag 2 ad ?_;refine aL 1 ad ?_;refine Or.inl (Or.inl ⟨_,b2,?_⟩);refine an ad ?_;refine bZ _ (bG (some ([1,3,4,6,8,9,11],none)) _ (ae fun cv bp cY dk => ai fun cC bD => ?_));refine aU ad ?_;refine bD _ (bp (some ([1,3,4,6,8,9,11,18],none)) _ (bY (ae fun dy ck gV gA => ai fun bo aP => ?_)));refine ag 1 ad ?_;refine ag 3 ad ?_;refine ag 1 ad ?_;refine an ad ?_;refine aP _ (ck (some ([8,9,10],none)) _ (bt _ ?_));refine jc ad ?_
  rfl
 rw [if_pos h]
 rw [h] at b2
 obtain ⟨aO,jX,fa⟩ := Nl h
 obtain ⟨br,ie,_⟩ := JO bk c h
 have anl := bk.threads
 have PJ := bk.mem.o2
 obtain ⟨m,hm⟩ := Int.eq_ofNat_of_zero_le (show 0 ≤ t - 1 by have := aO.1; omega)
 obtain ⟨s,ao⟩ : ∃ s,M.steps[m]? = some s := ⟨_,List.getElem?_eq_getElem (by have := aO.2; omega)⟩
 have ank := bk.steps s (List.mem_of_getElem? ao)
 have bL : IntKind.i64.wrap (t - 1) = (m : Int) := by have := aO.1; have := aO.2; rw [IntKind.wrap_i64]; omega
 have cd : IntKind.i64.wrap (s + 1) = s + 1 := by rw [IntKind.wrap_i64]; omega
 have dV : m < M.steps.length := (List.getElem?_eq_some_iff.1 ao).1
 have fW : (m : Int) < (M.steps.length : Int) := by omega
 have NA : ∀ A : e0,A.steps = M.steps → Cx A t = ⟨A.mem,A.lines,M.steps.set m (s + 1),A.jR⟩ := fun A br => by
  unfold Cx
  rw [hm,br,Int.toNat_natCast,ao]; rfl
 rw [NA _ ie]
 have pk : ∀ g,ts 71 [.au 1 g (M.steps.map tI)] 3 1 (M.steps.map tI) := fun g => Rs g _ (by simp; omega)
 have Ao : (M.steps.map tI).set m [aI (s + 1)] = (M.steps.set m (s + 1)).map tI := by rw [List.map_set]
 clear NA ie br
 unfold sF
 by_cases af : tF a.op = true
 ·rw [if_pos af]
  rw [af] at cy
  have ch : a.op = 3 ∨ a.op = 4 ∨ a.op = 6 := by simp [tF] at af; omega
  have k2 := afZ M t a bk a7 (fa (by omega) (by omega))
  have cg : (sy M t a).1.steps = M.steps := by
   unfold sy
   split
   ·simp only; split <;> rfl
   ·rfl
  generalize sy M t a = R at k2 cg ⊢
  obtain ⟨⟨la,lb,qD,MQ⟩,WB⟩ := R
  simp only at k2 cg ⊢
  subst cg
  unfold bJ xS xP;delta ab aR aa aA a6
  have ad := And.intro @bL (And.intro @cd (And.intro @dV (And.intro @fW (And.intro @ao @Ao))))
  refine ae fun bz aK b6 cb => ai fun b7 aG => ?_;refine an ad ?_;refine aG _ (aK (some ([1,3,4,6,8,9],none)) _ (ae fun b8 aQ bt b5 => ae fun b9 bG c7 dF => ai fun cD bZ => ?_));refine ag 1 ad ?_;refine ag 2 ad ?_;refine aL 1 ad ?_;refine Or.inl (Or.inl ⟨_,b2,?_⟩);refine an ad ?_;refine bZ _ (bG (some ([1,3,4,6,8,9,11],none)) _ (ae fun cv bp cY dk => ai fun cC bD => ?_));refine aU ad ?_;refine bD _ (bp (some ([1,3,4,6,8,9,11,18],none)) _ (bB (aQ (some ([1,3,4,6,8,9],none)) _ (ae fun dy ck gV gA => ai fun bo aP => ?_))));refine aU ad ?_;refine aP _ (ck (some ([1,3,4,6,8,9,12],none)) _ (ae fun ey ee mg jm => cx fun fB ct qj hL gU => ae fun fN eW qi j7 => ai fun gG ed => ?_))
  refine ag 1 ad ?_;refine aL 1 ad ?_;refine Or.inl (Or.inl ⟨_,cy,?_⟩);refine an ad ?_;refine ed _ (eW (some ([1,3,4,6,8,9,12,23],none)) _ (bY (ai fun gZ dt => ?_)));refine ag 1 ad ?_;refine ag 2 ad ?_;refine aL 1 ad ?_;refine Or.inl (Or.inl ⟨_,k2,?_⟩);refine ag 4 ad ?_;refine aU ad ?_;refine dt _ (ct _ (ee (some ([1,4,8,9,12],none)) _ (ae fun iK gK _ _ => ai fun j3 gq => ?_)));refine ag 2 ad ?_;refine aL 1 ad ?_;refine Or.inl (Or.inr (Or.inl ⟨_,_,_,pk _,?_⟩));refine aU ad ?_;refine gq _ (gK (some ([1,4,8,9,12],none)) _ (ae fun nk kd Bz tU => ai fun rm hs => ?_));refine ag 2 ad ?_;refine ag 2 ad ?_;refine ag 1 ad ?_;refine ag 1 ad ?_;refine ag 1 ad ?_;refine ag 1 ad ?_;refine aU ad ?_;refine hs _ (kd (some ([4,8,9,12],none)) _ (ae fun rn h4 Ew O8 => ?_))
  refine n0 ([]) [8,9,10] [0,1,4] [2,3] (by kernel_rfl) (fun rp hJ => ?_);refine im ?_
  have aD := And.intro ad @oj
  refine gx 1 fun rq ht => ?_;refine aT aD ?_;refine bd ?_;refine ht _ ?_;refine gx 1 fun tq gr => ?_;refine aT aD ?_;refine bd ?_;refine gr _ ?_;refine aT aD ?_;refine hJ _ (by rfl) (fun tr hK => ?_);refine im ?_;refine l3 ?_;refine ag 1 aD ?_;refine aU aD ?_;refine hK _ ?_;refine om ?_;refine h4 (some ([8,9,10],none)) _ ?_
  exact cO aD
 rw [if_neg af]
 have af : tF a.op = false := by simpa using af
 rw [af] at cy
 by_cases aj : a.op = 7
 ·rw [if_pos aj]
  have hp := fa (by omega) (by omega)
  have k2 := agj M.lines t a.place bk.lines.lines bk.lines.asks ⟨aO.1,by have := aO.2; omega⟩ ⟨hp.1,by rw [bk.size]; exact hp.2⟩
  generalize sQ M.lines t a.place = R at k2 ⊢
  have d2 : (a.op == 7) = true := by simpa using aj
  unfold bJ xS xP;delta ab aR aa aA a6
  have ad := And.intro @bL (And.intro @cd (And.intro @dV (And.intro @fW (And.intro @ao (And.intro @Ao @d2)))))
  refine ae fun bz aK b6 cb => ai fun b7 aG => ?_;refine an ad ?_;refine aG _ (aK (some ([1,3,4,6,8,9],none)) _ (ae fun b8 aQ bt b5 => ae fun b9 bG c7 dF => ai fun cD bZ => ?_));refine ag 1 ad ?_;refine ag 2 ad ?_;refine aL 1 ad ?_;refine Or.inl (Or.inl ⟨_,b2,?_⟩);refine an ad ?_;refine bZ _ (bG (some ([1,3,4,6,8,9,11],none)) _ (ae fun cv bp cY dk => ai fun cC bD => ?_));refine aU ad ?_;refine bD _ (bp (some ([1,3,4,6,8,9,11,18],none)) _ (bB (aQ (some ([1,3,4,6,8,9],none)) _ (ae fun dy ck gV gA => ai fun bo aP => ?_))));refine aU ad ?_;refine aP _ (ck (some ([1,3,4,6,8,9,12],none)) _ (ae fun ey ee mg jm => cx fun fB ct qj hL gU => ae fun fN eW qi j7 => ai fun gG ed => ?_))
  refine ag 1 ad ?_;refine aL 1 ad ?_;refine Or.inl (Or.inl ⟨_,cy,?_⟩);refine an ad ?_;refine ed _ (eW (some ([1,3,4,6,8,9,12,23],none)) _ (bB (ae fun gZ fQ qY mF => ai fun iK eB => ?_)));refine ag 2 ad ?_;refine ag 1 ad ?_;refine an ad ?_;refine eB _ (fQ (some ([1,3,4,6,8,9,12,33],none)) _ (bY (ai fun j3 gq => ?_)));refine ag 2 ad ?_;refine ag 3 ad ?_;refine aL 1 ad ?_;refine Or.inl (Or.inl ⟨_,k2,?_⟩);refine aU ad ?_;refine gq _ (ct _ (ee (some ([1,4,8,9,12],none)) _ (ae fun nk kd Bz tU => ai fun rm hs => ?_)));refine ag 2 ad ?_;refine aL 1 ad ?_;refine Or.inl (Or.inr (Or.inl ⟨_,_,_,pk _,?_⟩));refine aU ad ?_;refine hs _ (kd (some ([1,4,8,9,12],none)) _ (ae fun rn h4 Ew O8 => ai fun rp hJ => ?_));refine ag 2 ad ?_
  refine ag 2 ad ?_;refine ag 1 ad ?_;refine ag 1 ad ?_;refine ag 1 ad ?_;refine ag 1 ad ?_;refine aU ad ?_;refine hJ _ (h4 (some ([4,8,9,12],none)) _ (ae fun rq h5 PC yK => ?_));refine n0 ([]) [8,9,10] [0,1,4] [2,3] (by kernel_rfl) (fun tq gr => ?_);refine im ?_
  have aD := And.intro ad @oj
  refine gx 1 fun tr hK => ?_;refine aT aD ?_;refine bd ?_;refine hK _ ?_;refine gx 1 fun uS iS => ?_;refine aT aD ?_;refine bd ?_;refine iS _ ?_;refine aT aD ?_;refine gr _ (by rfl) (fun uT gu => ?_);refine im ?_;refine l3 ?_;refine ag 1 aD ?_;refine aU aD ?_;refine gu _ ?_;refine om ?_;refine h5 (some ([8,9,10],none)) _ ?_;refine jc aD ?_
  rfl
 rw [if_neg aj]
 have d2 : (a.op == 7) = false := by simpa using aj
 by_cases aw : a.op = 8
 ·rw [if_pos aw]
  have k2 := agn M.lines t bk.lines.lines bk.lines.asks ⟨aO.1,by have := aO.2; omega⟩
  generalize oq M.lines t = R at k2 ⊢
  have d3 : (a.op == 8) = true := by simpa using aw
  unfold bJ xS xP;delta ab aR aa aA a6
  have ad := And.intro @bL (And.intro @cd (And.intro @dV (And.intro @fW (And.intro @ao (And.intro @Ao (And.intro @d2 @d3))))))
  refine ae fun bz aK b6 cb => ai fun b7 aG => ?_;refine an ad ?_;refine aG _ (aK (some ([1,3,4,6,8,9],none)) _ (ae fun b8 aQ bt b5 => ae fun b9 bG c7 dF => ai fun cD bZ => ?_));refine ag 1 ad ?_;refine ag 2 ad ?_;refine aL 1 ad ?_;refine Or.inl (Or.inl ⟨_,b2,?_⟩);refine an ad ?_;refine bZ _ (bG (some ([1,3,4,6,8,9,11],none)) _ (ae fun cv bp cY dk => ai fun cC bD => ?_));refine aU ad ?_;refine bD _ (bp (some ([1,3,4,6,8,9,11,18],none)) _ (bB (aQ (some ([1,3,4,6,8,9],none)) _ (ae fun dy ck gV gA => ai fun bo aP => ?_))));refine aU ad ?_;refine aP _ (ck (some ([1,3,4,6,8,9,12],none)) _ (ae fun ey ee mg jm => cx fun fB ct qj hL gU => ae fun fN eW qi j7 => ai fun gG ed => ?_))
  refine ag 1 ad ?_;refine aL 1 ad ?_;refine Or.inl (Or.inl ⟨_,cy,?_⟩);refine an ad ?_;refine ed _ (eW (some ([1,3,4,6,8,9,12,23],none)) _ (bB (ae fun gZ fQ qY mF => ai fun iK eB => ?_)));refine ag 2 ad ?_;refine ag 1 ad ?_;refine an ad ?_;refine eB _ (fQ (some ([1,3,4,6,8,9,12,33],none)) _ (bB (ae fun j3 fy sX qV => ai fun nk eV => ?_)));refine ag 2 ad ?_;refine ag 1 ad ?_;refine an ad ?_;refine eV _ (fy (some ([1,3,4,6,8,9,12,47],none)) _ (bY (ai fun rm hs => ?_)));refine ag 2 ad ?_;refine aL 1 ad ?_;refine aL 1 ad ?_;refine Or.inl (Or.inl ⟨_,k2,?_⟩);refine aU ad ?_;refine hs _ (ct _ (ee (some ([1,4,8,9,12],none)) _ (ae fun rn h4 Ew O8 => ai fun rp hJ => ?_)));refine ag 2 ad ?_;refine aL 1 ad ?_;refine Or.inl (Or.inr (Or.inl ⟨_,_,_,pk _,?_⟩))
  refine aU ad ?_;refine hJ _ (h4 (some ([1,4,8,9,12],none)) _ (ae fun rq h5 PC yK => ai fun tq gr => ?_));refine ag 2 ad ?_;refine ag 2 ad ?_;refine ag 1 ad ?_;refine ag 1 ad ?_;refine ag 1 ad ?_;refine ag 1 ad ?_;refine aU ad ?_;refine gr _ (h5 (some ([4,8,9,12],none)) _ (ae fun tr ke adE AO => ?_));refine n0 ([]) [8,9,10] [0,1,4] [2,3] (by kernel_rfl) (fun uS iS => ?_);refine im ?_
  have aD := And.intro ad @oj
  refine gx 1 fun uT gu => ?_;refine aT aD ?_;refine bd ?_;refine gu _ ?_;refine gx 1 fun wm iT => ?_;refine aT aD ?_;refine bd ?_;refine iT _ ?_;refine aT aD ?_;refine iS _ (by rfl) (fun wo iU => ?_);refine im ?_;refine l3 ?_;refine ag 1 aD ?_;refine aU aD ?_;refine iU _ ?_;refine om ?_;refine ke (some ([8,9,10],none)) _ ?_;refine jc aD ?_
  rfl
 rw [if_neg aw]
 have d3 : (a.op == 8) = false := by simpa using aw
 by_cases aV : a.op = 0
 ·rw [if_pos aV]
  have d4 : (a.op != 0) = false := by simpa using aV
  unfold bJ xS xP;delta ab aR aa aA a6
  have ad := And.intro @bL (And.intro @cd (And.intro @dV (And.intro @fW (And.intro @ao (And.intro @Ao (And.intro @d2 (And.intro @d3 @d4)))))))
  refine ae fun bz aK b6 cb => ai fun b7 aG => ?_;refine an ad ?_;refine aG _ (aK (some ([1,3,4,6,8,9],none)) _ (ae fun b8 aQ bt b5 => ae fun b9 bG c7 dF => ai fun cD bZ => ?_));refine ag 1 ad ?_;refine ag 2 ad ?_;refine aL 1 ad ?_;refine Or.inl (Or.inl ⟨_,b2,?_⟩);refine an ad ?_;refine bZ _ (bG (some ([1,3,4,6,8,9,11],none)) _ (ae fun cv bp cY dk => ai fun cC bD => ?_));refine aU ad ?_;refine bD _ (bp (some ([1,3,4,6,8,9,11,18],none)) _ (bB (aQ (some ([1,3,4,6,8,9],none)) _ (ae fun dy ck gV gA => ai fun bo aP => ?_))));refine aU ad ?_;refine aP _ (ck (some ([1,3,4,6,8,9,12],none)) _ (ae fun ey ee mg jm => cx fun fB ct qj hL gU => ae fun fN eW qi j7 => ai fun gG ed => ?_))
  refine ag 1 ad ?_;refine aL 1 ad ?_;refine Or.inl (Or.inl ⟨_,cy,?_⟩);refine an ad ?_;refine ed _ (eW (some ([1,3,4,6,8,9,12,23],none)) _ (bB (ae fun gZ fQ qY mF => ai fun iK eB => ?_)));refine ag 2 ad ?_;refine ag 1 ad ?_;refine an ad ?_;refine eB _ (fQ (some ([1,3,4,6,8,9,12,33],none)) _ (bB (ae fun j3 fy sX qV => ai fun nk eV => ?_)));refine ag 2 ad ?_;refine ag 1 ad ?_;refine an ad ?_;refine eV _ (fy (some ([1,3,4,6,8,9,12,47],none)) _ (bB (ae fun rm ic adC tV => ai fun rn hz => ?_)));refine ag 2 ad ?_;refine ag 1 ad ?_;refine an ad ?_;refine hz _ (ic (some ([1,3,4,6,8,9,12,59],none)) _ (bB (ct _ (ee (some ([1,4,8,9,12],none)) _ (ae fun rp ix _ _ => ai fun rq ht => ?_)))))
  refine ag 2 ad ?_;refine aL 1 ad ?_;refine Or.inl (Or.inr (Or.inl ⟨_,_,_,pk _,?_⟩));refine aU ad ?_;refine ht _ (ix (some ([1,4,8,9,12],none)) _ (ae fun tq lS _ _ => ai fun tr hK => ?_));refine ag 2 ad ?_;refine ag 2 ad ?_;refine ag 1 ad ?_;refine ag 1 ad ?_;refine ag 1 ad ?_;refine ag 1 ad ?_;refine aU ad ?_;refine hK _ (lS (some ([4,8,9,12],none)) _ (ae fun uS iX _ _ => ?_));refine n0 ([]) [8,9,10] [0,1,4] [2,3] (by kernel_rfl) (fun uT gu => ?_);refine im ?_
  have aD := And.intro ad @oj
  refine gx 1 fun wm iT => ?_;refine aT aD ?_;refine bd ?_;refine iT _ ?_;refine gx 1 fun wo iU => ?_;refine aT aD ?_;refine bd ?_;refine iU _ ?_;refine aT aD ?_;refine gu _ (by rfl) (fun GC iV => ?_);refine im ?_;refine l3 ?_;refine ag 1 aD ?_;refine aU aD ?_;refine iV _ ?_;refine om ?_;refine iX (some ([8,9,10],none)) _ ?_;refine jc aD ?_
  rfl
 rw [if_neg aV]
 have d4 : (a.op != 0) = true := by simpa using aV
 have k2 := afW M t a c bk.mem (by omega)
 have cg : (vS M t a c).1.steps = M.steps := by unfold vS; split <;> rfl
 generalize vS M t a c = R at k2 cg ⊢
 obtain ⟨⟨la,lb,qD,MQ⟩,WB⟩ := R
 simp only at k2 cg ⊢
 subst cg
 unfold bJ xS xP;delta ab aR aa aA a6
 have ad := And.intro @bL (And.intro @cd (And.intro @dV (And.intro @fW (And.intro @ao (And.intro @Ao (And.intro @d2 (And.intro @d3 @d4)))))))
 refine ae fun bz aK b6 cb => ai fun b7 aG => ?_;refine an ad ?_;refine aG _ (aK (some ([1,3,4,6,8,9],none)) _ (ae fun b8 aQ bt b5 => ae fun b9 bG c7 dF => ai fun cD bZ => ?_));refine ag 1 ad ?_;refine ag 2 ad ?_;refine aL 1 ad ?_;refine Or.inl (Or.inl ⟨_,b2,?_⟩);refine an ad ?_;refine bZ _ (bG (some ([1,3,4,6,8,9,11],none)) _ (ae fun cv bp cY dk => ai fun cC bD => ?_));refine aU ad ?_;refine bD _ (bp (some ([1,3,4,6,8,9,11,18],none)) _ (bB (aQ (some ([1,3,4,6,8,9],none)) _ (ae fun dy ck gV gA => ai fun bo aP => ?_))));refine aU ad ?_;refine aP _ (ck (some ([1,3,4,6,8,9,12],none)) _ (ae fun ey ee mg jm => cx fun fB ct qj hL gU => ae fun fN eW qi j7 => ai fun gG ed => ?_))
 refine ag 1 ad ?_;refine aL 1 ad ?_;refine Or.inl (Or.inl ⟨_,cy,?_⟩);refine an ad ?_;refine ed _ (eW (some ([1,3,4,6,8,9,12,23],none)) _ (bB (ae fun gZ fQ qY mF => ai fun iK eB => ?_)));refine ag 2 ad ?_;refine ag 1 ad ?_;refine an ad ?_;refine eB _ (fQ (some ([1,3,4,6,8,9,12,33],none)) _ (bB (ae fun j3 fy sX qV => ai fun nk eV => ?_)));refine ag 2 ad ?_;refine ag 1 ad ?_;refine an ad ?_;refine eV _ (fy (some ([1,3,4,6,8,9,12,47],none)) _ (bB (ae fun rm ic adC tV => ai fun rn hz => ?_)));refine ag 2 ad ?_;refine ag 1 ad ?_;refine an ad ?_;refine hz _ (ic (some ([1,3,4,6,8,9,12,59],none)) _ (bY (ai fun rp hJ => ?_)));refine ag 1 ad ?_;refine ag 2 ad ?_;refine aL 1 ad ?_;refine aL 1 ad ?_;refine Or.inl (Or.inl ⟨_,k2,?_⟩)
 refine ag 4 ad ?_;refine aU ad ?_;refine hJ _ (ct _ (ee (some ([1,4,8,9,12],none)) _ (ae fun rq h5 PC yK => ai fun tq gr => ?_)));refine ag 2 ad ?_;refine aL 1 ad ?_;refine Or.inl (Or.inr (Or.inl ⟨_,_,_,pk _,?_⟩));refine aU ad ?_;refine gr _ (h5 (some ([1,4,8,9,12],none)) _ (ae fun tr ke adE AO => ai fun uS iS => ?_));refine ag 2 ad ?_;refine ag 2 ad ?_;refine ag 1 ad ?_;refine ag 1 ad ?_;refine ag 1 ad ?_;refine ag 1 ad ?_;refine aU ad ?_;refine iS _ (ke (some ([4,8,9,12],none)) _ (ae fun uT qd _ _ => ?_));refine n0 ([]) [8,9,10] [0,1,4] [2,3] (by kernel_rfl) (fun wm iT => ?_);refine im ?_
 have aD := And.intro ad @oj
 refine gx 1 fun wo iU => ?_;refine aT aD ?_;refine bd ?_;refine iU _ ?_;refine gx 1 fun GC iV => ?_;refine aT aD ?_;refine bd ?_;refine iV _ ?_;refine aT aD ?_;refine iT _ (by rfl) (fun _ iW => ?_);refine im ?_;refine l3 ?_;refine ag 1 aD ?_;refine aU aD ?_;refine iW _ ?_;refine om ?_;refine qd (some ([8,9,10],none)) _ ?_
 exact cO aD
set_option maxHeartbeats 4000000 in
theorem afU (M : e0) (c : Int) {n : Nat} (bk : m1 M n) (a7 : n ≤ 900) : cu 50 [mA M,aI c] (mA (yq M c)) := by
 refine df Tryz.func50 aje rfl ?_
 have b2 := BZ M
 unfold yq
 by_cases af : M.mem.views.length = 0
 ·rw [if_pos (.inl af)]
  have d1 : ((M.mem.views.length : Int) == 0) = true := by simp [af]
  unfold bJ FQ FG;delta ab aR a9 aa aA a6
  have ad := @d1
  refine ae fun bz aK b6 cb => ai fun b7 aG => ?_;refine an ad ?_;refine aG _ (aK (some ([1,2,4],none)) _ (ae fun b8 aQ bt b5 => ai fun b9 bh => ?_));refine ag 1 ad ?_;refine aL 1 ad ?_;refine Or.inl (Or.inl ⟨_,b2,?_⟩);refine an ad ?_;refine bh _ (aQ (some ([1,2,4,5,6],none)) _ (ae fun cD bT dG eG => ae fun cv bp cY dk => ai fun cC bD => ?_));refine ag 2 ad ?_;refine ag 3 ad ?_;refine an ad ?_;refine bD _ (bp (some ([1,2,4,5,19],none)) _ (bY (ae fun dy ck gV gA => ai fun bo aP => ?_)));refine ag 1 ad ?_;refine aU ad ?_;refine aP _ (ck (some ([4],none)) _ (dG _ ?_))
  exact cO ad
 have d1 : ((M.mem.views.length : Int) == 0) = false := by simp; exact fun e => af (by rw [e]; rfl)
 by_cases aj : M.mem.places.length = 0
 ·rw [if_pos (.inr aj)]
  have d2 : ((M.mem.places.length : Int) == 0) = true := by simp [aj]
  unfold bJ FQ FG;delta ab aR a9 aa aA a6
  have ad := And.intro @d1 @d2
  refine ae fun bz aK b6 cb => ai fun b7 aG => ?_;refine an ad ?_;refine aG _ (aK (some ([1,2,4],none)) _ (ae fun b8 aQ bt b5 => ai fun b9 bh => ?_));refine ag 1 ad ?_;refine aL 1 ad ?_;refine Or.inl (Or.inl ⟨_,b2,?_⟩);refine an ad ?_;refine bh _ (aQ (some ([1,2,4,5,6],none)) _ (ae fun cD bT dG eG => ae fun cv bp cY dk => ai fun cC bD => ?_));refine ag 2 ad ?_;refine ag 3 ad ?_;refine an ad ?_;refine bD _ (bp (some ([1,2,4,5,19],none)) _ (bY (ae fun dy ck gV gA => ai fun bo aP => ?_)));refine ag 1 ad ?_;refine aU ad ?_;refine aP _ (ck (some ([4],none)) _ (dG _ ?_))
  exact cO ad
 have d2 : ((M.mem.places.length : Int) == 0) = false := by simp; exact fun e => aj (by rw [e]; rfl)
 have h : ¬ (M.mem.views.length = 0 ∨ M.mem.places.length = 0) := fun h => h.elim af aj
 rw [if_neg h]
 have cy := agh M.lines c bk.lines.lines (fun y a1 => Nat.le_trans (bk.lines.mn y a1) (by omega))
 have k2 := J9 M.mem.views.length 0 (r8 M.lines (kG c))
 have bb := No bk c h
 unfold j5 at k2
 rw [if_pos bb] at k2
 have az := bk.jR
 have bL : IntKind.i64.wrap (M.jR + 1) = M.jR + 1 := by rw [IntKind.wrap_i64]; omega
 have nb := fun g => (Rs g (M.steps.map tI) (by have := bk.threads; have := bk.mem.o2; simp; omega)).ok
 generalize r8 M.lines (kG c) = W at cy k2 ⊢
 generalize (gC M.mem.views.length W).1 = R at k2 ⊢
 unfold bJ FQ FG;delta ab aR a9 aa aA a6
 have ad := And.intro @d1 (And.intro @d2 @bL)
 refine ae fun bz aK b6 cb => ai fun b7 aG => ?_;refine an ad ?_;refine aG _ (aK (some ([1,2,4],none)) _ (ae fun b8 aQ bt b5 => ai fun b9 bh => ?_));refine ag 1 ad ?_;refine aL 1 ad ?_;refine Or.inl (Or.inl ⟨_,b2,?_⟩);refine an ad ?_;refine bh _ (aQ (some ([1,2,4,5,6],none)) _ (ae fun cD bT dG eG => ae fun cv bp cY dk => ai fun cC bD => ?_));refine ag 2 ad ?_;refine ag 3 ad ?_;refine an ad ?_;refine bD _ (bp (some ([1,2,4,5,19],none)) _ (bB (bT (some ([1,2,4,5],none)) _ (ae fun dy ck gV gA => ai fun bo aP => ?_))));refine ag 3 ad ?_;refine aL 1 ad ?_;refine aL 1 ad ?_;refine Or.inl (Or.inl ⟨_,cy,?_⟩);refine aL 1 ad ?_;refine Or.inl (Or.inl ⟨_,k2,?_⟩);refine ag 5 ad ?_;refine an ad ?_;refine aP _ (ck (some ([2,4,7,8],none)) _ ?_)
 refine ae fun _ ee _ _ => ae fun _ ct _ _ => ai fun _ cG => ?_;refine aU ad ?_;refine cG _ (ct (some ([2,4,7,31],none)) _ (bB (ee (some ([2,4,7],none)) _ (ae fun _ dJ _ _ => ?_))));refine n0 ([]) [4,7] [0,1,2,3,4,5,6,8] [7,9] (by kernel_rfl) (fun _ dt => ?_);refine im ?_
 have aD := And.intro ad @oj
 refine gx 2 fun _ eB => ?_;refine aT aD ?_;refine bd ?_;refine eB _ ?_;refine gx 1 fun _ gq => ?_;refine aT aD ?_;refine ⟨_,nb _,?_⟩;refine gq _ ?_;refine gx 2 fun _ eV => ?_;refine aT aD ?_;refine bd ?_;refine eV _ ?_;refine gx 1 fun _ hs => ?_;refine aT aD ?_;refine bd ?_;refine hs _ ?_;refine aT aD ?_;refine dt _ (by rfl) (fun _ hz => ?_);refine im ?_;refine l3 ?_;refine ag 1 aD ?_;refine aU aD ?_;refine hz _ ?_;refine om ?_;refine dJ (some ([4,7],none)) _ (ae fun _ ix _ _ => ai fun _ ht => ?_);refine ag 1 aD ?_;refine aU aD ?_;refine ht _ (ix (some ([4],none)) _ ?_)
 exact cO aD
end Go.Proofs.YtkmbcjnaaokilaaGreatDoor
