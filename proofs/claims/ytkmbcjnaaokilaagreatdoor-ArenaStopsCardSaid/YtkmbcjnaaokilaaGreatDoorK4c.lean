/-
  Layer 4 by shadows: the operations.
-/
import Derived.Test.YtkmbcjnaaokilaaGreatDoorK4b
namespace Go.Proofs.YtkmbcjnaaokilaaGreatDoor
set_option linter.unusedSimpArgs false
set_option linter.unusedVariables false
open Go.RowKit Go.Maps
theorem s9 {M : c6} {n k : Nat} (h : gg M n) (aB : n ≤ k) : gg M k := ⟨h.pl,h.o2,h.one,fun x ar => Nat.le_trans (h.mn x ar) aB,h.msgs,h.views⟩
theorem Qj {M : c6} {n : Nat} (h : gg M n) (t : Int) {v : hS} (bj : mw v) : gg (sx M t v) n := by
 refine ⟨h.pl,by simp only [sx,List.length_set]; exact h.o2,h.one,h.mn,h.msgs,fun x ar => ?_⟩
 rcases List.mem_or_eq_of_mem_set ar with ar | rfl
 ·exact h.views x ar
 ·exact bj
theorem Qi {M : c6} {n : Nat} (h : gg M n) (t a i : Int) (j : Bool) : gg (mB M t a i j).1 n := by
 unfold mB
 refine Qj h t ?_
 split
 ·exact akI (x0 (xV h t) _ _) (G0 h a i)
 ·exact x0 (xV h t) _ _
theorem Qh {M : c6} {n : Nat} (h : gg M n) (t a : Int) (w : bq) (b : Bool) : gg (j4 M t a w b) (n + 1) := by
 unfold j4
 have aF := A1 h a
 have Bg : ∀ x ∈ dI M a,mw x.view := fun x ar => by
  unfold dI at ar
  split at ar
  ·cases a8 : M.places[a.toNat]? with
   | none => rw [a8] at ar; simp at ar
   | some aj => rw [a8] at ar; exact h.msgs aj (List.mem_of_getElem? a8) x ar
  ·simp at ar
 refine Qj (M := { M with places := M.places.set a.toNat (dI M a ++ [⟨w,t,th M t a b⟩]) }) ?_ t (x0 (xV h t) _ _);refine ⟨by simpa using h.pl,h.o2,fun x ar => ?_,fun x ar => ?_,fun x ar m hm => ?_,h.views⟩
 ·rcases List.mem_or_eq_of_mem_set ar with ar | rfl
  ·exact h.one x ar
  ·simp
 ·rcases List.mem_or_eq_of_mem_set ar with ar | rfl
  ·have := h.mn x ar; omega
  ·simp; omega
 ·rcases List.mem_or_eq_of_mem_set ar with ar | rfl
  ·exact h.msgs x ar m hm
  ·rcases List.mem_append.1 hm with hm | hm
   ·exact Bg m hm
   ·simp only [List.mem_singleton] at hm
    subst hm
    unfold th
    simp only
    split
    ·exact x0 (xV h t) _ _
    ·exact x0 wb _ _
theorem LM (M : c6) (t a i : Int) (j : Bool) : (mB M t a i j).1.views.length = M.views.length ∧ (mB M t a i j).1.places = M.places := by simp [mB,sx]
theorem LL (M : c6) (t a : Int) (w : bq) (b : Bool) : (j4 M t a w b).views.length = M.views.length ∧ (j4 M t a w b).places.length = M.places.length := by simp [j4,sx]
theorem aeX {M : c6} {n : Nat} (h : gg M n) (t a : Int) (q : Bool) (c : Int) : gg (nc M t a q c).1 n := by
 unfold nc; split
 ·exact Qi h _ _ _ _
 ·exact h
theorem BO {M : c6} {n : Nat} (h : gg M n) (t a : Int) : gg (fb M t a).1 n := by
 unfold fb; split
 ·exact Qi h _ _ _ _
 ·exact h
theorem aeY {M : c6} {n : Nat} (h : gg M n) (t a : Int) (w : bq) (b : Bool) : gg (nH M t a w b).1 (n + 1) := by
 unfold nH; split
 ·exact Qh h _ _ _ _
 ·exact s9 h (by omega)
theorem aeZ {M : c6} {n : Nat} (h : gg M n) (t a : Int) (o w : bq) : gg (ih M t a o w).1 (n + 1) := by
 unfold ih; split
 ·exact Qh (BO h _ _) _ _ _ _
 ·exact s9 (BO h _ _) (by omega)
theorem zp (M : c6) (t a : Int) : (fb M t a).1.views.length = M.views.length ∧ (fb M t a).1.places = M.places := by
 unfold fb; split
 ·exact LM _ _ _ _ _
 ·exact ⟨rfl,rfl⟩
theorem Q1 (M : c6) (t a : Int) (j : Bool) (f : FuncId) (first : List av) (h : ¬ mq M t a = 0) : cu 111 [iF M,aI t,aI a,dH j,.fn (.func f) first []] (.bR [iF M,.agg (dj gv),aI (mq M t a)]) := by
 refine df Tryz.func111 Uk rfl ?_
 have az := Kg M t a
 generalize mq M t a = e at h az ⊢
 have d : (e != 0) = true := by simpa using h
 unfold bJ LC K9;delta ab aR aa aA
 have ad := @d
 refine ae fun _ aK _ _ => ai fun _ aG => ?_;refine an ad ?_;refine aG _ (aK (some ([1,2,3,4,5,10,11],none)) _ (ae fun _ _ bt _ => ae fun _ bG _ _ => ai fun _ bZ => ?_));refine ag 1 ad ?_;refine aL 2 ad ?_;refine aL 1 ad ?_;refine Or.inl (Or.inl ⟨_,az,?_⟩);refine an ad ?_;refine bZ _ (bG (some ([1,2,3,4,5,10,11,13],none)) _ (ae fun _ bp _ _ => ai fun _ bD => ?_));refine aU ad ?_;refine bD _ (bp (some ([1,2,3,4,5,10,11,13,21],none)) _ (bY (ae fun _ ck _ _ => ai fun _ aP => ?_)));refine ag 1 ad ?_;refine ag 3 ad ?_;refine ag 1 ad ?_;refine an ad ?_;refine aP _ (ck (some ([10,11,12],none)) _ (bt _ ?_));refine jc ad ?_
 rfl
set_option maxHeartbeats 2000000 in
theorem Q0 (M : c6) (t a : Int) (j : Bool) (f : FuncId) (first : List av) (p : Int) {n : Nat} (bk : gg M n) (aO : hl M t) (aZ : fq M a) (bK : Enters f) (aW : cu f (first ++ [rz (dI M a),aI (gl (gL M t) a)]) (aI p)) :
  cu 111 [iF M,aI t,aI a,dH j,.fn (.func f) first []] (.bR [iF (mB M t a p j).1,.agg (dj (mB M t a p j).2),aI 0]) := by
 refine df Tryz.func111 Uk rfl ?_
 have az := Kg M t a
 rw [pF.2 ⟨aO,aZ⟩] at az
 have hb := agt M t a p j bk aO aZ
 have ka := (xE bk aZ).1
 generalize mB M t a p j = R at hb ⊢
 obtain ⟨m,rfl,hm,e,_⟩ := y9 aZ
 unfold bJ LC K9;delta ab aR aa aA
 have ad := @e
 refine ae fun _ aK _ _ => ai fun _ aG => ?_;refine an ad ?_;refine aG _ (aK (some ([1,2,3,4,5,10,11],none)) _ (ae fun _ aQ _ _ => ae fun _ bG _ _ => ai fun _ bZ => ?_));refine ag 1 ad ?_;refine aL 2 ad ?_;refine aL 1 ad ?_;refine Or.inl (Or.inl ⟨_,az,?_⟩);refine an ad ?_;refine bZ _ (bG (some ([1,2,3,4,5,10,11,13],none)) _ (ae fun _ bp _ _ => ai fun _ bD => ?_));refine aU ad ?_;refine bD _ (bp (some ([1,2,3,4,5,10,11,13,21],none)) _ (bB (aQ (some ([1,2,3,4,5,10,11],none)) _ (ae fun _ ck _ _ => ?_))));refine hy [] (n := 22) fun _ aP => ?_;refine hv ?_;refine cR 1 ad ?_;refine cR 5 ad ?_;refine cR 2 ad ?_;refine cR 1 ad ?_;refine cR 1 ad ?_;refine gj 1 ad ?_;refine gj 1 ad ?_;refine ⟨_,B0 M t bk.o2,?_⟩;refine gj 1 ad ?_;refine gj 1 ad ?_;refine ⟨_,agJ _ _ ka,?_⟩
 refine gj 1 ad ?_;refine ⟨bK,_,aW,?_⟩;refine gj 1 ad ?_;refine gj 1 ad ?_;refine ⟨_,hb,?_⟩;refine lJ ad ?_;refine aP _ ?_;refine hx ?_;refine ag 1 ad ?_;refine aU ad ?_;refine ck (some ([10,11,14,15],none)) _ (ae fun _ ct _ _ => ?_);refine vb ([]) ?_ (fun _ cG => ?_) ?_
 rotate_left
 ·skip
  refine ⟨?_,?_⟩
  ·skip
   refine bC rfl fun _ ed => ?_;refine aT ad ?_;refine bd ?_;refine ed _ ?_;refine ⟨?_,?_⟩
   ·skip
    refine bC rfl fun _ dt => ?_;refine aT ad ?_;refine bd ?_;refine dt _ ?_;refine bC rfl fun _ eB => ?_;refine aT ad ?_;refine bd ?_;refine eB _ ?_;refine bC rfl fun _ gq => ?_;refine aT ad ?_;refine bd ?_;refine gq _ ?_;refine gI rfl fun _ eV => ?_;refine aT ad ?_;refine eV _ ?_;refine cG _ (some ([10,11,12],none)) ?_
    exact g6
   ·skip
    refine bC rfl fun _ hs => ?_;refine aT ad ?_;refine bd ?_;refine hs _ ?_;refine bC rfl fun _ hz => ?_;refine aT ad ?_;refine bd ?_;refine hz _ ?_;refine bC rfl fun _ hJ => ?_;refine aT ad ?_;refine bd ?_;refine hJ _ ?_;refine gI rfl fun _ ht => ?_;refine aT ad ?_;refine ht _ ?_;refine cG _ (some ([10,11,12],none)) ?_
    exact g6
  ·skip
   refine bC rfl fun _ gr => ?_;refine aT ad ?_;refine bd ?_;refine gr _ ?_;refine bC rfl fun _ hK => ?_;refine aT ad ?_;refine bd ?_;refine hK _ ?_;refine bC rfl fun _ iS => ?_;refine aT ad ?_;refine bd ?_;refine iS _ ?_;refine bC rfl fun _ gu => ?_;refine aT ad ?_;refine bd ?_;refine gu _ ?_;refine gI rfl fun _ iT => ?_;refine aT ad ?_;refine iT _ ?_;refine cG _ (some ([10,11,12],none)) ?_
   exact g6
 refine ct (some ([10,11,12],none)) _ ?_
 exact cO ad
theorem agw (M : c6) (t a : Int) (q : Bool) (c : Int) {n : Nat} (bk : gg M n) (a7 : n ≤ 10000) : cu 106 [iF M,aI t,aI a,dH q,aI c] (.bR [iF (nc M t a q c).1,.agg (dj (nc M t a q c).2.1),aI (nc M t a q c).2.2]) := by
 have aF := A1 bk a
 have h : cu 111 [iF M,aI t,aI a,dH q,.fn (.func 113) [aI c] []] (.bR [iF (nc M t a q c).1,.agg (dj (nc M t a q c).2.1),aI (nc M t a q c).2.2]) := by
  unfold nc
  by_cases hw : mq M t a = 0
  ·rw [if_pos hw]
   obtain ⟨aO,aZ⟩ := pF.1 hw
   exact Q0 M t a q 113 [aI c] _ bk aO aZ (nn Tryz.func113 rfl rfl) (agF _ _ c (by omega))
  ·rw [if_neg hw]
   exact Q1 M t a q 113 [aI c] hw
 generalize nc M t a q c = R at h ⊢
 refine df Tryz.func106 akk rfl ?_
 unfold bJ TA Ss;delta ab aR aa aA
 refine ae fun _ aK _ _ => ai fun _ aG => ?_;refine cz ?_;refine aG _ (aK (some ([1,2,3,4,5,10,11],none)) _ (ae fun _ aQ _ _ => ai fun _ bh => ?_));refine cV 1 ?_;refine eu 5 ?_;refine eu 1 ?_;refine Or.inl (Or.inl ⟨_,h,?_⟩);refine cV 4 ?_;refine cV 1 ?_;refine cz ?_;refine bh _ (aQ (some ([10,11,12],none)) _ ?_)
 exact jb
theorem QY (M : c6) (t a : Int) {n : Nat} (bk : gg M n) (a7 : n ≤ 10000) : cu 105 [iF M,aI t,aI a] (.bR [iF (fb M t a).1,.agg (dj (fb M t a).2.1),aI (fb M t a).2.2]) := by
 have aF := A1 bk a
 have h : cu 111 [iF M,aI t,aI a,dH true,.fn (.func 112) [aI 0] []] (.bR [iF (fb M t a).1,.agg (dj (fb M t a).2.1),aI (fb M t a).2.2]) := by
  unfold fb
  by_cases hw : mq M t a = 0
  ·rw [if_pos hw]
   obtain ⟨aO,aZ⟩ := pF.1 hw
   exact Q0 M t a true 112 [aI 0] _ bk aO aZ (nn Tryz.func112 rfl rfl) (agE _ _ 0 (by omega))
  ·rw [if_neg hw]
   exact Q1 M t a true 112 [aI 0] hw
 generalize fb M t a = R at h ⊢
 refine df Tryz.func105 akl rfl ?_
 unfold bJ TB St;delta ab aR aa aA a6
 refine ae fun _ aK _ _ => ai fun _ aG => ?_;refine cz ?_;refine aG _ (aK (some ([1,2,3,6,7],none)) _ (ae fun _ aQ _ _ => ai fun _ bh => ?_));refine cV 1 ?_;refine eu 3 ?_;refine eu 1 ?_;refine Or.inl (Or.inl ⟨_,h,?_⟩);refine cV 4 ?_;refine cV 1 ?_;refine cz ?_;refine bh _ (aQ (some ([6,7,8],none)) _ ?_)
 exact jb
theorem agz (M : c6) (t a : Int) (w : bq) (b : Bool) {n : Nat} (bk : gg M n) (a7 : n ≤ 10000) : cu 98 [iF M,aI t,aI a,.agg (dj w),dH b] (.bR [iF (nH M t a w b).1,aI (nH M t a w b).2]) := by
 refine df Tryz.func98 akq rfl ?_
 unfold nH
 have az := Kg M t a
 by_cases hw : mq M t a = 0
 ·rw [if_pos hw]
  obtain ⟨aO,aZ⟩ := pF.1 hw
  rw [hw] at az
  have cw := QX M t a w b bk a7 aO aZ
  generalize j4 M t a w b = R at cw ⊢
  unfold bJ LB K8;delta ab aR aa aA
  refine ae fun bz aK b6 cb => ai fun b7 aG => ?_;refine cz ?_;refine aG _ (aK (some ([1,2,4,5,8,10],none)) _ (ae fun b8 aQ bt b5 => ae fun b9 bG c7 dF => ai fun cD bZ => ?_));refine cV 1 ?_;refine eu 2 ?_;refine eu 1 ?_;refine Or.inl (Or.inl ⟨_,az,?_⟩);refine cz ?_;refine bZ _ (bG (some ([1,2,4,5,8,10,12],none)) _ (ae fun cv bp cY dk => ai fun cC bD => ?_));refine mW ?_;refine bD _ (bp (some ([1,2,4,5,8,10,12,18],none)) _ (bB (aQ (some ([1,2,4,5,8,10],none)) _ (ae fun dy ck gV gA => ai fun bo aP => ?_))));refine cV 1 ?_;refine cV 3 ?_;refine eu 1 ?_;refine eu 1 ?_;refine Or.inl (Or.inl ⟨_,cw,?_⟩);refine cV 1 ?_;refine cz ?_;refine aP _ (ck (some ([10,11],none)) _ ?_)
  exact jb
 ·rw [if_neg hw]
  generalize mq M t a = e at hw az ⊢
  have d : (e != 0) = true := by simpa using hw
  unfold bJ LB K8;delta ab aR aa aA
  have ad := @d
  refine ae fun bz aK b6 cb => ai fun b7 aG => ?_;refine an ad ?_;refine aG _ (aK (some ([1,2,4,5,8,10],none)) _ (ae fun b8 aQ bt b5 => ae fun b9 bG c7 dF => ai fun cD bZ => ?_));refine ag 1 ad ?_;refine aL 2 ad ?_;refine aL 1 ad ?_;refine Or.inl (Or.inl ⟨_,az,?_⟩);refine an ad ?_;refine bZ _ (bG (some ([1,2,4,5,8,10,12],none)) _ (ae fun cv bp cY dk => ai fun cC bD => ?_));refine aU ad ?_;refine bD _ (bp (some ([1,2,4,5,8,10,12,18],none)) _ (bY (ae fun dy ck gV gA => ai fun bo aP => ?_)));refine ag 1 ad ?_;refine ag 2 ad ?_;refine an ad ?_;refine aP _ (ck (some ([10,11],none)) _ (bt _ ?_))
  exact cO ad
set_option maxHeartbeats 2000000 in
theorem agA (M : c6) (t a : Int) (o w : bq) {n : Nat} (bk : gg M n) (a7 : n ≤ 10000) : cu 97 [iF M,aI t,aI a,.agg (dj o),.agg (dj w)] (.bR [iF (ih M t a o w).1,.agg (dj (ih M t a o w).2.1),dH (ih M t a o w).2.2.1,aI (ih M t a o w).2.2.2]) := by
 refine df Tryz.func97 akr rfl ?_
 have dn := QY M t a bk a7
 have OT := BO bk t a
 obtain ⟨s1,s2⟩ := zp M t a
 unfold ih
 by_cases hw : mq M t a = 0
 ·obtain ⟨aO,aZ⟩ := pF.1 hw
  have cg : (fb M t a).2.2 = 0 := by unfold fb; rw [if_pos hw]
  rw [cg] at dn
  have vA : hl (fb M t a).1 t := by unfold hl; rw [s1]; exact aO
  have tR : fq (fb M t a).1 a := by unfold fq; rw [s2]; exact aZ
  have cw := QX (fb M t a).1 t a w true OT a7 vA tR
  rw [cg]
  by_cases he : mY (fb M t a).2.1 o = true
  ·rw [if_pos ⟨hw,he⟩]
   have bK : sA 79 (.agg (dj (fb M t a).2.1)) (.agg (dj o)) true := by rw [← he]; exact Ny _ _
   generalize j4 (fb M t a).1 t a w true = R at cw ⊢
   generalize fb M t a = Q at dn cw bK ⊢
   unfold bJ FW FL;delta ab aR a9 aa aA a6
   refine ae fun bz aK b6 cb => ai fun b7 aG => ?_;refine cz ?_;refine aG _ (aK (some ([1,2,5,8,9,10,11],none)) _ (ae fun b8 aQ bt b5 => ai fun b9 bh => ?_));refine cV 1 ?_;refine eu 2 ?_;refine eu 1 ?_;refine Or.inl (Or.inl ⟨_,dn,?_⟩);refine cV 7 ?_;refine cV 1 ?_;refine cz ?_;refine bh _ (aQ (some ([1,2,8,9,10,11,14,15,16],none)) _ (ae fun cD bT dG eG => ae fun cv bp cY dk => ai fun cC bD => ?_));refine cV 2 ?_;refine cV 2 ?_;refine cV 1 ?_;refine eu 1 ?_;refine Or.inl ⟨_,bK,?_⟩;refine cz ?_;refine bD _ (bp (some ([1,2,9,10,11,14,15,16,31],none)) _ (bB (bT (some ([1,2,9,10,11,14,15],none)) _ (ae fun dy ck gV gA => ?_))));refine vb ([]) ?_ (fun bo aP => ?_) ?_
   rotate_left
   ·skip
    refine gI rfl fun ey cF => ?_;refine c5 ?_;refine cF _ ?_;refine gI rfl fun fB eU => ?_;refine c5 ?_;refine eU _ ?_;refine ⟨?_,?_⟩
    ·skip
     refine ⟨?_,?_⟩
     ·skip
      refine bC rfl fun fN cG => ?_;refine c5 ?_;refine bd ?_;refine cG _ ?_;refine ⟨?_,?_⟩
      ·skip
       refine bC rfl fun gG ed => ?_;refine c5 ?_;refine bd ?_;refine ed _ ?_;refine ⟨?_,?_⟩
       ·skip
        refine bC rfl fun gZ dt => ?_;refine c5 ?_;refine Or.inl (Or.inl ⟨_,cw,?_⟩);refine dt _ ?_;refine ⟨?_,?_⟩
        ·skip
         refine bC rfl fun iK eB => ?_;refine c5 ?_;refine bd ?_;refine eB _ ?_;refine bC rfl fun j3 gq => ?_;refine c5 ?_;refine bd ?_;refine gq _ ?_;refine bC rfl fun nk eV => ?_;refine c5 ?_;refine bd ?_;refine eV _ ?_;refine gI rfl fun rm hs => ?_;refine c5 ?_;refine hs _ ?_;refine gI rfl fun rn hz => ?_;refine c5 ?_;refine hz _ ?_;refine aP _ (some ([10,11,12,13],none)) ?_
         exact g6
        ·skip
         refine bC rfl fun rp hJ => ?_;refine c5 ?_;refine bd ?_;refine hJ _ ?_;refine bC rfl fun rq ht => ?_;refine c5 ?_;refine bd ?_;refine ht _ ?_;refine bC rfl fun tq gr => ?_;refine c5 ?_;refine bd ?_;refine gr _ ?_;refine gI rfl fun tr hK => ?_;refine c5 ?_;refine hK _ ?_;refine gI rfl fun uS iS => ?_;refine c5 ?_;refine iS _ ?_;refine aP _ (some ([10,11,12,13],none)) ?_
         exact g6
       ·skip
        refine bC rfl fun uT gu => ?_;refine c5 ?_;refine bd ?_;refine gu _ ?_;refine bC rfl fun wm iT => ?_;refine c5 ?_;refine Or.inl (Or.inl ⟨_,cw,?_⟩);refine iT _ ?_;refine bC rfl fun wo iU => ?_;refine c5 ?_;refine bd ?_;refine iU _ ?_;refine bC rfl fun _ iV => ?_;refine c5 ?_;refine bd ?_;refine iV _ ?_;refine gI rfl fun _ iW => ?_;refine c5 ?_;refine iW _ ?_;refine gI rfl fun _ kb => ?_;refine c5 ?_;refine kb _ ?_;refine aP _ (some ([10,11,12,13],none)) ?_
        exact g6
      ·skip
       refine bC rfl fun _ lQ => ?_;refine c5 ?_;refine bd ?_;refine lQ _ ?_;refine bC rfl fun _ ny => ?_;refine c5 ?_;refine bd ?_;refine ny _ ?_;refine bC rfl fun _ tX => ?_;refine c5 ?_;refine Or.inl (Or.inl ⟨_,cw,?_⟩);refine tX _ ?_;refine bC rfl fun _ lR => ?_;refine c5 ?_;refine bd ?_;refine lR _ ?_;refine bC rfl fun _ oH => ?_;refine c5 ?_;refine bd ?_;refine oH _ ?_;refine gI rfl fun _ oI => ?_;refine c5 ?_;refine oI _ ?_;refine gI rfl fun _ mH => ?_;refine c5 ?_;refine mH _ ?_;refine aP _ (some ([10,11,12,13],none)) ?_
       exact g6
     ·skip
      refine bC rfl fun _ oJ => ?_;refine c5 ?_;refine bd ?_;refine oJ _ ?_;refine ⟨?_,?_⟩
      ·skip
       refine bC rfl fun _ jE => ?_;refine c5 ?_;refine bd ?_;refine jE _ ?_;refine ⟨?_,?_⟩
       ·skip
        refine bC rfl fun _ nz => ?_;refine c5 ?_;refine Or.inl (Or.inl ⟨_,cw,?_⟩);refine nz _ ?_;refine ⟨?_,?_⟩
        ·skip
         refine bC rfl fun _ mI => ?_;refine c5 ?_;refine bd ?_;refine mI _ ?_;refine bC rfl fun _ nA => ?_;refine c5 ?_;refine bd ?_;refine nA _ ?_;refine bC rfl fun _ tY => ?_;refine c5 ?_;refine bd ?_;refine tY _ ?_;refine gI rfl fun _ qX => ?_;refine c5 ?_;refine qX _ ?_;refine gI rfl fun _ p6 => ?_;refine c5 ?_;refine p6 _ ?_;refine aP _ (some ([10,11,12,13],none)) ?_
         exact g6
        ·skip
         refine bC rfl fun _ rN => ?_;refine c5 ?_;refine bd ?_;refine rN _ ?_;refine bC rfl fun _ rO => ?_;refine c5 ?_;refine bd ?_;refine rO _ ?_;refine bC rfl fun _ p7 => ?_;refine c5 ?_;refine bd ?_;refine p7 _ ?_;refine gI rfl fun _ rP => ?_;refine c5 ?_;refine rP _ ?_;refine gI rfl fun _ rQ => ?_;refine c5 ?_;refine rQ _ ?_;refine aP _ (some ([10,11,12,13],none)) ?_
         exact g6
       ·skip
        refine bC rfl fun _ p8 => ?_;refine c5 ?_;refine bd ?_;refine p8 _ ?_;refine bC rfl fun _ rR => ?_;refine c5 ?_;refine Or.inl (Or.inl ⟨_,cw,?_⟩);refine rR _ ?_;refine bC rfl fun _ wZ => ?_;refine c5 ?_;refine bd ?_;refine wZ _ ?_;refine bC rfl fun _ rS => ?_;refine c5 ?_;refine bd ?_;refine rS _ ?_;refine gI rfl fun _ p9 => ?_;refine c5 ?_;refine p9 _ ?_;refine gI rfl fun _ tZ => ?_;refine c5 ?_;refine tZ _ ?_;refine aP _ (some ([10,11,12,13],none)) ?_
        exact g6
      ·skip
       refine bC rfl fun _ ua => ?_;refine c5 ?_;refine bd ?_;refine ua _ ?_;refine bC rfl fun _ w1 => ?_;refine c5 ?_;refine bd ?_;refine w1 _ ?_;refine bC rfl fun _ rT => ?_;refine c5 ?_;refine Or.inl (Or.inl ⟨_,cw,?_⟩);refine rT _ ?_;refine bC rfl fun _ A3 => ?_;refine c5 ?_;refine bd ?_;refine A3 _ ?_;refine bC rfl fun _ w2 => ?_;refine c5 ?_;refine bd ?_;refine w2 _ ?_;refine gI rfl fun _ A4 => ?_;refine c5 ?_;refine A4 _ ?_;refine gI rfl fun _ w3 => ?_;refine c5 ?_;refine w3 _ ?_;refine aP _ (some ([10,11,12,13],none)) ?_
       exact g6
    ·skip
     refine bC rfl fun _ IL => ?_;refine c5 ?_;refine bd ?_;refine IL _ ?_;refine ⟨?_,?_⟩
     ·skip
      refine bC rfl fun _ IM => ?_;refine c5 ?_;refine bd ?_;refine IM _ ?_;refine bC rfl fun _ w4 => ?_;refine c5 ?_;refine bd ?_;refine w4 _ ?_;refine bC rfl fun _ IN => ?_;refine c5 ?_;refine Or.inl (Or.inl ⟨_,cw,?_⟩);refine IN _ ?_;refine bC rfl fun _ A5 => ?_;refine c5 ?_;refine bd ?_;refine A5 _ ?_;refine bC rfl fun _ IP => ?_;refine c5 ?_;refine bd ?_;refine IP _ ?_;refine gI rfl fun _ A6 => ?_;refine c5 ?_;refine A6 _ ?_;refine gI rfl fun _ A7 => ?_;refine c5 ?_;refine A7 _ ?_;refine aP _ (some ([10,11,12,13],none)) ?_
      exact g6
     ·skip
      refine bC rfl fun _ acI => ?_;refine c5 ?_;refine bd ?_;refine acI _ ?_;refine bC rfl fun _ A8 => ?_;refine c5 ?_;refine bd ?_;refine A8 _ ?_;refine bC rfl fun _ IQ => ?_;refine c5 ?_;refine Or.inl (Or.inl ⟨_,cw,?_⟩);refine IQ _ ?_;refine bC rfl fun _ A9 => ?_;refine c5 ?_;refine bd ?_;refine A9 _ ?_;refine bC rfl fun _ IS => ?_;refine c5 ?_;refine bd ?_;refine IS _ ?_;refine gI rfl fun _ Ba => ?_;refine c5 ?_;refine Ba _ ?_;refine gI rfl fun _ acJ => ?_;refine c5 ?_;refine acJ _ ?_;refine aP _ (some ([10,11,12,13],none)) ?_
      exact g6
   refine ck (some ([10,11,12,13],none)) _ ?_
   exact jb
  ·rw [if_neg (fun h => he h.2)]
   have tT : mY (fb M t a).2.1 o = false := by simpa using he
   have bK : sA 79 (.agg (dj (fb M t a).2.1)) (.agg (dj o)) false := by rw [← tT]; exact Ny _ _
   clear cw
   generalize fb M t a = Q at dn bK ⊢
   unfold bJ FW FL;delta ab aR a9 aa aA a6
   refine ae fun bz aK b6 cb => ai fun b7 aG => ?_;refine cz ?_;refine aG _ (aK (some ([1,2,5,8,9,10,11],none)) _ (ae fun b8 aQ bt b5 => ai fun b9 bh => ?_));refine cV 1 ?_;refine eu 2 ?_;refine eu 1 ?_;refine Or.inl (Or.inl ⟨_,dn,?_⟩);refine cV 7 ?_;refine cV 1 ?_;refine cz ?_;refine bh _ (aQ (some ([1,2,8,9,10,11,14,15,16],none)) _ (ae fun cD bT dG eG => ae fun cv bp cY dk => ai fun cC bD => ?_));refine cV 2 ?_;refine cV 2 ?_;refine cV 1 ?_;refine eu 1 ?_;refine Or.inl ⟨_,bK,?_⟩;refine cz ?_;refine bD _ (bp (some ([1,2,9,10,11,14,15,16,31],none)) _ (bY (ae fun dy ck gV gA => ?_)));refine vb ([]) ?_ (fun bo aP => ?_) ?_
   rotate_left
   ·skip
    refine gI rfl fun ey cF => ?_;refine c5 ?_;refine cF _ ?_;refine ⟨?_,?_⟩
    ·skip
     refine bC rfl fun fB eU => ?_;refine c5 ?_;refine bd ?_;refine eU _ ?_;refine ⟨?_,?_⟩
     ·skip
      refine bC rfl fun fN cG => ?_;refine c5 ?_;refine bd ?_;refine cG _ ?_;refine bC rfl fun gG ed => ?_;refine c5 ?_;refine bd ?_;refine ed _ ?_;refine bC rfl fun gZ dt => ?_;refine c5 ?_;refine bd ?_;refine dt _ ?_;refine gI rfl fun iK eB => ?_;refine c5 ?_;refine eB _ ?_;refine gI rfl fun j3 gq => ?_;refine c5 ?_;refine gq _ ?_;refine aP _ (some ([10,11,12,13],none)) ?_
      exact g6
     ·skip
      refine bC rfl fun nk eV => ?_;refine c5 ?_;refine bd ?_;refine eV _ ?_;refine bC rfl fun rm hs => ?_;refine c5 ?_;refine bd ?_;refine hs _ ?_;refine bC rfl fun rn hz => ?_;refine c5 ?_;refine bd ?_;refine hz _ ?_;refine gI rfl fun rp hJ => ?_;refine c5 ?_;refine hJ _ ?_;refine gI rfl fun rq ht => ?_;refine c5 ?_;refine ht _ ?_;refine aP _ (some ([10,11,12,13],none)) ?_
      exact g6
    ·skip
     refine bC rfl fun tq gr => ?_;refine c5 ?_;refine bd ?_;refine gr _ ?_;refine bC rfl fun tr hK => ?_;refine c5 ?_;refine bd ?_;refine hK _ ?_;refine bC rfl fun uS iS => ?_;refine c5 ?_;refine bd ?_;refine iS _ ?_;refine bC rfl fun uT gu => ?_;refine c5 ?_;refine bd ?_;refine gu _ ?_;refine gI rfl fun wm iT => ?_;refine c5 ?_;refine iT _ ?_;refine gI rfl fun wo iU => ?_;refine c5 ?_;refine iU _ ?_;refine aP _ (some ([10,11,12,13],none)) ?_
     exact g6
   refine ck (some ([10,11,12,13],none)) _ (dG _ ?_)
   exact jb
 ·rw [if_neg (fun h => hw h.1)]
  have cg : (fb M t a).2.2 = mq M t a := by unfold fb; rw [if_neg hw]
  rw [← cg] at hw
  clear OT s1 s2 cg
  generalize fb M t a = Q at dn hw ⊢
  have d : (Q.2.2 != 0) = true := by simpa using hw
  unfold bJ FW FL;delta ab aR a9 aa aA a6
  have ad := @d
  refine ae fun bz aK b6 cb => ai fun b7 aG => ?_;refine an ad ?_;refine aG _ (aK (some ([1,2,5,8,9,10,11],none)) _ (ae fun b8 aQ bt b5 => ai fun b9 bh => ?_));refine ag 1 ad ?_;refine aL 2 ad ?_;refine aL 1 ad ?_;refine Or.inl (Or.inl ⟨_,dn,?_⟩);refine ag 7 ad ?_;refine ag 1 ad ?_;refine an ad ?_;refine bh _ (aQ (some ([1,2,8,9,10,11,14,15,16],none)) _ (ae fun cD bT dG eG => ae fun cv bp cY dk => ai fun cC bD => ?_));refine ag 2 ad ?_;refine ag 2 ad ?_;refine ag 1 ad ?_;refine aL 1 ad ?_
  skip
  refine an ad ?_;refine bD _ (bp (some ([1,2,9,10,11,14,15,16,31],none)) _ (bY (ae fun dy ck gV gA => ?_)));refine vb ([]) ?_ (fun bo aP => ?_) ?_
  rotate_left
  ·skip
   refine gI rfl fun ey cF => ?_;refine aT ad ?_;refine cF _ ?_;refine ⟨?_,?_⟩
   ·skip
    refine bC rfl fun fB eU => ?_;refine aT ad ?_;refine bd ?_;refine eU _ ?_;refine ⟨?_,?_⟩
    ·skip
     refine bC rfl fun fN cG => ?_;refine aT ad ?_;refine bd ?_;refine cG _ ?_;refine bC rfl fun gG ed => ?_;refine aT ad ?_;refine bd ?_;refine ed _ ?_;refine bC rfl fun gZ dt => ?_;refine aT ad ?_;refine bd ?_;refine dt _ ?_;refine gI rfl fun iK eB => ?_;refine aT ad ?_;refine eB _ ?_;refine gI rfl fun j3 gq => ?_;refine aT ad ?_;refine gq _ ?_;refine aP _ (some ([10,11,12,13],none)) ?_
     exact g6
    ·skip
     refine bC rfl fun nk eV => ?_;refine aT ad ?_;refine bd ?_;refine eV _ ?_;refine bC rfl fun rm hs => ?_;refine aT ad ?_;refine bd ?_;refine hs _ ?_;refine bC rfl fun rn hz => ?_;refine aT ad ?_;refine bd ?_;refine hz _ ?_;refine gI rfl fun rp hJ => ?_;refine aT ad ?_;refine hJ _ ?_;refine gI rfl fun rq ht => ?_;refine aT ad ?_;refine ht _ ?_;refine aP _ (some ([10,11,12,13],none)) ?_
     exact g6
   ·skip
    refine bC rfl fun tq gr => ?_;refine aT ad ?_;refine bd ?_;refine gr _ ?_;refine bC rfl fun tr hK => ?_;refine aT ad ?_;refine bd ?_;refine hK _ ?_;refine bC rfl fun uS iS => ?_;refine aT ad ?_;refine bd ?_;refine iS _ ?_;refine bC rfl fun uT gu => ?_;refine aT ad ?_;refine bd ?_;refine gu _ ?_;refine gI rfl fun wm iT => ?_;refine aT ad ?_;refine iT _ ?_;refine gI rfl fun wo iU => ?_;refine aT ad ?_;refine iU _ ?_;refine aP _ (some ([10,11,12,13],none)) ?_
    exact g6
  refine ck (some ([10,11,12,13],none)) _ (dG _ ?_)
  exact cO ad
end Go.Proofs.YtkmbcjnaaokilaaGreatDoor
