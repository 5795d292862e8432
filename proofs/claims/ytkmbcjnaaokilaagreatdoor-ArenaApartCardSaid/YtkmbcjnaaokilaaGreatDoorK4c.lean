/-
  Layer 4 by shadows: the operations.
-/
import Derived.Test.YtkmbcjnaaokilaaGreatDoorK4b
namespace Go.Proofs.YtkmbcjnaaokilaaGreatDoor
set_option linter.unusedSimpArgs false
set_option linter.unusedVariables false
open Go.RowKit Go.Maps
theorem uk {M : c8} {n k : Nat} (h : gp M n) (az : n ≤ k) : gp M k := ⟨h.pl,h.p4,h.one,fun x ar => Nat.le_trans (h.mZ x ar) az,h.msgs,h.views⟩
theorem Tf {M : c8} {n : Nat} (h : gp M n) (t : Int) {v : h5} (bj : m6 v) : gp (tA M t v) n := by
 refine ⟨h.pl,by simp only [tA,List.length_set]; exact h.p4,h.one,h.mZ,h.msgs,fun x ar => ?_⟩
 rcases List.mem_or_eq_of_mem_set ar with ar | rfl
 ·exact h.views x ar
 ·exact bj
theorem Te {M : c8} {n : Nat} (h : gp M n) (t a i : Int) (j : Bool) : gp (nb M t a i j).1 n := by
 unfold nb
 refine Tf h t ?_
 split
 ·exact aoq (zK (zB h t) _ _) (Jb h a i)
 ·exact zK (zB h t) _ _
theorem Td {M : c8} {n : Nat} (h : gp M n) (t a : Int) (w : bm) (b : Bool) : gp (kr M t a w b) (n + 1) := by
 unfold kr
 have aE := CJ h a
 have CY : ∀ x ∈ dV M a,m6 x.view := fun x ar => by
  unfold dV at ar
  split at ar
  ·cases a7 : M.places[a.toNat]? with
   | none => rw [a7] at ar; simp at ar
   | some aj => rw [a7] at ar; exact h.msgs aj (List.mem_of_getElem? a7) x ar
  ·simp at ar
 refine Tf (M := { M with places := M.places.set a.toNat (dV M a ++ [⟨w,t,ux M t a b⟩]) }) ?_ t (zK (zB h t) _ _);refine ⟨by simpa using h.pl,h.p4,fun x ar => ?_,fun x ar => ?_,fun x ar m hm => ?_,h.views⟩
 ·rcases List.mem_or_eq_of_mem_set ar with ar | rfl
  ·exact h.one x ar
  ·simp
 ·rcases List.mem_or_eq_of_mem_set ar with ar | rfl
  ·have := h.mZ x ar; omega
  ·simp; omega
 ·rcases List.mem_or_eq_of_mem_set ar with ar | rfl
  ·exact h.msgs x ar m hm
  ·rcases List.mem_append.1 hm with hm | hm
   ·exact CY m hm
   ·simp only [List.mem_singleton] at hm
    subst hm
    unfold ux
    simp only
    split
    ·exact zK (zB h t) _ _
    ·exact zK xR _ _
theorem Oo (M : c8) (t a i : Int) (j : Bool) : (nb M t a i j).1.views.length = M.views.length ∧ (nb M t a i j).1.places = M.places := by simp [nb,tA]
theorem On (M : c8) (t a : Int) (w : bm) (b : Bool) : (kr M t a w b).views.length = M.views.length ∧ (kr M t a w b).places.length = M.places.length := by simp [kr,tA]
theorem aiz {M : c8} {n : Nat} (h : gp M n) (t a : Int) (q : Bool) (c : Int) : gp (ny M t a q c).1 n := by
 unfold ny; split
 ·exact Te h _ _ _ _
 ·exact h
theorem DC {M : c8} {n : Nat} (h : gp M n) (t a : Int) : gp (fh M t a).1 n := by
 unfold fh; split
 ·exact Te h _ _ _ _
 ·exact h
theorem aiA {M : c8} {n : Nat} (h : gp M n) (t a : Int) (w : bm) (b : Bool) : gp (oB M t a w b).1 (n + 1) := by
 unfold oB; split
 ·exact Td h _ _ _ _
 ·exact uk h (by omega)
theorem aiB {M : c8} {n : Nat} (h : gp M n) (t a : Int) (o w : bm) : gp (iD M t a o w).1 (n + 1) := by
 unfold iD; split
 ·exact Td (DC h _ _) _ _ _ _
 ·exact uk (DC h _ _) (by omega)
theorem A2 (M : c8) (t a : Int) : (fh M t a).1.views.length = M.views.length ∧ (fh M t a).1.places = M.places := by
 unfold fh; split
 ·exact Oo _ _ _ _ _
 ·exact ⟨rfl,rfl⟩
theorem T4 (M : c8) (t a : Int) (j : Bool) (f : FuncId) (first : List aw) (h : ¬ m2 M t a = 0) : cq 111 [iZ M,aG t,aG a,eA j,.fn (.func f) first []] (.bY [iZ M,.agg (c6 gE),aG (m2 M t a)]) := by
 refine df Tryz.func111 Xy rfl ?_
 have aB := MM M t a
 generalize m2 M t a = e at h aB ⊢
 have d : (e != 0) = true := by simpa using h
 unfold bK Of NM;delta ab aQ aa ay
 have ad := @d
 refine ae fun _ aK _ _ => ai fun _ aH => ?_;refine al ad ?_;refine aH _ (aK (some ([1,2,3,4,5,10,11],none)) _ (ae fun _ _ bx _ => ae fun _ bI _ _ => ai fun _ b0 => ?_));refine ag 1 ad ?_;refine aM 2 ad ?_;refine aM 1 ad ?_;refine Or.inl (Or.inl ⟨_,aB,?_⟩);refine al ad ?_;refine b0 _ (bI (some ([1,2,3,4,5,10,11,13],none)) _ (ae fun _ bp _ _ => ai fun _ bE => ?_));refine aS ad ?_;refine bE _ (bp (some ([1,2,3,4,5,10,11,13,21],none)) _ (bU (ae fun _ cv _ _ => ai fun _ aR => ?_)));refine ag 1 ad ?_;refine ag 3 ad ?_;refine ag 1 ad ?_;refine al ad ?_;refine aR _ (cv (some ([10,11,12],none)) _ (bx _ ?_));refine jr ad ?_
 rfl
set_option maxHeartbeats 2000000 in
theorem T3 (M : c8) (t a : Int) (j : Bool) (f : FuncId) (first : List aw) (p : Int) {n : Nat} (bA : gp M n) (aL : hA M t) (a5 : fC M a) (bL : Enters f) (aZ : cq f (first ++ [sI (dV M a),aG (gy (gS M t) a)]) (aG p)) :
  cq 111 [iZ M,aG t,aG a,eA j,.fn (.func f) first []] (.bY [iZ (nb M t a p j).1,.agg (c6 (nb M t a p j).2),aG 0]) := by
 refine df Tryz.func111 Xy rfl ?_
 have aB := MM M t a
 rw [qF.2 ⟨aL,a5⟩] at aB
 have fR := ajZ M t a p j bA aL a5
 have kz := (zk bA a5).1
 generalize nb M t a p j = R at fR ⊢
 obtain ⟨m,rfl,hm,e,_⟩ := AP a5
 unfold bK Of NM;delta ab aQ aa ay
 have ad := @e
 refine ae fun _ aK _ _ => ai fun _ aH => ?_;refine al ad ?_;refine aH _ (aK (some ([1,2,3,4,5,10,11],none)) _ (ae fun _ aP _ _ => ae fun _ bI _ _ => ai fun _ b0 => ?_));refine ag 1 ad ?_;refine aM 2 ad ?_;refine aM 1 ad ?_;refine Or.inl (Or.inl ⟨_,aB,?_⟩);refine al ad ?_;refine b0 _ (bI (some ([1,2,3,4,5,10,11,13],none)) _ (ae fun _ bp _ _ => ai fun _ bE => ?_));refine aS ad ?_;refine bE _ (bp (some ([1,2,3,4,5,10,11,13,21],none)) _ (bs (aP (some ([1,2,3,4,5,10,11],none)) _ (ae fun _ cv _ _ => ?_))));refine gh [] (n := 22) fun _ aR => ?_;refine gY ?_;refine cF 1 ad ?_;refine cF 5 ad ?_;refine cF 2 ad ?_;refine cF 1 ad ?_;refine cF 1 ad ?_;refine gd 1 ad ?_;refine gd 1 ad ?_;refine ⟨_,DN M t bA.p4,?_⟩;refine gd 1 ad ?_;refine gd 1 ad ?_;refine ⟨_,akd _ _ kz,?_⟩
 refine gd 1 ad ?_;refine ⟨bL,_,aZ,?_⟩;refine gd 1 ad ?_;refine gd 1 ad ?_;refine ⟨_,fR,?_⟩;refine lh ad ?_;refine aR _ ?_;refine gZ ?_;refine ag 1 ad ?_;refine aS ad ?_;refine cv (some ([10,11,14,15],none)) _ (ae fun _ cr _ _ => ?_);refine Ac ([]) ?_ (fun _ cD => ?_) ?_
 rotate_left
 ·skip
  refine ⟨?_,?_⟩
  ·skip
   refine bF rfl fun _ ew => ?_;refine a2 ad ?_;refine bh ?_;refine ew _ ?_;refine ⟨?_,?_⟩
   ·skip
    refine bF rfl fun _ dq => ?_;refine a2 ad ?_;refine bh ?_;refine dq _ ?_;refine bF rfl fun _ eJ => ?_;refine a2 ad ?_;refine bh ?_;refine eJ _ ?_;refine bF rfl fun _ gC => ?_;refine a2 ad ?_;refine bh ?_;refine gC _ ?_;refine gN rfl fun _ eF => ?_;refine a2 ad ?_;refine eF _ ?_;refine cD _ (some ([10,11,12],none)) ?_
    exact hj
   ·skip
    refine bF rfl fun _ hI => ?_;refine a2 ad ?_;refine bh ?_;refine hI _ ?_;refine bF rfl fun _ hr => ?_;refine a2 ad ?_;refine bh ?_;refine hr _ ?_;refine bF rfl fun _ hX => ?_;refine a2 ad ?_;refine bh ?_;refine hX _ ?_;refine gN rfl fun _ hh => ?_;refine a2 ad ?_;refine hh _ ?_;refine cD _ (some ([10,11,12],none)) ?_
    exact hj
  ·skip
   refine bF rfl fun _ gf => ?_;refine a2 ad ?_;refine bh ?_;refine gf _ ?_;refine bF rfl fun _ im => ?_;refine a2 ad ?_;refine bh ?_;refine im _ ?_;refine bF rfl fun _ iq => ?_;refine a2 ad ?_;refine bh ?_;refine iq _ ?_;refine bF rfl fun _ gD => ?_;refine a2 ad ?_;refine bh ?_;refine gD _ ?_;refine gN rfl fun _ ir => ?_;refine a2 ad ?_;refine ir _ ?_;refine cD _ (some ([10,11,12],none)) ?_
   exact hj
 refine cr (some ([10,11,12],none)) _ ?_
 exact cQ ad
theorem aj2 (M : c8) (t a : Int) (q : Bool) (c : Int) {n : Nat} (bA : gp M n) (a9 : n ≤ 10000) : cq 106 [iZ M,aG t,aG a,eA q,aG c] (.bY [iZ (ny M t a q c).1,.agg (c6 (ny M t a q c).2.1),aG (ny M t a q c).2.2]) := by
 have aE := CJ bA a
 have h : cq 111 [iZ M,aG t,aG a,eA q,.fn (.func 113) [aG c] []] (.bY [iZ (ny M t a q c).1,.agg (c6 (ny M t a q c).2.1),aG (ny M t a q c).2.2]) := by
  unfold ny
  by_cases hw : m2 M t a = 0
  ·rw [if_pos hw]
   obtain ⟨aL,a5⟩ := qF.1 hw
   exact T3 M t a q 113 [aG c] _ bA aL a5 (n8 Tryz.func113 rfl rfl) (akb _ _ c (by omega))
  ·rw [if_neg hw]
   exact T4 M t a q 113 [aG c] hw
 generalize ny M t a q c = R at h ⊢
 refine df Tryz.func106 an1 rfl ?_
 unfold bK WR VG;delta ab aQ aa ay
 refine ae fun _ aK _ _ => ai fun _ aH => ?_;refine cE ?_;refine aH _ (aK (some ([1,2,3,4,5,10,11],none)) _ (ae fun _ aP _ _ => ai fun _ bk => ?_));refine c4 1 ?_;refine eH 5 ?_;refine eH 1 ?_;refine Or.inl (Or.inl ⟨_,h,?_⟩);refine c4 4 ?_;refine c4 1 ?_;refine cE ?_;refine bk _ (aP (some ([10,11,12],none)) _ ?_)
 exact jq
theorem T1 (M : c8) (t a : Int) {n : Nat} (bA : gp M n) (a9 : n ≤ 10000) : cq 105 [iZ M,aG t,aG a] (.bY [iZ (fh M t a).1,.agg (c6 (fh M t a).2.1),aG (fh M t a).2.2]) := by
 have aE := CJ bA a
 have h : cq 111 [iZ M,aG t,aG a,eA true,.fn (.func 112) [aG 0] []] (.bY [iZ (fh M t a).1,.agg (c6 (fh M t a).2.1),aG (fh M t a).2.2]) := by
  unfold fh
  by_cases hw : m2 M t a = 0
  ·rw [if_pos hw]
   obtain ⟨aL,a5⟩ := qF.1 hw
   exact T3 M t a true 112 [aG 0] _ bA aL a5 (n8 Tryz.func112 rfl rfl) (aka _ _ 0 (by omega))
  ·rw [if_neg hw]
   exact T4 M t a true 112 [aG 0] hw
 generalize fh M t a = R at h ⊢
 refine df Tryz.func105 an2 rfl ?_
 unfold bK WS VH;delta ab aQ aa ay a3
 refine ae fun _ aK _ _ => ai fun _ aH => ?_;refine cE ?_;refine aH _ (aK (some ([1,2,3,6,7],none)) _ (ae fun _ aP _ _ => ai fun _ bk => ?_));refine c4 1 ?_;refine eH 3 ?_;refine eH 1 ?_;refine Or.inl (Or.inl ⟨_,h,?_⟩);refine c4 4 ?_;refine c4 1 ?_;refine cE ?_;refine bk _ (aP (some ([6,7,8],none)) _ ?_)
 exact jq
theorem aj5 (M : c8) (t a : Int) (w : bm) (b : Bool) {n : Nat} (bA : gp M n) (a9 : n ≤ 10000) : cq 98 [iZ M,aG t,aG a,.agg (c6 w),eA b] (.bY [iZ (oB M t a w b).1,aG (oB M t a w b).2]) := by
 refine df Tryz.func98 an7 rfl ?_
 unfold oB
 have aB := MM M t a
 by_cases hw : m2 M t a = 0
 ·rw [if_pos hw]
  obtain ⟨aL,a5⟩ := qF.1 hw
  rw [hw] at aB
  have cd := T0 M t a w b bA a9 aL a5
  generalize kr M t a w b = R at cd ⊢
  unfold bK Oe NL;delta ab aQ aa ay
  refine ae fun bD aK b9 ck => ai fun ca aH => ?_;refine cE ?_;refine aH _ (aK (some ([1,2,4,5,8,10],none)) _ (ae fun cg aP bx b8 => ae fun ch bI dd dU => ai fun cM b0 => ?_));refine c4 1 ?_;refine eH 2 ?_;refine eH 1 ?_;refine Or.inl (Or.inl ⟨_,aB,?_⟩);refine cE ?_;refine b0 _ (bI (some ([1,2,4,5,8,10,12],none)) _ (ae fun cG bp c5 dn => ai fun cI bE => ?_));refine nF ?_;refine bE _ (bp (some ([1,2,4,5,8,10,12,18],none)) _ (bs (aP (some ([1,2,4,5,8,10],none)) _ (ae fun dB cv g7 gw => ai fun bz aR => ?_))));refine c4 1 ?_;refine c4 3 ?_;refine eH 1 ?_;refine eH 1 ?_;refine Or.inl (Or.inl ⟨_,cd,?_⟩);refine c4 1 ?_;refine cE ?_;refine aR _ (cv (some ([10,11],none)) _ ?_)
  exact jq
 ·rw [if_neg hw]
  generalize m2 M t a = e at hw aB ⊢
  have d : (e != 0) = true := by simpa using hw
  unfold bK Oe NL;delta ab aQ aa ay
  have ad := @d
  refine ae fun bD aK b9 ck => ai fun ca aH => ?_;refine al ad ?_;refine aH _ (aK (some ([1,2,4,5,8,10],none)) _ (ae fun cg aP bx b8 => ae fun ch bI dd dU => ai fun cM b0 => ?_));refine ag 1 ad ?_;refine aM 2 ad ?_;refine aM 1 ad ?_;refine Or.inl (Or.inl ⟨_,aB,?_⟩);refine al ad ?_;refine b0 _ (bI (some ([1,2,4,5,8,10,12],none)) _ (ae fun cG bp c5 dn => ai fun cI bE => ?_));refine aS ad ?_;refine bE _ (bp (some ([1,2,4,5,8,10,12,18],none)) _ (bU (ae fun dB cv g7 gw => ai fun bz aR => ?_)));refine ag 1 ad ?_;refine ag 2 ad ?_;refine al ad ?_;refine aR _ (cv (some ([10,11],none)) _ (bx _ ?_))
  exact cQ ad
set_option maxHeartbeats 2000000 in
theorem aj6 (M : c8) (t a : Int) (o w : bm) {n : Nat} (bA : gp M n) (a9 : n ≤ 10000) : cq 97 [iZ M,aG t,aG a,.agg (c6 o),.agg (c6 w)] (.bY [iZ (iD M t a o w).1,.agg (c6 (iD M t a o w).2.1),eA (iD M t a o w).2.2.1,aG (iD M t a o w).2.2.2]) := by
 refine df Tryz.func97 an8 rfl ?_
 have de := T1 M t a bA a9
 have RJ := DC bA t a
 obtain ⟨s1,s2⟩ := A2 M t a
 unfold iD
 by_cases hw : m2 M t a = 0
 ·obtain ⟨aL,a5⟩ := qF.1 hw
  have ct : (fh M t a).2.2 = 0 := by unfold fh; rw [if_pos hw]
  rw [ct] at de
  have xe : hA (fh M t a).1 t := by unfold hA; rw [s1]; exact aL
  have vb : fC (fh M t a).1 a := by unfold fC; rw [s2]; exact a5
  have cd := T0 (fh M t a).1 t a w true RJ a9 xe vb
  rw [ct]
  by_cases he : nH (fh M t a).2.1 o = true
  ·rw [if_pos ⟨hw,he⟩]
   have bL : sr 79 (.agg (c6 (fh M t a).2.1)) (.agg (c6 o)) true := by rw [← he]; exact JG _ _
   generalize kr (fh M t a).1 t a w true = R at cd ⊢
   generalize fh M t a = Q at de cd bL ⊢
   unfold bK HT HI;delta ab aQ a8 aa ay a3
   refine ae fun bD aK b9 ck => ai fun ca aH => ?_;refine cE ?_;refine aH _ (aK (some ([1,2,5,8,9,10,11],none)) _ (ae fun cg aP bx b8 => ai fun ch bk => ?_));refine c4 1 ?_;refine eH 2 ?_;refine eH 1 ?_;refine Or.inl (Or.inl ⟨_,de,?_⟩);refine c4 7 ?_;refine c4 1 ?_;refine cE ?_;refine bk _ (aP (some ([1,2,8,9,10,11,14,15,16],none)) _ (ae fun cM bV dQ eP => ae fun cG bp c5 dn => ai fun cI bE => ?_));refine c4 2 ?_;refine c4 2 ?_;refine c4 1 ?_;refine eH 1 ?_;refine Or.inl ⟨_,bL,?_⟩;refine cE ?_;refine bE _ (bp (some ([1,2,9,10,11,14,15,16,31],none)) _ (bs (bV (some ([1,2,9,10,11,14,15],none)) _ (ae fun dB cv g7 gw => ?_))));refine Ac ([]) ?_ (fun bz aR => ?_) ?_
   rotate_left
   ·skip
    refine gN rfl fun eK cK => ?_;refine db ?_;refine cK _ ?_;refine gN rfl fun fM fe => ?_;refine db ?_;refine fe _ ?_;refine ⟨?_,?_⟩
    ·skip
     refine ⟨?_,?_⟩
     ·skip
      refine bF rfl fun ga cD => ?_;refine db ?_;refine bh ?_;refine cD _ ?_;refine ⟨?_,?_⟩
      ·skip
       refine bF rfl fun gK ew => ?_;refine db ?_;refine bh ?_;refine ew _ ?_;refine ⟨?_,?_⟩
       ·skip
        refine bF rfl fun hc dq => ?_;refine db ?_;refine Or.inl (Or.inl ⟨_,cd,?_⟩);refine dq _ ?_;refine ⟨?_,?_⟩
        ·skip
         refine bF rfl fun jf eJ => ?_;refine db ?_;refine bh ?_;refine eJ _ ?_;refine bF rfl fun kp gC => ?_;refine db ?_;refine bh ?_;refine gC _ ?_;refine bF rfl fun n3 eF => ?_;refine db ?_;refine bh ?_;refine eF _ ?_;refine gN rfl fun su hI => ?_;refine db ?_;refine hI _ ?_;refine gN rfl fun sv hr => ?_;refine db ?_;refine hr _ ?_;refine aR _ (some ([10,11,12,13],none)) ?_
         exact hj
        ·skip
         refine bF rfl fun sw hX => ?_;refine db ?_;refine bh ?_;refine hX _ ?_;refine bF rfl fun sx hh => ?_;refine db ?_;refine bh ?_;refine hh _ ?_;refine bF rfl fun uH gf => ?_;refine db ?_;refine bh ?_;refine gf _ ?_;refine gN rfl fun uI im => ?_;refine db ?_;refine im _ ?_;refine gN rfl fun we iq => ?_;refine db ?_;refine iq _ ?_;refine aR _ (some ([10,11,12,13],none)) ?_
         exact hj
       ·skip
        refine bF rfl fun wg gD => ?_;refine db ?_;refine bh ?_;refine gD _ ?_;refine bF rfl fun xY ir => ?_;refine db ?_;refine Or.inl (Or.inl ⟨_,cd,?_⟩);refine ir _ ?_;refine bF rfl fun xZ jT => ?_;refine db ?_;refine bh ?_;refine jT _ ?_;refine bF rfl fun _ iO => ?_;refine db ?_;refine bh ?_;refine iO _ ?_;refine gN rfl fun _ hY => ?_;refine db ?_;refine hY _ ?_;refine gN rfl fun _ jU => ?_;refine db ?_;refine jU _ ?_;refine aR _ (some ([10,11,12,13],none)) ?_
        exact hj
      ·skip
       refine bF rfl fun _ mr => ?_;refine db ?_;refine bh ?_;refine mr _ ?_;refine bF rfl fun _ mu => ?_;refine db ?_;refine bh ?_;refine mu _ ?_;refine bF rfl fun _ vf => ?_;refine db ?_;refine Or.inl (Or.inl ⟨_,cd,?_⟩);refine vf _ ?_;refine bF rfl fun _ lq => ?_;refine db ?_;refine bh ?_;refine lq _ ?_;refine bF rfl fun _ nj => ?_;refine db ?_;refine bh ?_;refine nj _ ?_;refine gN rfl fun _ pK => ?_;refine db ?_;refine pK _ ?_;refine gN rfl fun _ nk => ?_;refine db ?_;refine nk _ ?_;refine aR _ (some ([10,11,12,13],none)) ?_
       exact hj
     ·skip
      refine bF rfl fun _ pL => ?_;refine db ?_;refine bh ?_;refine pL _ ?_;refine ⟨?_,?_⟩
      ·skip
       refine bF rfl fun _ jV => ?_;refine db ?_;refine bh ?_;refine jV _ ?_;refine ⟨?_,?_⟩
       ·skip
        refine bF rfl fun _ nm => ?_;refine db ?_;refine Or.inl (Or.inl ⟨_,cd,?_⟩);refine nm _ ?_;refine ⟨?_,?_⟩
        ·skip
         refine bF rfl fun _ nn => ?_;refine db ?_;refine bh ?_;refine nn _ ?_;refine bF rfl fun _ np => ?_;refine db ?_;refine bh ?_;refine np _ ?_;refine bF rfl fun _ sW => ?_;refine db ?_;refine bh ?_;refine sW _ ?_;refine gN rfl fun _ oY => ?_;refine db ?_;refine oY _ ?_;refine gN rfl fun _ q8 => ?_;refine db ?_;refine q8 _ ?_;refine aR _ (some ([10,11,12,13],none)) ?_
         exact hj
        ·skip
         refine bF rfl fun _ pM => ?_;refine db ?_;refine bh ?_;refine pM _ ?_;refine bF rfl fun _ sX => ?_;refine db ?_;refine bh ?_;refine sX _ ?_;refine bF rfl fun _ q9 => ?_;refine db ?_;refine bh ?_;refine q9 _ ?_;refine gN rfl fun _ vg => ?_;refine db ?_;refine vg _ ?_;refine gN rfl fun _ ra => ?_;refine db ?_;refine ra _ ?_;refine aR _ (some ([10,11,12,13],none)) ?_
         exact hj
       ·skip
        refine bF rfl fun _ pN => ?_;refine db ?_;refine bh ?_;refine pN _ ?_;refine bF rfl fun _ vh => ?_;refine db ?_;refine Or.inl (Or.inl ⟨_,cd,?_⟩);refine vh _ ?_;refine bF rfl fun _ vi => ?_;refine db ?_;refine bh ?_;refine vi _ ?_;refine bF rfl fun _ sY => ?_;refine db ?_;refine bh ?_;refine sY _ ?_;refine gN rfl fun _ ov => ?_;refine db ?_;refine ov _ ?_;refine gN rfl fun _ yD => ?_;refine db ?_;refine yD _ ?_;refine aR _ (some ([10,11,12,13],none)) ?_
        exact hj
      ·skip
       refine bF rfl fun _ vj => ?_;refine db ?_;refine bh ?_;refine vj _ ?_;refine bF rfl fun _ vk => ?_;refine db ?_;refine bh ?_;refine vk _ ?_;refine bF rfl fun _ vl => ?_;refine db ?_;refine Or.inl (Or.inl ⟨_,cd,?_⟩);refine vl _ ?_;refine bF rfl fun _ vm => ?_;refine db ?_;refine bh ?_;refine vm _ ?_;refine bF rfl fun _ yE => ?_;refine db ?_;refine bh ?_;refine yE _ ?_;refine gN rfl fun _ CK => ?_;refine db ?_;refine CK _ ?_;refine gN rfl fun _ CL => ?_;refine db ?_;refine CL _ ?_;refine aR _ (some ([10,11,12,13],none)) ?_
       exact hj
    ·skip
     refine bF rfl fun _ CM => ?_;refine db ?_;refine bh ?_;refine CM _ ?_;refine ⟨?_,?_⟩
     ·skip
      refine bF rfl fun _ K1 => ?_;refine db ?_;refine bh ?_;refine K1 _ ?_;refine bF rfl fun _ CN => ?_;refine db ?_;refine bh ?_;refine CN _ ?_;refine bF rfl fun _ CO => ?_;refine db ?_;refine Or.inl (Or.inl ⟨_,cd,?_⟩);refine CO _ ?_;refine bF rfl fun _ yF => ?_;refine db ?_;refine bh ?_;refine yF _ ?_;refine bF rfl fun _ K2 => ?_;refine db ?_;refine bh ?_;refine K2 _ ?_;refine gN rfl fun _ K3 => ?_;refine db ?_;refine K3 _ ?_;refine gN rfl fun _ yG => ?_;refine db ?_;refine yG _ ?_;refine aR _ (some ([10,11,12,13],none)) ?_
      exact hj
     ·skip
      refine bF rfl fun _ agh => ?_;refine db ?_;refine bh ?_;refine agh _ ?_;refine bF rfl fun _ K4 => ?_;refine db ?_;refine bh ?_;refine K4 _ ?_;refine bF rfl fun _ K5 => ?_;refine db ?_;refine Or.inl (Or.inl ⟨_,cd,?_⟩);refine K5 _ ?_;refine bF rfl fun _ CP => ?_;refine db ?_;refine bh ?_;refine CP _ ?_;refine bF rfl fun _ agi => ?_;refine db ?_;refine bh ?_;refine agi _ ?_;refine gN rfl fun _ CQ => ?_;refine db ?_;refine CQ _ ?_;refine gN rfl fun _ agj => ?_;refine db ?_;refine agj _ ?_;refine aR _ (some ([10,11,12,13],none)) ?_
      exact hj
   refine cv (some ([10,11,12,13],none)) _ ?_
   exact jq
  ·rw [if_neg (fun h => he h.2)]
   have vc : nH (fh M t a).2.1 o = false := by simpa using he
   have bL : sr 79 (.agg (c6 (fh M t a).2.1)) (.agg (c6 o)) false := by rw [← vc]; exact JG _ _
   clear cd
   generalize fh M t a = Q at de bL ⊢
   unfold bK HT HI;delta ab aQ a8 aa ay a3
   refine ae fun bD aK b9 ck => ai fun ca aH => ?_;refine cE ?_;refine aH _ (aK (some ([1,2,5,8,9,10,11],none)) _ (ae fun cg aP bx b8 => ai fun ch bk => ?_));refine c4 1 ?_;refine eH 2 ?_;refine eH 1 ?_;refine Or.inl (Or.inl ⟨_,de,?_⟩);refine c4 7 ?_;refine c4 1 ?_;refine cE ?_;refine bk _ (aP (some ([1,2,8,9,10,11,14,15,16],none)) _ (ae fun cM bV dQ eP => ae fun cG bp c5 dn => ai fun cI bE => ?_));refine c4 2 ?_;refine c4 2 ?_;refine c4 1 ?_;refine eH 1 ?_;refine Or.inl ⟨_,bL,?_⟩;refine cE ?_;refine bE _ (bp (some ([1,2,9,10,11,14,15,16,31],none)) _ (bU (ae fun dB cv g7 gw => ?_)));refine Ac ([]) ?_ (fun bz aR => ?_) ?_
   rotate_left
   ·skip
    refine gN rfl fun eK cK => ?_;refine db ?_;refine cK _ ?_;refine ⟨?_,?_⟩
    ·skip
     refine bF rfl fun fM fe => ?_;refine db ?_;refine bh ?_;refine fe _ ?_;refine ⟨?_,?_⟩
     ·skip
      refine bF rfl fun ga cD => ?_;refine db ?_;refine bh ?_;refine cD _ ?_;refine bF rfl fun gK ew => ?_;refine db ?_;refine bh ?_;refine ew _ ?_;refine bF rfl fun hc dq => ?_;refine db ?_;refine bh ?_;refine dq _ ?_;refine gN rfl fun jf eJ => ?_;refine db ?_;refine eJ _ ?_;refine gN rfl fun kp gC => ?_;refine db ?_;refine gC _ ?_;refine aR _ (some ([10,11,12,13],none)) ?_
      exact hj
     ·skip
      refine bF rfl fun n3 eF => ?_;refine db ?_;refine bh ?_;refine eF _ ?_;refine bF rfl fun su hI => ?_;refine db ?_;refine bh ?_;refine hI _ ?_;refine bF rfl fun sv hr => ?_;refine db ?_;refine bh ?_;refine hr _ ?_;refine gN rfl fun sw hX => ?_;refine db ?_;refine hX _ ?_;refine gN rfl fun sx hh => ?_;refine db ?_;refine hh _ ?_;refine aR _ (some ([10,11,12,13],none)) ?_
      exact hj
    ·skip
     refine bF rfl fun uH gf => ?_;refine db ?_;refine bh ?_;refine gf _ ?_;refine bF rfl fun uI im => ?_;refine db ?_;refine bh ?_;refine im _ ?_;refine bF rfl fun we iq => ?_;refine db ?_;refine bh ?_;refine iq _ ?_;refine bF rfl fun wg gD => ?_;refine db ?_;refine bh ?_;refine gD _ ?_;refine gN rfl fun xY ir => ?_;refine db ?_;refine ir _ ?_;refine gN rfl fun xZ jT => ?_;refine db ?_;refine jT _ ?_;refine aR _ (some ([10,11,12,13],none)) ?_
     exact hj
   refine cv (some ([10,11,12,13],none)) _ (dQ _ ?_)
   exact jq
 ·rw [if_neg (fun h => hw h.1)]
  have ct : (fh M t a).2.2 = m2 M t a := by unfold fh; rw [if_neg hw]
  rw [← ct] at hw
  clear RJ s1 s2 ct
  generalize fh M t a = Q at de hw ⊢
  have d : (Q.2.2 != 0) = true := by simpa using hw
  unfold bK HT HI;delta ab aQ a8 aa ay a3
  have ad := @d
  refine ae fun bD aK b9 ck => ai fun ca aH => ?_;refine al ad ?_;refine aH _ (aK (some ([1,2,5,8,9,10,11],none)) _ (ae fun cg aP bx b8 => ai fun ch bk => ?_));refine ag 1 ad ?_;refine aM 2 ad ?_;refine aM 1 ad ?_;refine Or.inl (Or.inl ⟨_,de,?_⟩);refine ag 7 ad ?_;refine ag 1 ad ?_;refine al ad ?_;refine bk _ (aP (some ([1,2,8,9,10,11,14,15,16],none)) _ (ae fun cM bV dQ eP => ae fun cG bp c5 dn => ai fun cI bE => ?_));refine ag 2 ad ?_;refine ag 2 ad ?_;refine ag 1 ad ?_;refine aM 1 ad ?_
  skip
  refine al ad ?_;refine bE _ (bp (some ([1,2,9,10,11,14,15,16,31],none)) _ (bU (ae fun dB cv g7 gw => ?_)));refine Ac ([]) ?_ (fun bz aR => ?_) ?_
  rotate_left
  ·skip
   refine gN rfl fun eK cK => ?_;refine a2 ad ?_;refine cK _ ?_;refine ⟨?_,?_⟩
   ·skip
    refine bF rfl fun fM fe => ?_;refine a2 ad ?_;refine bh ?_;refine fe _ ?_;refine ⟨?_,?_⟩
    ·skip
     refine bF rfl fun ga cD => ?_;refine a2 ad ?_;refine bh ?_;refine cD _ ?_;refine bF rfl fun gK ew => ?_;refine a2 ad ?_;refine bh ?_;refine ew _ ?_;refine bF rfl fun hc dq => ?_;refine a2 ad ?_;refine bh ?_;refine dq _ ?_;refine gN rfl fun jf eJ => ?_;refine a2 ad ?_;refine eJ _ ?_;refine gN rfl fun kp gC => ?_;refine a2 ad ?_;refine gC _ ?_;refine aR _ (some ([10,11,12,13],none)) ?_
     exact hj
    ·skip
     refine bF rfl fun n3 eF => ?_;refine a2 ad ?_;refine bh ?_;refine eF _ ?_;refine bF rfl fun su hI => ?_;refine a2 ad ?_;refine bh ?_;refine hI _ ?_;refine bF rfl fun sv hr => ?_;refine a2 ad ?_;refine bh ?_;refine hr _ ?_;refine gN rfl fun sw hX => ?_;refine a2 ad ?_;refine hX _ ?_;refine gN rfl fun sx hh => ?_;refine a2 ad ?_;refine hh _ ?_;refine aR _ (some ([10,11,12,13],none)) ?_
     exact hj
   ·skip
    refine bF rfl fun uH gf => ?_;refine a2 ad ?_;refine bh ?_;refine gf _ ?_;refine bF rfl fun uI im => ?_;refine a2 ad ?_;refine bh ?_;refine im _ ?_;refine bF rfl fun we iq => ?_;refine a2 ad ?_;refine bh ?_;refine iq _ ?_;refine bF rfl fun wg gD => ?_;refine a2 ad ?_;refine bh ?_;refine gD _ ?_;refine gN rfl fun xY ir => ?_;refine a2 ad ?_;refine ir _ ?_;refine gN rfl fun xZ jT => ?_;refine a2 ad ?_;refine jT _ ?_;refine aR _ (some ([10,11,12,13],none)) ?_
    exact hj
  refine cv (some ([10,11,12,13],none)) _ (dQ _ ?_)
  exact cQ ad
end Go.Proofs.YtkmbcjnaaokilaaGreatDoor
