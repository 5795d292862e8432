/-
  Layer 4 by shadows: reading and writing.
-/
import Derived.Test.YtkmbcjnaaokilaaGreatDoorK4a
namespace Go.Proofs.YtkmbcjnaaokilaaGreatDoor
set_option linter.unusedSimpArgs false
set_option linter.unusedVariables false
open Go.RowKit Go.Maps
theorem G0 {M : c6} {n : Nat} (bk : gg M n) (a i : Int) : mw (kQ (dI M a) i).view := by
 unfold kQ
 split
 ·cases e : (dI M a)[i.toNat]? with
  | none => exact wb
  | some m =>
   have hm := List.mem_of_getElem? e
   unfold dI at hm
   split at hm
   ·cases a8 : M.places[a.toNat]? with
    | none => rw [a8] at hm; simp at hm
    | some h => rw [a8] at hm; exact bk.msgs h (List.mem_of_getElem? a8) m hm
   ·simp at hm
 ·exact wb
set_option maxHeartbeats 2000000 in
theorem agt (M : c6) (t a i : Int) (j : Bool) {n : Nat} (bk : gg M n) (aO : hl M t) (aZ : fq M a) : cu 120 [iF M,aI t,aI a,aI i,dH j] (.bR [iF (mB M t a i j).1,.agg (dj (mB M t a i j).2)]) := by
 refine df Tryz.func120 akh rfl ?_
 obtain ⟨m,rfl,hm,e,_⟩ := y9 aZ
 have EC := xV bk t
 have ad0 := x0 EC m i
 have ad9 := G0 bk m i
 have ka := (xE bk aZ).1
 have c2 := Kh (gL M t) m i EC ka
 have eE := agK _ _ ad0 ad9
 have hb := fun v => QZ M t v aO bk.o2
 have dn := QP (dI M m) i
 unfold mB
 generalize kQ (dI M m) i = x at dn eE ⊢
 generalize l5 (gL M t) m i = v at c2 eE ⊢
 generalize tj v x.view = u at eE ⊢
 cases j
 ·simp only [Bool.false_eq_true,if_false]
  unfold bJ Lx K5;delta ab aR aa
  have ad := @e
  refine ae fun bz aK b6 cb => ai fun b7 aG => ?_;refine an ad ?_;refine aG _ (aK (some ([1,2,3,4,5,10,11],none)) _ (ae fun b8 aQ bt b5 => ai fun b9 bh => ?_));refine ag 2 ad ?_;refine ag 2 ad ?_;refine ag 1 ad ?_;refine aL 1 ad ?_;refine aL 1 ad ?_;refine Or.inl (Or.inl ⟨_,dn,?_⟩);refine ag 5 ad ?_;refine an ad ?_;refine bh _ (aQ (some ([1,2,3,4,5,10,11,12],none)) _ (ae fun cD bT dG eG => ai fun cv de => ?_));refine ag 1 ad ?_;refine aL 1 ad ?_;refine aL 1 ad ?_;refine Or.inl (Or.inl ⟨_,B0 M t bk.o2,?_⟩);refine aL 2 ad ?_;refine aL 1 ad ?_;refine Or.inl (Or.inl ⟨_,c2,?_⟩);refine aU ad ?_;refine de _ (bT (some ([1,4,5,10,11,12,14],none)) _ (ae fun cC cp ek ft => ae fun dy ck gV gA => ai fun bo aP => ?_));refine an ad ?_;refine aP _ (ck (some ([1,5,10,11,12,14,31],none)) _ ?_)
  refine bB (cp (some ([1,5,10,11,12,14],none)) _ (ae fun ey ee _ _ => ?_));refine vb ([]) ?_ (fun fB eU => ?_) ?_
  rotate_left
  ·skip
   refine gI rfl fun fN cG => ?_;refine aT ad ?_;refine cG _ ?_;refine gI rfl fun gG ed => ?_;refine aT ad ?_;refine ed _ ?_;refine ⟨?_,?_⟩
   ·skip
    refine ⟨?_,?_⟩
    ·skip
     refine bC rfl fun gZ dt => ?_;refine aT ad ?_;refine bd ?_;refine dt _ ?_;refine ⟨?_,?_⟩
     ·skip
      refine bC rfl fun iK eB => ?_;refine aT ad ?_;refine bd ?_;refine eB _ ?_;refine ⟨?_,?_⟩
      ·skip
       refine bC rfl fun j3 gq => ?_;refine aT ad ?_;refine Or.inl (Or.inl ⟨_,hb v,?_⟩);refine gq _ ?_;refine ⟨?_,?_⟩
       ·skip
        refine bC rfl fun nk eV => ?_;refine aT ad ?_;refine bd ?_;refine eV _ ?_;refine bC rfl fun rm hs => ?_;refine aT ad ?_;refine bd ?_;refine hs _ ?_;refine bC rfl fun rn hz => ?_;refine aT ad ?_;refine bd ?_;refine hz _ ?_;refine eU _ (some ([10,11],none)) ?_
        exact g6
       ·skip
        refine bC rfl fun rp hJ => ?_;refine aT ad ?_;refine bd ?_;refine hJ _ ?_;refine bC rfl fun rq ht => ?_;refine aT ad ?_;refine bd ?_;refine ht _ ?_;refine bC rfl fun tq gr => ?_;refine aT ad ?_;refine bd ?_;refine gr _ ?_;refine eU _ (some ([10,11],none)) ?_
        exact g6
      ·skip
       refine bC rfl fun tr hK => ?_;refine aT ad ?_;refine bd ?_;refine hK _ ?_;refine bC rfl fun uS iS => ?_;refine aT ad ?_;refine Or.inl (Or.inl ⟨_,hb v,?_⟩);refine iS _ ?_;refine bC rfl fun uT gu => ?_;refine aT ad ?_;refine bd ?_;refine gu _ ?_;refine bC rfl fun wm iT => ?_;refine aT ad ?_;refine bd ?_;refine iT _ ?_;refine eU _ (some ([10,11],none)) ?_
       exact g6
     ·skip
      refine bC rfl fun wo iU => ?_;refine aT ad ?_;refine bd ?_;refine iU _ ?_;refine bC rfl fun GC iV => ?_;refine aT ad ?_;refine bd ?_;refine iV _ ?_;refine bC rfl fun Vv iW => ?_;refine aT ad ?_;refine Or.inl (Or.inl ⟨_,hb v,?_⟩);refine iW _ ?_;refine bC rfl fun Vw kb => ?_;refine aT ad ?_;refine bd ?_;refine kb _ ?_;refine bC rfl fun Vx lQ => ?_;refine aT ad ?_;refine bd ?_;refine lQ _ ?_;refine eU _ (some ([10,11],none)) ?_
      exact g6
    ·skip
     refine bC rfl fun Vy ny => ?_;refine aT ad ?_;refine bd ?_;refine ny _ ?_;refine ⟨?_,?_⟩
     ·skip
      refine bC rfl fun Vz tX => ?_;refine aT ad ?_;refine bd ?_;refine tX _ ?_;refine ⟨?_,?_⟩
      ·skip
       refine bC rfl fun VA lR => ?_;refine aT ad ?_;refine Or.inl (Or.inl ⟨_,hb v,?_⟩);refine lR _ ?_;refine ⟨?_,?_⟩
       ·skip
        refine bC rfl fun VB oH => ?_;refine aT ad ?_;refine bd ?_;refine oH _ ?_;refine bC rfl fun VC oI => ?_;refine aT ad ?_;refine bd ?_;refine oI _ ?_;refine bC rfl fun VD mH => ?_;refine aT ad ?_;refine bd ?_;refine mH _ ?_;refine eU _ (some ([10,11],none)) ?_
        exact g6
       ·skip
        refine bC rfl fun VE oJ => ?_;refine aT ad ?_;refine bd ?_;refine oJ _ ?_;refine bC rfl fun VF jE => ?_;refine aT ad ?_;refine bd ?_;refine jE _ ?_;refine bC rfl fun VG nz => ?_;refine aT ad ?_;refine bd ?_;refine nz _ ?_;refine eU _ (some ([10,11],none)) ?_
        exact g6
      ·skip
       refine bC rfl fun VH mI => ?_;refine aT ad ?_;refine bd ?_;refine mI _ ?_;refine bC rfl fun VI nA => ?_;refine aT ad ?_;refine Or.inl (Or.inl ⟨_,hb v,?_⟩);refine nA _ ?_;refine bC rfl fun VJ tY => ?_;refine aT ad ?_;refine bd ?_;refine tY _ ?_;refine bC rfl fun VK qX => ?_;refine aT ad ?_;refine bd ?_;refine qX _ ?_;refine eU _ (some ([10,11],none)) ?_
       exact g6
     ·skip
      refine bC rfl fun VL p6 => ?_;refine aT ad ?_;refine bd ?_;refine p6 _ ?_;refine bC rfl fun VM rN => ?_;refine aT ad ?_;refine bd ?_;refine rN _ ?_;refine bC rfl fun VN rO => ?_;refine aT ad ?_;refine Or.inl (Or.inl ⟨_,hb v,?_⟩);refine rO _ ?_;refine bC rfl fun VO p7 => ?_;refine aT ad ?_;refine bd ?_;refine p7 _ ?_;refine bC rfl fun VP rP => ?_;refine aT ad ?_;refine bd ?_;refine rP _ ?_;refine eU _ (some ([10,11],none)) ?_
      exact g6
   ·skip
    refine bC rfl fun VQ rQ => ?_;refine aT ad ?_;refine bd ?_;refine rQ _ ?_;refine ⟨?_,?_⟩
    ·skip
     refine bC rfl fun VR p8 => ?_;refine aT ad ?_;refine bd ?_;refine p8 _ ?_;refine bC rfl fun VS rR => ?_;refine aT ad ?_;refine bd ?_;refine rR _ ?_;refine bC rfl fun VT wZ => ?_;refine aT ad ?_;refine Or.inl (Or.inl ⟨_,hb v,?_⟩);refine wZ _ ?_;refine bC rfl fun VU rS => ?_;refine aT ad ?_;refine bd ?_;refine rS _ ?_;refine bC rfl fun VV p9 => ?_;refine aT ad ?_;refine bd ?_;refine p9 _ ?_;refine eU _ (some ([10,11],none)) ?_
     exact g6
    ·skip
     refine bC rfl fun VW tZ => ?_;refine aT ad ?_;refine bd ?_;refine tZ _ ?_;refine bC rfl fun VX ua => ?_;refine aT ad ?_;refine bd ?_;refine ua _ ?_;refine bC rfl fun VY w1 => ?_;refine aT ad ?_;refine Or.inl (Or.inl ⟨_,hb v,?_⟩);refine w1 _ ?_;refine bC rfl fun VZ rT => ?_;refine aT ad ?_;refine bd ?_;refine rT _ ?_;refine bC rfl fun V0 A3 => ?_;refine aT ad ?_;refine bd ?_;refine A3 _ ?_;refine eU _ (some ([10,11],none)) ?_
     exact g6
  refine ee (some ([10,11],none)) _ ?_
  exact cO ad
 ·simp only [if_true]
  unfold bJ Lx K5;delta ab aR aa
  have ad := @e
  refine ae fun bz aK b6 cb => ai fun b7 aG => ?_;refine an ad ?_;refine aG _ (aK (some ([1,2,3,4,5,10,11],none)) _ (ae fun b8 aQ bt b5 => ai fun b9 bh => ?_));refine ag 2 ad ?_;refine ag 2 ad ?_;refine ag 1 ad ?_;refine aL 1 ad ?_;refine aL 1 ad ?_;refine Or.inl (Or.inl ⟨_,dn,?_⟩);refine ag 5 ad ?_;refine an ad ?_;refine bh _ (aQ (some ([1,2,3,4,5,10,11,12],none)) _ (ae fun cD bT dG eG => ai fun cv de => ?_));refine ag 1 ad ?_;refine aL 1 ad ?_;refine aL 1 ad ?_;refine Or.inl (Or.inl ⟨_,B0 M t bk.o2,?_⟩);refine aL 2 ad ?_;refine aL 1 ad ?_;refine Or.inl (Or.inl ⟨_,c2,?_⟩);refine aU ad ?_;refine de _ (bT (some ([1,4,5,10,11,12,14],none)) _ (ae fun cC cp ek ft => ae fun dy ck gV gA => ai fun bo aP => ?_));refine an ad ?_;refine aP _ (ck (some ([1,5,10,11,12,14,31],none)) _ ?_)
  refine bY (ai fun ey cF => ?_);refine ag 1 ad ?_;refine ag 2 ad ?_;refine aL 1 ad ?_;refine Or.inl (Or.inl ⟨_,eE,?_⟩);refine aU ad ?_;refine cF _ (cp (some ([1,5,10,11,12,14],none)) _ (ae fun fB ct _ _ => ?_));refine vb ([]) ?_ (fun fN cG => ?_) ?_
  rotate_left
  ·skip
   refine gI rfl fun gG ed => ?_;refine aT ad ?_;refine ed _ ?_;refine gI rfl fun gZ dt => ?_;refine aT ad ?_;refine dt _ ?_;refine ⟨?_,?_⟩
   ·skip
    refine ⟨?_,?_⟩
    ·skip
     refine bC rfl fun iK eB => ?_;refine aT ad ?_;refine bd ?_;refine eB _ ?_;refine ⟨?_,?_⟩
     ·skip
      refine bC rfl fun j3 gq => ?_;refine aT ad ?_;refine bd ?_;refine gq _ ?_;refine ⟨?_,?_⟩
      ·skip
       refine bC rfl fun nk eV => ?_;refine aT ad ?_;refine Or.inl (Or.inl ⟨_,hb u,?_⟩);refine eV _ ?_;refine ⟨?_,?_⟩
       ·skip
        refine bC rfl fun rm hs => ?_;refine aT ad ?_;refine bd ?_;refine hs _ ?_;refine bC rfl fun rn hz => ?_;refine aT ad ?_;refine bd ?_;refine hz _ ?_;refine bC rfl fun rp hJ => ?_;refine aT ad ?_;refine bd ?_;refine hJ _ ?_;refine cG _ (some ([10,11],none)) ?_
        exact g6
       ·skip
        refine bC rfl fun rq ht => ?_;refine aT ad ?_;refine bd ?_;refine ht _ ?_;refine bC rfl fun tq gr => ?_;refine aT ad ?_;refine bd ?_;refine gr _ ?_;refine bC rfl fun tr hK => ?_;refine aT ad ?_;refine bd ?_;refine hK _ ?_;refine cG _ (some ([10,11],none)) ?_
        exact g6
      ·skip
       refine bC rfl fun uS iS => ?_;refine aT ad ?_;refine bd ?_;refine iS _ ?_;refine bC rfl fun uT gu => ?_;refine aT ad ?_;refine Or.inl (Or.inl ⟨_,hb u,?_⟩);refine gu _ ?_;refine bC rfl fun wm iT => ?_;refine aT ad ?_;refine bd ?_;refine iT _ ?_;refine bC rfl fun wo iU => ?_;refine aT ad ?_;refine bd ?_;refine iU _ ?_;refine cG _ (some ([10,11],none)) ?_
       exact g6
     ·skip
      refine bC rfl fun GC iV => ?_;refine aT ad ?_;refine bd ?_;refine iV _ ?_;refine bC rfl fun Vv iW => ?_;refine aT ad ?_;refine bd ?_;refine iW _ ?_;refine bC rfl fun Vw kb => ?_;refine aT ad ?_;refine Or.inl (Or.inl ⟨_,hb u,?_⟩);refine kb _ ?_;refine bC rfl fun Vx lQ => ?_;refine aT ad ?_;refine bd ?_;refine lQ _ ?_;refine bC rfl fun Vy ny => ?_;refine aT ad ?_;refine bd ?_;refine ny _ ?_;refine cG _ (some ([10,11],none)) ?_
      exact g6
    ·skip
     refine bC rfl fun Vz tX => ?_;refine aT ad ?_;refine bd ?_;refine tX _ ?_;refine ⟨?_,?_⟩
     ·skip
      refine bC rfl fun VA lR => ?_;refine aT ad ?_;refine bd ?_;refine lR _ ?_;refine ⟨?_,?_⟩
      ·skip
       refine bC rfl fun VB oH => ?_;refine aT ad ?_;refine Or.inl (Or.inl ⟨_,hb u,?_⟩);refine oH _ ?_;refine ⟨?_,?_⟩
       ·skip
        refine bC rfl fun VC oI => ?_;refine aT ad ?_;refine bd ?_;refine oI _ ?_;refine bC rfl fun VD mH => ?_;refine aT ad ?_;refine bd ?_;refine mH _ ?_;refine bC rfl fun VE oJ => ?_;refine aT ad ?_;refine bd ?_;refine oJ _ ?_;refine cG _ (some ([10,11],none)) ?_
        exact g6
       ·skip
        refine bC rfl fun VF jE => ?_;refine aT ad ?_;refine bd ?_;refine jE _ ?_;refine bC rfl fun VG nz => ?_;refine aT ad ?_;refine bd ?_;refine nz _ ?_;refine bC rfl fun VH mI => ?_;refine aT ad ?_;refine bd ?_;refine mI _ ?_;refine cG _ (some ([10,11],none)) ?_
        exact g6
      ·skip
       refine bC rfl fun VI nA => ?_;refine aT ad ?_;refine bd ?_;refine nA _ ?_;refine bC rfl fun VJ tY => ?_;refine aT ad ?_;refine Or.inl (Or.inl ⟨_,hb u,?_⟩);refine tY _ ?_;refine bC rfl fun VK qX => ?_;refine aT ad ?_;refine bd ?_;refine qX _ ?_;refine bC rfl fun VL p6 => ?_;refine aT ad ?_;refine bd ?_;refine p6 _ ?_;refine cG _ (some ([10,11],none)) ?_
       exact g6
     ·skip
      refine bC rfl fun VM rN => ?_;refine aT ad ?_;refine bd ?_;refine rN _ ?_;refine bC rfl fun VN rO => ?_;refine aT ad ?_;refine bd ?_;refine rO _ ?_;refine bC rfl fun VO p7 => ?_;refine aT ad ?_;refine Or.inl (Or.inl ⟨_,hb u,?_⟩);refine p7 _ ?_;refine bC rfl fun VP rP => ?_;refine aT ad ?_;refine bd ?_;refine rP _ ?_;refine bC rfl fun VQ rQ => ?_;refine aT ad ?_;refine bd ?_;refine rQ _ ?_;refine cG _ (some ([10,11],none)) ?_
      exact g6
   ·skip
    refine bC rfl fun VR p8 => ?_;refine aT ad ?_;refine bd ?_;refine p8 _ ?_;refine ⟨?_,?_⟩
    ·skip
     refine bC rfl fun VS rR => ?_;refine aT ad ?_;refine bd ?_;refine rR _ ?_;refine bC rfl fun VT wZ => ?_;refine aT ad ?_;refine bd ?_;refine wZ _ ?_;refine bC rfl fun VU rS => ?_;refine aT ad ?_;refine Or.inl (Or.inl ⟨_,hb u,?_⟩);refine rS _ ?_;refine bC rfl fun VV p9 => ?_;refine aT ad ?_;refine bd ?_;refine p9 _ ?_;refine bC rfl fun VW tZ => ?_;refine aT ad ?_;refine bd ?_;refine tZ _ ?_;refine cG _ (some ([10,11],none)) ?_
     exact g6
    ·skip
     refine bC rfl fun VX ua => ?_;refine aT ad ?_;refine bd ?_;refine ua _ ?_;refine bC rfl fun VY w1 => ?_;refine aT ad ?_;refine bd ?_;refine w1 _ ?_;refine bC rfl fun VZ rT => ?_;refine aT ad ?_;refine Or.inl (Or.inl ⟨_,hb u,?_⟩);refine rT _ ?_;refine bC rfl fun V0 A3 => ?_;refine aT ad ?_;refine bd ?_;refine A3 _ ?_;refine bC rfl fun _ w2 => ?_;refine aT ad ?_;refine bd ?_;refine w2 _ ?_;refine cG _ (some ([10,11],none)) ?_
     exact g6
  refine ct (some ([10,11],none)) _ ?_
  exact cO ad
set_option maxHeartbeats 2000000 in
theorem QX (M : c6) (t a : Int) (w : bq) (whole : Bool) {n : Nat} (bk : gg M n) (a7 : n ≤ 10000) (aO : hl M t) (aZ : fq M a) : cu 107 [iF M,aI t,aI a,.agg (dj w),dH whole] (iF (j4 M t a w whole)) := by
 refine df Tryz.func107 akg rfl ?_
 obtain ⟨m,rfl,hm,e,_⟩ := y9 aZ
 have EC := xV bk t
 have ka := (xE bk aZ).1
 have fa := bk.pl
 have ID := A1 bk m
 have c2 := Kh (gL M t) m (dI M m).length EC ka
 have eE := Kh (fun _ => none) m (dI M m).length wb ka
 have bL : IntKind.i64.wrap ((m : Int) + 1) = ((m + 1 : Nat) : Int) := by rw [IntKind.wrap_i64]; omega
 have hb := fun (P : List (List jP)) v => QZ ⟨P,M.views⟩ t v aO bk.o2
 have n4 : ∀ x : List jP,(M.places.map rA).take m ++ [[av.au 5 0 (x.map Am)]] ++ (M.places.map rA).drop (m + 1) = (M.places.set m x).map rA := fun x => by
  rw [List.map_set,List.set_eq_take_append_cons_drop,if_pos (by simpa using hm)]
  simp
 unfold j4 th
 generalize l5 (gL M t) m (dI M m).length = v at c2 ⊢
 generalize l5 (fun _ => none) m (dI M m).length = u at eE ⊢
 cases whole
 ·simp only [Bool.false_eq_true,if_false]
  unfold bJ Lw K4;delta ab aR aa aA
  have ad := And.intro @e @bL
  refine ae fun bz aK b6 cb => ai fun b7 aG => ?_;refine an ad ?_;refine aG _ (aK (some ([1,2,4,5,8,10],none)) _ (ae fun b8 aQ bt b5 => ai fun b9 bh => ?_));refine ag 2 ad ?_;refine ag 2 ad ?_;refine ag 1 ad ?_;refine aU ad ?_;refine bh _ (aQ (some ([1,2,4,5,8,10,11],none)) _ (ae fun cD bT dG eG => ?_));refine hy [] (n := 8) fun cv de => ?_;refine hv ?_;refine cR 1 ad ?_;refine gj 1 ad ?_;refine gj 1 ad ?_;refine ⟨_,B0 M t bk.o2,?_⟩;refine cR 2 ad ?_;refine gj 1 ad ?_;refine ⟨_,Fg _,?_⟩;refine gj 1 ad ?_;refine ⟨_,c2,?_⟩;refine lJ ad ?_;refine de _ ?_;refine hx ?_;refine aU ad ?_;refine bT (some ([1,2,4,5,8,10,11,12],none)) _ (ae fun dy ck gV gA => ai fun bo aP => ?_);refine ag 1 ad ?_;refine aU ad ?_;refine aP _ (ck (some ([1,2,4,5,8,10,11,12,13],none)) _ (ae fun ey ee mg jm => ?_))
  refine ae fun fB ct hL gU => ai fun fN cG => ?_;refine an ad ?_;refine cG _ (ct (some ([1,2,5,8,10,11,12,13,30],none)) _ (bY (ai fun gG ed => ?_)));refine ag 3 ad ?_;refine aL 1 ad ?_;refine Or.inl (Or.inl ⟨_,Fg _,?_⟩);refine aL 1 ad ?_;refine Or.inl (Or.inl ⟨_,eE,?_⟩);refine aU ad ?_;refine ed _ (ee (some ([1,2,5,8,10,11,12,13],none)) _ (ae fun gZ fQ _ _ => ai fun iK eB => ?_));refine ag 2 ad ?_;refine ag 2 ad ?_;refine ag 1 ad ?_;refine an ad ?_;refine eB _ (fQ (some ([1,2,5,8,10,11,12,13,14],none)) _ (ae fun j3 fy _ _ => ?_));refine hy [] (n := 12) fun _ eV => ?_;refine hv ?_;refine cR 2 ad ?_;refine cR 3 ad ?_;refine cR 1 ad ?_;refine cR 1 ad ?_;refine cR 2 ad ?_;refine gj 1 ad ?_;refine gj 1 ad ?_;refine ⟨_,QO _ ⟨w,t,u⟩ (by omega),?_⟩;refine pc ad ?_
  refine eV _ ?_;refine hx ?_;refine ag 1 ad ?_;refine an ad ?_;refine fy (some ([1,5,10,12,14,15],none)) _ (ae fun rn h4 _ _ => ai fun rp hJ => ?_);refine ag 3 ad ?_;refine aU ad ?_;refine hJ _ (h4 (some ([1,5,10,12],none)) _ (ae fun rq h5 _ _ => ai fun _ gr => ?_));refine ag 1 ad ?_;refine ag 2 ad ?_;refine aL 1 ad ?_
  rw [n4]
  refine Or.inl (Or.inl ⟨_,hb _ v,?_⟩);refine aU ad ?_;refine gr _ (h5 (some ([10],none)) _ ?_)
  exact cO ad
 ·simp only [if_true]
  unfold bJ Lw K4;delta ab aR aa aA
  have ad := And.intro @e @bL
  refine ae fun bz aK b6 cb => ai fun b7 aG => ?_;refine an ad ?_;refine aG _ (aK (some ([1,2,4,5,8,10],none)) _ (ae fun b8 aQ bt b5 => ai fun b9 bh => ?_));refine ag 2 ad ?_;refine ag 2 ad ?_;refine ag 1 ad ?_;refine aU ad ?_;refine bh _ (aQ (some ([1,2,4,5,8,10,11],none)) _ (ae fun cD bT dG eG => ?_));refine hy [] (n := 8) fun cv de => ?_;refine hv ?_;refine cR 1 ad ?_;refine gj 1 ad ?_;refine gj 1 ad ?_;refine ⟨_,B0 M t bk.o2,?_⟩;refine cR 2 ad ?_;refine gj 1 ad ?_;refine ⟨_,Fg _,?_⟩;refine gj 1 ad ?_;refine ⟨_,c2,?_⟩;refine lJ ad ?_;refine de _ ?_;refine hx ?_;refine aU ad ?_;refine bT (some ([1,2,4,5,8,10,11,12],none)) _ (ae fun dy ck gV gA => ai fun bo aP => ?_);refine ag 1 ad ?_;refine aU ad ?_;refine aP _ (ck (some ([1,2,4,5,8,10,11,12,13],none)) _ (ae fun ey ee mg jm => ?_))
  refine ae fun fB ct hL gU => ai fun fN cG => ?_;refine an ad ?_;refine cG _ (ct (some ([1,2,5,8,10,11,12,13,30],none)) _ (bB (ee (some ([1,2,5,8,10,11,12,13],none)) _ (ae fun gG dJ _ _ => ai fun gZ dt => ?_))));refine ag 2 ad ?_;refine ag 2 ad ?_;refine ag 1 ad ?_;refine an ad ?_;refine dt _ (dJ (some ([1,2,5,8,10,11,12,13,14],none)) _ (ae fun iK gK _ _ => ?_));refine hy [] (n := 12) fun j3 gq => ?_;refine hv ?_;refine cR 2 ad ?_;refine cR 3 ad ?_;refine cR 1 ad ?_;refine cR 1 ad ?_;refine cR 2 ad ?_;refine gj 1 ad ?_;refine gj 1 ad ?_;refine ⟨_,QO _ ⟨w,t,v⟩ (by omega),?_⟩;refine pc ad ?_;refine gq _ ?_;refine hx ?_;refine ag 1 ad ?_;refine an ad ?_;refine gK (some ([1,5,10,12,14,15],none)) _ (ae fun _ ic _ _ => ai fun rn hz => ?_);refine ag 3 ad ?_
  refine aU ad ?_;refine hz _ (ic (some ([1,5,10,12],none)) _ (ae fun rp ix _ _ => ai fun rq ht => ?_));refine ag 1 ad ?_;refine ag 2 ad ?_;refine aL 1 ad ?_
  rw [n4]
  refine Or.inl (Or.inl ⟨_,hb _ v,?_⟩);refine aU ad ?_;refine ht _ (ix (some ([10],none)) _ ?_)
  exact cO ad
end Go.Proofs.YtkmbcjnaaokilaaGreatDoor
