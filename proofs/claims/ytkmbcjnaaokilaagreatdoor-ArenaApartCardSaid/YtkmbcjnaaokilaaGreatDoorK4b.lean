/-
  Layer 4 by shadows: reading and writing.
-/
import Derived.Test.YtkmbcjnaaokilaaGreatDoorK4a
namespace Go.Proofs.YtkmbcjnaaokilaaGreatDoor
set_option linter.unusedSimpArgs false
set_option linter.unusedVariables false
open Go.RowKit Go.Maps
theorem Jb {M : c8} {n : Nat} (bA : gp M n) (a i : Int) : m6 (lb (dV M a) i).view := by
 unfold lb
 split
 ·cases e : (dV M a)[i.toNat]? with
  | none => exact xR
  | some m =>
   have hm := List.mem_of_getElem? e
   unfold dV at hm
   split at hm
   ·cases a7 : M.places[a.toNat]? with
    | none => rw [a7] at hm; simp at hm
    | some h => rw [a7] at hm; exact bA.msgs h (List.mem_of_getElem? a7) m hm
   ·simp at hm
 ·exact xR
set_option maxHeartbeats 2000000 in
theorem ajZ (M : c8) (t a i : Int) (j : Bool) {n : Nat} (bA : gp M n) (aL : hA M t) (a5 : fC M a) : cq 120 [iZ M,aG t,aG a,aG i,eA j] (.bY [iZ (nb M t a i j).1,.agg (c6 (nb M t a i j).2)]) := by
 refine df Tryz.func120 anY rfl ?_
 obtain ⟨m,rfl,hm,e,_⟩ := AP a5
 have GL := zB bA t
 have ahn := zK GL m i
 have ahy := Jb bA m i
 have kz := (zk bA a5).1
 have c2 := MO (gS M t) m i GL kz
 have eu := ake _ _ ahn ahy
 have fR := fun v => T2 M t v aL bA.p4
 have de := TP (dV M m) i
 unfold nb
 generalize lb (dV M m) i = x at de eu ⊢
 generalize mH (gS M t) m i = v at c2 eu ⊢
 generalize uA v x.view = u at eu ⊢
 cases j
 ·simp only [Bool.false_eq_true,if_false]
  unfold bK Ob NI;delta ab aQ aa
  have ad := @e
  refine ae fun bD aK b9 ck => ai fun ca aH => ?_;refine al ad ?_;refine aH _ (aK (some ([1,2,3,4,5,10,11],none)) _ (ae fun cg aP bx b8 => ai fun ch bk => ?_));refine ag 2 ad ?_;refine ag 2 ad ?_;refine ag 1 ad ?_;refine aM 1 ad ?_;refine aM 1 ad ?_;refine Or.inl (Or.inl ⟨_,de,?_⟩);refine ag 5 ad ?_;refine al ad ?_;refine bk _ (aP (some ([1,2,3,4,5,10,11,12],none)) _ (ae fun cM bV dQ eP => ai fun cG dk => ?_));refine ag 1 ad ?_;refine aM 1 ad ?_;refine aM 1 ad ?_;refine Or.inl (Or.inl ⟨_,DN M t bA.p4,?_⟩);refine aM 2 ad ?_;refine aM 1 ad ?_;refine Or.inl (Or.inl ⟨_,c2,?_⟩);refine aS ad ?_;refine dk _ (bV (some ([1,4,5,10,11,12,14],none)) _ (ae fun cI cz ey fp => ae fun dB cv g7 gw => ai fun bz aR => ?_));refine al ad ?_;refine aR _ (cv (some ([1,5,10,11,12,14,31],none)) _ ?_)
  refine bs (cz (some ([1,5,10,11,12,14],none)) _ (ae fun eK eo _ _ => ?_));refine Ac ([]) ?_ (fun fM fe => ?_) ?_
  rotate_left
  ·skip
   refine gN rfl fun ga cD => ?_;refine a2 ad ?_;refine cD _ ?_;refine gN rfl fun gK ew => ?_;refine a2 ad ?_;refine ew _ ?_;refine ⟨?_,?_⟩
   ·skip
    refine ⟨?_,?_⟩
    ·skip
     refine bF rfl fun hc dq => ?_;refine a2 ad ?_;refine bh ?_;refine dq _ ?_;refine ⟨?_,?_⟩
     ·skip
      refine bF rfl fun jf eJ => ?_;refine a2 ad ?_;refine bh ?_;refine eJ _ ?_;refine ⟨?_,?_⟩
      ·skip
       refine bF rfl fun kp gC => ?_;refine a2 ad ?_;refine Or.inl (Or.inl ⟨_,fR v,?_⟩);refine gC _ ?_;refine ⟨?_,?_⟩
       ·skip
        refine bF rfl fun n3 eF => ?_;refine a2 ad ?_;refine bh ?_;refine eF _ ?_;refine bF rfl fun su hI => ?_;refine a2 ad ?_;refine bh ?_;refine hI _ ?_;refine bF rfl fun sv hr => ?_;refine a2 ad ?_;refine bh ?_;refine hr _ ?_;refine fe _ (some ([10,11],none)) ?_
        exact hj
       ·skip
        refine bF rfl fun sw hX => ?_;refine a2 ad ?_;refine bh ?_;refine hX _ ?_;refine bF rfl fun sx hh => ?_;refine a2 ad ?_;refine bh ?_;refine hh _ ?_;refine bF rfl fun uH gf => ?_;refine a2 ad ?_;refine bh ?_;refine gf _ ?_;refine fe _ (some ([10,11],none)) ?_
        exact hj
      ·skip
       refine bF rfl fun uI im => ?_;refine a2 ad ?_;refine bh ?_;refine im _ ?_;refine bF rfl fun we iq => ?_;refine a2 ad ?_;refine Or.inl (Or.inl ⟨_,fR v,?_⟩);refine iq _ ?_;refine bF rfl fun wg gD => ?_;refine a2 ad ?_;refine bh ?_;refine gD _ ?_;refine bF rfl fun xY ir => ?_;refine a2 ad ?_;refine bh ?_;refine ir _ ?_;refine fe _ (some ([10,11],none)) ?_
       exact hj
     ·skip
      refine bF rfl fun xZ jT => ?_;refine a2 ad ?_;refine bh ?_;refine jT _ ?_;refine bF rfl fun IK iO => ?_;refine a2 ad ?_;refine bh ?_;refine iO _ ?_;refine bF rfl fun Za hY => ?_;refine a2 ad ?_;refine Or.inl (Or.inl ⟨_,fR v,?_⟩);refine hY _ ?_;refine bF rfl fun Zb jU => ?_;refine a2 ad ?_;refine bh ?_;refine jU _ ?_;refine bF rfl fun Zc mr => ?_;refine a2 ad ?_;refine bh ?_;refine mr _ ?_;refine fe _ (some ([10,11],none)) ?_
      exact hj
    ·skip
     refine bF rfl fun Zd mu => ?_;refine a2 ad ?_;refine bh ?_;refine mu _ ?_;refine ⟨?_,?_⟩
     ·skip
      refine bF rfl fun Ze vf => ?_;refine a2 ad ?_;refine bh ?_;refine vf _ ?_;refine ⟨?_,?_⟩
      ·skip
       refine bF rfl fun Zf lq => ?_;refine a2 ad ?_;refine Or.inl (Or.inl ⟨_,fR v,?_⟩);refine lq _ ?_;refine ⟨?_,?_⟩
       ·skip
        refine bF rfl fun Zg nj => ?_;refine a2 ad ?_;refine bh ?_;refine nj _ ?_;refine bF rfl fun Zh pK => ?_;refine a2 ad ?_;refine bh ?_;refine pK _ ?_;refine bF rfl fun Zi nk => ?_;refine a2 ad ?_;refine bh ?_;refine nk _ ?_;refine fe _ (some ([10,11],none)) ?_
        exact hj
       ·skip
        refine bF rfl fun Zj pL => ?_;refine a2 ad ?_;refine bh ?_;refine pL _ ?_;refine bF rfl fun Zk jV => ?_;refine a2 ad ?_;refine bh ?_;refine jV _ ?_;refine bF rfl fun Zl nm => ?_;refine a2 ad ?_;refine bh ?_;refine nm _ ?_;refine fe _ (some ([10,11],none)) ?_
        exact hj
      ·skip
       refine bF rfl fun Zm nn => ?_;refine a2 ad ?_;refine bh ?_;refine nn _ ?_;refine bF rfl fun Zn np => ?_;refine a2 ad ?_;refine Or.inl (Or.inl ⟨_,fR v,?_⟩);refine np _ ?_;refine bF rfl fun Zo sW => ?_;refine a2 ad ?_;refine bh ?_;refine sW _ ?_;refine bF rfl fun Zp oY => ?_;refine a2 ad ?_;refine bh ?_;refine oY _ ?_;refine fe _ (some ([10,11],none)) ?_
       exact hj
     ·skip
      refine bF rfl fun Zq q8 => ?_;refine a2 ad ?_;refine bh ?_;refine q8 _ ?_;refine bF rfl fun Zr pM => ?_;refine a2 ad ?_;refine bh ?_;refine pM _ ?_;refine bF rfl fun Zs sX => ?_;refine a2 ad ?_;refine Or.inl (Or.inl ⟨_,fR v,?_⟩);refine sX _ ?_;refine bF rfl fun Zt q9 => ?_;refine a2 ad ?_;refine bh ?_;refine q9 _ ?_;refine bF rfl fun Zu vg => ?_;refine a2 ad ?_;refine bh ?_;refine vg _ ?_;refine fe _ (some ([10,11],none)) ?_
      exact hj
   ·skip
    refine bF rfl fun Zv ra => ?_;refine a2 ad ?_;refine bh ?_;refine ra _ ?_;refine ⟨?_,?_⟩
    ·skip
     refine bF rfl fun Zw pN => ?_;refine a2 ad ?_;refine bh ?_;refine pN _ ?_;refine bF rfl fun Zx vh => ?_;refine a2 ad ?_;refine bh ?_;refine vh _ ?_;refine bF rfl fun Zy vi => ?_;refine a2 ad ?_;refine Or.inl (Or.inl ⟨_,fR v,?_⟩);refine vi _ ?_;refine bF rfl fun Zz sY => ?_;refine a2 ad ?_;refine bh ?_;refine sY _ ?_;refine bF rfl fun ZA ov => ?_;refine a2 ad ?_;refine bh ?_;refine ov _ ?_;refine fe _ (some ([10,11],none)) ?_
     exact hj
    ·skip
     refine bF rfl fun ZB yD => ?_;refine a2 ad ?_;refine bh ?_;refine yD _ ?_;refine bF rfl fun ZC vj => ?_;refine a2 ad ?_;refine bh ?_;refine vj _ ?_;refine bF rfl fun ZD vk => ?_;refine a2 ad ?_;refine Or.inl (Or.inl ⟨_,fR v,?_⟩);refine vk _ ?_;refine bF rfl fun ZE vl => ?_;refine a2 ad ?_;refine bh ?_;refine vl _ ?_;refine bF rfl fun ZF vm => ?_;refine a2 ad ?_;refine bh ?_;refine vm _ ?_;refine fe _ (some ([10,11],none)) ?_
     exact hj
  refine eo (some ([10,11],none)) _ ?_
  exact cQ ad
 ·simp only [if_true]
  unfold bK Ob NI;delta ab aQ aa
  have ad := @e
  refine ae fun bD aK b9 ck => ai fun ca aH => ?_;refine al ad ?_;refine aH _ (aK (some ([1,2,3,4,5,10,11],none)) _ (ae fun cg aP bx b8 => ai fun ch bk => ?_));refine ag 2 ad ?_;refine ag 2 ad ?_;refine ag 1 ad ?_;refine aM 1 ad ?_;refine aM 1 ad ?_;refine Or.inl (Or.inl ⟨_,de,?_⟩);refine ag 5 ad ?_;refine al ad ?_;refine bk _ (aP (some ([1,2,3,4,5,10,11,12],none)) _ (ae fun cM bV dQ eP => ai fun cG dk => ?_));refine ag 1 ad ?_;refine aM 1 ad ?_;refine aM 1 ad ?_;refine Or.inl (Or.inl ⟨_,DN M t bA.p4,?_⟩);refine aM 2 ad ?_;refine aM 1 ad ?_;refine Or.inl (Or.inl ⟨_,c2,?_⟩);refine aS ad ?_;refine dk _ (bV (some ([1,4,5,10,11,12,14],none)) _ (ae fun cI cz ey fp => ae fun dB cv g7 gw => ai fun bz aR => ?_));refine al ad ?_;refine aR _ (cv (some ([1,5,10,11,12,14,31],none)) _ ?_)
  refine bU (ai fun eK cK => ?_);refine ag 1 ad ?_;refine ag 2 ad ?_;refine aM 1 ad ?_;refine Or.inl (Or.inl ⟨_,eu,?_⟩);refine aS ad ?_;refine cK _ (cz (some ([1,5,10,11,12,14],none)) _ (ae fun fM cr _ _ => ?_));refine Ac ([]) ?_ (fun ga cD => ?_) ?_
  rotate_left
  ·skip
   refine gN rfl fun gK ew => ?_;refine a2 ad ?_;refine ew _ ?_;refine gN rfl fun hc dq => ?_;refine a2 ad ?_;refine dq _ ?_;refine ⟨?_,?_⟩
   ·skip
    refine ⟨?_,?_⟩
    ·skip
     refine bF rfl fun jf eJ => ?_;refine a2 ad ?_;refine bh ?_;refine eJ _ ?_;refine ⟨?_,?_⟩
     ·skip
      refine bF rfl fun kp gC => ?_;refine a2 ad ?_;refine bh ?_;refine gC _ ?_;refine ⟨?_,?_⟩
      ·skip
       refine bF rfl fun n3 eF => ?_;refine a2 ad ?_;refine Or.inl (Or.inl ⟨_,fR u,?_⟩);refine eF _ ?_;refine ⟨?_,?_⟩
       ·skip
        refine bF rfl fun su hI => ?_;refine a2 ad ?_;refine bh ?_;refine hI _ ?_;refine bF rfl fun sv hr => ?_;refine a2 ad ?_;refine bh ?_;refine hr _ ?_;refine bF rfl fun sw hX => ?_;refine a2 ad ?_;refine bh ?_;refine hX _ ?_;refine cD _ (some ([10,11],none)) ?_
        exact hj
       ·skip
        refine bF rfl fun sx hh => ?_;refine a2 ad ?_;refine bh ?_;refine hh _ ?_;refine bF rfl fun uH gf => ?_;refine a2 ad ?_;refine bh ?_;refine gf _ ?_;refine bF rfl fun uI im => ?_;refine a2 ad ?_;refine bh ?_;refine im _ ?_;refine cD _ (some ([10,11],none)) ?_
        exact hj
      ·skip
       refine bF rfl fun we iq => ?_;refine a2 ad ?_;refine bh ?_;refine iq _ ?_;refine bF rfl fun wg gD => ?_;refine a2 ad ?_;refine Or.inl (Or.inl ⟨_,fR u,?_⟩);refine gD _ ?_;refine bF rfl fun xY ir => ?_;refine a2 ad ?_;refine bh ?_;refine ir _ ?_;refine bF rfl fun xZ jT => ?_;refine a2 ad ?_;refine bh ?_;refine jT _ ?_;refine cD _ (some ([10,11],none)) ?_
       exact hj
     ·skip
      refine bF rfl fun IK iO => ?_;refine a2 ad ?_;refine bh ?_;refine iO _ ?_;refine bF rfl fun Za hY => ?_;refine a2 ad ?_;refine bh ?_;refine hY _ ?_;refine bF rfl fun Zb jU => ?_;refine a2 ad ?_;refine Or.inl (Or.inl ⟨_,fR u,?_⟩);refine jU _ ?_;refine bF rfl fun Zc mr => ?_;refine a2 ad ?_;refine bh ?_;refine mr _ ?_;refine bF rfl fun Zd mu => ?_;refine a2 ad ?_;refine bh ?_;refine mu _ ?_;refine cD _ (some ([10,11],none)) ?_
      exact hj
    ·skip
     refine bF rfl fun Ze vf => ?_;refine a2 ad ?_;refine bh ?_;refine vf _ ?_;refine ⟨?_,?_⟩
     ·skip
      refine bF rfl fun Zf lq => ?_;refine a2 ad ?_;refine bh ?_;refine lq _ ?_;refine ⟨?_,?_⟩
      ·skip
       refine bF rfl fun Zg nj => ?_;refine a2 ad ?_;refine Or.inl (Or.inl ⟨_,fR u,?_⟩);refine nj _ ?_;refine ⟨?_,?_⟩
       ·skip
        refine bF rfl fun Zh pK => ?_;refine a2 ad ?_;refine bh ?_;refine pK _ ?_;refine bF rfl fun Zi nk => ?_;refine a2 ad ?_;refine bh ?_;refine nk _ ?_;refine bF rfl fun Zj pL => ?_;refine a2 ad ?_;refine bh ?_;refine pL _ ?_;refine cD _ (some ([10,11],none)) ?_
        exact hj
       ·skip
        refine bF rfl fun Zk jV => ?_;refine a2 ad ?_;refine bh ?_;refine jV _ ?_;refine bF rfl fun Zl nm => ?_;refine a2 ad ?_;refine bh ?_;refine nm _ ?_;refine bF rfl fun Zm nn => ?_;refine a2 ad ?_;refine bh ?_;refine nn _ ?_;refine cD _ (some ([10,11],none)) ?_
        exact hj
      ·skip
       refine bF rfl fun Zn np => ?_;refine a2 ad ?_;refine bh ?_;refine np _ ?_;refine bF rfl fun Zo sW => ?_;refine a2 ad ?_;refine Or.inl (Or.inl ⟨_,fR u,?_⟩);refine sW _ ?_;refine bF rfl fun Zp oY => ?_;refine a2 ad ?_;refine bh ?_;refine oY _ ?_;refine bF rfl fun Zq q8 => ?_;refine a2 ad ?_;refine bh ?_;refine q8 _ ?_;refine cD _ (some ([10,11],none)) ?_
       exact hj
     ·skip
      refine bF rfl fun Zr pM => ?_;refine a2 ad ?_;refine bh ?_;refine pM _ ?_;refine bF rfl fun Zs sX => ?_;refine a2 ad ?_;refine bh ?_;refine sX _ ?_;refine bF rfl fun Zt q9 => ?_;refine a2 ad ?_;refine Or.inl (Or.inl ⟨_,fR u,?_⟩);refine q9 _ ?_;refine bF rfl fun Zu vg => ?_;refine a2 ad ?_;refine bh ?_;refine vg _ ?_;refine bF rfl fun Zv ra => ?_;refine a2 ad ?_;refine bh ?_;refine ra _ ?_;refine cD _ (some ([10,11],none)) ?_
      exact hj
   ·skip
    refine bF rfl fun Zw pN => ?_;refine a2 ad ?_;refine bh ?_;refine pN _ ?_;refine ⟨?_,?_⟩
    ·skip
     refine bF rfl fun Zx vh => ?_;refine a2 ad ?_;refine bh ?_;refine vh _ ?_;refine bF rfl fun Zy vi => ?_;refine a2 ad ?_;refine bh ?_;refine vi _ ?_;refine bF rfl fun Zz sY => ?_;refine a2 ad ?_;refine Or.inl (Or.inl ⟨_,fR u,?_⟩);refine sY _ ?_;refine bF rfl fun ZA ov => ?_;refine a2 ad ?_;refine bh ?_;refine ov _ ?_;refine bF rfl fun ZB yD => ?_;refine a2 ad ?_;refine bh ?_;refine yD _ ?_;refine cD _ (some ([10,11],none)) ?_
     exact hj
    ·skip
     refine bF rfl fun ZC vj => ?_;refine a2 ad ?_;refine bh ?_;refine vj _ ?_;refine bF rfl fun ZD vk => ?_;refine a2 ad ?_;refine bh ?_;refine vk _ ?_;refine bF rfl fun ZE vl => ?_;refine a2 ad ?_;refine Or.inl (Or.inl ⟨_,fR u,?_⟩);refine vl _ ?_;refine bF rfl fun ZF vm => ?_;refine a2 ad ?_;refine bh ?_;refine vm _ ?_;refine bF rfl fun _ yE => ?_;refine a2 ad ?_;refine bh ?_;refine yE _ ?_;refine cD _ (some ([10,11],none)) ?_
     exact hj
  refine cr (some ([10,11],none)) _ ?_
  exact cQ ad
set_option maxHeartbeats 2000000 in
theorem T0 (M : c8) (t a : Int) (w : bm) (whole : Bool) {n : Nat} (bA : gp M n) (a9 : n ≤ 10000) (aL : hA M t) (a5 : fC M a) : cq 107 [iZ M,aG t,aG a,.agg (c6 w),eA whole] (iZ (kr M t a w whole)) := by
 refine df Tryz.func107 anX rfl ?_
 obtain ⟨m,rfl,hm,e,_⟩ := AP a5
 have GL := zB bA t
 have kz := (zk bA a5).1
 have fg := bA.pl
 have CF := CJ bA m
 have c2 := MO (gS M t) m (dV M m).length GL kz
 have eu := MO (fun _ => none) m (dV M m).length xR kz
 have bJ : IntKind.i64.wrap ((m : Int) + 1) = ((m + 1 : Nat) : Int) := by rw [IntKind.wrap_i64]; omega
 have fR := fun (P : List (List j5)) v => T2 ⟨P,M.views⟩ t v aL bA.p4
 have oW : ∀ x : List j5,(M.places.map sJ).take m ++ [[aw.au 5 0 (x.map BW)]] ++ (M.places.map sJ).drop (m + 1) = (M.places.set m x).map sJ := fun x => by
  rw [List.map_set,List.set_eq_take_append_cons_drop,if_pos (by simpa using hm)]
  simp
 unfold kr ux
 generalize mH (gS M t) m (dV M m).length = v at c2 ⊢
 generalize mH (fun _ => none) m (dV M m).length = u at eu ⊢
 cases whole
 ·simp only [Bool.false_eq_true,if_false]
  unfold bK Oa NH;delta ab aQ aa ay
  have ad := And.intro @e @bJ
  refine ae fun bD aK b9 ck => ai fun ca aH => ?_;refine al ad ?_;refine aH _ (aK (some ([1,2,4,5,8,10],none)) _ (ae fun cg aP bx b8 => ai fun ch bk => ?_));refine ag 2 ad ?_;refine ag 2 ad ?_;refine ag 1 ad ?_;refine aS ad ?_;refine bk _ (aP (some ([1,2,4,5,8,10,11],none)) _ (ae fun cM bV dQ eP => ?_));refine gh [] (n := 8) fun cG dk => ?_;refine gY ?_;refine cF 1 ad ?_;refine gd 1 ad ?_;refine gd 1 ad ?_;refine ⟨_,DN M t bA.p4,?_⟩;refine cF 2 ad ?_;refine gd 1 ad ?_;refine ⟨_,Hi _,?_⟩;refine gd 1 ad ?_;refine ⟨_,c2,?_⟩;refine lh ad ?_;refine dk _ ?_;refine gZ ?_;refine aS ad ?_;refine bV (some ([1,2,4,5,8,10,11,12],none)) _ (ae fun dB cv g7 gw => ai fun bz aR => ?_);refine ag 1 ad ?_;refine aS ad ?_;refine aR _ (cv (some ([1,2,4,5,8,10,11,12,13],none)) _ (ae fun eK eo mT jb => ?_))
  refine ae fun fM cr h0 g6 => ai fun ga cD => ?_;refine al ad ?_;refine cD _ (cr (some ([1,2,5,8,10,11,12,13,30],none)) _ (bU (ai fun gK ew => ?_)));refine ag 3 ad ?_;refine aM 1 ad ?_;refine Or.inl (Or.inl ⟨_,Hi _,?_⟩);refine aM 1 ad ?_;refine Or.inl (Or.inl ⟨_,eu,?_⟩);refine aS ad ?_;refine ew _ (eo (some ([1,2,5,8,10,11,12,13],none)) _ (ae fun hc fx _ _ => ai fun jf eJ => ?_));refine ag 2 ad ?_;refine ag 2 ad ?_;refine ag 1 ad ?_;refine al ad ?_;refine eJ _ (fx (some ([1,2,5,8,10,11,12,13,14],none)) _ (ae fun kp fF _ _ => ?_));refine gh [] (n := 12) fun _ eF => ?_;refine gY ?_;refine cF 2 ad ?_;refine cF 3 ad ?_;refine cF 1 ad ?_;refine cF 1 ad ?_;refine cF 2 ad ?_;refine gd 1 ad ?_;refine gd 1 ad ?_;refine ⟨_,TO _ ⟨w,t,u⟩ (by omega),?_⟩;refine og ad ?_
  refine eF _ ?_;refine gZ ?_;refine ag 1 ad ?_;refine al ad ?_;refine fF (some ([1,5,10,12,14,15],none)) _ (ae fun sv hJ _ _ => ai fun sw hX => ?_);refine ag 3 ad ?_;refine aS ad ?_;refine hX _ (hJ (some ([1,5,10,12],none)) _ (ae fun sx hK _ _ => ai fun _ gf => ?_));refine ag 1 ad ?_;refine ag 2 ad ?_;refine aM 1 ad ?_
  rw [oW]
  refine Or.inl (Or.inl ⟨_,fR _ v,?_⟩);refine aS ad ?_;refine gf _ (hK (some ([10],none)) _ ?_)
  exact cQ ad
 ·simp only [if_true]
  unfold bK Oa NH;delta ab aQ aa ay
  have ad := And.intro @e @bJ
  refine ae fun bD aK b9 ck => ai fun ca aH => ?_;refine al ad ?_;refine aH _ (aK (some ([1,2,4,5,8,10],none)) _ (ae fun cg aP bx b8 => ai fun ch bk => ?_));refine ag 2 ad ?_;refine ag 2 ad ?_;refine ag 1 ad ?_;refine aS ad ?_;refine bk _ (aP (some ([1,2,4,5,8,10,11],none)) _ (ae fun cM bV dQ eP => ?_));refine gh [] (n := 8) fun cG dk => ?_;refine gY ?_;refine cF 1 ad ?_;refine gd 1 ad ?_;refine gd 1 ad ?_;refine ⟨_,DN M t bA.p4,?_⟩;refine cF 2 ad ?_;refine gd 1 ad ?_;refine ⟨_,Hi _,?_⟩;refine gd 1 ad ?_;refine ⟨_,c2,?_⟩;refine lh ad ?_;refine dk _ ?_;refine gZ ?_;refine aS ad ?_;refine bV (some ([1,2,4,5,8,10,11,12],none)) _ (ae fun dB cv g7 gw => ai fun bz aR => ?_);refine ag 1 ad ?_;refine aS ad ?_;refine aR _ (cv (some ([1,2,4,5,8,10,11,12,13],none)) _ (ae fun eK eo mT jb => ?_))
  refine ae fun fM cr h0 g6 => ai fun ga cD => ?_;refine al ad ?_;refine cD _ (cr (some ([1,2,5,8,10,11,12,13,30],none)) _ (bs (eo (some ([1,2,5,8,10,11,12,13],none)) _ (ae fun gK dF _ _ => ai fun hc dq => ?_))));refine ag 2 ad ?_;refine ag 2 ad ?_;refine ag 1 ad ?_;refine al ad ?_;refine dq _ (dF (some ([1,2,5,8,10,11,12,13,14],none)) _ (ae fun jf gl _ _ => ?_));refine gh [] (n := 12) fun kp gC => ?_;refine gY ?_;refine cF 2 ad ?_;refine cF 3 ad ?_;refine cF 1 ad ?_;refine cF 1 ad ?_;refine cF 2 ad ?_;refine gd 1 ad ?_;refine gd 1 ad ?_;refine ⟨_,TO _ ⟨w,t,v⟩ (by omega),?_⟩;refine og ad ?_;refine gC _ ?_;refine gZ ?_;refine ag 1 ad ?_;refine al ad ?_;refine gl (some ([1,5,10,12,14,15],none)) _ (ae fun _ hM _ _ => ai fun sv hr => ?_);refine ag 3 ad ?_
  refine aS ad ?_;refine hr _ (hM (some ([1,5,10,12],none)) _ (ae fun sw hZ _ _ => ai fun sx hh => ?_));refine ag 1 ad ?_;refine ag 2 ad ?_;refine aM 1 ad ?_
  rw [oW]
  refine Or.inl (Or.inl ⟨_,fR _ v,?_⟩);refine aS ad ?_;refine hh _ (hZ (some ([10],none)) _ ?_)
  exact cQ ad
end Go.Proofs.YtkmbcjnaaokilaaGreatDoor
