/-
  Layer 12 by shadows: a chain's begin.
-/
import Derived.Test.YtkmbcjnaaokilaaGreatDoorMK16
import Derived.Test.YtkmbcjnaaokilaaGreatDoorSc12c
import Derived.Test.YtkmbcjnaaokilaaGreatDoorMS
namespace Go.Proofs.YtkmbcjnaaokilaaGreatDoor
set_option linter.unusedSimpArgs false
set_option linter.unusedVariables false
open Go.RowKit Go.Maps
def n9 (s : cO) (L : fO) : List Nat := match s.now with
 | none => []
 | some _ => [L.i,L.g]
def Ju (s : cO) (L : fO) (O : List (Nat × bo)) (n : Nat) : Prop := ∀ a,s.now = some a → kJ a L O n
def Ph (ids : List Nat) (O : List (Nat × bo)) (n : Nat) (R : cO × dJ × Bool) (_ : bl → Env → Prop) (r : aw) (O' : List (Nat × bo)) (bO : Nat) : Prop :=
 ∃ dw,r = .bY [FC R.1 dw,.agg (qf R.2.1),eA R.2.2] ∧ Ju R.1 dw O' bO ∧ kq ids (n9 R.1 dw) O n O' bO
structure Yy (s : cO) (ops : List gq) : Prop where
 HX : qE s.has s.ops = qE s.has ops
 sub : ∀ o ∈ ops,o ∈ s.ops
def Yz (s : cO) (J : bl → Env → Prop) (O : List (Nat × bo)) (n : Nat) (k : Nat) (S : ak) : Prop :=
 ∃ (ops : List gq) (cV : List (Nat × bo)) (bG : Nat),Yy s ops ∧ k = ops.length ∧ n + 3 ≤ bG ∧ an cV n = some (.cB J) ∧ an cV (n + 1) = some (.box 72 (z3 s.l ops (.v .nilIface) s.has s.jj s.bad)) ∧ an cV (n + 2) = some (.box 81 n0) ∧ (∀ e,e < n → an cV e = an O e) ∧
  S = ⟨[(1,.ptr (n + 1) 0 0),(3,.ptr (n + 2) 0 0)],cV,bG⟩
set_option maxHeartbeats 16000000 in
set_option maxRecDepth 20000 in
theorem TA {k : Nat} (s : cO) (ao : jI k s) (fK : 0 < s.l.blocks) (ba : s.now = none) (O : List (Nat × bo)) (n : Nat) : gg 146 [.agg (pr s (.v .nilIface))] O n (Ph [] O n (hT s)) := by
 refine xy Tryz.func146 amZ rfl fun J => ?_
 have hid := fG n
 have aE := ao.lay
 have CV := (kb aE).1.2.2
 have CF := ao.has.len
 have fB : max 1 s.l.blocks = s.l.blocks := by omega
 unfold V6 UY;delta ab aQ a8 aa ay a3
 have ad := @hid
 refine ae fun _ aK _ _ => ai fun _ aH => ?_;refine aM 3 ad ?_;refine al ad ?_;refine aH _ (aK (some ([1,3],none)) _ (ae fun _ aP bx _ => cj fun _ _ kV dd _ => ?_));refine ie (Yz s J O n) (s.ops.length) (some ([1,3],none)) ([]) ?_ ?_
 ·try refine dR ?_
  refine ⟨s.ops,_,_,⟨rfl,fun o h => h⟩,rfl,by omega,?_,?_,?_,fun e he => ?_,rfl⟩
  ·simp [an]
  ·simp [an]
  ·simp [an]
  ·simp only [an]; repeat rw [if_neg (by omega)]
 ·intro k bT aW
  obtain ⟨ops,cV,bG,hC,rfl,hle,a0,bS,bH,hold,rfl⟩ := aW
  have jm := fG bG
  have d0 := cW (n := bG) (d := n) (by omega)
  have d1 := cW (n := bG) (d := n + 1) (by omega)
  have d2 := cW (n := bG) (d := n + 2) (by omega)
  have dZ : ops = [] ∨ (∃ on os,ops = ⟨true,on⟩ :: os ∧ s.has = []) ∨ (∃ on os,ops = ⟨true,on⟩ :: os ∧ s.has ≠ []) ∨ (∃ on os,ops = ⟨false,on⟩ :: os) := by
   cases ops with
   | nil => exact .inl rfl
   | cons o os =>
    obtain ⟨AK,on⟩ := o
    cases AK
    ·exact .inr (.inr (.inr ⟨on,os,rfl⟩))
    ·by_cases h : s.has = []
     ·exact .inr (.inl ⟨on,os,rfl,h⟩)
     ·exact .inr (.inr (.inl ⟨on,os,rfl,h⟩))
  intro _ bV dQ eP
  rcases dZ with rfl | ⟨on,os,rfl,yB⟩ | ⟨on,os,rfl,yB⟩ | ⟨on,os,rfl⟩
  ·skip
   have bf : hT s = ({ s with ops := [] },hx,true) := by
    have az := hC.HX
    unfold hT
    split
    ·rfl
    ·rename_i o os h; rw [az] at h; cases h
   have aD := And.intro ad (And.intro @jm (And.intro @d0 (And.intro @d1 (And.intro @d2 (And.intro @a0 (And.intro @bS @bH))))))
   refine ae fun _ _ _ dn => ae fun _ cz _ _ => ai fun _ c7 => ?_;refine ag 2 aD ?_;refine aS aD ?_;refine c7 _ (cz (some ([1,3,15],none)) _ (bs (dn 0 _ (eP 0 _ (kV _ (aP (some ([1,3],none)) _ (ae fun _ cR _ _ => ai fun _ cK => ?_)))))));refine ag 1 aD ?_;refine aM 3 aD ?_;refine ag 1 aD ?_;refine al aD ?_;refine cK _ (cR (some ([2,3,4],none)) _ ?_)
   first | refine gv (aF aD) (aF aD) (aF aD) ?_ | refine gu (aF aD) (aF aD) (aF aD) ?_
   try dsimp only
   rw [bf]
   refine ⟨ma,?_,fun a a5 => (by rw [show _ = s.now from rfl,ba] at a5; cases a5),⟨by omega,fun e he ar => ?_,fun e he => ?_⟩⟩
   ·show _ = aw.bY [.ds _ (.agg (pr _ (u1 s.now _))),_,_]
    rw [ba]; rfl
   ·simp only [an,bq]; repeat rw [if_neg (by omega)]
    exact hold e he
   ·rw [show n9 _ _ = [] by unfold n9; rw [show _ = s.now from rfl,ba]] at he; cases he
  ·skip
   have ax := ao.ops _ (hC.sub _ (List.mem_cons_self ..))
   have w0 : IntKind.i64.wrap on = on := by rw [IntKind.wrap_i64]; have := ax.1; have := ax.2; simp only at *; omega
   have dM : (s.l.blocks = 0) = False := eq_false (by omega)
   have wl : (0 : Int) < ((os.length + 1 : Nat) : Int) := by omega
   have af1 : s.has.length = 0 := by rw [yB]; rfl
   have bc := And.intro ad (And.intro @jm (And.intro @d0 (And.intro @d1 (And.intro @d2 (And.intro @a0 (And.intro @bS (And.intro @bH (And.intro @w0 (And.intro @fB (And.intro @dM (And.intro @wl (And.intro @yB @af1))))))))))))
   refine ae fun _ cr _ _ => ae fun _ ff _ _ => ai fun _ ew => ?_;refine ag 2 bc ?_;refine aS bc ?_;refine ew _ (ff (some ([1,3,15],none)) _ (bU (cr (some ([1,3],none)) _ (cj fun _ _ y3 _ _ => ae fun _ gl _ _ => ai fun _ gC => ?_))));refine ag 2 bc ?_;refine ag 1 bc ?_;refine ag 1 bc ?_;refine aS bc ?_;refine gC _ (gl (some ([1,3,5],none)) _ (ae fun _ kC _ _ => ai fun _ hI => ?_));refine al bc ?_;refine hI _ (kC (some ([1,3,5],none)) _ (ae fun _ hJ _ _ => ai fun _ hX => ?_));refine al bc ?_;refine hX _ (hJ (some ([1,3,5],none)) _ (ae fun _ hK _ _ => ai fun _ gf => ?_));refine ag 2 bc ?_;refine aM 3 bc ?_;refine ag 1 bc ?_;refine ag 2 bc ?_;refine al bc ?_;refine gf _ (hK (some ([1,3,5,8],none)) _ ?_)
   refine ae fun _ _ _ Cv => ae fun _ iP _ _ => ai fun _ gD => ?_;refine ag 2 bc ?_;refine al bc ?_;refine gD _ (iP (some ([1,3,5,8,30],none)) _ (bs (ae fun _ lv _ _ => ai fun _ jT => ?_)));refine ag 2 bc ?_;refine aS bc ?_;refine jT _ (lv (some ([1,3,5,41],none)) _ (bs (ae fun _ mv _ _ => ai fun _ hY => ?_)));refine ag 2 bc ?_;refine ag 1 bc ?_;refine aS bc ?_;refine hY _ (mv (some ([1,3],none)) _ (Cv 1 _ (y3 _ ?_)));refine bV (os.length) (some ([1,3],none)) _ ?_ ?_
   all_goals try refine dR ?_
   ·simp
   ·refine ⟨os,_,_,⟨?_,fun o ax => hC.sub o (List.mem_cons_of_mem _ ax)⟩,rfl,by omega,?_,?_,?_,fun e he => ?_,rfl⟩
    ·rw [hC.HX,Oq,if_pos ⟨rfl,yB⟩]
    ·simp only [an,bq]; repeat rw [if_neg (by omega)]
     exact a0
    ·simp [an,bq,yB]
    ·simp only [an,bq]; repeat rw [if_neg (by omega)]
     exact bH
    ·simp only [an,bq]; repeat rw [if_neg (by omega)]
     exact hold e he
  ·skip
   have ax := ao.ops _ (hC.sub _ (List.mem_cons_self ..))
   have w0 : IntKind.i64.wrap on = on := by rw [IntKind.wrap_i64]; have := ax.1; have := ax.2; simp only at *; omega
   have dM : (s.l.blocks = 0) = False := eq_false (by omega)
   have wl : (0 : Int) < ((os.length + 1 : Nat) : Int) := by omega
   have hlen : 0 < s.has.length := List.length_pos_iff.2 yB
   have a9 : ¬ ((⟨true,on⟩ : gq).oU = true ∧ s.has = []) := fun h => yB h.2
   have yZ : qE s.has (⟨true,on⟩ :: os) = ⟨true,on⟩ :: os := by rw [Oq,if_neg a9]
   have w1 := Fh aE fK ao.has a9
   have KA : s.has[on.toNat % s.has.length]? = some (hf s ⟨true,on⟩) := by
    have af : on.toNat % s.has.length < s.has.length := Nat.mod_lt _ hlen
    unfold hf
    rw [if_pos rfl,List.getElem?_eq_getElem af]; rfl
   have bf : hT s = ({ s with ops := ⟨true,on⟩ :: os,now := some (cU (.ev (ij s.l (hf s ⟨true,on⟩))) e9).1,has := s.has.filter (fun x => x != hf s ⟨true,on⟩) },(cU (.ev (ij s.l (hf s ⟨true,on⟩))) e9).2.1,false) := by
    unfold hT
    rw [hC.HX,yZ]; rfl
   have Au : qL (ij s.l (hf s ⟨true,on⟩)) := ⟨aE,w1⟩
   have kS : (kY (ij s.l (hf s ⟨true,on⟩)) e9).2.2 = false := rfl
   have fH : on.tmod (s.has.length : Int) = ((on.toNat % s.has.length : Nat) : Int) := by
    obtain ⟨m,rfl⟩ := Int.eq_ofNat_of_zero_le ax.1
    rw [Int.tmod_eq_emod_of_nonneg (by omega)]; simp
   have iw : on.toNat % s.has.length < s.has.length := Nat.mod_lt _ hlen
   have nG : (0 : Int) < (s.has.length : Int) := by omega
   have tx : ((s.has.length : Int) = 0) = False := eq_false (by omega)
   have pg : ((on.toNat % s.has.length : Nat) : Int) < (s.has.length : Int) := by omega
   have XL : (0 : Int) ≤ ((on.toNat % s.has.length : Nat) : Int) := by omega
   generalize on.toNat % s.has.length = j at fH iw pg XL KA
   generalize hf s ⟨true,on⟩ = b at w1 KA bf Au kS
   have Dv := akc 0 s.has b (by omega)
   have kF := fun X N => ME aE b w1 X N
   have bt := And.intro ad (And.intro @jm (And.intro @d0 (And.intro @d1 (And.intro @d2 (And.intro @a0 (And.intro @bS (And.intro @bH (And.intro @w0 (And.intro @fB (And.intro @dM (And.intro @wl (And.intro @fH (And.intro @iw (And.intro @nG (And.intro @tx (And.intro @pg (And.intro @XL @KA)))))))))))))))))
   refine ae fun _ rf _ _ => ae fun _ mw _ _ => ai fun _ mu => ?_;refine ag 2 bt ?_;refine aS bt ?_;refine mu _ (mw (some ([1,3,15],none)) _ (bU (rf (some ([1,3],none)) _ (cj fun _ _ _ ag5 _ => ae fun _ rh _ _ => ai fun _ nj => ?_))));refine ag 2 bt ?_;refine ag 1 bt ?_;refine ag 1 bt ?_;refine aS bt ?_;refine nj _ (rh (some ([1,3,5],none)) _ (ae fun _ ox _ _ => ai fun _ nk => ?_));refine al bt ?_;refine nk _ (ox (some ([1,3,5],none)) _ (ae fun _ oy _ _ => ai fun _ jV => ?_));refine al bt ?_;refine jV _ (oy (some ([1,3,5],none)) _ (ae fun _ ri _ _ => ai fun _ nn => ?_));refine ag 2 bt ?_;refine aM 3 bt ?_;refine ag 1 bt ?_;refine ag 2 bt ?_;refine al bt ?_;refine nn _ (ri (some ([1,3,5,8],none)) _ ?_)
   refine ae fun _ vo _ _ => ae fun _ r2 _ _ => ai fun _ oY => ?_;refine ag 2 bt ?_;refine al bt ?_;refine oY _ (r2 (some ([1,3,5,8,30],none)) _ (bs (ae fun _ vp _ _ => ai fun _ pM => ?_)));refine ag 2 bt ?_;refine aS bt ?_;refine pM _ (vp (some ([1,3,5,41],none)) _ (bU (ae fun _ yM _ _ => ?_)));refine gh [] (n := 9) fun _ q9 => ?_;refine gY ?_;refine cF 2 bt ?_;refine cF 2 bt ?_;refine cF 3 bt ?_;refine og bt ?_;refine q9 _ ?_;refine gZ ?_;refine ag 1 bt ?_;refine ag 1 bt ?_;refine al bt ?_;refine yM (some ([1,3,8],none)) _ (ae fun _ yO _ _ => ai fun _ pN => ?_);refine ag 2 bt ?_;refine aM 1 bt ?_;refine aM 1 bt ?_;refine Or.inl (Or.inl ⟨_,Dv,?_⟩);refine aS bt ?_;refine pN _ (yO (some ([1,3,8],none)) _ (ai fun _ vh => ?_));refine ag 2 bt ?_
   refine aM 1 bt ?_;refine aM 1 bt ?_;refine Or.inr (iJ (kF _ _) (aF bt) (fun Pq UC IU ti Cp => ?_))
   obtain ⟨dw,rfl,br,bu,Kq,Kp⟩ := Cp
   dsimp only at br bu Kq Kp
   have fP := bu.at (e := n) (X := .cB J) (by omega) (by simp) (aF bt)
   have dh := bu.at (e := n + 1) (X := .box 72 (z3 s.l (⟨true,on⟩ :: os) (.v .nilIface) (s.has.filter (fun x => x != b)) s.jj s.bad)) (by omega) (by simp) (aF bt)
   have dv := bu.at (e := n + 2) (X := .box 81 n0) (by omega) (by simp) (aF bt)
   have w8 := bu.le
   have jS := fG ti
   have de := cW (n := ti) (d := n) (by omega)
   have cd := cW (n := ti) (d := n + 1) (by omega)
   have c2 := cW (n := ti) (d := n + 2) (by omega)
   have jW := gX (jF (.ev (ij s.l b)) dw)
   have kg : jz (.ev (ij s.l b)) dw = .ds 104 (.agg (rN (ij s.l b) dw.eG)) := rfl
   have sR := br.to (O' := ef IU (bG + 1)) (Nat.le_refl _) (by rw [bq,if_neg (by omega)]) (by rw [bq,if_neg (by omega)])
   have bB := And.intro bt (And.intro @jS (And.intro @de (And.intro @cd (And.intro @c2 (And.intro @fP (And.intro @dh (And.intro @dv @jW)))))))
   refine aM 3 bB ?_;refine al bB ?_;refine vh _ (vo (some ([1,3,6,7],none)) _ (ae fun _ vt _ _ => ae fun _ yP _ _ => ai fun _ ov => ?_));refine ag 2 bB ?_;refine aM 2 bB ?_;refine aM 1 bB ?_;refine Or.inl ⟨_,Am ye,?_⟩;refine al bB ?_;refine ov _ (yP (some ([1,3,6,74],none)) _ (bs (vt (some ([1,3,6],none)) _ (ae fun _ vu _ _ => ai fun _ vj => ?_))));refine aM 2 bB ?_;refine aM 1 bB ?_;refine Or.inr (B0 ((TJ _ Au e9 sR)) (To) (Qn) (aF bB) (aF bB) (fun EV HA EW lZ u9 => ?_))
   obtain ⟨kL,rfl,qj,lk,Cy⟩ := u9
   dsimp only at qj lk Cy
   change qH (some dw.i) _ _ _ _ at lk
   have f0 := lk.at (e := n) (X := .cB J) (by omega) (by intro h; injection h; omega) (aF bB)
   have f1 := lk.at (e := n + 1) (X := .box 72 (z3 s.l (⟨true,on⟩ :: os) (.v .nilIface) (s.has.filter (fun x => x != b)) s.jj s.bad)) (by omega) (by intro h; injection h; omega) (aF bB)
   have f2 := lk.at (e := n + 2) (X := .box 81 n0) (by omega) (by intro h; injection h; omega) (aF bB)
   have Gs := lk.le
   have tY := fG lZ
   have fD := cW (n := lZ) (d := n) (by omega)
   have a1 := cW (n := lZ) (d := n + 1) (by omega)
   have a7 := cW (n := lZ) (d := n + 2) (by omega)
   have Da := gX (jF (lO (kY (ij s.l b) e9)).1 kL)
   have kS : (lO (kY (ij s.l b) e9)).2.2 = false := rfl
   have ep := And.intro bB (And.intro @tY (And.intro @fD (And.intro @a1 (And.intro @a7 (And.intro @f0 (And.intro @f1 (And.intro @f2 (And.intro @Da @kS))))))))
   refine aM 3 ep ?_;refine aM 3 ep ?_;refine ag 1 ep ?_;refine al ep ?_;refine vj _ (vu (some ([1,3,9,10,11],none)) _ (ae fun _ C1 _ _ => ai fun _ vl => ?_));refine aS ep ?_;refine vl _ (C1 (some ([1,3,10,11],none)) _ (ae fun _ _ ag6 _ => ae fun _ Ll _ _ => ai fun _ CK => ?_));refine al ep ?_;refine CK _ (Ll (some ([1,3,10,89],none)) _ (bU (ae fun _ Lm _ _ => ?_)));refine gh [] (n := 4) fun _ CM => ?_;refine gY ?_;refine cF 1 ep ?_;refine cF 2 ep ?_;refine lh ep ?_;refine CM _ ?_;refine gZ ?_;refine ag 1 ep ?_;refine al ep ?_;refine Lm (some ([2,3,4],none)) _ (ag6 _ (ag5 _ (dQ _ (dd _ (bx _ ?_)))))
   first | refine gv (aF ep) (aF ep) (aF ep) ?_ | refine gu (aF ep) (aF ep) (aF ep) ?_
   try dsimp only
   rw [bf]
   have af2 := qj.i
   have afZ := qj.g
   have iM := br.i
   have CD := br.g
   have aT : (n + 2 < kL.i ∧ kL.i ≠ ti) ∧ (n + 2 < kL.g ∧ kL.g ≠ ti) := by
    obtain ⟨bJ,cf⟩ | ⟨_,h,bJ,cf⟩ := Cy
    ·omega
    ·cases h; omega
   refine ⟨kL,rfl,fun a a5 => (by cases a5; exact qj.to (by omega) (by simp only [an,bq]; repeat rw [if_neg (by omega)]) (by simp only [an,bq]; repeat rw [if_neg (by omega)])),⟨by omega,fun e he ar => ?_,fun e he => ?_⟩⟩
   ·simp only [an,bq]; repeat rw [if_neg (by omega)]
    rw [lk.old e (by omega) (by intro h; injection h; omega)]
    simp only [an,bq]; repeat rw [if_neg (by omega)]
    rw [bu.old e (by omega) (by simp)]
    simp only [an,bq]; repeat rw [if_neg (by omega)]
    exact hold e he
   ·have he : e ∈ [kL.i,kL.g] := he
    simp only [List.mem_cons,List.not_mem_nil,or_false] at he
    rcases he with rfl | rfl
    ·exact .inr (by omega)
    ·exact .inr (by omega)
  ·skip
   have ax := ao.ops _ (hC.sub _ (List.mem_cons_self ..))
   have w0 : IntKind.i64.wrap on = on := by rw [IntKind.wrap_i64]; have := ax.1; have := ax.2; simp only at *; omega
   have dM : (s.l.blocks = 0) = False := eq_false (by omega)
   have wl : (0 : Int) < ((os.length + 1 : Nat) : Int) := by omega
   have a9 : ¬ ((⟨false,on⟩ : gq).oU = true ∧ s.has = []) := fun h => nomatch h.1
   have yZ : qE s.has (⟨false,on⟩ :: os) = ⟨false,on⟩ :: os := by rw [Oq,if_neg a9]
   have w1 := Fh aE fK ao.has a9
   have bf : hT s = ({ s with ops := ⟨false,on⟩ :: os,now := some (cU (.dp (fV s.l (hf s ⟨false,on⟩))) e9).1 },(cU (.dp (fV s.l (hf s ⟨false,on⟩))) e9).2.1,false) := by
    unfold hT
    rw [hC.HX,yZ]; rfl
   have Au := OG aE w1
   have kS : (h6 (fV s.l (hf s ⟨false,on⟩)) e9).2.2 = false := (Jw (s := s) (o := ⟨false,on⟩) aE w1).2.2.2.2
   have fH : on.tmod s.l.blocks = ((hf s ⟨false,on⟩ : Nat) : Int) := by
    obtain ⟨m,rfl⟩ := Int.eq_ofNat_of_zero_le ax.1
    obtain ⟨B,fw⟩ := Int.eq_ofNat_of_zero_le (show 0 ≤ s.l.blocks by omega)
    unfold hf
    rw [if_neg (by simp),fw,Int.tmod_eq_emod_of_nonneg (by omega)]; simp
   generalize hf s ⟨false,on⟩ = b at w1 bf Au kS fH
   have y7 := fun X N => Hg aE b w1 X N
   have eh := And.intro ad (And.intro @jm (And.intro @d0 (And.intro @d1 (And.intro @d2 (And.intro @a0 (And.intro @bS (And.intro @bH (And.intro @w0 (And.intro @fB (And.intro @dM (And.intro @wl @fH)))))))))))
   refine ae fun _ Lp _ _ => ae fun _ Lq _ _ => ai fun _ yF => ?_;refine ag 2 eh ?_;refine aS eh ?_;refine yF _ (Lq (some ([1,3,15],none)) _ (bU (Lp (some ([1,3],none)) _ (cj fun _ _ _ ag7 _ => ae fun _ Lr _ _ => ai fun _ yG => ?_))));refine ag 2 eh ?_;refine ag 1 eh ?_;refine ag 1 eh ?_;refine aS eh ?_;refine yG _ (Lr (some ([1,3,5],none)) _ (ae fun _ C3 _ _ => ai fun _ K4 => ?_));refine al eh ?_;refine K4 _ (C3 (some ([1,3,5],none)) _ (ae fun _ Lt _ _ => ai fun _ CP => ?_));refine al eh ?_;refine CP _ (Lt (some ([1,3,5],none)) _ (ae fun _ C4 _ _ => ai fun _ CQ => ?_));refine ag 2 eh ?_;refine aM 3 eh ?_;refine ag 1 eh ?_;refine ag 2 eh ?_;refine al eh ?_;refine CQ _ (C4 (some ([1,3,5,8],none)) _ ?_)
   refine ae fun _ C5 _ _ => ae fun _ agC _ _ => ai fun _ K7 => ?_;refine ag 2 eh ?_;refine al eh ?_;refine K7 _ (agC (some ([1,3,5,8,30],none)) _ (bU (ai fun _ agk => ?_)));refine ag 2 eh ?_;refine aM 1 eh ?_;refine aM 1 eh ?_;refine Or.inr (iJ (y7 _ _) (aF eh) (fun wc xJ uK qw oq => ?_))
   obtain ⟨dw,rfl,br,bu,Kq,Kp⟩ := oq
   dsimp only at br bu Kq Kp
   have fP := bu.at (e := n) (X := .cB J) (by omega) (by simp) (aF eh)
   have dh := bu.at (e := n + 1) (X := .box 72 (z3 s.l (⟨false,on⟩ :: os) (.v .nilIface) s.has s.jj s.bad)) (by omega) (by simp) (aF eh)
   have dv := bu.at (e := n + 2) (X := .box 81 n0) (by omega) (by simp) (aF eh)
   have w8 := bu.le
   have jS := fG qw
   have de := cW (n := qw) (d := n) (by omega)
   have cd := cW (n := qw) (d := n + 1) (by omega)
   have c2 := cW (n := qw) (d := n + 2) (by omega)
   have jW := gX (jF (.dp (fV s.l b)) dw)
   have sR := br.to (O' := ef uK (bG + 1)) (Nat.le_refl _) (by rw [bq,if_neg (by omega)]) (by rw [bq,if_neg (by omega)])
   have gz := And.intro eh (And.intro @jS (And.intro @de (And.intro @cd (And.intro @c2 (And.intro @fP (And.intro @dh (And.intro @dv @jW)))))))
   refine aM 3 gz ?_;refine al gz ?_;refine agk _ (C5 (some ([1,3,6,7],none)) _ (ae fun _ Lv _ _ => ae fun _ agE _ _ => ai fun _ K9 => ?_));refine ag 2 gz ?_;refine aM 2 gz ?_;refine aM 1 gz ?_;refine Or.inl ⟨_,Am ye,?_⟩;refine al gz ?_;refine K9 _ (agE (some ([1,3,6,74],none)) _ (bs (Lv (some ([1,3,6],none)) _ (ae fun _ Lw _ _ => ai fun _ agn => ?_))));refine aM 2 gz ?_;refine aM 1 gz ?_;refine Or.inr (B0 ((TN _ Au.1 Au.2 e9 sR)) (Tp) (Qo) (aF gz) (aF gz) (fun EV HA EW lZ u9 => ?_))
   obtain ⟨kL,rfl,qj,lk,Cy⟩ := u9
   dsimp only at qj lk Cy
   change qH (some dw.i) _ _ _ _ at lk
   have f0 := lk.at (e := n) (X := .cB J) (by omega) (by intro h; injection h; omega) (aF gz)
   have f1 := lk.at (e := n + 1) (X := .box 72 (z3 s.l (⟨false,on⟩ :: os) (.v .nilIface) s.has s.jj s.bad)) (by omega) (by intro h; injection h; omega) (aF gz)
   have f2 := lk.at (e := n + 2) (X := .box 81 n0) (by omega) (by intro h; injection h; omega) (aF gz)
   have Gs := lk.le
   have tY := fG lZ
   have fD := cW (n := lZ) (d := n) (by omega)
   have a1 := cW (n := lZ) (d := n + 1) (by omega)
   have a7 := cW (n := lZ) (d := n + 2) (by omega)
   have Da := gX (jF (ic (h6 (fV s.l b) e9)).1 kL)
   have kS : (ic (h6 (fV s.l b) e9)).2.2 = false := kS
   have bb := And.intro gz (And.intro @tY (And.intro @fD (And.intro @a1 (And.intro @a7 (And.intro @f0 (And.intro @f1 (And.intro @f2 (And.intro @Da @kS))))))))
   refine aM 3 bb ?_;refine aM 3 bb ?_;refine ag 1 bb ?_;refine al bb ?_;refine agn _ (Lw (some ([1,3,9,10,11],none)) _ (ae fun _ Ly _ _ => ai fun _ La => ?_));refine aS bb ?_;refine La _ (Ly (some ([1,3,10,11],none)) _ (ae fun _ _ ag8 _ => ae fun _ C6 _ _ => ai fun _ Lb => ?_));refine al bb ?_;refine Lb _ (C6 (some ([1,3,10,89],none)) _ (bU (ae fun _ C7 _ _ => ?_)));refine gh [] (n := 4) fun _ CR => ?_;refine gY ?_;refine cF 1 bb ?_;refine cF 2 bb ?_;refine lh bb ?_;refine CR _ ?_;refine gZ ?_;refine ag 1 bb ?_;refine al bb ?_;refine C7 (some ([2,3,4],none)) _ (ag8 _ (ag7 _ (dQ _ (dd _ (bx _ ?_)))))
   first | refine gv (aF bb) (aF bb) (aF bb) ?_ | refine gu (aF bb) (aF bb) (aF bb) ?_
   try dsimp only
   rw [bf]
   have af2 := qj.i
   have afZ := qj.g
   have iM := br.i
   have CD := br.g
   have aT : (n + 2 < kL.i ∧ kL.i ≠ qw) ∧ (n + 2 < kL.g ∧ kL.g ≠ qw) := by
    obtain ⟨bJ,cf⟩ | ⟨_,h,bJ,cf⟩ := Cy
    ·omega
    ·cases h; omega
   refine ⟨kL,rfl,fun a a5 => (by cases a5; exact qj.to (by omega) (by simp only [an,bq]; repeat rw [if_neg (by omega)]) (by simp only [an,bq]; repeat rw [if_neg (by omega)])),⟨by omega,fun e he ar => ?_,fun e he => ?_⟩⟩
   ·simp only [an,bq]; repeat rw [if_neg (by omega)]
    rw [lk.old e (by omega) (by intro h; injection h; omega)]
    simp only [an,bq]; repeat rw [if_neg (by omega)]
    rw [bu.old e (by omega) (by simp)]
    simp only [an,bq]; repeat rw [if_neg (by omega)]
    exact hold e he
   ·have he : e ∈ [kL.i,kL.g] := he
    simp only [List.mem_cons,List.not_mem_nil,or_false] at he
    rcases he with rfl | rfl
    ·exact .inr (by omega)
    ·exact .inr (by omega)
end Go.Proofs.YtkmbcjnaaokilaaGreatDoor
