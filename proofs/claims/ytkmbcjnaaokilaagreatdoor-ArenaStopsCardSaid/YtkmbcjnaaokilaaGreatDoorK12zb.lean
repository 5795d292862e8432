/-
  Layer 12 by shadows: a chain's begin.
-/
import Derived.Test.YtkmbcjnaaokilaaGreatDoorMK26
import Derived.Test.YtkmbcjnaaokilaaGreatDoorMS
namespace Go.Proofs.YtkmbcjnaaokilaaGreatDoor
set_option linter.unusedSimpArgs false
set_option linter.unusedVariables false
open Go.RowKit Go.Maps
def nq (s : da) (L : fF) : List Nat := match s.now with
 | none => []
 | some _ => [L.i,L.g]
def Hh (s : da) (L : fF) (O : List (Nat × bl)) (n : Nat) : Prop := ∀ a,s.now = some a → ko a L O n
def Ms (ids : List Nat) (O : List (Nat × bl)) (n : Nat) (R : da × dB × Bool) (_ : bg → Env → Prop) (r : av) (O' : List (Nat × bl)) (bI : Nat) : Prop :=
 ∃ du,r = .bR [DE R.1 du,.agg (pa R.2.1),dH R.2.2] ∧ Hh R.1 du O' bI ∧ jQ ids (nq R.1 du) O n O' bI
structure UW (s : da) (ops : List fi) : Prop where
 F0 : pD s.has s.ops = pD s.has ops
 sub : ∀ o ∈ ops,o ∈ s.ops
def UX (s : da) (J : bg → Env → Prop) (O : List (Nat × bl)) (n : Nat) (k : Nat) (S : ak) : Prop :=
 ∃ (ops : List fi) (c1 : List (Nat × bl)) (bM : Nat),UW s ops ∧ k = ops.length ∧ n + 3 ≤ bM ∧ al c1 n = some (.cq J) ∧ al c1 (n + 1) = some (.box 72 (yn s.l ops (.v .nilIface) s.has s.iN s.bad)) ∧ al c1 (n + 2) = some (.box 81 nh) ∧ (∀ e,e < n → al c1 e = al O e) ∧
  S = ⟨[(1,.ptr (n + 1) 0 0),(3,.ptr (n + 2) 0 0)],c1,bM⟩
set_option maxHeartbeats 16000000 in
set_option maxRecDepth 20000 in
theorem QC {k : Nat} (s : da) (ao : ju k s) (fz : 0 < s.l.blocks) (bb : s.now = none) (O : List (Nat × bl)) (n : Nat) : fv 146 [.agg (pT s (.v .nilIface))] O n (Ms [] O n (hF s)) := by
 refine xB Tryz.func146 ajm rfl fun J => ?_
 have hid := fE n
 have aF := ao.lay
 have Ej := (ku aF).1.2.2
 have ID := ao.has.len
 have fh : max 1 s.l.blocks = s.l.blocks := by omega
 unfold SR RM;delta ab aR a9 aa aA a6
 have ad := @hid
 refine ae fun _ aK _ _ => ai fun _ aG => ?_;refine aL 3 ad ?_;refine an ad ?_;refine aG _ (aK (some ([1,3],none)) _ (ae fun _ aQ bt _ => cx fun _ _ kE c7 _ => ?_));refine jS (UX s J O n) (s.ops.length) (some ([1,3],none)) ([]) ?_ ?_
 ·try refine eC ?_
  refine ⟨s.ops,_,_,⟨rfl,fun o h => h⟩,rfl,by omega,?_,?_,?_,fun e he => ?_,rfl⟩
  ·simp [al]
  ·simp [al]
  ·simp [al]
  ·simp only [al]; repeat rw [if_neg (by omega)]
 ·intro k b0 aY
  obtain ⟨ops,c1,bM,hC,rfl,hle,a0,bE,bP,hold,rfl⟩ := aY
  have iP := fE bM
  have d0 := c3 (n := bM) (d := n) (by omega)
  have d1 := c3 (n := bM) (d := n + 1) (by omega)
  have d2 := c3 (n := bM) (d := n + 2) (by omega)
  have eF : ops = [] ∨ (∃ on os,ops = ⟨true,on⟩ :: os ∧ s.has = []) ∨ (∃ on os,ops = ⟨true,on⟩ :: os ∧ s.has ≠ []) ∨ (∃ on os,ops = ⟨false,on⟩ :: os) := by
   cases ops with
   | nil => exact .inl rfl
   | cons o os =>
    obtain ⟨y1,on⟩ := o
    cases y1
    ·exact .inr (.inr (.inr ⟨on,os,rfl⟩))
    ·by_cases h : s.has = []
     ·exact .inr (.inl ⟨on,os,rfl,h⟩)
     ·exact .inr (.inr (.inl ⟨on,os,rfl,h⟩))
  intro _ bT dG eG
  rcases eF with rfl | ⟨on,os,rfl,wX⟩ | ⟨on,os,rfl,wX⟩ | ⟨on,os,rfl⟩
  ·skip
   have ba : hF s = ({ s with ops := [] },hi,true) := by
    have aB := hC.F0
    unfold hF
    split
    ·rfl
    ·rename_i o os h; rw [aB] at h; cases h
   have aD := And.intro ad (And.intro @iP (And.intro @d0 (And.intro @d1 (And.intro @d2 (And.intro @a0 (And.intro @bE @bP))))))
   refine ae fun _ _ _ dk => ae fun _ cp _ _ => ai fun _ c0 => ?_;refine ag 2 aD ?_;refine aU aD ?_;refine c0 _ (cp (some ([1,3,15],none)) _ (bB (dk 0 _ (eG 0 _ (kE _ (aQ (some ([1,3],none)) _ (ae fun _ cN _ _ => ai fun _ cF => ?_)))))));refine ag 1 aD ?_;refine aL 3 aD ?_;refine ag 1 aD ?_;refine an aD ?_;refine cF _ (cN (some ([2,3,4],none)) _ ?_)
   first | refine gd (aE aD) (aE aD) (aE aD) ?_ | refine gb (aE aD) (aE aD) (aE aD) ?_
   try dsimp only
   rw [ba]
   refine ⟨lA,?_,fun a aZ => (by rw [show _ = s.now from rfl,bb] at aZ; cases aZ),⟨by omega,fun e he ar => ?_,fun e he => ?_⟩⟩
   ·show _ = av.bR [.dr _ (.agg (pT _ (tH s.now _))),_,_]
    rw [bb]; rfl
   ·simp only [al,bn]; repeat rw [if_neg (by omega)]
    exact hold e he
   ·rw [show nq _ _ = [] by unfold nq; rw [show _ = s.now from rfl,bb]] at he; cases he
  ·skip
   have ay := ao.ops _ (hC.sub _ (List.mem_cons_self ..))
   have w0 : IntKind.i64.wrap on = on := by rw [IntKind.wrap_i64]; have := ay.1; have := ay.2; simp only at *; omega
   have dQ : (s.l.blocks = 0) = False := eq_false (by omega)
   have wl : (0 : Int) < ((os.length + 1 : Nat) : Int) := by omega
   have acs : s.has.length = 0 := by rw [wX]; rfl
   have bm := And.intro ad (And.intro @iP (And.intro @d0 (And.intro @d1 (And.intro @d2 (And.intro @a0 (And.intro @bE (And.intro @bP (And.intro @w0 (And.intro @fh (And.intro @dQ (And.intro @wl (And.intro @wX @acs))))))))))))
   refine ae fun _ ct _ _ => ae fun _ eW _ _ => ai fun _ ed => ?_;refine ag 2 bm ?_;refine aU bm ?_;refine ed _ (eW (some ([1,3,15],none)) _ (bY (ct (some ([1,3],none)) _ (cx fun _ _ xp _ _ => ae fun _ gK _ _ => ai fun _ gq => ?_))));refine ag 2 bm ?_;refine ag 1 bm ?_;refine ag 1 bm ?_;refine aU bm ?_;refine gq _ (gK (some ([1,3,5],none)) _ (ae fun _ kd _ _ => ai fun _ hs => ?_));refine an bm ?_;refine hs _ (kd (some ([1,3,5],none)) _ (ae fun _ h4 _ _ => ai fun _ hJ => ?_));refine an bm ?_;refine hJ _ (h4 (some ([1,3,5],none)) _ (ae fun _ h5 _ _ => ai fun _ gr => ?_));refine ag 2 bm ?_;refine aL 3 bm ?_;refine ag 1 bm ?_;refine ag 2 bm ?_;refine an bm ?_;refine gr _ (h5 (some ([1,3,5,8],none)) _ ?_)
   refine ae fun _ _ _ AO => ae fun _ iX _ _ => ai fun _ gu => ?_;refine ag 2 bm ?_;refine an bm ?_;refine gu _ (iX (some ([1,3,5,8,30],none)) _ (bB (ae fun _ kY _ _ => ai fun _ iU => ?_)));refine ag 2 bm ?_;refine aU bm ?_;refine iU _ (kY (some ([1,3,5,41],none)) _ (bB (ae fun _ mL _ _ => ai fun _ iW => ?_)));refine ag 2 bm ?_;refine ag 1 bm ?_;refine aU bm ?_;refine iW _ (mL (some ([1,3],none)) _ (AO 1 _ (xp _ ?_)));refine bT (os.length) (some ([1,3],none)) _ ?_ ?_
   all_goals try refine eC ?_
   ·simp
   ·refine ⟨os,_,_,⟨?_,fun o ay => hC.sub o (List.mem_cons_of_mem _ ay)⟩,rfl,by omega,?_,?_,?_,fun e he => ?_,rfl⟩
    ·rw [hC.F0,LN,if_pos ⟨rfl,wX⟩]
    ·simp only [al,bn]; repeat rw [if_neg (by omega)]
     exact a0
    ·simp [al,bn,wX]
    ·simp only [al,bn]; repeat rw [if_neg (by omega)]
     exact bP
    ·simp only [al,bn]; repeat rw [if_neg (by omega)]
     exact hold e he
  ·skip
   have ay := ao.ops _ (hC.sub _ (List.mem_cons_self ..))
   have w0 : IntKind.i64.wrap on = on := by rw [IntKind.wrap_i64]; have := ay.1; have := ay.2; simp only at *; omega
   have dQ : (s.l.blocks = 0) = False := eq_false (by omega)
   have wl : (0 : Int) < ((os.length + 1 : Nat) : Int) := by omega
   have hlen : 0 < s.has.length := List.length_pos_iff.2 wX
   have a7 : ¬ ((⟨true,on⟩ : fi).n1 = true ∧ s.has = []) := fun h => wX h.2
   have xl : pD s.has (⟨true,on⟩ :: os) = ⟨true,on⟩ :: os := by rw [LN,if_neg a7]
   have vl := Dx aF fz ao.has a7
   have Im : s.has[on.toNat % s.has.length]? = some (g0 s ⟨true,on⟩) := by
    have af : on.toNat % s.has.length < s.has.length := Nat.mod_lt _ hlen
    unfold g0
    rw [if_pos rfl,List.getElem?_eq_getElem af]; rfl
   have ba : hF s = ({ s with ops := ⟨true,on⟩ :: os,now := some (cI (.ec (h2 s.l (g0 s ⟨true,on⟩))) e4).1,has := s.has.filter (fun x => x != g0 s ⟨true,on⟩) },(cI (.ec (h2 s.l (g0 s ⟨true,on⟩))) e4).2.1,false) := by
    unfold hF
    rw [hC.F0,xl]; rfl
   have yO : pJ (h2 s.l (g0 s ⟨true,on⟩)) := ⟨aF,vl⟩
   have lO : (kI (h2 s.l (g0 s ⟨true,on⟩)) e4).2.2 = false := rfl
   have gm : on.tmod (s.has.length : Int) = ((on.toNat % s.has.length : Nat) : Int) := by
    obtain ⟨m,rfl⟩ := Int.eq_ofNat_of_zero_le ay.1
    rw [Int.tmod_eq_emod_of_nonneg (by omega)]; simp
   have hO : on.toNat % s.has.length < s.has.length := Nat.mod_lt _ hlen
   have l7 : (0 : Int) < (s.has.length : Int) := by omega
   have qw : ((s.has.length : Int) = 0) = False := eq_false (by omega)
   have mX : ((on.toNat % s.has.length : Nat) : Int) < (s.has.length : Int) := by omega
   have Us : (0 : Int) ≤ ((on.toNat % s.has.length : Nat) : Int) := by omega
   generalize on.toNat % s.has.length = j at gm hO mX Us Im
   generalize g0 s ⟨true,on⟩ = b at vl Im ba yO lO
   have JF := agI 0 s.has b (by omega)
   have pr := fun X N => J8 aF b vl X N
   have bx := And.intro ad (And.intro @iP (And.intro @d0 (And.intro @d1 (And.intro @d2 (And.intro @a0 (And.intro @bE (And.intro @bP (And.intro @w0 (And.intro @fh (And.intro @dQ (And.intro @wl (And.intro @gm (And.intro @hO (And.intro @l7 (And.intro @qw (And.intro @mX (And.intro @Us @Im)))))))))))))))))
   refine ae fun _ qe _ _ => ae fun _ nC _ _ => ai fun _ ny => ?_;refine ag 2 bx ?_;refine aU bx ?_;refine ny _ (nC (some ([1,3,15],none)) _ (bY (qe (some ([1,3],none)) _ (cx fun _ _ _ adI _ => ae fun _ rW _ _ => ai fun _ oH => ?_))));refine ag 2 bx ?_;refine ag 1 bx ?_;refine ag 1 bx ?_;refine aU bx ?_;refine oH _ (rW (some ([1,3,5],none)) _ (ae fun _ oM _ _ => ai fun _ mH => ?_));refine an bx ?_;refine mH _ (oM (some ([1,3,5],none)) _ (ae fun _ oN _ _ => ai fun _ jE => ?_));refine an bx ?_;refine jE _ (oN (some ([1,3,5],none)) _ (ae fun _ rY _ _ => ai fun _ mI => ?_));refine ag 2 bx ?_;refine aL 3 bx ?_;refine ag 1 bx ?_;refine ag 2 bx ?_;refine an bx ?_;refine mI _ (rY (some ([1,3,5,8],none)) _ ?_)
   refine ae fun _ w9 _ _ => ae fun _ sW _ _ => ai fun _ qX => ?_;refine ag 2 bx ?_;refine an bx ?_;refine qX _ (sW (some ([1,3,5,8,30],none)) _ (bB (ae fun _ Bi _ _ => ai fun _ rN => ?_)));refine ag 2 bx ?_;refine aU bx ?_;refine rN _ (Bi (some ([1,3,5,41],none)) _ (bY (ae fun _ xb _ _ => ?_)));refine hy [] (n := 9) fun _ p7 => ?_;refine hv ?_;refine cR 2 bx ?_;refine cR 2 bx ?_;refine cR 3 bx ?_;refine pc bx ?_;refine p7 _ ?_;refine hx ?_;refine ag 1 bx ?_;refine ag 1 bx ?_;refine an bx ?_;refine xb (some ([1,3,8],none)) _ (ae fun _ xc _ _ => ai fun _ p8 => ?_);refine ag 2 bx ?_;refine aL 1 bx ?_;refine aL 1 bx ?_;refine Or.inl (Or.inl ⟨_,JF,?_⟩);refine aU bx ?_;refine p8 _ (xc (some ([1,3,8],none)) _ (ai fun _ rR => ?_));refine ag 2 bx ?_
   refine aL 1 bx ?_;refine aL 1 bx ?_;refine Or.inr (ia (pr _ _) (aE bx) (fun MD Rq GJ sd AH => ?_))
   obtain ⟨du,rfl,br,bs,Ie,Ic⟩ := AH
   dsimp only at br bs Ie Ic
   have ha := bs.at (e := n) (X := .cq J) (by omega) (by simp) (aE bx)
   have c4 := bs.at (e := n + 1) (X := .box 72 (yn s.l (⟨true,on⟩ :: os) (.v .nilIface) (s.has.filter (fun x => x != b)) s.iN s.bad)) (by omega) (by simp) (aE bx)
   have dm := bs.at (e := n + 2) (X := .box 81 nh) (by omega) (by simp) (aE bx)
   have ub := bs.le
   have iQ := fE sd
   have dn := c3 (n := sd) (d := n) (by omega)
   have cw := c3 (n := sd) (d := n + 1) (by omega)
   have c2 := c3 (n := sd) (d := n + 2) (by omega)
   have jG := gO (jq (.ec (h2 s.l b)) du)
   have jW : jk (.ec (h2 s.l b)) du = .dr 104 (.agg (qI (h2 s.l b) du.er)) := rfl
   have sR := br.to (O' := dC GJ (bM + 1)) (Nat.le_refl _) (by rw [bn,if_neg (by omega)]) (by rw [bn,if_neg (by omega)])
   have bS := And.intro bx (And.intro @iQ (And.intro @dn (And.intro @cw (And.intro @c2 (And.intro @ha (And.intro @c4 (And.intro @dm @jG)))))))
   refine aL 3 bS ?_;refine an bS ?_;refine rR _ (w9 (some ([1,3,6,7],none)) _ (ae fun _ ud _ _ => ae fun _ Bn _ _ => ai fun _ p9 => ?_));refine ag 2 bS ?_;refine aL 2 bS ?_;refine aL 1 bS ?_;refine Or.inl ⟨_,yE wD,?_⟩;refine an bS ?_;refine p9 _ (Bn (some ([1,3,6,74],none)) _ (bB (ud (some ([1,3,6],none)) _ (ae fun _ xd _ _ => ai fun _ ua => ?_))));refine aL 2 bS ?_;refine aL 1 bS ?_;refine Or.inr (Aq ((QJ _ yO e4 sR)) (Qr) (Nw) (aE bS) (aE bS) (fun Dd FC Df lq tP => ?_))
   obtain ⟨kr,rfl,p0,kU,AR⟩ := tP
   dsimp only at p0 kU AR
   change pH (some du.i) _ _ _ _ at kU
   have f0 := kU.at (e := n) (X := .cq J) (by omega) (by intro h; injection h; omega) (aE bS)
   have f1 := kU.at (e := n + 1) (X := .box 72 (yn s.l (⟨true,on⟩ :: os) (.v .nilIface) (s.has.filter (fun x => x != b)) s.iN s.bad)) (by omega) (by intro h; injection h; omega) (aE bS)
   have f2 := kU.at (e := n + 2) (X := .box 81 nh) (by omega) (by intro h; injection h; omega) (aE bS)
   have Ek := kU.le
   have wY := fE lq
   have fs := c3 (n := lq) (d := n) (by omega)
   have a2 := c3 (n := lq) (d := n + 1) (by omega)
   have a8 := c3 (n := lq) (d := n + 2) (by omega)
   have Bw := gO (jq (lf (kI (h2 s.l b) e4)).1 kr)
   have lO : (lf (kI (h2 s.l b) e4)).2.2 = false := rfl
   have eb := And.intro bS (And.intro @wY (And.intro @fs (And.intro @a2 (And.intro @a8 (And.intro @f0 (And.intro @f1 (And.intro @f2 (And.intro @Bw @lO))))))))
   refine aL 3 eb ?_;refine aL 3 eb ?_;refine ag 1 eb ?_;refine an eb ?_;refine ua _ (xd (some ([1,3,9,10,11],none)) _ (ae fun _ xe _ _ => ai fun _ rT => ?_));refine aU eb ?_;refine rT _ (xe (some ([1,3,10,11],none)) _ (ae fun _ _ adJ _ => ae fun _ I4 _ _ => ai fun _ A4 => ?_));refine an eb ?_;refine A4 _ (I4 (some ([1,3,10,89],none)) _ (bY (ae fun _ ac1 _ _ => ?_)));refine hy [] (n := 4) fun _ IL => ?_;refine hv ?_;refine cR 1 eb ?_;refine cR 2 eb ?_;refine lJ eb ?_;refine IL _ ?_;refine hx ?_;refine ag 1 eb ?_;refine an eb ?_;refine ac1 (some ([2,3,4],none)) _ (adJ _ (adI _ (dG _ (c7 _ (bt _ ?_)))))
   first | refine gd (aE eb) (aE eb) (aE eb) ?_ | refine gb (aE eb) (aE eb) (aE eb) ?_
   try dsimp only
   rw [ba]
   have acu := p0.i
   have acq := p0.g
   have iI := br.i
   have AW := br.g
   have aS : (n + 2 < kr.i ∧ kr.i ≠ sd) ∧ (n + 2 < kr.g ∧ kr.g ≠ sd) := by
    obtain ⟨bL,cd⟩ | ⟨_,h,bL,cd⟩ := AR
    ·omega
    ·cases h; omega
   refine ⟨kr,rfl,fun a aZ => (by cases aZ; exact p0.to (by omega) (by simp only [al,bn]; repeat rw [if_neg (by omega)]) (by simp only [al,bn]; repeat rw [if_neg (by omega)])),⟨by omega,fun e he ar => ?_,fun e he => ?_⟩⟩
   ·simp only [al,bn]; repeat rw [if_neg (by omega)]
    rw [kU.old e (by omega) (by intro h; injection h; omega)]
    simp only [al,bn]; repeat rw [if_neg (by omega)]
    rw [bs.old e (by omega) (by simp)]
    simp only [al,bn]; repeat rw [if_neg (by omega)]
    exact hold e he
   ·have he : e ∈ [kr.i,kr.g] := he
    simp only [List.mem_cons,List.not_mem_nil,or_false] at he
    rcases he with rfl | rfl
    ·exact .inr (by omega)
    ·exact .inr (by omega)
  ·skip
   have ay := ao.ops _ (hC.sub _ (List.mem_cons_self ..))
   have w0 : IntKind.i64.wrap on = on := by rw [IntKind.wrap_i64]; have := ay.1; have := ay.2; simp only at *; omega
   have dQ : (s.l.blocks = 0) = False := eq_false (by omega)
   have wl : (0 : Int) < ((os.length + 1 : Nat) : Int) := by omega
   have a7 : ¬ ((⟨false,on⟩ : fi).n1 = true ∧ s.has = []) := fun h => nomatch h.1
   have xl : pD s.has (⟨false,on⟩ :: os) = ⟨false,on⟩ :: os := by rw [LN,if_neg a7]
   have vl := Dx aF fz ao.has a7
   have ba : hF s = ({ s with ops := ⟨false,on⟩ :: os,now := some (cI (.c9 (fJ s.l (g0 s ⟨false,on⟩))) e4).1 },(cI (.c9 (fJ s.l (g0 s ⟨false,on⟩))) e4).2.1,false) := by
    unfold hF
    rw [hC.F0,xl]; rfl
   have yO := LW aF vl
   have lO : (hU (fJ s.l (g0 s ⟨false,on⟩)) e4).2.2 = false := (Hj (s := s) (o := ⟨false,on⟩) aF vl).2.2.2.2
   have gm : on.tmod s.l.blocks = ((g0 s ⟨false,on⟩ : Nat) : Int) := by
    obtain ⟨m,rfl⟩ := Int.eq_ofNat_of_zero_le ay.1
    obtain ⟨B,fD⟩ := Int.eq_ofNat_of_zero_le (show 0 ≤ s.l.blocks by omega)
    unfold g0
    rw [if_neg (by simp),fD,Int.tmod_eq_emod_of_nonneg (by omega)]; simp
   generalize g0 s ⟨false,on⟩ = b at vl ba yO lO gm
   have xw := fun X N => Ff aF b vl X N
   have di := And.intro ad (And.intro @iP (And.intro @d0 (And.intro @d1 (And.intro @d2 (And.intro @a0 (And.intro @bE (And.intro @bP (And.intro @w0 (And.intro @fh (And.intro @dQ (And.intro @wl @gm)))))))))))
   refine ae fun _ ac2 _ _ => ae fun _ Br _ _ => ai fun _ A5 => ?_;refine ag 2 di ?_;refine aU di ?_;refine A5 _ (Br (some ([1,3,15],none)) _ (bY (ac2 (some ([1,3],none)) _ (cx fun _ _ _ adK _ => ae fun _ ac4 _ _ => ai fun _ A7 => ?_))));refine ag 2 di ?_;refine ag 1 di ?_;refine ag 1 di ?_;refine aU di ?_;refine A7 _ (ac4 (some ([1,3,5],none)) _ (ae fun _ Bs _ _ => ai fun _ A8 => ?_));refine an di ?_;refine A8 _ (Bs (some ([1,3,5],none)) _ (ae fun _ I8 _ _ => ai fun _ A9 => ?_));refine an di ?_;refine A9 _ (I8 (some ([1,3,5],none)) _ (ae fun _ I9 _ _ => ai fun _ Ba => ?_));refine ag 2 di ?_;refine aL 3 di ?_;refine ag 1 di ?_;refine ag 2 di ?_;refine an di ?_;refine Ba _ (I9 (some ([1,3,5,8],none)) _ ?_)
   refine ae fun _ Ja _ _ => ae fun _ ac9 _ _ => ai fun _ acL => ?_;refine ag 2 di ?_;refine an di ?_;refine acL _ (ac9 (some ([1,3,5,8,30],none)) _ (bY (ai fun _ acM => ?_)));refine ag 2 di ?_;refine aL 1 di ?_;refine aL 1 di ?_;refine Or.inr (ia (xw _ _) (aE di) (fun uR vW tt px nw => ?_))
   obtain ⟨du,rfl,br,bs,Ie,Ic⟩ := nw
   dsimp only at br bs Ie Ic
   have ha := bs.at (e := n) (X := .cq J) (by omega) (by simp) (aE di)
   have c4 := bs.at (e := n + 1) (X := .box 72 (yn s.l (⟨false,on⟩ :: os) (.v .nilIface) s.has s.iN s.bad)) (by omega) (by simp) (aE di)
   have dm := bs.at (e := n + 2) (X := .box 81 nh) (by omega) (by simp) (aE di)
   have ub := bs.le
   have iQ := fE px
   have dn := c3 (n := px) (d := n) (by omega)
   have cw := c3 (n := px) (d := n + 1) (by omega)
   have c2 := c3 (n := px) (d := n + 2) (by omega)
   have jG := gO (jq (.c9 (fJ s.l b)) du)
   have sR := br.to (O' := dC tt (bM + 1)) (Nat.le_refl _) (by rw [bn,if_neg (by omega)]) (by rw [bn,if_neg (by omega)])
   have gF := And.intro di (And.intro @iQ (And.intro @dn (And.intro @cw (And.intro @c2 (And.intro @ha (And.intro @c4 (And.intro @dm @jG)))))))
   refine aL 3 gF ?_;refine an gF ?_;refine acM _ (Ja (some ([1,3,6,7],none)) _ (ae fun _ ade _ _ => ae fun _ adf _ _ => ai fun _ IT => ?_));refine ag 2 gF ?_;refine aL 2 gF ?_;refine aL 1 gF ?_;refine Or.inl ⟨_,yE wD,?_⟩;refine an gF ?_;refine IT _ (adf (some ([1,3,6,74],none)) _ (bB (ade (some ([1,3,6],none)) _ (ae fun _ adg _ _ => ai fun _ acQ => ?_))));refine aL 2 gF ?_;refine aL 1 gF ?_;refine Or.inr (Aq ((QN _ yO.1 yO.2 e4 sR)) (Qs) (Nx) (aE gF) (aE gF) (fun Dd FC Df lq tP => ?_))
   obtain ⟨kr,rfl,p0,kU,AR⟩ := tP
   dsimp only at p0 kU AR
   change pH (some du.i) _ _ _ _ at kU
   have f0 := kU.at (e := n) (X := .cq J) (by omega) (by intro h; injection h; omega) (aE gF)
   have f1 := kU.at (e := n + 1) (X := .box 72 (yn s.l (⟨false,on⟩ :: os) (.v .nilIface) s.has s.iN s.bad)) (by omega) (by intro h; injection h; omega) (aE gF)
   have f2 := kU.at (e := n + 2) (X := .box 81 nh) (by omega) (by intro h; injection h; omega) (aE gF)
   have Ek := kU.le
   have wY := fE lq
   have fs := c3 (n := lq) (d := n) (by omega)
   have a2 := c3 (n := lq) (d := n + 1) (by omega)
   have a8 := c3 (n := lq) (d := n + 2) (by omega)
   have Bw := gO (jq (hZ (hU (fJ s.l b) e4)).1 kr)
   have lO : (hZ (hU (fJ s.l b) e4)).2.2 = false := lO
   have a5 := And.intro gF (And.intro @wY (And.intro @fs (And.intro @a2 (And.intro @a8 (And.intro @f0 (And.intro @f1 (And.intro @f2 (And.intro @Bw @lO))))))))
   refine aL 3 a5 ?_;refine aL 3 a5 ?_;refine ag 1 a5 ?_;refine an a5 ?_;refine acQ _ (adg (some ([1,3,9,10,11],none)) _ (ae fun _ Jb _ _ => ai fun _ IU => ?_));refine aU a5 ?_;refine IU _ (Jb (some ([1,3,10,11],none)) _ (ae fun _ _ adL _ => ae fun _ Jc _ _ => ai fun _ acR => ?_));refine an a5 ?_;refine acR _ (Jc (some ([1,3,10,89],none)) _ (bY (ae fun _ Jd _ _ => ?_)));refine hy [] (n := 4) fun _ IV => ?_;refine hv ?_;refine cR 1 a5 ?_;refine cR 2 a5 ?_;refine lJ a5 ?_;refine IV _ ?_;refine hx ?_;refine ag 1 a5 ?_;refine an a5 ?_;refine Jd (some ([2,3,4],none)) _ (adL _ (adK _ (dG _ (c7 _ (bt _ ?_)))))
   first | refine gd (aE a5) (aE a5) (aE a5) ?_ | refine gb (aE a5) (aE a5) (aE a5) ?_
   try dsimp only
   rw [ba]
   have acu := p0.i
   have acq := p0.g
   have iI := br.i
   have AW := br.g
   have aS : (n + 2 < kr.i ∧ kr.i ≠ px) ∧ (n + 2 < kr.g ∧ kr.g ≠ px) := by
    obtain ⟨bL,cd⟩ | ⟨_,h,bL,cd⟩ := AR
    ·omega
    ·cases h; omega
   refine ⟨kr,rfl,fun a aZ => (by cases aZ; exact p0.to (by omega) (by simp only [al,bn]; repeat rw [if_neg (by omega)]) (by simp only [al,bn]; repeat rw [if_neg (by omega)])),⟨by omega,fun e he ar => ?_,fun e he => ?_⟩⟩
   ·simp only [al,bn]; repeat rw [if_neg (by omega)]
    rw [kU.old e (by omega) (by intro h; injection h; omega)]
    simp only [al,bn]; repeat rw [if_neg (by omega)]
    rw [bs.old e (by omega) (by simp)]
    simp only [al,bn]; repeat rw [if_neg (by omega)]
    exact hold e he
   ·have he : e ∈ [kr.i,kr.g] := he
    simp only [List.mem_cons,List.not_mem_nil,or_false] at he
    rcases he with rfl | rfl
    ·exact .inr (by omega)
    ·exact .inr (by omega)
end Go.Proofs.YtkmbcjnaaokilaaGreatDoor
