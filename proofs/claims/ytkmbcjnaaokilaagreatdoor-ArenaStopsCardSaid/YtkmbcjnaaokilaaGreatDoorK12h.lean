/-
  Layer 8 once more, for codes that have a part of one's own memory: Step.
-/
import Derived.Test.YtkmbcjnaaokilaaGreatDoorK12g
namespace Go.Proofs.YtkmbcjnaaokilaaGreatDoor
set_option linter.unusedSimpArgs false
set_option linter.unusedVariables false
open Go.RowKit Go.Maps
section
variable {C : dR} {W : h8 C}
theorem wI {a b : ds C} (h : gQ W a = gQ W b) : a.code.map W.fL = b.code.map W.fL ∧ a.live = b.live ∧ a.act = b.act ∧ a.e8 = b.e8 := by
 obtain ⟨c,l,x,g⟩ := a
 obtain ⟨tE,q3,qx,j6⟩ := b
 unfold gQ at h
 simp only [ds.mk.injEq] at h
 exact h
theorem abe {a b : ds C} (g : dW) (h : gQ W a = gQ W b) : gQ W (iO a g) = gQ W (iO b g) := by
 obtain ⟨c,l,x,gs⟩ := a
 obtain ⟨tE,q3,qx,amG⟩ := b
 obtain ⟨af,aj,aw,aV⟩ := wI h
 simp only at af aj aw aV
 subst aj aw aV
 cases l
 ·unfold iO
  rw [if_neg (by simp),if_neg (by simp)]
  exact h
 ·cases c with
  | none =>
   cases tE with
   | none => rfl
   | some s => cases af
  | some s =>
   cases tE with
   | none => cases af
   | some dv =>
    have af : W.fL s = W.fL dv := Option.some.inj af
    obtain ⟨bM,fV⟩ := W.oh g af
    show gQ W (jr _ (C.next s g).1 (C.next s g).2.1 (C.next s g).2.2) = gQ W (jr _ (C.next dv g).1 (C.next dv g).2.1 (C.next dv g).2.2)
    rw [fV]
    exact HB rfl bM
theorem wJ {a b : cM C} (h : ff W a = ff W b) : a.m = b.m ∧ a.tasks.map (gQ W) = b.tasks.map (gQ W) ∧ a.hY = b.hY := by
 obtain ⟨m,l,s⟩ := a
 obtain ⟨lp,q3,dv⟩ := b
 unfold ff at h
 simp only [cM.mk.injEq] at h
 exact h
theorem qO {a b : cM C} (h : ff W a = ff W b) : a.tasks.length = b.tasks.length := by
 have := congrArg List.length (wJ h).2.1
 simpa using this
theorem yx {a b : cM C} (h : ff W a = ff W b) {i : Nat} {y : ds C} (a1 : a.tasks[i]? = some y) : ∃ z,b.tasks[i]? = some z ∧ gQ W y = gQ W z := by
 have := congrArg (fun l => l[i]?) (wJ h).2.1
 simp only [List.getElem?_map,a1,Option.map_some] at this
 cases bO : b.tasks[i]? with
 | none => rw [bO] at this; cases this
 | some z => rw [bO] at this; exact ⟨z,rfl,Option.some.inj this⟩
theorem HA {a b : cM C} (af : a.m = b.m) (aj : a.tasks.map (gQ W) = b.tasks.map (gQ W)) (aw : a.hY = b.hY) : ff W a = ff W b := by
 unfold ff
 rw [af,aj,aw]
theorem EY {a b : cM C} (h : ff W a = ff W b) (i : Nat) : kh a i = kh b i := by
 unfold kh
 cases a1 : a.tasks[i]? with
 | none =>
  have aF := qO h
  rw [List.getElem?_eq_none_iff] at a1
  rw [List.getElem?_eq_none (by omega)]
 | some y =>
  obtain ⟨z,bO,e⟩ := yx h a1
  rw [bO]
  show y.live = z.live
  exact (wI e).2.1
theorem Cv {a b : cM C} (h : ff W a = ff W b) (i : Nat) : jf a i = jf b i := by unfold jf; rw [(wJ h).2.2]
theorem ah8 {a b : cM C} (h : ff W a = ff W b) (t : Int) : kJ a t = kJ b t := by
 unfold kJ
 rw [qO h,Cv h,EY h]
theorem T2 {a b : cM C} (h : ff W a = ff W b) (p : kO) : ff W (eL a p).1 = ff W (eL b p).1 ∧ (eL a p).2 = (eL b p).2 := by
 obtain ⟨a2,a8,cg⟩ := wJ h
 have aX : sL a = sL b := by unfold sL; rw [a2]
 unfold eL
 rw [aX,ah8 h]
 split
 ·exact ⟨h,rfl⟩
 ·split
  ·rw [a2]; exact ⟨rfl,rfl⟩
  ·split
   ·exact ⟨h,rfl⟩
   ·split
    ·refine ⟨?_,rfl⟩
     show ff W (oD a p.iC p.choice) = ff W (oD b p.iC p.choice)
     unfold oD
     cases a1 : a.tasks[(p.iC - 1).toNat]? with
     | none =>
      have aF := qO h
      rw [List.getElem?_eq_none_iff] at a1
      rw [List.getElem?_eq_none (by omega)]
      exact h
     | some y =>
      obtain ⟨z,bO,e⟩ := yx h a1
      rw [bO]
      obtain ⟨_,_,h9,_⟩ := wI e
      simp only [a2,h9]
      refine HA rfl ?_ cg
      unfold nN
      simp only [List.map_set,a8,abe _ e]
    ·split
     ·exact ⟨HA a2 a8 (by show a.hY.set _ _ = b.hY.set _ _; rw [cg]),rfl⟩
     ·exact ⟨h,rfl⟩
theorem Ov (t : Int) : ∀ (k : Nat) {a b : cM C},ff W a = ff W b → ff W (eT a t k) = ff W (eT b t k)
 | 0,_,_,h => h
 | k + 1,a,b,h => by
  obtain ⟨af,aj⟩ := T2 h ⟨0,t,0⟩
  unfold eT
  rw [aj]
  split
  ·exact Ov t k af
  ·exact h
theorem ah9 {a b : ds C} {n : Nat} (h : gQ W a = gQ W b) (aB : sC a n) : sC b n := by
 obtain ⟨af,aj,_,aV⟩ := wI h
 refine ⟨by rw [← aV]; exact aB.e8,fun aF => ?_,fun s ao => ?_⟩
 ·obtain ⟨s,ao⟩ := aB.code (by rw [aj]; exact aF)
  rw [ao] at af
  cases aJ : b.code with
  | none => rw [aJ] at af; cases af
  | some dv => exact ⟨dv,rfl⟩
 ·rw [ao] at af
  cases aZ : a.code with
  | none => rw [aZ] at af; cases af
  | some dv =>
   rw [aZ] at af
   exact W.HY (Option.some.inj af) (aB.jy dv aZ)
theorem Mg {a b : cM C} {n : Nat} (h : ff W a = ff W b) (aB : jh a n) : jh b n := by
 obtain ⟨a2,a8,cg⟩ := wJ h
 refine ⟨by rw [← a2]; exact aB.q5,by rw [← qO h,← a2]; exact aB.pd,by rw [← cg,← qO h]; exact aB.stops,fun t aO => ?_⟩
 obtain ⟨i,aq⟩ := List.getElem?_of_mem aO
 obtain ⟨z,bO,e⟩ := yx h.symm aq
 exact ah9 e.symm (aB.task z (List.mem_of_getElem? bO))
def WI (w : cM C) (O : List (Nat × bl)) (n : Nat) (W : h8 C) (R : cM C × Bool) (_ : bg → Env → Prop) (r : av) (O' : List (Nat × bl)) (bI : Nat) : Prop :=
 ∃ w',ff W w' = ff W R.1 ∧ r = .bR [lI w',dH R.2] ∧ jw W w' O' bI ∧ jQ (hP W w) (hP W w') O n O' bI ∧ (R.2 = false → w' = w)
set_option maxHeartbeats 4000000 in
theorem Fe (w : cM C) (p : kO) {k : Nat} (h : jh w k) (a7 : k ≤ 900) (O : List (Nat × bl)) (n : Nat) (ay : jw W w O n) : fv 24 [lI w,.agg (sN p)] O n (WI w O n W (eL w p)) := by
 refine nJ Tryz.func24 ajI rfl fun J => ?_
 have hid := fE n
 have b2 := aga w
 have dY := Gd h
 have bN : ∀ e ∈ hP W w,e < n := fun e he => rh ay he
 obtain ⟨s7,v9,DA⟩ := p
 unfold eL
 simp only
 cases aX : sL w
 case true =>
  rw [aX] at b2
  rw [if_pos rfl]
  unfold xU xR;delta ab aR aa aA a6
  have ad := @hid
  refine ae fun bz aK b6 cb => ai fun b7 aG => ?_;refine an ad ?_;refine aG _ (aK (some ([2,3,4],none)) _ (ae fun b8 aQ bt b5 => cx fun b9 bG kE c7 dF => ae fun cD bT dG eG => ai fun cv de => ?_));refine ag 1 ad ?_;refine aL 1 ad ?_;refine Or.inl (Or.inl ⟨_,b2,?_⟩);refine an ad ?_;refine de _ (bT (some ([2,3,4,6],none)) _ (bY (bG _ (aQ (some ([2,4],none)) _ (ae fun cC cp ek ft => ai fun dy c0 => ?_)))));refine ag 1 ad ?_;refine ag 1 ad ?_;refine an ad ?_;refine c0 _ (cp (some ([4,5],none)) _ ?_)
  first | refine gd (aE ad) (aE ad) (aE ad) ?_ | refine gb (aE ad) (aE ad) (aE ad) ?_
  try dsimp only
  refine ⟨w,rfl,rfl,kn ay (by omega) fun e he => ?_,⟨by omega,fun e he ar => ?_,fun e he => .inl he⟩,fun _ => rfl⟩
  ·have := bN e he
   simp only [al,bn]; repeat rw [if_neg (by omega)]
  ·simp only [al,bn]; repeat rw [if_neg (by omega)]
 rw [aX] at b2
 rw [if_neg (by simp)]
 by_cases aj : s7 = 2
 ·subst aj
  rw [if_pos rfl]
  have cy := afU w.m DA h.q5 a7
  generalize yq w.m DA = Q at cy ⊢
  unfold xU xR;delta ab aR aa aA a6
  have ad := @hid
  refine ae fun bz aK b6 cb => ai fun b7 aG => ?_;refine an ad ?_;refine aG _ (aK (some ([2,3,4],none)) _ (ae fun b8 aQ bt b5 => cx fun b9 bG kE c7 dF => ae fun cD bT dG eG => ai fun cv de => ?_));refine ag 1 ad ?_;refine aL 1 ad ?_;refine Or.inl (Or.inl ⟨_,b2,?_⟩);refine an ad ?_;refine de _ (bT (some ([2,3,4,6],none)) _ (bB (ae fun cC cp ek ft => ai fun dy c0 => ?_)));refine ag 2 ad ?_;refine ag 1 ad ?_;refine an ad ?_;refine c0 _ (cp (some ([2,3,4,9],none)) _ (bY (ae fun bo cN hM gR => ai fun ey cF => ?_)));refine ag 2 ad ?_;refine ag 2 ad ?_;refine aL 1 ad ?_;refine Or.inl (Or.inl ⟨_,cy,?_⟩);refine ag 2 ad ?_;refine an ad ?_;refine cF _ (cN (some ([4,5],none)) _ (c7 _ (bt _ ?_)))
  first | refine gd (aE ad) (aE ad) (aE ad) ?_ | refine gb (aE ad) (aE ad) (aE ad) ?_
  try dsimp only
  refine ⟨⟨Q,[],[]⟩,rfl,rfl,⟨fun t aO => (by cases aO),fun i j gf uF _ aq => by simp at aq⟩,⟨by omega,fun e he ar => ?_,fun e he => (by cases he)⟩,fun h => nomatch h⟩
  simp only [al,bn]; repeat rw [if_neg (by omega)]
 rw [if_neg aj]
 have d2 : (s7 == 2) = false := by simpa using aj
 have k2 := agb w v9 dY
 cases aO : kJ w v9
 ·rw [aO] at k2
  rw [if_pos rfl]
  unfold xU xR;delta ab aR aa aA a6
  have ad := And.intro @hid @d2
  refine ae fun bz aK b6 cb => ai fun b7 aG => ?_;refine an ad ?_;refine aG _ (aK (some ([2,3,4],none)) _ (ae fun b8 aQ bt b5 => cx fun b9 bG kE c7 dF => ae fun cD bT dG eG => ai fun cv de => ?_));refine ag 1 ad ?_;refine aL 1 ad ?_;refine Or.inl (Or.inl ⟨_,b2,?_⟩);refine an ad ?_;refine de _ (bT (some ([2,3,4,6],none)) _ (bB (ae fun cC cp ek ft => ai fun dy c0 => ?_)));refine ag 2 ad ?_;refine ag 1 ad ?_;refine an ad ?_;refine c0 _ (cp (some ([2,3,4,9],none)) _ (bB (ae fun bo cN hM gR => ai fun ey cF => ?_)));refine ag 1 ad ?_;refine ag 2 ad ?_;refine aL 1 ad ?_;refine Or.inl (Or.inl ⟨_,k2,?_⟩);refine an ad ?_;refine cF _ (cN (some ([2,3,4,19],none)) _ (bY (bG _ (aQ (some ([2,4],none)) _ ?_))))
  refine ae fun fB ct hL gU => ai fun fN cG => ?_;refine ag 1 ad ?_;refine ag 1 ad ?_;refine an ad ?_;refine cG _ (ct (some ([4,5],none)) _ ?_)
  first | refine gd (aE ad) (aE ad) (aE ad) ?_ | refine gb (aE ad) (aE ad) (aE ad) ?_
  try dsimp only
  refine ⟨w,rfl,rfl,kn ay (by omega) fun e he => ?_,⟨by omega,fun e he ar => ?_,fun e he => .inl he⟩,fun _ => rfl⟩
  ·have := bN e he
   simp only [al,bn]; repeat rw [if_neg (by omega)]
  ·simp only [al,bn]; repeat rw [if_neg (by omega)]
 rw [aO] at k2
 rw [if_neg (by simp)]
 by_cases bb : s7 = 0
 ·subst bb
  rw [if_pos rfl]
  have nb := fun X N cU => afD (W := W) w v9 DA h a7 aO X N cU
  generalize oD w v9 DA = Q at nb ⊢
  have qh : ∀ a b c,jw W w ((n + 3,a) :: (n + 2,b) :: (n + 1,c) :: (n,.cq J) :: O) (n + 4) := fun a b c => kn ay (by omega) fun e he => by
   have := bN e he
   simp only [al]; repeat rw [if_neg (by omega)]
  unfold xU xR;delta ab aR aa aA a6
  have ad := And.intro @hid @d2
  refine ae fun bz aK b6 cb => ai fun b7 aG => ?_;refine an ad ?_;refine aG _ (aK (some ([2,3,4],none)) _ (ae fun b8 aQ bt b5 => cx fun b9 bG kE c7 dF => ae fun cD bT dG eG => ai fun cv de => ?_));refine ag 1 ad ?_;refine aL 1 ad ?_;refine Or.inl (Or.inl ⟨_,b2,?_⟩);refine an ad ?_;refine de _ (bT (some ([2,3,4,6],none)) _ (bB (ae fun cC cp ek ft => ai fun dy c0 => ?_)));refine ag 2 ad ?_;refine ag 1 ad ?_;refine an ad ?_;refine c0 _ (cp (some ([2,3,4,9],none)) _ (bB (ae fun bo cN hM gR => ai fun ey cF => ?_)));refine ag 1 ad ?_;refine ag 2 ad ?_;refine aL 1 ad ?_;refine Or.inl (Or.inl ⟨_,k2,?_⟩);refine an ad ?_;refine cF _ (cN (some ([2,3,4,19],none)) _ (bB (ae fun fB ct hL gU => ai fun fN cG => ?_)))
  refine ag 2 ad ?_;refine ag 1 ad ?_;refine an ad ?_;refine cG _ (ct (some ([2,3,4,25],none)) _ (bY (ae fun gG dJ mN kW => ai fun gZ dt => ?_)));refine ag 1 ad ?_;refine ag 2 ad ?_;refine ag 2 ad ?_;refine aL 1 ad ?_;refine Or.inr (ia (nb _ _ (qh _ _ _)) (aE ad) (fun zT Ce ru mT rJ => ?_))
  obtain ⟨w',xn,rfl,AG,bs⟩ := rJ
  dsimp only at AG bs
  have fC := bs.at (e := n) (X := .cq J) (by omega) (fun hm => absurd (bN _ hm) (by omega)) (aE ad)
  have gy := bs.at (e := n + 3) (X := .box 63 ri) (by omega) (fun hm => absurd (bN _ hm) (by omega)) (aE ad)
  have aD := And.intro ad (And.intro @fC @gy)
  refine ag 1 aD ?_;refine an aD ?_;refine dt _ (dJ (some ([4,5],none)) _ (c7 _ (bt _ ?_)))
  first | refine gd (aE aD) (aE aD) (aE aD) ?_ | refine gb (aE aD) (aE aD) (aE aD) ?_
  try dsimp only
  refine ⟨w',xn,rfl,kn AG (by omega) fun e he => ?_,⟨by have := bs.le; omega,fun e he ar => ?_,fun e he => ?_⟩,fun h => nomatch h⟩
  ·rcases bs.new e he with h | h
   ·have := bN e h; simp only [al,bn]; repeat rw [if_neg (by omega)]
   ·simp only [al,bn]; repeat rw [if_neg (by omega)]
  ·simp only [al,bn]; repeat rw [if_neg (by omega)]
   rw [bs.old e (by omega) ar]
   simp only [al]; repeat rw [if_neg (by omega)]
  ·rcases bs.new e he with h | h
   ·exact .inl h
   ·exact .inr (by omega)
 rw [if_neg bb]
 have d0 : (s7 == 0) = false := by simpa using bb
 by_cases af : s7 = 1
 ·subst af
  rw [if_pos rfl]
  have ES := agc w v9 h aO
  have Pw : jw W (qU w v9) O n := ⟨ay.own,ay.ap⟩
  have IF : hP W (qU w v9) = hP W w := rfl
  generalize qU w v9 = Q at ES Pw IF ⊢
  unfold xU xR;delta ab aR aa aA a6
  have ad := And.intro @hid (And.intro @d2 @d0)
  refine ae fun bz aK b6 cb => ai fun b7 aG => ?_;refine an ad ?_;refine aG _ (aK (some ([2,3,4],none)) _ (ae fun b8 aQ bt b5 => cx fun b9 bG kE c7 dF => ae fun cD bT dG eG => ai fun cv de => ?_));refine ag 1 ad ?_;refine aL 1 ad ?_;refine Or.inl (Or.inl ⟨_,b2,?_⟩);refine an ad ?_;refine de _ (bT (some ([2,3,4,6],none)) _ (bB (ae fun cC cp ek ft => ai fun dy c0 => ?_)));refine ag 2 ad ?_;refine ag 1 ad ?_;refine an ad ?_;refine c0 _ (cp (some ([2,3,4,9],none)) _ (bB (ae fun bo cN hM gR => ai fun ey cF => ?_)));refine ag 1 ad ?_;refine ag 2 ad ?_;refine aL 1 ad ?_;refine Or.inl (Or.inl ⟨_,k2,?_⟩);refine an ad ?_;refine cF _ (cN (some ([2,3,4,19],none)) _ (bB (ae fun fB ct hL gU => ai fun fN cG => ?_)))
  refine ag 2 ad ?_;refine ag 1 ad ?_;refine an ad ?_;refine cG _ (ct (some ([2,3,4,25],none)) _ (bB (ae fun gG dJ mN kW => ai fun gZ dt => ?_)));refine ag 2 ad ?_;refine ag 1 ad ?_;refine an ad ?_;refine dt _ (dJ (some ([2,3,4,35],none)) _ (bY (ae fun iK gK By lP => ai fun j3 gq => ?_)));refine ag 1 ad ?_;refine ag 2 ad ?_;refine aL 1 ad ?_;refine Or.inl (Or.inl ⟨_,ES,?_⟩);refine ag 1 ad ?_;refine an ad ?_;refine gq _ (gK (some ([4,5],none)) _ (c7 _ (bt _ ?_)))
  first | refine gd (aE ad) (aE ad) (aE ad) ?_ | refine gb (aE ad) (aE ad) (aE ad) ?_
  try dsimp only
  refine ⟨Q,rfl,rfl,kn Pw (by omega) fun e he => ?_,⟨by omega,fun e he ar => ?_,fun e he => .inl (by rw [← IF]; exact he)⟩,fun h => nomatch h⟩
  ·have := bN e (by rw [← IF]; exact he)
   simp only [al,bn]; repeat rw [if_neg (by omega)]
  ·simp only [al,bn]; repeat rw [if_neg (by omega)]
 rw [if_neg af]
 have d1 : (s7 == 1) = false := by simpa using af
 unfold xU xR;delta ab aR aa aA a6
 have ad := And.intro @hid (And.intro @d2 (And.intro @d0 @d1))
 refine ae fun bz aK b6 cb => ai fun b7 aG => ?_;refine an ad ?_;refine aG _ (aK (some ([2,3,4],none)) _ (ae fun b8 aQ bt b5 => cx fun b9 bG kE c7 dF => ae fun cD bT dG eG => ai fun cv de => ?_));refine ag 1 ad ?_;refine aL 1 ad ?_;refine Or.inl (Or.inl ⟨_,b2,?_⟩);refine an ad ?_;refine de _ (bT (some ([2,3,4,6],none)) _ (bB (ae fun cC cp ek ft => ai fun dy c0 => ?_)));refine ag 2 ad ?_;refine ag 1 ad ?_;refine an ad ?_;refine c0 _ (cp (some ([2,3,4,9],none)) _ (bB (ae fun bo cN hM gR => ai fun ey cF => ?_)));refine ag 1 ad ?_;refine ag 2 ad ?_;refine aL 1 ad ?_;refine Or.inl (Or.inl ⟨_,k2,?_⟩);refine an ad ?_;refine cF _ (cN (some ([2,3,4,19],none)) _ (bB (ae fun fB ct hL gU => ai fun fN cG => ?_)))
 refine ag 2 ad ?_;refine ag 1 ad ?_;refine an ad ?_;refine cG _ (ct (some ([2,3,4,25],none)) _ (bB (ae fun gG dJ mN kW => ai fun gZ dt => ?_)));refine ag 2 ad ?_;refine ag 1 ad ?_;refine an ad ?_;refine dt _ (dJ (some ([2,3,4,35],none)) _ (bB (bG _ (aQ (some ([2,4],none)) _ (ae fun iK gK By lP => ai fun j3 gq => ?_)))));refine ag 1 ad ?_;refine ag 1 ad ?_;refine an ad ?_;refine gq _ (gK (some ([4,5],none)) _ ?_)
 first | refine gd (aE ad) (aE ad) (aE ad) ?_ | refine gb (aE ad) (aE ad) (aE ad) ?_
 try dsimp only
 refine ⟨w,rfl,rfl,kn ay (by omega) fun e he => ?_,⟨by omega,fun e he ar => ?_,fun e he => .inl he⟩,fun _ => rfl⟩
 ·have := bN e he
  simp only [al,bn]; repeat rw [if_neg (by omega)]
 ·simp only [al,bn]; repeat rw [if_neg (by omega)]
end
end Go.Proofs.YtkmbcjnaaokilaaGreatDoor
