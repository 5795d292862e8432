/-
  Layer 8 once more, for codes that have a part of one's own memory: Step.
-/
import Derived.Test.YtkmbcjnaaokilaaGreatDoorK12g
namespace Go.Proofs.YtkmbcjnaaokilaaGreatDoor
set_option linter.unusedSimpArgs false
set_option linter.unusedVariables false
open Go.RowKit Go.Maps
section
variable {C : ed} {W : iz C}
theorem yl {a b : dt C} (h : g2 W a = g2 W b) : a.code.map W.fY = b.code.map W.fY ∧ a.live = b.live ∧ a.act = b.act ∧ a.fc = b.fc := by
 obtain ⟨c,l,x,g⟩ := a
 obtain ⟨uW,vI,rB,ku⟩ := b
 unfold g2 at h
 simp only [dt.mk.injEq] at h
 exact h
theorem aeF {a b : dt C} (g : ei) (h : g2 W a = g2 W b) : g2 W (jl a g) = g2 W (jl b g) := by
 obtain ⟨c,l,x,gs⟩ := a
 obtain ⟨uW,vI,rB,aqg⟩ := b
 obtain ⟨af,aj,av,aY⟩ := yl h
 simp only at af aj av aY
 subst aj av aY
 cases l
 ·unfold jl
  rw [if_neg (by simp),if_neg (by simp)]
  exact h
 ·cases c with
  | none =>
   cases uW with
   | none => rfl
   | some s => cases af
  | some s =>
   cases uW with
   | none => cases af
   | some dH =>
    have af : W.fY s = W.fY dH := Option.some.inj af
    obtain ⟨bG,fz⟩ := W.o7 g af
    show g2 W (jG _ (C.next s g).1 (C.next s g).2.1 (C.next s g).2.2) = g2 W (jG _ (C.next dH g).1 (C.next dH g).2.1 (C.next dH g).2.2)
    rw [fz]
    exact JQ rfl bG
theorem ym {a b : cN C} (h : fl W a = fl W b) : a.m = b.m ∧ a.tasks.map (g2 W) = b.tasks.map (g2 W) ∧ a.ib = b.ib := by
 obtain ⟨m,l,s⟩ := a
 obtain ⟨lY,vI,dH⟩ := b
 unfold fl at h
 simp only [cN.mk.injEq] at h
 exact h
theorem rT {a b : cN C} (h : fl W a = fl W b) : a.tasks.length = b.tasks.length := by
 have := congrArg List.length (ym h).2.1
 simpa using this
theorem Ae {a b : cN C} (h : fl W a = fl W b) {i : Nat} {y : dt C} (aV : a.tasks[i]? = some y) : ∃ z,b.tasks[i]? = some z ∧ g2 W y = g2 W z := by
 have := congrArg (fun l => l[i]?) (ym h).2.1
 simp only [List.getElem?_map,aV,Option.map_some] at this
 cases bR : b.tasks[i]? with
 | none => rw [bR] at this; cases this
 | some z => rw [bR] at this; exact ⟨z,rfl,Option.some.inj this⟩
theorem JP {a b : cN C} (af : a.m = b.m) (aj : a.tasks.map (g2 W) = b.tasks.map (g2 W)) (av : a.ib = b.ib) : fl W a = fl W b := by
 unfold fl
 rw [af,aj,av]
theorem Dz {a b : cN C} (h : fl W a = fl W b) (i : Nat) : je a i = je b i := by
 unfold je
 cases aV : a.tasks[i]? with
 | none =>
  have aE := rT h
  rw [List.getElem?_eq_none_iff] at aV
  rw [List.getElem?_eq_none (by omega)]
 | some y =>
  obtain ⟨z,bR,e⟩ := Ae h aV
  rw [bR]
  show y.live = z.live
  exact (yl e).2.1
theorem Ed {a b : cN C} (h : fl W a = fl W b) (i : Nat) : jt a i = jt b i := by unfold jt; rw [(ym h).2.2]
theorem alM {a b : cN C} (h : fl W a = fl W b) (t : Int) : k3 a t = k3 b t := by
 unfold k3
 rw [rT h,Ed h,Dz h]
theorem Xj {a b : cN C} (h : fl W a = fl W b) (p : lI) : fl W (eU a p).1 = fl W (eU b p).1 ∧ (eU a p).2 = (eU b p).2 := by
 obtain ⟨a1,a7,ct⟩ := ym h
 have a6 : tQ a = tQ b := by unfold tQ; rw [a1]
 unfold eU
 rw [a6,alM h]
 split
 ·exact ⟨h,rfl⟩
 ·split
  ·rw [a1]; exact ⟨rfl,rfl⟩
  ·split
   ·exact ⟨h,rfl⟩
   ·split
    ·refine ⟨?_,rfl⟩
     show fl W (pF a p.jv p.choice) = fl W (pF b p.jv p.choice)
     unfold pF
     cases aV : a.tasks[(p.jv - 1).toNat]? with
     | none =>
      have aE := rT h
      rw [List.getElem?_eq_none_iff] at aV
      rw [List.getElem?_eq_none (by omega)]
      exact h
     | some y =>
      obtain ⟨z,bR,e⟩ := Ae h aV
      rw [bR]
      obtain ⟨_,_,iA,_⟩ := yl e
      simp only [a1,iA]
      refine JP rfl ?_ ct
      unfold oH
      simp only [List.map_set,a7,aeF _ e]
    ·split
     ·exact ⟨JP a1 a7 (by show a.ib.set _ _ = b.ib.set _ _; rw [ct]),rfl⟩
     ·exact ⟨h,rfl⟩
theorem Rk (t : Int) : ∀ (k : Nat) {a b : cN C},fl W a = fl W b → fl W (e0 a t k) = fl W (e0 b t k)
 | 0,_,_,h => h
 | k + 1,a,b,h => by
  obtain ⟨af,aj⟩ := Xj h ⟨0,t,0⟩
  unfold e0
  rw [aj]
  split
  ·exact Rk t k af
  ·exact h
theorem alN {a b : dt C} {n : Nat} (h : g2 W a = g2 W b) (az : tF a n) : tF b n := by
 obtain ⟨af,aj,_,aY⟩ := yl h
 refine ⟨by rw [← aY]; exact az.fc,fun aE => ?_,fun s ao => ?_⟩
 ·obtain ⟨s,ao⟩ := az.code (by rw [aj]; exact aE)
  rw [ao] at af
  cases aI : b.code with
  | none => rw [aI] at af; cases af
  | some dH => exact ⟨dH,rfl⟩
 ·rw [ao] at af
  cases a5 : a.code with
  | none => rw [a5] at af; cases af
  | some dH =>
   rw [a5] at af
   exact W.Kd (Option.some.inj af) (az.jB dH a5)
theorem O2 {a b : cN C} {n : Nat} (h : fl W a = fl W b) (az : iW a n) : iW b n := by
 obtain ⟨a1,a7,ct⟩ := ym h
 refine ⟨by rw [← a1]; exact az.pU,by rw [← rT h,← a1]; exact az.oT,by rw [← ct,← rT h]; exact az.stops,fun t aL => ?_⟩
 obtain ⟨i,aq⟩ := List.getElem?_of_mem aL
 obtain ⟨z,bR,e⟩ := Ae h.symm aq
 exact alN e.symm (az.task z (List.mem_of_getElem? bR))
def Z3 (w : cN C) (O : List (Nat × bo)) (n : Nat) (W : iz C) (R : cN C × Bool) (_ : bl → Env → Prop) (r : aw) (O' : List (Nat × bo)) (bO : Nat) : Prop :=
 ∃ w',fl W w' = fl W R.1 ∧ r = .bY [od w',eA R.2] ∧ lM W w' O' bO ∧ kq (ix W w) (ix W w') O n O' bO ∧ (R.2 = false → w' = w)
set_option maxHeartbeats 4000000 in
theorem MC (w : cN C) (p : lI) {k : Nat} (h : iW w k) (a9 : k ≤ 900) (O : List (Nat × bo)) (n : Nat) (ax : lM W w O n) : gg 24 [od w,.agg (wQ p)] O n (Z3 w O n W (eU w p)) := by
 refine oF Tryz.func24 anm rfl fun J => ?_
 have hid := fG n
 have bX := ajH w
 have c9 := Eo h
 have bQ : ∀ e ∈ ix W w,e < n := fun e he => rA ax he
 obtain ⟨uj,xP,jM⟩ := p
 unfold eU
 simp only
 cases a6 : tQ w
 case true =>
  rw [a6] at bX
  rw [if_pos rfl]
  unfold zA zx;delta ab aQ aa ay a3
  have ad := @hid
  refine ae fun bD aK b9 ck => ai fun ca aH => ?_;refine al ad ?_;refine aH _ (aK (some ([2,3,4],none)) _ (ae fun cg aP bx b8 => cj fun ch bI kV dd dU => ae fun cM bV dQ eP => ai fun cG dk => ?_));refine ag 1 ad ?_;refine aM 1 ad ?_;refine Or.inl (Or.inl ⟨_,bX,?_⟩);refine al ad ?_;refine dk _ (bV (some ([2,3,4,6],none)) _ (bU (bI _ (aP (some ([2,4],none)) _ (ae fun cI cz ey fp => ai fun dB c7 => ?_)))));refine ag 1 ad ?_;refine ag 1 ad ?_;refine al ad ?_;refine c7 _ (cz (some ([4,5],none)) _ ?_)
  first | refine gv (aF ad) (aF ad) (aF ad) ?_ | refine gu (aF ad) (aF ad) (aF ad) ?_
  try dsimp only
  refine ⟨w,rfl,rfl,nZ ax (by omega) fun e he => ?_,⟨by omega,fun e he ar => ?_,fun e he => .inl he⟩,fun _ => rfl⟩
  ·have := bQ e he
   simp only [an,bq]; repeat rw [if_neg (by omega)]
  ·simp only [an,bq]; repeat rw [if_neg (by omega)]
 rw [a6] at bX
 rw [if_neg (by simp)]
 by_cases aj : uj = 2
 ·subst aj
  rw [if_pos rfl]
  have cL := ajs w.m jM h.pU a9
  generalize z7 w.m jM = Q at cL ⊢
  unfold zA zx;delta ab aQ aa ay a3
  have ad := @hid
  refine ae fun bD aK b9 ck => ai fun ca aH => ?_;refine al ad ?_;refine aH _ (aK (some ([2,3,4],none)) _ (ae fun cg aP bx b8 => cj fun ch bI kV dd dU => ae fun cM bV dQ eP => ai fun cG dk => ?_));refine ag 1 ad ?_;refine aM 1 ad ?_;refine Or.inl (Or.inl ⟨_,bX,?_⟩);refine al ad ?_;refine dk _ (bV (some ([2,3,4,6],none)) _ (bs (ae fun cI cz ey fp => ai fun dB c7 => ?_)));refine ag 2 ad ?_;refine ag 1 ad ?_;refine al ad ?_;refine c7 _ (cz (some ([2,3,4,9],none)) _ (bU (ae fun bz cR h1 gQ => ai fun eK cK => ?_)));refine ag 2 ad ?_;refine ag 2 ad ?_;refine aM 1 ad ?_;refine Or.inl (Or.inl ⟨_,cL,?_⟩);refine ag 2 ad ?_;refine al ad ?_;refine cK _ (cR (some ([4,5],none)) _ (dd _ (bx _ ?_)))
  first | refine gv (aF ad) (aF ad) (aF ad) ?_ | refine gu (aF ad) (aF ad) (aF ad) ?_
  try dsimp only
  refine ⟨⟨Q,[],[]⟩,rfl,rfl,⟨fun t aL => (by cases aL),fun i j gn vW _ aq => by simp at aq⟩,⟨by omega,fun e he ar => ?_,fun e he => (by cases he)⟩,fun h => nomatch h⟩
  simp only [an,bq]; repeat rw [if_neg (by omega)]
 rw [if_neg aj]
 have d2 : (uj == 2) = false := by simpa using aj
 have k2 := ajI w xP c9
 cases aL : k3 w xP
 ·rw [aL] at k2
  rw [if_pos rfl]
  unfold zA zx;delta ab aQ aa ay a3
  have ad := And.intro @hid @d2
  refine ae fun bD aK b9 ck => ai fun ca aH => ?_;refine al ad ?_;refine aH _ (aK (some ([2,3,4],none)) _ (ae fun cg aP bx b8 => cj fun ch bI kV dd dU => ae fun cM bV dQ eP => ai fun cG dk => ?_));refine ag 1 ad ?_;refine aM 1 ad ?_;refine Or.inl (Or.inl ⟨_,bX,?_⟩);refine al ad ?_;refine dk _ (bV (some ([2,3,4,6],none)) _ (bs (ae fun cI cz ey fp => ai fun dB c7 => ?_)));refine ag 2 ad ?_;refine ag 1 ad ?_;refine al ad ?_;refine c7 _ (cz (some ([2,3,4,9],none)) _ (bs (ae fun bz cR h1 gQ => ai fun eK cK => ?_)));refine ag 1 ad ?_;refine ag 2 ad ?_;refine aM 1 ad ?_;refine Or.inl (Or.inl ⟨_,k2,?_⟩);refine al ad ?_;refine cK _ (cR (some ([2,3,4,19],none)) _ (bU (bI _ (aP (some ([2,4],none)) _ ?_))))
  refine ae fun fM cr h0 g6 => ai fun ga cD => ?_;refine ag 1 ad ?_;refine ag 1 ad ?_;refine al ad ?_;refine cD _ (cr (some ([4,5],none)) _ ?_)
  first | refine gv (aF ad) (aF ad) (aF ad) ?_ | refine gu (aF ad) (aF ad) (aF ad) ?_
  try dsimp only
  refine ⟨w,rfl,rfl,nZ ax (by omega) fun e he => ?_,⟨by omega,fun e he ar => ?_,fun e he => .inl he⟩,fun _ => rfl⟩
  ·have := bQ e he
   simp only [an,bq]; repeat rw [if_neg (by omega)]
  ·simp only [an,bq]; repeat rw [if_neg (by omega)]
 rw [aL] at k2
 rw [if_neg (by simp)]
 by_cases ba : uj = 0
 ·subst ba
  rw [if_pos rfl]
  have qt := fun X N cC => ajd (W := W) w xP jM h a9 aL X N cC
  generalize pF w xP jM = Q at qt ⊢
  have vw : ∀ a b c,lM W w ((n + 3,a) :: (n + 2,b) :: (n + 1,c) :: (n,.cB J) :: O) (n + 4) := fun a b c => nZ ax (by omega) fun e he => by
   have := bQ e he
   simp only [an]; repeat rw [if_neg (by omega)]
  unfold zA zx;delta ab aQ aa ay a3
  have ad := And.intro @hid @d2
  refine ae fun bD aK b9 ck => ai fun ca aH => ?_;refine al ad ?_;refine aH _ (aK (some ([2,3,4],none)) _ (ae fun cg aP bx b8 => cj fun ch bI kV dd dU => ae fun cM bV dQ eP => ai fun cG dk => ?_));refine ag 1 ad ?_;refine aM 1 ad ?_;refine Or.inl (Or.inl ⟨_,bX,?_⟩);refine al ad ?_;refine dk _ (bV (some ([2,3,4,6],none)) _ (bs (ae fun cI cz ey fp => ai fun dB c7 => ?_)));refine ag 2 ad ?_;refine ag 1 ad ?_;refine al ad ?_;refine c7 _ (cz (some ([2,3,4,9],none)) _ (bs (ae fun bz cR h1 gQ => ai fun eK cK => ?_)));refine ag 1 ad ?_;refine ag 2 ad ?_;refine aM 1 ad ?_;refine Or.inl (Or.inl ⟨_,k2,?_⟩);refine al ad ?_;refine cK _ (cR (some ([2,3,4,19],none)) _ (bs (ae fun fM cr h0 g6 => ai fun ga cD => ?_)))
  refine ag 2 ad ?_;refine ag 1 ad ?_;refine al ad ?_;refine cD _ (cr (some ([2,3,4,25],none)) _ (bU (ae fun gK dF nu ln => ai fun hc dq => ?_)));refine ag 1 ad ?_;refine ag 2 ad ?_;refine ag 2 ad ?_;refine aM 1 ad ?_;refine Or.inr (iJ (qt _ _ (vw _ _ _)) (aF ad) (fun zT AT rF gR q4 => ?_))
  obtain ⟨w',y1,rfl,Co,bu⟩ := q4
  dsimp only at Co bu
  have gA := bu.at (e := n) (X := .cB J) (by omega) (fun hm => absurd (bQ _ hm) (by omega)) (aF ad)
  have gH := bu.at (e := n + 3) (X := .box 63 uD) (by omega) (fun hm => absurd (bQ _ hm) (by omega)) (aF ad)
  have aD := And.intro ad (And.intro @gA @gH)
  refine ag 1 aD ?_;refine al aD ?_;refine dq _ (dF (some ([4,5],none)) _ (dd _ (bx _ ?_)))
  first | refine gv (aF aD) (aF aD) (aF aD) ?_ | refine gu (aF aD) (aF aD) (aF aD) ?_
  try dsimp only
  refine ⟨w',y1,rfl,nZ Co (by omega) fun e he => ?_,⟨by have := bu.le; omega,fun e he ar => ?_,fun e he => ?_⟩,fun h => nomatch h⟩
  ·rcases bu.new e he with h | h
   ·have := bQ e h; simp only [an,bq]; repeat rw [if_neg (by omega)]
   ·simp only [an,bq]; repeat rw [if_neg (by omega)]
  ·simp only [an,bq]; repeat rw [if_neg (by omega)]
   rw [bu.old e (by omega) ar]
   simp only [an]; repeat rw [if_neg (by omega)]
  ·rcases bu.new e he with h | h
   ·exact .inl h
   ·exact .inr (by omega)
 rw [if_neg ba]
 have d0 : (uj == 0) = false := by simpa using ba
 by_cases af : uj = 1
 ·subst af
  rw [if_pos rfl]
  have r8 := ajJ w xP h aL
  have Si : lM W (rZ w xP) O n := ⟨ax.own,ax.ap⟩
  have KV : ix W (rZ w xP) = ix W w := rfl
  generalize rZ w xP = Q at r8 Si KV ⊢
  unfold zA zx;delta ab aQ aa ay a3
  have ad := And.intro @hid (And.intro @d2 @d0)
  refine ae fun bD aK b9 ck => ai fun ca aH => ?_;refine al ad ?_;refine aH _ (aK (some ([2,3,4],none)) _ (ae fun cg aP bx b8 => cj fun ch bI kV dd dU => ae fun cM bV dQ eP => ai fun cG dk => ?_));refine ag 1 ad ?_;refine aM 1 ad ?_;refine Or.inl (Or.inl ⟨_,bX,?_⟩);refine al ad ?_;refine dk _ (bV (some ([2,3,4,6],none)) _ (bs (ae fun cI cz ey fp => ai fun dB c7 => ?_)));refine ag 2 ad ?_;refine ag 1 ad ?_;refine al ad ?_;refine c7 _ (cz (some ([2,3,4,9],none)) _ (bs (ae fun bz cR h1 gQ => ai fun eK cK => ?_)));refine ag 1 ad ?_;refine ag 2 ad ?_;refine aM 1 ad ?_;refine Or.inl (Or.inl ⟨_,k2,?_⟩);refine al ad ?_;refine cK _ (cR (some ([2,3,4,19],none)) _ (bs (ae fun fM cr h0 g6 => ai fun ga cD => ?_)))
  refine ag 2 ad ?_;refine ag 1 ad ?_;refine al ad ?_;refine cD _ (cr (some ([2,3,4,25],none)) _ (bs (ae fun gK dF nu ln => ai fun hc dq => ?_)));refine ag 2 ad ?_;refine ag 1 ad ?_;refine al ad ?_;refine dq _ (dF (some ([2,3,4,35],none)) _ (bU (ae fun jf gl Dc lo => ai fun kp gC => ?_)));refine ag 1 ad ?_;refine ag 2 ad ?_;refine aM 1 ad ?_;refine Or.inl (Or.inl ⟨_,r8,?_⟩);refine ag 1 ad ?_;refine al ad ?_;refine gC _ (gl (some ([4,5],none)) _ (dd _ (bx _ ?_)))
  first | refine gv (aF ad) (aF ad) (aF ad) ?_ | refine gu (aF ad) (aF ad) (aF ad) ?_
  try dsimp only
  refine ⟨Q,rfl,rfl,nZ Si (by omega) fun e he => ?_,⟨by omega,fun e he ar => ?_,fun e he => .inl (by rw [← KV]; exact he)⟩,fun h => nomatch h⟩
  ·have := bQ e (by rw [← KV]; exact he)
   simp only [an,bq]; repeat rw [if_neg (by omega)]
  ·simp only [an,bq]; repeat rw [if_neg (by omega)]
 rw [if_neg af]
 have d1 : (uj == 1) = false := by simpa using af
 unfold zA zx;delta ab aQ aa ay a3
 have ad := And.intro @hid (And.intro @d2 (And.intro @d0 @d1))
 refine ae fun bD aK b9 ck => ai fun ca aH => ?_;refine al ad ?_;refine aH _ (aK (some ([2,3,4],none)) _ (ae fun cg aP bx b8 => cj fun ch bI kV dd dU => ae fun cM bV dQ eP => ai fun cG dk => ?_));refine ag 1 ad ?_;refine aM 1 ad ?_;refine Or.inl (Or.inl ⟨_,bX,?_⟩);refine al ad ?_;refine dk _ (bV (some ([2,3,4,6],none)) _ (bs (ae fun cI cz ey fp => ai fun dB c7 => ?_)));refine ag 2 ad ?_;refine ag 1 ad ?_;refine al ad ?_;refine c7 _ (cz (some ([2,3,4,9],none)) _ (bs (ae fun bz cR h1 gQ => ai fun eK cK => ?_)));refine ag 1 ad ?_;refine ag 2 ad ?_;refine aM 1 ad ?_;refine Or.inl (Or.inl ⟨_,k2,?_⟩);refine al ad ?_;refine cK _ (cR (some ([2,3,4,19],none)) _ (bs (ae fun fM cr h0 g6 => ai fun ga cD => ?_)))
 refine ag 2 ad ?_;refine ag 1 ad ?_;refine al ad ?_;refine cD _ (cr (some ([2,3,4,25],none)) _ (bs (ae fun gK dF nu ln => ai fun hc dq => ?_)));refine ag 2 ad ?_;refine ag 1 ad ?_;refine al ad ?_;refine dq _ (dF (some ([2,3,4,35],none)) _ (bs (bI _ (aP (some ([2,4],none)) _ (ae fun jf gl Dc lo => ai fun kp gC => ?_)))));refine ag 1 ad ?_;refine ag 1 ad ?_;refine al ad ?_;refine gC _ (gl (some ([4,5],none)) _ ?_)
 first | refine gv (aF ad) (aF ad) (aF ad) ?_ | refine gu (aF ad) (aF ad) (aF ad) ?_
 try dsimp only
 refine ⟨w,rfl,rfl,nZ ax (by omega) fun e he => ?_,⟨by omega,fun e he ar => ?_,fun e he => .inl he⟩,fun _ => rfl⟩
 ·have := bQ e he
  simp only [an,bq]; repeat rw [if_neg (by omega)]
 ·simp only [an,bq]; repeat rw [if_neg (by omega)]
end
end Go.Proofs.YtkmbcjnaaokilaaGreatDoor
