/-
  Layer 8 once more, for codes that have a part of one's own memory: worlds.
-/
import Derived.Test.YtkmbcjnaaokilaaGreatDoorK12f
namespace Go.Proofs.YtkmbcjnaaokilaaGreatDoor
set_option linter.unusedSimpArgs false
set_option linter.unusedVariables false
open Go.RowKit Go.Maps
section
variable {C : dR} (W : h8 C)
structure jw (w : cM C) (O : List (Nat × bl)) (n : Nat) : Prop where
 own : ∀ t ∈ w.tasks,nQ W t O n
 ap : ∀ (i j : Nat) (gf uF : ds C),i ≠ j → w.tasks[i]? = some gf → w.tasks[j]? = some uF → ∀ e ∈ gE W gf,e ∉ gE W uF
def hP (w : cM C) : List Nat := w.tasks.flatMap (gE W)
def ff (w : cM C) : cM C := ⟨w.m,w.tasks.map (gQ W),w.hY⟩
end
section
variable {C : dR} {W : h8 C}
theorem zu {t : ds C} {O : List (Nat × bl)} {n e : Nat} (h : nQ W t O n) (he : e ∈ gE W t) : e < n := by
 obtain ⟨code,live,act,e8⟩ := t
 cases code with
 | none => cases he
 | some s => exact W.lt (h s rfl) e he
theorem ot {t : ds C} {O O' : List (Nat × bl)} {n bI : Nat} (h : nQ W t O n) (a7 : n ≤ bI) (cX : ∀ e ∈ gE W t,al O' e = al O e) : nQ W t O' bI := by
 obtain ⟨code,live,act,e8⟩ := t
 cases code with
 | none => intro s ao; cases ao
 | some s => intro dv ao; cases ao; exact W.to (h s rfl) a7 cX
theorem xz {w : cM C} {e : Nat} : e ∈ hP W w ↔ ∃ t ∈ w.tasks,e ∈ gE W t := List.mem_flatMap
theorem TT {w : cM C} {O O' : List (Nat × bl)} {n bI m : Nat} {y t' : ds C} {M : e0} (h : jw W w O n) (a1 : w.tasks[m]? = some y) (aO : nQ W t' O' bI) (aW : jQ (gE W y) (gE W t') O n O' bI) :
  jw W (nN w M m t') O' bI ∧ jQ (hP W w) (hP W (nN w M m t')) O n O' bI := by
 have kC := (List.getElem?_eq_some_iff.1 a1).1
 have gp : ∀ i gf,(w.tasks.set m t')[i]? = some gf → (i = m ∧ gf = t') ∨ (i ≠ m ∧ w.tasks[i]? = some gf) := fun i gf aq => by
  rw [List.getElem?_set] at aq
  by_cases e : m = i
  ·subst e; rw [if_pos rfl,if_pos kC] at aq; cases aq; exact .inl ⟨rfl,rfl⟩
  ·rw [if_neg e] at aq; exact .inr ⟨fun h => e h.symm,aq⟩
 have bN : ∀ i gf,w.tasks[i]? = some gf → ∀ e ∈ gE W gf,e < n := fun i gf aq e he => zu (h.own gf (List.mem_of_getElem? aq)) he
 have oF : ∀ i gf,i ≠ m → w.tasks[i]? = some gf → ∀ e ∈ gE W gf,e ∉ gE W y := fun i gf aq EF => h.ap i m gf y aq EF a1
 have vu : ∀ i gf,i ≠ m → w.tasks[i]? = some gf → ∀ e ∈ gE W gf,e ∉ gE W t' := fun i gf aq EF e he hm => by
  rcases aW.new e hm with af | af
  ·exact oF i gf aq EF e he af
  ·have := bN i gf EF e he; omega
 refine ⟨⟨fun t Jp => ?_,fun i j gf uF iw aq aM e he => ?_⟩,aW.le,fun e he ar => ?_,fun e he => ?_⟩
 ·obtain ⟨i,aq⟩ := List.getElem?_of_mem Jp
  rcases gp i t aq with ⟨rfl,rfl⟩ | ⟨AY,iI⟩
  ·exact aO
  ·exact ot (h.own t (List.mem_of_getElem? iI)) aW.le fun e he => aW.old e (bN i t iI e he) (oF i t AY iI e he)
 ·rcases gp i gf aq with ⟨rfl,rfl⟩ | ⟨AY,iI⟩
  ·rcases gp j uF aM with ⟨rfl,rfl⟩ | ⟨qW,kB⟩
   ·exact absurd rfl iw
   ·exact fun hm => vu j uF qW kB e hm he
  ·rcases gp j uF aM with ⟨rfl,rfl⟩ | ⟨qW,kB⟩
   ·exact vu i gf AY iI e he
   ·exact h.ap i j gf uF iw iI kB e he
 ·exact aW.old e he fun hm => ar (xz.2 ⟨y,List.mem_of_getElem? a1,hm⟩)
 ·obtain ⟨t,Jp,het⟩ := xz.1 he
  obtain ⟨i,aq⟩ := List.getElem?_of_mem Jp
  rcases gp i t aq with ⟨rfl,rfl⟩ | ⟨AY,iI⟩
  ·rcases aW.new e het with af | af
   ·exact .inl (xz.2 ⟨y,List.mem_of_getElem? a1,af⟩)
   ·exact .inr af
  ·exact .inl (xz.2 ⟨t,List.mem_of_getElem? iI,het⟩)
theorem kn {w : cM C} {O O' : List (Nat × bl)} {n bI : Nat} (h : jw W w O n) (a7 : n ≤ bI) (cX : ∀ e ∈ hP W w,al O' e = al O e) : jw W w O' bI :=
 ⟨fun t aO => ot (h.own t aO) a7 fun e he => cX e (xz.2 ⟨t,aO,he⟩),h.ap⟩
theorem rh {w : cM C} {O : List (Nat × bl)} {n e : Nat} (h : jw W w O n) (he : e ∈ hP W w) : e < n := by
 obtain ⟨t,aO,he⟩ := xz.1 he
 exact zu (h.own t aO) he
theorem NS {w : cM C} {M : e0} {m : Nat} {t t' : ds C} (h : gQ W t = gQ W t') : ff W (nN w M m t) = ff W (nN w M m t') := by
 unfold ff nN
 simp only [List.map_set,h]
def WO (ids : List Nat) (O : List (Nat × bl)) (n : Nat) (W : h8 C) (w : cM C) (_ : bg → Env → Prop) (r : av) (O' : List (Nat × bl)) (bI : Nat) : Prop :=
 ∃ w',ff W w' = ff W w ∧ r = lI w' ∧ jw W w' O' bI ∧ jQ ids (hP W w') O n O' bI
structure zR (W : h8 C) (y : ds C) (g : dW) (O : List (Nat × bl)) (m : Nat) (x : ds C) (O' : List (Nat × bl)) (bI : Nat) : Prop where
 fL : gQ W x = gQ W (iO y g)
 own : nQ W x O' bI
 cS : jQ (gE W y) (gE W x) O m O' bI
theorem zR.of {y x : ds C} {g : dW} {O O' : List (Nat × bl)} {m bI pw : Nat} (af : gQ W x = gQ W (iO y g)) (aj : nQ W x O' bI) (aw : jQ (gE W y) (gE W x) O m O' bI) (bN : ∀ e ∈ gE W y,e < pw) (a7 : pw ≤ m) : zR W y g O m x (dC O' m) bI :=
 ⟨af,ot aj (Nat.le_refl _) fun e he => (by
  rw [bn,if_neg]
  rcases aw.new e he with h | h
  ·have := bN e h; omega
  ·omega),⟨aw.le,fun e he ar => (by rw [bn,if_neg (by omega)]; exact aw.old e he ar),aw.new⟩⟩
abbrev Oq (w : cM C) (M : e0) (n : Nat) : List av := [.au 1 0 (M.mem.places.map rA),.au 1 0 (M.mem.views.map wE),.au 3 0 (M.lines.first.map dj),.au 2 0 (M.lines.eQ.map pb),.mp 3 fun t => (M.lines.asks t).map kR,.au 1 0 (M.steps.map tI),aI M.jR,.own (n + 6),.au 1 0 (w.hY.map u7)]
abbrev abg (n m : Nat) : List (Nat × av) := [(1,aI ((m : Int) + 1)),(3,.ptr (n + 1) 0 0),(6,.ptr (n + 2) 0 0),(10,.ptr (n + 5) 0 0)]
abbrev abf (n m : Nat) (y : ds C) (g : dW) : List (Nat × (Nat × av)) := [(41,0,.ptr (n + 1) 0 7),(42,1,.own (n + 6)),(43,2,aI ((m : Int) + 1)),(44,3,aI (m : Int)),(45,4,.ptr (n + 1) 0 7),(46,5,.own (n + 6)),(47,6,aI ((m : Int) + 1)),(48,7,aI (m : Int)),(49,8,.ptr (n + 6) m 0),(50,9,.agg (gS y)),(51,10,.agg (kz g))]
abbrev abi (n m : Nat) (x : ds C) : List (Nat × (Nat × av)) := [(52,11,.agg (gS x)),(53,12,.ptr (n + 6) m 0)]
abbrev Ot : List (List Nat) := [[],[0],[],[2],[],[4],[],[6],[5,7],[8],[],[9,10],[1,3,0,1,2,3,4,5,6,7,8,9,10,11],[12,11,11,0,1,2,3,4,5,6,7,8,9,10,11]]
abbrev HT (O : List (Nat × bl)) (n : Nat) : List (Nat × bl) := dC (dC (dC (dC (dC O (n + 3)) (n + 4)) (n + 5)) (n + 1)) (n + 1)
abbrev HU (O : List (Nat × bl)) (n : Nat) : List (Nat × bl) := dC (dC (dC (dC (dC O (n + 3)) (n + 4)) (n + 5)) (n + 5)) (n + 1)
abbrev Ay (J : bg → Env → Prop) (Z : List (Nat × bl)) (n : Nat) (w : cM C) (M : e0) (g : dW) (y : ds C) : List (Nat × bl) :=
 (n + 1,.box 63 (Oq w M n)) :: (n + 6,.row 84 11 (w.tasks.map gS)) :: (n + 5,.box 100 (kz g)) :: (n + 4,.box 59 (Dz M)) :: (n + 3,.box 81 (pa y.act)) :: (n + 2,.box 63 ri) :: (n,.cq J) :: Z
theorem DZ {J : bg → Env → Prop} {O Z : List (Nat × bl)} {n : Nat} {w : cM C} {M : e0} {g : dW} {y : ds C} {e : Nat} (he : e < n) (m8 : al Z e = al O e) : al (Ay J Z n w M g y) e = al O e := by
 simp only [al]; repeat rw [if_neg (by omega)]
 exact m8
structure C7 (W : h8 C) (w : cM C) (y : ds C) (M : e0) (g : dW) (J : bg → Env → Prop) (O : List (Nat × bl)) (n m : Nat) (S : ak) (x : ds C) : Prop where
 fM : al S.T 3 = some (.ptr (n + 1) 0 0)
 hg : al S.T 6 = some (.ptr (n + 2) 0 0)
 gn : al S.O (n + 1) = some (.box 63 (Oq w M n))
 rx : al S.O (n + 2) = some (.box 63 ri)
 row : al S.O (n + 6) = some (.row 84 11 ((w.tasks.map gS).set m (gS x)))
 cq : al S.O n = some (.cq J)
 fL : gQ W x = gQ W (iO y g)
 own : nQ W x S.O S.n
 cS : jQ (gE W y) (gE W x) O n S.O S.n
 lK : ∀ e ∈ gE W x,e < n ∨ n + 7 ≤ e
abbrev HS (W : h8 C) (w : cM C) (y : ds C) (M : e0) (g : dW) (J : bg → Env → Prop) (O : List (Nat × bl)) (n m : Nat) (X : List (Nat × bl)) (done : List Nat) (S : ak) (x : ds C) : Prop :=
 iM (abg n m) (fun x => abf n m y g ++ abi n m x) [12] 11 X (n + 7) (zR W y g X (n + 7)) done S x
theorem go_mem {y : ds C} {g : dW} {w : cM C} {M : e0} {J : bg → Env → Prop} {O : List (Nat × bl)} {n m : Nat} {done : List Nat} {S : ak} {x : ds C} {X : List (Nat × bl)} (h : HS W w y M g J O n m X done S x) (bN : ∀ e ∈ gE W y,e < n) {e : Nat} {Y : bl} (af : n ≤ e) (aj : e < n + 7) (cU : al X e = some Y) : al S.O e = some Y := by
 cases az : done.contains 11 with
 | false => rw [(h.pre az).1]; exact cU
 | true => exact (h.post az).cS.at aj (fun hm => absurd (bN e hm) (by omega)) cU
set_option maxHeartbeats 8000000 in
set_option maxRecDepth 20000 in
theorem afD (w : cM C) (t c : Int) {k : Nat} (h : jh w k) (aB : k ≤ 900) (aO : kJ w t = true) (O : List (Nat × bl)) (n : Nat) (ay : jw W w O n) : fv 52 [lI w,aI t,aI c] O n (WO (hP W w) O n W (oD w t c)) := by
 refine xB Tryz.func52 ajM rfl fun J => ?_
 have hid := fE n
 obtain ⟨m,y,rfl,a1,aF,_⟩ := LX aO
 have fU := oY C
 have dY := Gd h
 have kC := (List.getElem?_eq_some_iff.1 a1).1
 have bL : IntKind.i64.wrap ((m : Int) + 1 - 1) = (m : Int) := by rw [IntKind.wrap_i64]; omega
 have b2 := af9 y
 rw [aF] at b2
 have cy := afV w.m ((m : Int) + 1) y.act c h.q5 aB
 have k2 := fun g => ahs g (w.tasks.map gS) (by simp; omega)
 have Jh := ay.own y (List.mem_of_getElem? a1)
 have bN : ∀ e ∈ gE W y,e < n := fun e he => zu Jh he
 have em : ((m : Int) + 1 - 1).toNat = m := by omega
 have Hp : oD w ((m : Int) + 1) c = nN w (kx w.m ((m : Int) + 1) y.act c).1 m (iO y (kx w.m ((m : Int) + 1) y.act c).2.1) := by
  unfold oD
  rw [em,a1]
 rw [Hp]
 have nb := fun g X N cU => afB (W := W) y g (h.task y (List.mem_of_getElem? a1)) aB X N cU
 have bO : (kx w.m ((m : Int) + 1) y.act c).2.2 ≠ 0 → (kx w.m ((m : Int) + 1) y.act c).1 = w.m ∧ (kx w.m ((m : Int) + 1) y.act c).2.1 = e4 := by
  unfold kx; split
  ·intro h; exact absurd rfl h
  ·intro _; exact ⟨rfl,rfl⟩
 have dV : (m : Int) < (w.tasks.length : Int) := by omega
 have fW : (0 : Int) ≤ (m : Int) := by omega
 have ja : (w.tasks.map gS)[m]? = some (gS y) := by rw [List.getElem?_map,a1]; rfl
 have qc : m < (w.tasks.map gS).length := by simp; omega
 generalize kx w.m ((m : Int) + 1) y.act c = R at cy bO ⊢
 obtain ⟨la,lb,qD⟩ := R
 simp only at cy bO ⊢
 by_cases bb : qD = 0
 ·subst bb
  have m8 : ∀ e,e < n → al (HT O n) e = al O e := fun e he => by
   simp only [bn]; repeat rw [if_neg (by omega)]
  have qh : nQ W y (Ay J (HT O n) n w la lb y) (n + 7) := ot Jh (by omega) fun e he => DZ (bN e he) (m8 e (bN e he))
  unfold Lt K1;delta ab aR aa aA
  have ad := And.intro @hid (And.intro @bL (And.intro @dV (And.intro @kC (And.intro @a1 @fU))))
  refine ae fun bz aK b6 cb => ai fun b7 aG => ?_;refine an ad ?_;refine aG _ (aK (some ([1,2,3,6],none)) _ (ae fun b8 aQ bt b5 => ai fun b9 bh => ?_));refine ag 2 ad ?_;refine ag 2 ad ?_;refine ag 1 ad ?_;refine ag 1 ad ?_;refine aL 1 ad ?_;refine Or.inl (Or.inl ⟨_,b2,?_⟩);refine ag 5 ad ?_;refine an ad ?_;refine bh _ (aQ (some ([1,2,3,6,7],none)) _ (ae fun cD bT dG eG => ai fun cv de => ?_));refine ag 2 ad ?_;refine ag 2 ad ?_;refine aL 1 ad ?_;refine aL 1 ad ?_;refine Or.inl (Or.inl ⟨_,cy,?_⟩);refine ag 7 ad ?_;refine ag 1 ad ?_;refine an ad ?_;refine de _ (bT (some ([1,3,6,9,10,11],none)) _ (ae fun cC cp ek ft => ae fun dy ck gV gA => ai fun bo aP => ?_));refine aU ad ?_;refine aP _ (ck (some ([1,3,6,9,10,33],none)) _ (bB (ai fun ey cF => ?_)))
  refine ag 1 ad ?_;refine aU ad ?_;refine cF _ (cp (some ([1,3,6,10],none)) _ (ae fun fB ct hL gU => ai fun fN cG => ?_));refine ag 2 ad ?_;refine aL 1 ad ?_;refine Or.inl (Or.inr (Or.inl ⟨_,_,_,k2 _,?_⟩));refine aU ad ?_;refine cG _ (ct (some ([1,3,6,10],none)) _ (ae fun gG dJ mN kW => ?_));refine sM ([]) (fun done S => o3 Ot done ∧ ((done.contains 13 = false ∧ ∃ x,HS W w y la lb J O n m (Ay J (HT O n) n w la lb y) done S x) ∨ ((∀ i,i < 14 → done.contains i = true) ∧ ∃ x,C7 W w y la lb J O n m S x))) (fun S => ∃ x c1 bM,S = ⟨[(3,.ptr (n + 1) 0 0),(6,.ptr (n + 2) 0 0)],c1,bM⟩ ∧ C7 W w y la lb J O n m S x) ?_ ?_ ?_ ?_
  ·skip
   refine ⟨sK _,.inl ⟨rfl,y,iM.init (fun t v h => ?_) ?_ ?_⟩⟩
   ·simp only [al] at h
    simp only [ak.gw,ak.eH,en,al,reduceIte,Nat.reduceEqDiff]
    repeat' split at h
    all_goals first | (rename_i gH; subst gH; exact h) | cases h
   ·rfl
   ·rfl
  ·skip
   intro done S i0 ⟨az,aY⟩ ax
   have j9 := tc ax
   have gk := td ax
   rcases aY with ⟨hI,x,aY⟩ | ⟨dM,_⟩
   ·have c4 := aY.base 1 _ rfl
    have gi := aY.base 3 _ rfl
    have G6 := aY.base 6 _ rfl
    have Ab := aY.base 10 _ rfl
    have nG := go_mem aY bN (e := n + 1) (by omega) (by omega) (aE ad)
    have sa := go_mem aY bN (e := n + 2) (by omega) (by omega) (aE ad)
    have JM := go_mem aY bN (e := n + 5) (by omega) (by omega) (aE ad)
    have pt := go_mem aY bN (e := n + 6) (by omega) (by omega) (aE ad)
    have BM := go_mem aY bN (e := n) (by omega) (by omega) (aE ad)
    have cr := fun t j v h aj => aY.jz t j v h aj
    have eF : i0 = 0 ∨ i0 = 1 ∨ i0 = 2 ∨ i0 = 3 ∨ i0 = 4 ∨ i0 = 5 ∨ i0 = 6 ∨ i0 = 7 ∨ i0 = 8 ∨ i0 = 9 ∨ i0 = 10 ∨ i0 = 11 ∨ i0 = 12 ∨ i0 = 13 := by simp at j9; omega
    rcases eF with rfl | rfl | rfl | rfl | rfl | rfl | rfl | rfl | rfl | rfl | rfl | rfl | rfl | rfl
    ·skip
     have a5 := And.intro gi nG
     refine cn rfl fun bo aP => ?_;refine aT a5 ?_;refine aP _ ?_
     exact ⟨az.cons ax,.inl ⟨by rw [cZ (by decide)]; exact hI,x,aY.put (i := 0) (t := 41) rfl rfl rfl (by decide) (fun h => by cases h)⟩⟩
    ·skip
     have hw := dg ax rfl
     have g1 := cr 41 0 _ rfl (hw 0 rfl)
     have a5 := And.intro g1 nG
     refine cn rfl fun bo aP => ?_;refine aT a5 ?_;refine bd ?_;refine aP _ ?_
     exact ⟨az.cons ax,.inl ⟨by rw [cZ (by decide)]; exact hI,x,aY.put (i := 1) (t := 42) rfl rfl rfl (by decide) (fun h => by cases h)⟩⟩
    ·skip
     have a5 := c4
     refine cn rfl fun bo aP => ?_;refine aT a5 ?_;refine aP _ ?_
     exact ⟨az.cons ax,.inl ⟨by rw [cZ (by decide)]; exact hI,x,aY.put (i := 2) (t := 43) rfl rfl rfl (by decide) (fun h => by cases h)⟩⟩
    ·skip
     have hw := dg ax rfl
     have g1 := cr 43 2 _ rfl (hw 2 rfl)
     have a5 := And.intro g1 bL
     refine cn rfl fun bo aP => ?_;refine aT a5 ?_;refine aP _ ?_
     exact ⟨az.cons ax,.inl ⟨by rw [cZ (by decide)]; exact hI,x,aY.put (i := 3) (t := 44) rfl rfl rfl (by decide) (fun h => by cases h)⟩⟩
    ·skip
     have a5 := And.intro gi nG
     refine cn rfl fun bo aP => ?_;refine aT a5 ?_;refine aP _ ?_
     exact ⟨az.cons ax,.inl ⟨by rw [cZ (by decide)]; exact hI,x,aY.put (i := 4) (t := 45) rfl rfl rfl (by decide) (fun h => by cases h)⟩⟩
    ·skip
     have hw := dg ax rfl
     have g1 := cr 45 4 _ rfl (hw 4 rfl)
     have a5 := And.intro g1 nG
     refine cn rfl fun bo aP => ?_;refine aT a5 ?_;refine bd ?_;refine aP _ ?_
     exact ⟨az.cons ax,.inl ⟨by rw [cZ (by decide)]; exact hI,x,aY.put (i := 5) (t := 46) rfl rfl rfl (by decide) (fun h => by cases h)⟩⟩
    ·skip
     have a5 := c4
     refine cn rfl fun bo aP => ?_;refine aT a5 ?_;refine aP _ ?_
     exact ⟨az.cons ax,.inl ⟨by rw [cZ (by decide)]; exact hI,x,aY.put (i := 6) (t := 47) rfl rfl rfl (by decide) (fun h => by cases h)⟩⟩
    ·skip
     have hw := dg ax rfl
     have g1 := cr 47 6 _ rfl (hw 6 rfl)
     have a5 := And.intro g1 bL
     refine cn rfl fun bo aP => ?_;refine aT a5 ?_;refine aP _ ?_
     exact ⟨az.cons ax,.inl ⟨by rw [cZ (by decide)]; exact hI,x,aY.put (i := 7) (t := 48) rfl rfl rfl (by decide) (fun h => by cases h)⟩⟩
    ·skip
     have hw := dg ax rfl
     have g1 := cr 46 5 _ rfl (hw 5 rfl)
     have bQ := cr 48 7 _ rfl (hw 7 rfl)
     have a5 := And.intro g1 (And.intro bQ (And.intro pt (And.intro fW (And.intro kC qc))))
     refine cn rfl fun bo aP => ?_;refine aT a5 ?_;refine bd ?_;refine aP _ ?_
     exact ⟨az.cons ax,.inl ⟨by rw [cZ (by decide)]; exact hI,x,aY.put (i := 8) (t := 49) rfl rfl rfl (by decide) (fun h => by cases h)⟩⟩
    ·skip
     have hw := dg ax rfl
     have g1 := cr 49 8 _ rfl (hw 8 rfl)
     have a5 := And.intro g1 (And.intro pt a1)
     refine cn rfl fun bo aP => ?_;refine aT a5 ?_;refine bd ?_;refine aP _ ?_
     exact ⟨az.cons ax,.inl ⟨by rw [cZ (by decide)]; exact hI,x,aY.put (i := 9) (t := 50) rfl rfl rfl (by decide) (fun h => by cases h)⟩⟩
    ·skip
     have a5 := And.intro Ab JM
     refine cn rfl fun bo aP => ?_;refine aT a5 ?_;refine bd ?_;refine aP _ ?_
     exact ⟨az.cons ax,.inl ⟨by rw [cZ (by decide)]; exact hI,x,aY.put (i := 10) (t := 51) rfl rfl rfl (by decide) (fun h => by cases h)⟩⟩
    ·have hw := dg ax rfl
     have g1 := cr 50 9 _ rfl (hw 9 rfl)
     have bQ := cr 51 10 _ rfl (hw 10 rfl)
     obtain ⟨u0,jv,jJ⟩ := S
     obtain ⟨a2,a8⟩ := aY.pre gk
     dsimp only at a2 a8
     subst a2 a8
     dsimp only at g1 bQ
     refine cn rfl fun bo aP => ?_;refine Or.inr (ia (nb lb _ _ qh) (by simp only [ak.kj,ak.bf,g1,bQ,ak.res,Option.map_some,Option.bind_some]) fun tp ik jv jJ mC => ?_)
     obtain ⟨m0,bL,rfl,cd,dV⟩ := mC
     refine aP _ ?_
     exact ⟨az.cons ax,.inl ⟨by rw [cZ (by decide)]; exact hI,m0,aY.call2 (t := 52) gk rfl rfl rfl rfl (zR.of bL cd dV bN (by omega))⟩⟩
    ·skip
     have hw := dg ax rfl
     have g1 := cr 42 1 _ rfl (hw 1 rfl)
     have bQ := cr 44 3 _ rfl (hw 3 rfl)
     have a5 := And.intro g1 (And.intro bQ (And.intro pt (And.intro fW (And.intro kC qc))))
     refine cn rfl fun bo aP => ?_;refine aT a5 ?_;refine bd ?_;refine aP _ ?_
     exact ⟨az.cons ax,.inl ⟨by rw [cZ (by decide)]; exact hI,x,aY.put (i := 12) (t := 53) rfl rfl rfl (by decide) (fun _ => hw 11 rfl)⟩⟩
    ·have hw := dg ax rfl
     have g1 := cr 53 12 _ rfl (hw 12 rfl)
     have bQ := cr 52 11 _ rfl (hw 11 rfl)
     obtain ⟨eJ,fu,fM⟩ := aY.post (hw 11 rfl)
     have a5 := And.intro fU (And.intro g1 (And.intro bQ (And.intro pt ja)))
     refine cn rfl fun bo aP => ?_;refine aT a5 ?_;refine bd ?_;refine aP _ ?_
     have rL : ∀ e ∈ gE W x,e < n ∨ n + 7 ≤ e := fun e he => by
      rcases fM.new e he with h | h
      ·exact .inl (bN e h)
      ·exact .inr (by omega)
     have hle := fM.le
     refine ⟨az.cons ax,.inr ⟨fun i aq => ?_,x,⟨gi,G6,?_,?_,?_,?_,eJ,ot fu (Nat.le_refl _) fun e he => ?_,⟨by show n ≤ S.n; omega,fun e he ar => ?_,fun e he => ?_⟩,rL⟩⟩⟩
     ·by_cases h : i = 13
      ·subst h; exact ry _ _
      ·rw [cZ h]
       have wP := hw 12 rfl
       have : i = 12 ∨ i < 12 := by omega
       rcases this with rfl | ch
       ·exact wP
       ·have n2 : i = 0 ∨ i = 1 ∨ i = 2 ∨ i = 3 ∨ i = 4 ∨ i = 5 ∨ i = 6 ∨ i = 7 ∨ i = 8 ∨ i = 9 ∨ i = 10 ∨ i = 11 := by omega
        exact az 12 _ wP rfl i (by rcases n2 with rfl | rfl | rfl | rfl | rfl | rfl | rfl | rfl | rfl | rfl | rfl | rfl <;> rfl)
     ·simp only [al,bn]; repeat rw [if_neg (by omega)]
      exact nG
     ·simp only [al,bn]; repeat rw [if_neg (by omega)]
      exact sa
     ·simp only [al,reduceIte]
     ·simp only [al,bn]; repeat rw [if_neg (by omega)]
      exact BM
     ·rcases rL e he with h | h
      ·simp only [al,bn]; repeat rw [if_neg (by omega)]
      ·simp only [al,bn]; repeat rw [if_neg (by omega)]
     ·simp only [al,bn]; repeat rw [if_neg (by omega)]
      rw [fM.old e (by omega) ar,DZ he (m8 e he)]
     ·rcases fM.new e he with h | h
      ·exact .inl h
      ·exact .inr (by omega)
   ·rw [dM i0 (by simp at j9; omega)] at gk; cases gk
  ·skip
   rintro done S ⟨az,⟨hI,_⟩ | ⟨_,x,bs⟩⟩ dM
   ·rw [dM 13 (by decide)] at hI; cases hI
   ·refine ⟨some ([3,6],none),x,je S.O,S.n,?_,?_⟩
    ·show ak.mk (en S.T [3,6]) _ _ = _
     simp only [ak.eH,en,bs.fM,bs.hg]
    ·obtain ⟨bE,bP,cK,a4,fY,ho,l8,l9,hT,wz⟩ := bs
     have ao : ∀ e,al (je S.O) e = al S.O e := fun e => me _ _
     refine ⟨?_,?_,(ao _).trans cK,(ao _).trans a4,(ao _).trans fY,(ao _).trans ho,l8,ot l9 (Nat.le_refl _) fun e he => ao e,⟨hT.le,fun e he ar => (ao e).trans (hT.old e he ar),hT.new⟩,wz⟩
     ·show al (en S.T [3,6]) 3 = _
      simp only [en,bE,bP,al,reduceIte]
     ·show al (en S.T [3,6]) 6 = _
      simp only [en,bE,bP,al,reduceIte,Nat.reduceEqDiff]
  rintro b0 ⟨x,c1,bM,rfl,bE,bP,cK,a4,fY,ho,l8,l9,hT,wz⟩
  dsimp only at cK a4 fY ho l9 hT
  skip
  have aD := And.intro ad (And.intro @cK (And.intro @a4 (And.intro @fY @ho)))
  refine dJ (some ([3,6],none)) _ (ae fun gZ fQ qY mF => ai fun iK eB => ?_);refine ag 1 aD ?_;refine aU aD ?_;refine eB _ (fQ (some ([6],none)) _ ?_)
  first | refine gd (aE aD) (aE aD) (aE aD) ?_ | refine gb (aE aD) (aE aD) (aE aD) ?_
  try dsimp only
  refine ⟨nN w la m x,NS l8,?_,TT ay a1 (ot l9 (Nat.le_refl _) fun e he => ?_) ⟨hT.le,fun e he ar => ?_,hT.new⟩⟩
  ·show _ = av.agg (sG (nN w la m x))
   rw [show (w.tasks.map gS).set m (gS x) = (w.tasks.set m x).map gS by rw [List.map_set]]
   rfl
  ·rcases wz e he with h | h
   ·simp only [al,bn]; repeat rw [if_neg (by omega)]
   ·simp only [al,bn]; repeat rw [if_neg (by omega)]
  ·simp only [al,bn]; repeat rw [if_neg (by omega)]
   exact hT.old e he ar
 ·obtain ⟨ak1,x6⟩ := bO bb
  subst ak1
  subst x6
  have d : (qD != 0) = true := by simpa using bb
  have m8 : ∀ e,e < n → al (HU O n) e = al O e := fun e he => by
   simp only [bn]; repeat rw [if_neg (by omega)]
  have qh : nQ W y (Ay J (HU O n) n w w.m e4 y) (n + 7) := ot Jh (by omega) fun e he => DZ (bN e he) (m8 e (bN e he))
  unfold Lt K1;delta ab aR aa aA
  have ad := And.intro @hid (And.intro @bL (And.intro @dV (And.intro @kC (And.intro @a1 (And.intro @fU @d)))))
  refine ae fun bz aK b6 cb => ai fun b7 aG => ?_;refine an ad ?_;refine aG _ (aK (some ([1,2,3,6],none)) _ (ae fun b8 aQ bt b5 => ai fun b9 bh => ?_));refine ag 2 ad ?_;refine ag 2 ad ?_;refine ag 1 ad ?_;refine ag 1 ad ?_;refine aL 1 ad ?_;refine Or.inl (Or.inl ⟨_,b2,?_⟩);refine ag 5 ad ?_;refine an ad ?_;refine bh _ (aQ (some ([1,2,3,6,7],none)) _ (ae fun cD bT dG eG => ai fun cv de => ?_));refine ag 2 ad ?_;refine ag 2 ad ?_;refine aL 1 ad ?_;refine aL 1 ad ?_;refine Or.inl (Or.inl ⟨_,cy,?_⟩);refine ag 7 ad ?_;refine ag 1 ad ?_;refine an ad ?_;refine de _ (bT (some ([1,3,6,9,10,11],none)) _ (ae fun cC cp ek ft => ae fun dy ck gV gA => ai fun bo aP => ?_));refine aU ad ?_;refine aP _ (ck (some ([1,3,6,9,10,33],none)) _ (bY (ai fun ey cF => ?_)))
  refine aU ad ?_;refine cF _ (cp (some ([1,3,6,10],none)) _ (ae fun fB ct hL gU => ai fun fN cG => ?_));refine ag 2 ad ?_;refine aL 1 ad ?_;refine Or.inl (Or.inr (Or.inl ⟨_,_,_,k2 _,?_⟩));refine aU ad ?_;refine cG _ (ct (some ([1,3,6,10],none)) _ (ae fun gG dJ mN kW => ?_));refine sM ([]) (fun done S => o3 Ot done ∧ ((done.contains 13 = false ∧ ∃ x,HS W w y w.m e4 J O n m (Ay J (HU O n) n w w.m e4 y) done S x) ∨ ((∀ i,i < 14 → done.contains i = true) ∧ ∃ x,C7 W w y w.m e4 J O n m S x))) (fun S => ∃ x c1 bM,S = ⟨[(3,.ptr (n + 1) 0 0),(6,.ptr (n + 2) 0 0)],c1,bM⟩ ∧ C7 W w y w.m e4 J O n m S x) ?_ ?_ ?_ ?_
  ·skip
   refine ⟨sK _,.inl ⟨rfl,y,iM.init (fun t v h => ?_) ?_ ?_⟩⟩
   ·simp only [al] at h
    simp only [ak.gw,ak.eH,en,al,reduceIte,Nat.reduceEqDiff]
    repeat' split at h
    all_goals first | (rename_i gH; subst gH; exact h) | cases h
   ·rfl
   ·rfl
  ·skip
   intro done S i0 ⟨az,aY⟩ ax
   have j9 := tc ax
   have gk := td ax
   rcases aY with ⟨hI,x,aY⟩ | ⟨dM,_⟩
   ·have c4 := aY.base 1 _ rfl
    have gi := aY.base 3 _ rfl
    have G6 := aY.base 6 _ rfl
    have Ab := aY.base 10 _ rfl
    have nG := go_mem aY bN (e := n + 1) (by omega) (by omega) (aE ad)
    have sa := go_mem aY bN (e := n + 2) (by omega) (by omega) (aE ad)
    have JM := go_mem aY bN (e := n + 5) (by omega) (by omega) (aE ad)
    have pt := go_mem aY bN (e := n + 6) (by omega) (by omega) (aE ad)
    have BM := go_mem aY bN (e := n) (by omega) (by omega) (aE ad)
    have cr := fun t j v h aj => aY.jz t j v h aj
    have eF : i0 = 0 ∨ i0 = 1 ∨ i0 = 2 ∨ i0 = 3 ∨ i0 = 4 ∨ i0 = 5 ∨ i0 = 6 ∨ i0 = 7 ∨ i0 = 8 ∨ i0 = 9 ∨ i0 = 10 ∨ i0 = 11 ∨ i0 = 12 ∨ i0 = 13 := by simp at j9; omega
    rcases eF with rfl | rfl | rfl | rfl | rfl | rfl | rfl | rfl | rfl | rfl | rfl | rfl | rfl | rfl
    ·skip
     have a5 := And.intro gi nG
     refine cn rfl fun bo aP => ?_;refine aT a5 ?_;refine aP _ ?_
     exact ⟨az.cons ax,.inl ⟨by rw [cZ (by decide)]; exact hI,x,aY.put (i := 0) (t := 41) rfl rfl rfl (by decide) (fun h => by cases h)⟩⟩
    ·skip
     have hw := dg ax rfl
     have g1 := cr 41 0 _ rfl (hw 0 rfl)
     have a5 := And.intro g1 nG
     refine cn rfl fun bo aP => ?_;refine aT a5 ?_;refine bd ?_;refine aP _ ?_
     exact ⟨az.cons ax,.inl ⟨by rw [cZ (by decide)]; exact hI,x,aY.put (i := 1) (t := 42) rfl rfl rfl (by decide) (fun h => by cases h)⟩⟩
    ·skip
     have a5 := c4
     refine cn rfl fun bo aP => ?_;refine aT a5 ?_;refine aP _ ?_
     exact ⟨az.cons ax,.inl ⟨by rw [cZ (by decide)]; exact hI,x,aY.put (i := 2) (t := 43) rfl rfl rfl (by decide) (fun h => by cases h)⟩⟩
    ·skip
     have hw := dg ax rfl
     have g1 := cr 43 2 _ rfl (hw 2 rfl)
     have a5 := And.intro g1 bL
     refine cn rfl fun bo aP => ?_;refine aT a5 ?_;refine aP _ ?_
     exact ⟨az.cons ax,.inl ⟨by rw [cZ (by decide)]; exact hI,x,aY.put (i := 3) (t := 44) rfl rfl rfl (by decide) (fun h => by cases h)⟩⟩
    ·skip
     have a5 := And.intro gi nG
     refine cn rfl fun bo aP => ?_;refine aT a5 ?_;refine aP _ ?_
     exact ⟨az.cons ax,.inl ⟨by rw [cZ (by decide)]; exact hI,x,aY.put (i := 4) (t := 45) rfl rfl rfl (by decide) (fun h => by cases h)⟩⟩
    ·skip
     have hw := dg ax rfl
     have g1 := cr 45 4 _ rfl (hw 4 rfl)
     have a5 := And.intro g1 nG
     refine cn rfl fun bo aP => ?_;refine aT a5 ?_;refine bd ?_;refine aP _ ?_
     exact ⟨az.cons ax,.inl ⟨by rw [cZ (by decide)]; exact hI,x,aY.put (i := 5) (t := 46) rfl rfl rfl (by decide) (fun h => by cases h)⟩⟩
    ·skip
     have a5 := c4
     refine cn rfl fun bo aP => ?_;refine aT a5 ?_;refine aP _ ?_
     exact ⟨az.cons ax,.inl ⟨by rw [cZ (by decide)]; exact hI,x,aY.put (i := 6) (t := 47) rfl rfl rfl (by decide) (fun h => by cases h)⟩⟩
    ·skip
     have hw := dg ax rfl
     have g1 := cr 47 6 _ rfl (hw 6 rfl)
     have a5 := And.intro g1 bL
     refine cn rfl fun bo aP => ?_;refine aT a5 ?_;refine aP _ ?_
     exact ⟨az.cons ax,.inl ⟨by rw [cZ (by decide)]; exact hI,x,aY.put (i := 7) (t := 48) rfl rfl rfl (by decide) (fun h => by cases h)⟩⟩
    ·skip
     have hw := dg ax rfl
     have g1 := cr 46 5 _ rfl (hw 5 rfl)
     have bQ := cr 48 7 _ rfl (hw 7 rfl)
     have a5 := And.intro g1 (And.intro bQ (And.intro pt (And.intro fW (And.intro kC qc))))
     refine cn rfl fun bo aP => ?_;refine aT a5 ?_;refine bd ?_;refine aP _ ?_
     exact ⟨az.cons ax,.inl ⟨by rw [cZ (by decide)]; exact hI,x,aY.put (i := 8) (t := 49) rfl rfl rfl (by decide) (fun h => by cases h)⟩⟩
    ·skip
     have hw := dg ax rfl
     have g1 := cr 49 8 _ rfl (hw 8 rfl)
     have a5 := And.intro g1 (And.intro pt a1)
     refine cn rfl fun bo aP => ?_;refine aT a5 ?_;refine bd ?_;refine aP _ ?_
     exact ⟨az.cons ax,.inl ⟨by rw [cZ (by decide)]; exact hI,x,aY.put (i := 9) (t := 50) rfl rfl rfl (by decide) (fun h => by cases h)⟩⟩
    ·skip
     have a5 := And.intro Ab JM
     refine cn rfl fun bo aP => ?_;refine aT a5 ?_;refine bd ?_;refine aP _ ?_
     exact ⟨az.cons ax,.inl ⟨by rw [cZ (by decide)]; exact hI,x,aY.put (i := 10) (t := 51) rfl rfl rfl (by decide) (fun h => by cases h)⟩⟩
    ·have hw := dg ax rfl
     have g1 := cr 50 9 _ rfl (hw 9 rfl)
     have bQ := cr 51 10 _ rfl (hw 10 rfl)
     obtain ⟨u0,jv,jJ⟩ := S
     obtain ⟨a2,a8⟩ := aY.pre gk
     dsimp only at a2 a8
     subst a2 a8
     dsimp only at g1 bQ
     refine cn rfl fun bo aP => ?_;refine Or.inr (ia (nb e4 _ _ qh) (by simp only [ak.kj,ak.bf,g1,bQ,ak.res,Option.map_some,Option.bind_some]) fun tp ik jv jJ mC => ?_)
     obtain ⟨m0,bL,rfl,cd,dV⟩ := mC
     refine aP _ ?_
     exact ⟨az.cons ax,.inl ⟨by rw [cZ (by decide)]; exact hI,m0,aY.call2 (t := 52) gk rfl rfl rfl rfl (zR.of bL cd dV bN (by omega))⟩⟩
    ·skip
     have hw := dg ax rfl
     have g1 := cr 42 1 _ rfl (hw 1 rfl)
     have bQ := cr 44 3 _ rfl (hw 3 rfl)
     have a5 := And.intro g1 (And.intro bQ (And.intro pt (And.intro fW (And.intro kC qc))))
     refine cn rfl fun bo aP => ?_;refine aT a5 ?_;refine bd ?_;refine aP _ ?_
     exact ⟨az.cons ax,.inl ⟨by rw [cZ (by decide)]; exact hI,x,aY.put (i := 12) (t := 53) rfl rfl rfl (by decide) (fun _ => hw 11 rfl)⟩⟩
    ·have hw := dg ax rfl
     have g1 := cr 53 12 _ rfl (hw 12 rfl)
     have bQ := cr 52 11 _ rfl (hw 11 rfl)
     obtain ⟨eJ,fu,fM⟩ := aY.post (hw 11 rfl)
     have a5 := And.intro fU (And.intro g1 (And.intro bQ (And.intro pt ja)))
     refine cn rfl fun bo aP => ?_;refine aT a5 ?_;refine bd ?_;refine aP _ ?_
     have rL : ∀ e ∈ gE W x,e < n ∨ n + 7 ≤ e := fun e he => by
      rcases fM.new e he with h | h
      ·exact .inl (bN e h)
      ·exact .inr (by omega)
     have hle := fM.le
     refine ⟨az.cons ax,.inr ⟨fun i aq => ?_,x,⟨gi,G6,?_,?_,?_,?_,eJ,ot fu (Nat.le_refl _) fun e he => ?_,⟨by show n ≤ S.n; omega,fun e he ar => ?_,fun e he => ?_⟩,rL⟩⟩⟩
     ·by_cases h : i = 13
      ·subst h; exact ry _ _
      ·rw [cZ h]
       have wP := hw 12 rfl
       have : i = 12 ∨ i < 12 := by omega
       rcases this with rfl | ch
       ·exact wP
       ·have n2 : i = 0 ∨ i = 1 ∨ i = 2 ∨ i = 3 ∨ i = 4 ∨ i = 5 ∨ i = 6 ∨ i = 7 ∨ i = 8 ∨ i = 9 ∨ i = 10 ∨ i = 11 := by omega
        exact az 12 _ wP rfl i (by rcases n2 with rfl | rfl | rfl | rfl | rfl | rfl | rfl | rfl | rfl | rfl | rfl | rfl <;> rfl)
     ·simp only [al,bn]; repeat rw [if_neg (by omega)]
      exact nG
     ·simp only [al,bn]; repeat rw [if_neg (by omega)]
      exact sa
     ·simp only [al,reduceIte]
     ·simp only [al,bn]; repeat rw [if_neg (by omega)]
      exact BM
     ·rcases rL e he with h | h
      ·simp only [al,bn]; repeat rw [if_neg (by omega)]
      ·simp only [al,bn]; repeat rw [if_neg (by omega)]
     ·simp only [al,bn]; repeat rw [if_neg (by omega)]
      rw [fM.old e (by omega) ar,DZ he (m8 e he)]
     ·rcases fM.new e he with h | h
      ·exact .inl h
      ·exact .inr (by omega)
   ·rw [dM i0 (by simp at j9; omega)] at gk; cases gk
  ·skip
   rintro done S ⟨az,⟨hI,_⟩ | ⟨_,x,bs⟩⟩ dM
   ·rw [dM 13 (by decide)] at hI; cases hI
   ·refine ⟨some ([3,6],none),x,je S.O,S.n,?_,?_⟩
    ·show ak.mk (en S.T [3,6]) _ _ = _
     simp only [ak.eH,en,bs.fM,bs.hg]
    ·obtain ⟨bE,bP,cK,a4,fY,ho,l8,l9,hT,wz⟩ := bs
     have ao : ∀ e,al (je S.O) e = al S.O e := fun e => me _ _
     refine ⟨?_,?_,(ao _).trans cK,(ao _).trans a4,(ao _).trans fY,(ao _).trans ho,l8,ot l9 (Nat.le_refl _) fun e he => ao e,⟨hT.le,fun e he ar => (ao e).trans (hT.old e he ar),hT.new⟩,wz⟩
     ·show al (en S.T [3,6]) 3 = _
      simp only [en,bE,bP,al,reduceIte]
     ·show al (en S.T [3,6]) 6 = _
      simp only [en,bE,bP,al,reduceIte,Nat.reduceEqDiff]
  rintro b0 ⟨x,c1,bM,rfl,bE,bP,cK,a4,fY,ho,l8,l9,hT,wz⟩
  dsimp only at cK a4 fY ho l9 hT
  skip
  have aD := And.intro ad (And.intro @cK (And.intro @a4 (And.intro @fY @ho)))
  refine dJ (some ([3,6],none)) _ (ae fun gZ fQ qY mF => ai fun iK eB => ?_);refine ag 1 aD ?_;refine aU aD ?_;refine eB _ (fQ (some ([6],none)) _ ?_)
  first | refine gd (aE aD) (aE aD) (aE aD) ?_ | refine gb (aE aD) (aE aD) (aE aD) ?_
  try dsimp only
  refine ⟨nN w w.m m x,NS l8,?_,TT ay a1 (ot l9 (Nat.le_refl _) fun e he => ?_) ⟨hT.le,fun e he ar => ?_,hT.new⟩⟩
  ·show _ = av.agg (sG (nN w w.m m x))
   rw [show (w.tasks.map gS).set m (gS x) = (w.tasks.set m x).map gS by rw [List.map_set]]
   rfl
  ·rcases wz e he with h | h
   ·simp only [al,bn]; repeat rw [if_neg (by omega)]
   ·simp only [al,bn]; repeat rw [if_neg (by omega)]
  ·simp only [al,bn]; repeat rw [if_neg (by omega)]
   exact hT.old e he ar
end
end Go.Proofs.YtkmbcjnaaokilaaGreatDoor
