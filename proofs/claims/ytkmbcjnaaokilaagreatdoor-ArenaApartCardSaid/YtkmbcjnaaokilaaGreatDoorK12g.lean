/-
  Layer 8 once more, for codes that have a part of one's own memory: worlds.
-/
import Derived.Test.YtkmbcjnaaokilaaGreatDoorK12f
namespace Go.Proofs.YtkmbcjnaaokilaaGreatDoor
set_option linter.unusedSimpArgs false
set_option linter.unusedVariables false
open Go.RowKit Go.Maps
section
variable {C : ed} (W : iz C)
structure lM (w : cN C) (O : List (Nat × bo)) (n : Nat) : Prop where
 own : ∀ t ∈ w.tasks,oK W t O n
 ap : ∀ (i j : Nat) (gn vW : dt C),i ≠ j → w.tasks[i]? = some gn → w.tasks[j]? = some vW → ∀ e ∈ gJ W gn,e ∉ gJ W vW
def ix (w : cN C) : List Nat := w.tasks.flatMap (gJ W)
def fl (w : cN C) : cN C := ⟨w.m,w.tasks.map (g2 W),w.ib⟩
end
section
variable {C : ed} {W : iz C}
theorem A7 {t : dt C} {O : List (Nat × bo)} {n e : Nat} (h : oK W t O n) (he : e ∈ gJ W t) : e < n := by
 obtain ⟨code,live,act,fc⟩ := t
 cases code with
 | none => cases he
 | some s => exact W.lt (h s rfl) e he
theorem pf {t : dt C} {O O' : List (Nat × bo)} {n bO : Nat} (h : oK W t O n) (a9 : n ≤ bO) (dX : ∀ e ∈ gJ W t,an O' e = an O e) : oK W t O' bO := by
 obtain ⟨code,live,act,fc⟩ := t
 cases code with
 | none => intro s ao; cases ao
 | some s => intro dH ao; cases ao; exact W.to (h s rfl) a9 dX
theorem za {w : cN C} {e : Nat} : e ∈ ix W w ↔ ∃ t ∈ w.tasks,e ∈ gJ W t := List.mem_flatMap
theorem Xb {w : cN C} {O O' : List (Nat × bo)} {n bO m : Nat} {y t' : dt C} {M : e3} (h : lM W w O n) (aV : w.tasks[m]? = some y) (aL : oK W t' O' bO) (aZ : kq (gJ W y) (gJ W t') O n O' bO) :
  lM W (oH w M m t') O' bO ∧ kq (ix W w) (ix W (oH w M m t')) O n O' bO := by
 have kT := (List.getElem?_eq_some_iff.1 aV).1
 have gB : ∀ i gn,(w.tasks.set m t')[i]? = some gn → (i = m ∧ gn = t') ∨ (i ≠ m ∧ w.tasks[i]? = some gn) := fun i gn aq => by
  rw [List.getElem?_set] at aq
  by_cases e : m = i
  ·subst e; rw [if_pos rfl,if_pos kT] at aq; cases aq; exact .inl ⟨rfl,rfl⟩
  ·rw [if_neg e] at aq; exact .inr ⟨fun h => e h.symm,aq⟩
 have bQ : ∀ i gn,w.tasks[i]? = some gn → ∀ e ∈ gJ W gn,e < n := fun i gn aq e he => A7 (h.own gn (List.mem_of_getElem? aq)) he
 have pG : ∀ i gn,i ≠ m → w.tasks[i]? = some gn → ∀ e ∈ gJ W gn,e ∉ gJ W y := fun i gn aq GN => h.ap i m gn y aq GN aV
 have Gv : ∀ i gn,i ≠ m → w.tasks[i]? = some gn → ∀ e ∈ gJ W gn,e ∉ gJ W t' := fun i gn aq GN e he hm => by
  rcases aZ.new e hm with af | af
  ·exact pG i gn aq GN e he af
  ·have := bQ i gn GN e he; omega
 refine ⟨⟨fun t LM => ?_,fun i j gn vW iN aq aN e he => ?_⟩,aZ.le,fun e he ar => ?_,fun e he => ?_⟩
 ·obtain ⟨i,aq⟩ := List.getElem?_of_mem LM
  rcases gB i t aq with ⟨rfl,rfl⟩ | ⟨CG,iM⟩
  ·exact aL
  ·exact pf (h.own t (List.mem_of_getElem? iM)) aZ.le fun e he => aZ.old e (bQ i t iM e he) (pG i t CG iM e he)
 ·rcases gB i gn aq with ⟨rfl,rfl⟩ | ⟨CG,iM⟩
  ·rcases gB j vW aN with ⟨rfl,rfl⟩ | ⟨r1,kA⟩
   ·exact absurd rfl iN
   ·exact fun hm => Gv j vW r1 kA e hm he
  ·rcases gB j vW aN with ⟨rfl,rfl⟩ | ⟨r1,kA⟩
   ·exact Gv i gn CG iM e he
   ·exact h.ap i j gn vW iN iM kA e he
 ·exact aZ.old e he fun hm => ar (za.2 ⟨y,List.mem_of_getElem? aV,hm⟩)
 ·obtain ⟨t,LM,het⟩ := za.1 he
  obtain ⟨i,aq⟩ := List.getElem?_of_mem LM
  rcases gB i t aq with ⟨rfl,rfl⟩ | ⟨CG,iM⟩
  ·rcases aZ.new e het with af | af
   ·exact .inl (za.2 ⟨y,List.mem_of_getElem? aV,af⟩)
   ·exact .inr af
  ·exact .inl (za.2 ⟨t,List.mem_of_getElem? iM,het⟩)
theorem nZ {w : cN C} {O O' : List (Nat × bo)} {n bO : Nat} (h : lM W w O n) (a9 : n ≤ bO) (dX : ∀ e ∈ ix W w,an O' e = an O e) : lM W w O' bO :=
 ⟨fun t aL => pf (h.own t aL) a9 fun e he => dX e (za.2 ⟨t,aL,he⟩),h.ap⟩
theorem rA {w : cN C} {O : List (Nat × bo)} {n e : Nat} (h : lM W w O n) (he : e ∈ ix W w) : e < n := by
 obtain ⟨t,aL,he⟩ := za.1 he
 exact A7 (h.own t aL) he
theorem QI {w : cN C} {M : e3} {m : Nat} {t t' : dt C} (h : g2 W t = g2 W t') : fl W (oH w M m t) = fl W (oH w M m t') := by
 unfold fl oH
 simp only [List.map_set,h]
def aaA (ids : List Nat) (O : List (Nat × bo)) (n : Nat) (W : iz C) (w : cN C) (_ : bl → Env → Prop) (r : aw) (O' : List (Nat × bo)) (bO : Nat) : Prop :=
 ∃ w',fl W w' = fl W w ∧ r = od w' ∧ lM W w' O' bO ∧ kq ids (ix W w') O n O' bO
structure Bm (W : iz C) (y : dt C) (g : ei) (O : List (Nat × bo)) (m : Nat) (x : dt C) (O' : List (Nat × bo)) (bO : Nat) : Prop where
 fY : g2 W x = g2 W (jl y g)
 own : oK W x O' bO
 c0 : kq (gJ W y) (gJ W x) O m O' bO
theorem Bm.of {y x : dt C} {g : ei} {O O' : List (Nat × bo)} {m bO xu : Nat} (af : g2 W x = g2 W (jl y g)) (aj : oK W x O' bO) (av : kq (gJ W y) (gJ W x) O m O' bO) (bQ : ∀ e ∈ gJ W y,e < xu) (a9 : xu ≤ m) : Bm W y g O m x (ef O' m) bO :=
 ⟨af,pf aj (Nat.le_refl _) fun e he => (by
  rw [bq,if_neg]
  rcases av.new e he with h | h
  ·have := bQ e h; omega
  ·omega),⟨av.le,fun e he ar => (by rw [bq,if_neg (by omega)]; exact av.old e he ar),av.new⟩⟩
abbrev Rh (w : cN C) (M : e3) (n : Nat) : List aw := [.au 1 0 (M.mem.places.map sJ),.au 1 0 (M.mem.views.map yf),.au 3 0 (M.lines.first.map c6),.au 2 0 (M.lines.eX.map qg),.mp 3 fun t => (M.lines.asks t).map lf,.au 1 0 (M.steps.map u2),aG M.kc,.own (n + 6),.au 1 0 (w.ib.map wM)]
abbrev aeH (n m : Nat) : List (Nat × aw) := [(1,aG ((m : Int) + 1)),(3,.ptr (n + 1) 0 0),(6,.ptr (n + 2) 0 0),(10,.ptr (n + 5) 0 0)]
abbrev aeG (n m : Nat) (y : dt C) (g : ei) : List (Nat × (Nat × aw)) := [(41,0,.ptr (n + 1) 0 7),(42,1,.own (n + 6)),(43,2,aG ((m : Int) + 1)),(44,3,aG (m : Int)),(45,4,.ptr (n + 1) 0 7),(46,5,.own (n + 6)),(47,6,aG ((m : Int) + 1)),(48,7,aG (m : Int)),(49,8,.ptr (n + 6) m 0),(50,9,.agg (g3 y)),(51,10,.agg (kR g))]
abbrev aeJ (n m : Nat) (x : dt C) : List (Nat × (Nat × aw)) := [(52,11,.agg (g3 x)),(53,12,.ptr (n + 6) m 0)]
abbrev Ri : List (List Nat) := [[],[0],[],[2],[],[4],[],[6],[5,7],[8],[],[9,10],[1,3,0,1,2,3,4,5,6,7,8,9,10,11],[12,11,11,0,1,2,3,4,5,6,7,8,9,10,11]]
abbrev J7 (O : List (Nat × bo)) (n : Nat) : List (Nat × bo) := ef (ef (ef (ef (ef O (n + 3)) (n + 4)) (n + 5)) (n + 1)) (n + 1)
abbrev J8 (O : List (Nat × bo)) (n : Nat) : List (Nat × bo) := ef (ef (ef (ef (ef O (n + 3)) (n + 4)) (n + 5)) (n + 5)) (n + 1)
abbrev Cf (J : bl → Env → Prop) (Z : List (Nat × bo)) (n : Nat) (w : cN C) (M : e3) (g : ei) (y : dt C) : List (Nat × bo) :=
 (n + 1,.box 63 (Rh w M n)) :: (n + 6,.row 84 11 (w.tasks.map g3)) :: (n + 5,.box 100 (kR g)) :: (n + 4,.box 59 (Fl M)) :: (n + 3,.box 81 (qf y.act)) :: (n + 2,.box 63 uD) :: (n,.cB J) :: Z
theorem F4 {J : bl → Env → Prop} {O Z : List (Nat × bo)} {n : Nat} {w : cN C} {M : e3} {g : ei} {y : dt C} {e : Nat} (he : e < n) (ll : an Z e = an O e) : an (Cf J Z n w M g y) e = an O e := by
 simp only [an]; repeat rw [if_neg (by omega)]
 exact ll
structure ER (W : iz C) (w : cN C) (y : dt C) (M : e3) (g : ei) (J : bl → Env → Prop) (O : List (Nat × bo)) (n m : Nat) (S : ak) (x : dt C) : Prop where
 fZ : an S.T 3 = some (.ptr (n + 1) 0 0)
 gW : an S.T 6 = some (.ptr (n + 2) 0 0)
 wE : an S.O (n + 1) = some (.box 63 (Rh w M n))
 rx : an S.O (n + 2) = some (.box 63 uD)
 row : an S.O (n + 6) = some (.row 84 11 ((w.tasks.map g3).set m (g3 x)))
 cB : an S.O n = some (.cB J)
 fY : g2 W x = g2 W (jl y g)
 own : oK W x S.O S.n
 c0 : kq (gJ W y) (gJ W x) O n S.O S.n
 mj : ∀ e ∈ gJ W x,e < n ∨ n + 7 ≤ e
abbrev J6 (W : iz C) (w : cN C) (y : dt C) (M : e3) (g : ei) (J : bl → Env → Prop) (O : List (Nat × bo)) (n m : Nat) (X : List (Nat × bo)) (done : List Nat) (S : ak) (x : dt C) : Prop :=
 jh (aeH n m) (fun x => aeG n m y g ++ aeJ n m x) [12] 11 X (n + 7) (Bm W y g X (n + 7)) done S x
theorem go_mem {y : dt C} {g : ei} {w : cN C} {M : e3} {J : bl → Env → Prop} {O : List (Nat × bo)} {n m : Nat} {done : List Nat} {S : ak} {x : dt C} {X : List (Nat × bo)} (h : J6 W w y M g J O n m X done S x) (bQ : ∀ e ∈ gJ W y,e < n) {e : Nat} {Y : bo} (af : n ≤ e) (aj : e < n + 7) (cC : an X e = some Y) : an S.O e = some Y := by
 cases aB : done.contains 11 with
 | false => rw [(h.pre aB).1]; exact cC
 | true => exact (h.post aB).c0.at aj (fun hm => absurd (bQ e hm) (by omega)) cC
set_option maxHeartbeats 8000000 in
set_option maxRecDepth 20000 in
theorem ajd (w : cN C) (t c : Int) {k : Nat} (h : iW w k) (az : k ≤ 900) (aL : k3 w t = true) (O : List (Nat × bo)) (n : Nat) (ax : lM W w O n) : gg 52 [od w,aG t,aG c] O n (aaA (ix W w) O n W (pF w t c)) := by
 refine xy Tryz.func52 anq rfl fun J => ?_
 have hid := fG n
 obtain ⟨m,y,rfl,aV,aE,_⟩ := OH aL
 have fo := pa C
 have c9 := Eo h
 have kT := (List.getElem?_eq_some_iff.1 aV).1
 have bJ : IntKind.i64.wrap ((m : Int) + 1 - 1) = (m : Int) := by rw [IntKind.wrap_i64]; omega
 have bX := ajG y
 rw [aE] at bX
 have cL := ajt w.m ((m : Int) + 1) y.act c h.pU az
 have k2 := fun g => ak2 g (w.tasks.map g3) (by simp; omega)
 have LF := ax.own y (List.mem_of_getElem? aV)
 have bQ : ∀ e ∈ gJ W y,e < n := fun e he => A7 LF he
 have em : ((m : Int) + 1 - 1).toNat = m := by omega
 have FG : pF w ((m : Int) + 1) c = oH w (kQ w.m ((m : Int) + 1) y.act c).1 m (jl y (kQ w.m ((m : Int) + 1) y.act c).2.1) := by
  unfold pF
  rw [em,aV]
 rw [FG]
 have qt := fun g X N cC => ajb (W := W) y g (h.task y (List.mem_of_getElem? aV)) az X N cC
 have bR : (kQ w.m ((m : Int) + 1) y.act c).2.2 ≠ 0 → (kQ w.m ((m : Int) + 1) y.act c).1 = w.m ∧ (kQ w.m ((m : Int) + 1) y.act c).2.1 = e9 := by
  unfold kQ; split
  ·intro h; exact absurd rfl h
  ·intro _; exact ⟨rfl,rfl⟩
 have dA : (m : Int) < (w.tasks.length : Int) := by omega
 have fr : (0 : Int) ≤ (m : Int) := by omega
 have jY : (w.tasks.map g3)[m]? = some (g3 y) := by rw [List.getElem?_map,aV]; rfl
 have w9 : m < (w.tasks.map g3).length := by simp; omega
 generalize kQ w.m ((m : Int) + 1) y.act c = R at cL bR ⊢
 obtain ⟨lJ,lK,rH⟩ := R
 simp only at cL bR ⊢
 by_cases ba : rH = 0
 ·subst ba
  have ll : ∀ e,e < n → an (J7 O n) e = an O e := fun e he => by
   simp only [bq]; repeat rw [if_neg (by omega)]
  have vw : oK W y (Cf J (J7 O n) n w lJ lK y) (n + 7) := pf LF (by omega) fun e he => F4 (bQ e he) (ll e (bQ e he))
  unfold N7 ND;delta ab aQ aa ay
  have ad := And.intro @hid (And.intro @bJ (And.intro @dA (And.intro @kT (And.intro @aV @fo))))
  refine ae fun bD aK b9 ck => ai fun ca aH => ?_;refine al ad ?_;refine aH _ (aK (some ([1,2,3,6],none)) _ (ae fun cg aP bx b8 => ai fun ch bk => ?_));refine ag 2 ad ?_;refine ag 2 ad ?_;refine ag 1 ad ?_;refine ag 1 ad ?_;refine aM 1 ad ?_;refine Or.inl (Or.inl ⟨_,bX,?_⟩);refine ag 5 ad ?_;refine al ad ?_;refine bk _ (aP (some ([1,2,3,6,7],none)) _ (ae fun cM bV dQ eP => ai fun cG dk => ?_));refine ag 2 ad ?_;refine ag 2 ad ?_;refine aM 1 ad ?_;refine aM 1 ad ?_;refine Or.inl (Or.inl ⟨_,cL,?_⟩);refine ag 7 ad ?_;refine ag 1 ad ?_;refine al ad ?_;refine dk _ (bV (some ([1,3,6,9,10,11],none)) _ (ae fun cI cz ey fp => ae fun dB cv g7 gw => ai fun bz aR => ?_));refine aS ad ?_;refine aR _ (cv (some ([1,3,6,9,10,33],none)) _ (bs (ai fun eK cK => ?_)))
  refine ag 1 ad ?_;refine aS ad ?_;refine cK _ (cz (some ([1,3,6,10],none)) _ (ae fun fM cr h0 g6 => ai fun ga cD => ?_));refine ag 2 ad ?_;refine aM 1 ad ?_;refine Or.inl (Or.inr (Or.inl ⟨_,_,_,k2 _,?_⟩));refine aS ad ?_;refine cD _ (cr (some ([1,3,6,10],none)) _ (ae fun gK dF nu ln => ?_));refine u0 ([]) (fun done S => qI Ri done ∧ ((done.contains 13 = false ∧ ∃ x,J6 W w y lJ lK J O n m (Cf J (J7 O n) n w lJ lK y) done S x) ∨ ((∀ i,i < 14 → done.contains i = true) ∧ ∃ x,ER W w y lJ lK J O n m S x))) (fun S => ∃ x cV bG,S = ⟨[(3,.ptr (n + 1) 0 0),(6,.ptr (n + 2) 0 0)],cV,bG⟩ ∧ ER W w y lJ lK J O n m S x) ?_ ?_ ?_ ?_
  ·skip
   refine ⟨uY _,.inl ⟨rfl,y,jh.init (fun t v h => ?_) ?_ ?_⟩⟩
   ·simp only [an] at h
    simp only [ak.gM,ak.e1,eL,an,reduceIte,Nat.reduceEqDiff]
    repeat' split at h
    all_goals first | (rename_i fE; subst fE; exact h) | cases h
   ·rfl
   ·rfl
  ·skip
   intro done S i0 ⟨aB,aW⟩ aA
   have lp := vS aA
   have hs := vT aA
   rcases aW with ⟨hW,x,aW⟩ | ⟨ec,_⟩
   ·have dh := aW.base 1 _ rfl
    have gL := aW.base 3 _ rfl
    have x7 := aW.base 6 _ rfl
    have BC := aW.base 10 _ rfl
    have oA := go_mem aW bQ (e := n + 1) (by omega) (by omega) (aF ad)
    have tf := go_mem aW bQ (e := n + 2) (by omega) (by omega) (aF ad)
    have Mi := go_mem aW bQ (e := n + 5) (by omega) (by omega) (aF ad)
    have vJ := go_mem aW bQ (e := n + 6) (by omega) (by omega) (aF ad)
    have DA := go_mem aW bQ (e := n) (by omega) (by omega) (aF ad)
    have c3 := fun t j v h aj => aW.mm t j v h aj
    have dZ : i0 = 0 ∨ i0 = 1 ∨ i0 = 2 ∨ i0 = 3 ∨ i0 = 4 ∨ i0 = 5 ∨ i0 = 6 ∨ i0 = 7 ∨ i0 = 8 ∨ i0 = 9 ∨ i0 = 10 ∨ i0 = 11 ∨ i0 = 12 ∨ i0 = 13 := by simp at lp; omega
    rcases dZ with rfl | rfl | rfl | rfl | rfl | rfl | rfl | rfl | rfl | rfl | rfl | rfl | rfl | rfl
    ·skip
     have bb := And.intro gL oA
     refine cZ rfl fun bz aR => ?_;refine a2 bb ?_;refine aR _ ?_
     exact ⟨aB.cons aA,.inl ⟨by rw [en (by decide)]; exact hW,x,aW.put (i := 0) (t := 41) rfl rfl rfl (by decide) (fun h => by cases h)⟩⟩
    ·skip
     have hw := dL aA rfl
     have g1 := c3 41 0 _ rfl (hw 0 rfl)
     have bb := And.intro g1 oA
     refine cZ rfl fun bz aR => ?_;refine a2 bb ?_;refine bh ?_;refine aR _ ?_
     exact ⟨aB.cons aA,.inl ⟨by rw [en (by decide)]; exact hW,x,aW.put (i := 1) (t := 42) rfl rfl rfl (by decide) (fun h => by cases h)⟩⟩
    ·skip
     have bb := dh
     refine cZ rfl fun bz aR => ?_;refine a2 bb ?_;refine aR _ ?_
     exact ⟨aB.cons aA,.inl ⟨by rw [en (by decide)]; exact hW,x,aW.put (i := 2) (t := 43) rfl rfl rfl (by decide) (fun h => by cases h)⟩⟩
    ·skip
     have hw := dL aA rfl
     have g1 := c3 43 2 _ rfl (hw 2 rfl)
     have bb := And.intro g1 bJ
     refine cZ rfl fun bz aR => ?_;refine a2 bb ?_;refine aR _ ?_
     exact ⟨aB.cons aA,.inl ⟨by rw [en (by decide)]; exact hW,x,aW.put (i := 3) (t := 44) rfl rfl rfl (by decide) (fun h => by cases h)⟩⟩
    ·skip
     have bb := And.intro gL oA
     refine cZ rfl fun bz aR => ?_;refine a2 bb ?_;refine aR _ ?_
     exact ⟨aB.cons aA,.inl ⟨by rw [en (by decide)]; exact hW,x,aW.put (i := 4) (t := 45) rfl rfl rfl (by decide) (fun h => by cases h)⟩⟩
    ·skip
     have hw := dL aA rfl
     have g1 := c3 45 4 _ rfl (hw 4 rfl)
     have bb := And.intro g1 oA
     refine cZ rfl fun bz aR => ?_;refine a2 bb ?_;refine bh ?_;refine aR _ ?_
     exact ⟨aB.cons aA,.inl ⟨by rw [en (by decide)]; exact hW,x,aW.put (i := 5) (t := 46) rfl rfl rfl (by decide) (fun h => by cases h)⟩⟩
    ·skip
     have bb := dh
     refine cZ rfl fun bz aR => ?_;refine a2 bb ?_;refine aR _ ?_
     exact ⟨aB.cons aA,.inl ⟨by rw [en (by decide)]; exact hW,x,aW.put (i := 6) (t := 47) rfl rfl rfl (by decide) (fun h => by cases h)⟩⟩
    ·skip
     have hw := dL aA rfl
     have g1 := c3 47 6 _ rfl (hw 6 rfl)
     have bb := And.intro g1 bJ
     refine cZ rfl fun bz aR => ?_;refine a2 bb ?_;refine aR _ ?_
     exact ⟨aB.cons aA,.inl ⟨by rw [en (by decide)]; exact hW,x,aW.put (i := 7) (t := 48) rfl rfl rfl (by decide) (fun h => by cases h)⟩⟩
    ·skip
     have hw := dL aA rfl
     have g1 := c3 46 5 _ rfl (hw 5 rfl)
     have bW := c3 48 7 _ rfl (hw 7 rfl)
     have bb := And.intro g1 (And.intro bW (And.intro vJ (And.intro fr (And.intro kT w9))))
     refine cZ rfl fun bz aR => ?_;refine a2 bb ?_;refine bh ?_;refine aR _ ?_
     exact ⟨aB.cons aA,.inl ⟨by rw [en (by decide)]; exact hW,x,aW.put (i := 8) (t := 49) rfl rfl rfl (by decide) (fun h => by cases h)⟩⟩
    ·skip
     have hw := dL aA rfl
     have g1 := c3 49 8 _ rfl (hw 8 rfl)
     have bb := And.intro g1 (And.intro vJ aV)
     refine cZ rfl fun bz aR => ?_;refine a2 bb ?_;refine bh ?_;refine aR _ ?_
     exact ⟨aB.cons aA,.inl ⟨by rw [en (by decide)]; exact hW,x,aW.put (i := 9) (t := 50) rfl rfl rfl (by decide) (fun h => by cases h)⟩⟩
    ·skip
     have bb := And.intro BC Mi
     refine cZ rfl fun bz aR => ?_;refine a2 bb ?_;refine bh ?_;refine aR _ ?_
     exact ⟨aB.cons aA,.inl ⟨by rw [en (by decide)]; exact hW,x,aW.put (i := 10) (t := 51) rfl rfl rfl (by decide) (fun h => by cases h)⟩⟩
    ·have hw := dL aA rfl
     have g1 := c3 50 9 _ rfl (hw 9 rfl)
     have bW := c3 51 10 _ rfl (hw 10 rfl)
     obtain ⟨wu,j6,kk⟩ := S
     obtain ⟨a1,a7⟩ := aW.pre hs
     dsimp only at a1 a7
     subst a1 a7
     dsimp only at g1 bW
     refine cZ rfl fun bz aR => ?_;refine Or.inr (iJ (qt lK _ _ vw) (by simp only [ak.k0,ak.bg,g1,bW,ak.res,Option.map_some,Option.bind_some]) fun wb xD j6 kk oo => ?_)
     obtain ⟨l9,bJ,rfl,cf,dA⟩ := oo
     refine aR _ ?_
     exact ⟨aB.cons aA,.inl ⟨by rw [en (by decide)]; exact hW,l9,aW.call2 (t := 52) hs rfl rfl rfl rfl (Bm.of bJ cf dA bQ (by omega))⟩⟩
    ·skip
     have hw := dL aA rfl
     have g1 := c3 42 1 _ rfl (hw 1 rfl)
     have bW := c3 44 3 _ rfl (hw 3 rfl)
     have bb := And.intro g1 (And.intro bW (And.intro vJ (And.intro fr (And.intro kT w9))))
     refine cZ rfl fun bz aR => ?_;refine a2 bb ?_;refine bh ?_;refine aR _ ?_
     exact ⟨aB.cons aA,.inl ⟨by rw [en (by decide)]; exact hW,x,aW.put (i := 12) (t := 53) rfl rfl rfl (by decide) (fun _ => hw 11 rfl)⟩⟩
    ·have hw := dL aA rfl
     have g1 := c3 53 12 _ rfl (hw 12 rfl)
     have bW := c3 52 11 _ rfl (hw 11 rfl)
     obtain ⟨eR,fi,fZ⟩ := aW.post (hw 11 rfl)
     have bb := And.intro fo (And.intro g1 (And.intro bW (And.intro vJ jY)))
     refine cZ rfl fun bz aR => ?_;refine a2 bb ?_;refine bh ?_;refine aR _ ?_
     have sU : ∀ e ∈ gJ W x,e < n ∨ n + 7 ≤ e := fun e he => by
      rcases fZ.new e he with h | h
      ·exact .inl (bQ e h)
      ·exact .inr (by omega)
     have hle := fZ.le
     refine ⟨aB.cons aA,.inr ⟨fun i aq => ?_,x,⟨gL,x7,?_,?_,?_,?_,eR,pf fi (Nat.le_refl _) fun e he => ?_,⟨by show n ≤ S.n; omega,fun e he ar => ?_,fun e he => ?_⟩,sU⟩⟩⟩
     ·by_cases h : i = 13
      ·subst h; exact wH _ _
      ·rw [en h]
       have Ck := hw 12 rfl
       have : i = 12 ∨ i < 12 := by omega
       rcases this with rfl | c1
       ·exact Ck
       ·have Ki : i = 0 ∨ i = 1 ∨ i = 2 ∨ i = 3 ∨ i = 4 ∨ i = 5 ∨ i = 6 ∨ i = 7 ∨ i = 8 ∨ i = 9 ∨ i = 10 ∨ i = 11 := by omega
        exact aB 12 _ Ck rfl i (by rcases Ki with rfl | rfl | rfl | rfl | rfl | rfl | rfl | rfl | rfl | rfl | rfl | rfl <;> rfl)
     ·simp only [an,bq]; repeat rw [if_neg (by omega)]
      exact oA
     ·simp only [an,bq]; repeat rw [if_neg (by omega)]
      exact tf
     ·simp only [an,reduceIte]
     ·simp only [an,bq]; repeat rw [if_neg (by omega)]
      exact DA
     ·rcases sU e he with h | h
      ·simp only [an,bq]; repeat rw [if_neg (by omega)]
      ·simp only [an,bq]; repeat rw [if_neg (by omega)]
     ·simp only [an,bq]; repeat rw [if_neg (by omega)]
      rw [fZ.old e (by omega) ar,F4 he (ll e he)]
     ·rcases fZ.new e he with h | h
      ·exact .inl h
      ·exact .inr (by omega)
   ·rw [ec i0 (by simp at lp; omega)] at hs; cases hs
  ·skip
   rintro done S ⟨aB,⟨hW,_⟩ | ⟨_,x,bu⟩⟩ ec
   ·rw [ec 13 (by decide)] at hW; cases hW
   ·refine ⟨some ([3,6],none),x,j1 S.O,S.n,?_,?_⟩
    ·show ak.mk (eL S.T [3,6]) _ _ = _
     simp only [ak.e1,eL,bu.fZ,bu.gW]
    ·obtain ⟨bS,bH,bP,a4,fs,hD,k9,fN,hn,x2⟩ := bu
     have ao : ∀ e,an (j1 S.O) e = an S.O e := fun e => nc _ _
     refine ⟨?_,?_,(ao _).trans bP,(ao _).trans a4,(ao _).trans fs,(ao _).trans hD,k9,pf fN (Nat.le_refl _) fun e he => ao e,⟨hn.le,fun e he ar => (ao e).trans (hn.old e he ar),hn.new⟩,x2⟩
     ·show an (eL S.T [3,6]) 3 = _
      simp only [eL,bS,bH,an,reduceIte]
     ·show an (eL S.T [3,6]) 6 = _
      simp only [eL,bS,bH,an,reduceIte,Nat.reduceEqDiff]
  rintro bT ⟨x,cV,bG,rfl,bS,bH,bP,a4,fs,hD,k9,fN,hn,x2⟩
  dsimp only at bP a4 fs hD fN hn
  skip
  have aD := And.intro ad (And.intro @bP (And.intro @a4 (And.intro @fs @hD)))
  refine dF (some ([3,6],none)) _ (ae fun hc fx r3 mq => ai fun jf eJ => ?_);refine ag 1 aD ?_;refine aS aD ?_;refine eJ _ (fx (some ([6],none)) _ ?_)
  first | refine gv (aF aD) (aF aD) (aF aD) ?_ | refine gu (aF aD) (aF aD) (aF aD) ?_
  try dsimp only
  refine ⟨oH w lJ m x,QI k9,?_,Xb ax aV (pf fN (Nat.le_refl _) fun e he => ?_) ⟨hn.le,fun e he ar => ?_,hn.new⟩⟩
  ·show _ = aw.agg (tL (oH w lJ m x))
   rw [show (w.tasks.map g3).set m (g3 x) = (w.tasks.set m x).map g3 by rw [List.map_set]]
   rfl
  ·rcases x2 e he with h | h
   ·simp only [an,bq]; repeat rw [if_neg (by omega)]
   ·simp only [an,bq]; repeat rw [if_neg (by omega)]
  ·simp only [an,bq]; repeat rw [if_neg (by omega)]
   exact hn.old e he ar
 ·obtain ⟨aoI,X0⟩ := bR ba
  subst aoI
  subst X0
  have d : (rH != 0) = true := by simpa using ba
  have ll : ∀ e,e < n → an (J8 O n) e = an O e := fun e he => by
   simp only [bq]; repeat rw [if_neg (by omega)]
  have vw : oK W y (Cf J (J8 O n) n w w.m e9 y) (n + 7) := pf LF (by omega) fun e he => F4 (bQ e he) (ll e (bQ e he))
  unfold N7 ND;delta ab aQ aa ay
  have ad := And.intro @hid (And.intro @bJ (And.intro @dA (And.intro @kT (And.intro @aV (And.intro @fo @d)))))
  refine ae fun bD aK b9 ck => ai fun ca aH => ?_;refine al ad ?_;refine aH _ (aK (some ([1,2,3,6],none)) _ (ae fun cg aP bx b8 => ai fun ch bk => ?_));refine ag 2 ad ?_;refine ag 2 ad ?_;refine ag 1 ad ?_;refine ag 1 ad ?_;refine aM 1 ad ?_;refine Or.inl (Or.inl ⟨_,bX,?_⟩);refine ag 5 ad ?_;refine al ad ?_;refine bk _ (aP (some ([1,2,3,6,7],none)) _ (ae fun cM bV dQ eP => ai fun cG dk => ?_));refine ag 2 ad ?_;refine ag 2 ad ?_;refine aM 1 ad ?_;refine aM 1 ad ?_;refine Or.inl (Or.inl ⟨_,cL,?_⟩);refine ag 7 ad ?_;refine ag 1 ad ?_;refine al ad ?_;refine dk _ (bV (some ([1,3,6,9,10,11],none)) _ (ae fun cI cz ey fp => ae fun dB cv g7 gw => ai fun bz aR => ?_));refine aS ad ?_;refine aR _ (cv (some ([1,3,6,9,10,33],none)) _ (bU (ai fun eK cK => ?_)))
  refine aS ad ?_;refine cK _ (cz (some ([1,3,6,10],none)) _ (ae fun fM cr h0 g6 => ai fun ga cD => ?_));refine ag 2 ad ?_;refine aM 1 ad ?_;refine Or.inl (Or.inr (Or.inl ⟨_,_,_,k2 _,?_⟩));refine aS ad ?_;refine cD _ (cr (some ([1,3,6,10],none)) _ (ae fun gK dF nu ln => ?_));refine u0 ([]) (fun done S => qI Ri done ∧ ((done.contains 13 = false ∧ ∃ x,J6 W w y w.m e9 J O n m (Cf J (J8 O n) n w w.m e9 y) done S x) ∨ ((∀ i,i < 14 → done.contains i = true) ∧ ∃ x,ER W w y w.m e9 J O n m S x))) (fun S => ∃ x cV bG,S = ⟨[(3,.ptr (n + 1) 0 0),(6,.ptr (n + 2) 0 0)],cV,bG⟩ ∧ ER W w y w.m e9 J O n m S x) ?_ ?_ ?_ ?_
  ·skip
   refine ⟨uY _,.inl ⟨rfl,y,jh.init (fun t v h => ?_) ?_ ?_⟩⟩
   ·simp only [an] at h
    simp only [ak.gM,ak.e1,eL,an,reduceIte,Nat.reduceEqDiff]
    repeat' split at h
    all_goals first | (rename_i fE; subst fE; exact h) | cases h
   ·rfl
   ·rfl
  ·skip
   intro done S i0 ⟨aB,aW⟩ aA
   have lp := vS aA
   have hs := vT aA
   rcases aW with ⟨hW,x,aW⟩ | ⟨ec,_⟩
   ·have dh := aW.base 1 _ rfl
    have gL := aW.base 3 _ rfl
    have x7 := aW.base 6 _ rfl
    have BC := aW.base 10 _ rfl
    have oA := go_mem aW bQ (e := n + 1) (by omega) (by omega) (aF ad)
    have tf := go_mem aW bQ (e := n + 2) (by omega) (by omega) (aF ad)
    have Mi := go_mem aW bQ (e := n + 5) (by omega) (by omega) (aF ad)
    have vJ := go_mem aW bQ (e := n + 6) (by omega) (by omega) (aF ad)
    have DA := go_mem aW bQ (e := n) (by omega) (by omega) (aF ad)
    have c3 := fun t j v h aj => aW.mm t j v h aj
    have dZ : i0 = 0 ∨ i0 = 1 ∨ i0 = 2 ∨ i0 = 3 ∨ i0 = 4 ∨ i0 = 5 ∨ i0 = 6 ∨ i0 = 7 ∨ i0 = 8 ∨ i0 = 9 ∨ i0 = 10 ∨ i0 = 11 ∨ i0 = 12 ∨ i0 = 13 := by simp at lp; omega
    rcases dZ with rfl | rfl | rfl | rfl | rfl | rfl | rfl | rfl | rfl | rfl | rfl | rfl | rfl | rfl
    ·skip
     have bb := And.intro gL oA
     refine cZ rfl fun bz aR => ?_;refine a2 bb ?_;refine aR _ ?_
     exact ⟨aB.cons aA,.inl ⟨by rw [en (by decide)]; exact hW,x,aW.put (i := 0) (t := 41) rfl rfl rfl (by decide) (fun h => by cases h)⟩⟩
    ·skip
     have hw := dL aA rfl
     have g1 := c3 41 0 _ rfl (hw 0 rfl)
     have bb := And.intro g1 oA
     refine cZ rfl fun bz aR => ?_;refine a2 bb ?_;refine bh ?_;refine aR _ ?_
     exact ⟨aB.cons aA,.inl ⟨by rw [en (by decide)]; exact hW,x,aW.put (i := 1) (t := 42) rfl rfl rfl (by decide) (fun h => by cases h)⟩⟩
    ·skip
     have bb := dh
     refine cZ rfl fun bz aR => ?_;refine a2 bb ?_;refine aR _ ?_
     exact ⟨aB.cons aA,.inl ⟨by rw [en (by decide)]; exact hW,x,aW.put (i := 2) (t := 43) rfl rfl rfl (by decide) (fun h => by cases h)⟩⟩
    ·skip
     have hw := dL aA rfl
     have g1 := c3 43 2 _ rfl (hw 2 rfl)
     have bb := And.intro g1 bJ
     refine cZ rfl fun bz aR => ?_;refine a2 bb ?_;refine aR _ ?_
     exact ⟨aB.cons aA,.inl ⟨by rw [en (by decide)]; exact hW,x,aW.put (i := 3) (t := 44) rfl rfl rfl (by decide) (fun h => by cases h)⟩⟩
    ·skip
     have bb := And.intro gL oA
     refine cZ rfl fun bz aR => ?_;refine a2 bb ?_;refine aR _ ?_
     exact ⟨aB.cons aA,.inl ⟨by rw [en (by decide)]; exact hW,x,aW.put (i := 4) (t := 45) rfl rfl rfl (by decide) (fun h => by cases h)⟩⟩
    ·skip
     have hw := dL aA rfl
     have g1 := c3 45 4 _ rfl (hw 4 rfl)
     have bb := And.intro g1 oA
     refine cZ rfl fun bz aR => ?_;refine a2 bb ?_;refine bh ?_;refine aR _ ?_
     exact ⟨aB.cons aA,.inl ⟨by rw [en (by decide)]; exact hW,x,aW.put (i := 5) (t := 46) rfl rfl rfl (by decide) (fun h => by cases h)⟩⟩
    ·skip
     have bb := dh
     refine cZ rfl fun bz aR => ?_;refine a2 bb ?_;refine aR _ ?_
     exact ⟨aB.cons aA,.inl ⟨by rw [en (by decide)]; exact hW,x,aW.put (i := 6) (t := 47) rfl rfl rfl (by decide) (fun h => by cases h)⟩⟩
    ·skip
     have hw := dL aA rfl
     have g1 := c3 47 6 _ rfl (hw 6 rfl)
     have bb := And.intro g1 bJ
     refine cZ rfl fun bz aR => ?_;refine a2 bb ?_;refine aR _ ?_
     exact ⟨aB.cons aA,.inl ⟨by rw [en (by decide)]; exact hW,x,aW.put (i := 7) (t := 48) rfl rfl rfl (by decide) (fun h => by cases h)⟩⟩
    ·skip
     have hw := dL aA rfl
     have g1 := c3 46 5 _ rfl (hw 5 rfl)
     have bW := c3 48 7 _ rfl (hw 7 rfl)
     have bb := And.intro g1 (And.intro bW (And.intro vJ (And.intro fr (And.intro kT w9))))
     refine cZ rfl fun bz aR => ?_;refine a2 bb ?_;refine bh ?_;refine aR _ ?_
     exact ⟨aB.cons aA,.inl ⟨by rw [en (by decide)]; exact hW,x,aW.put (i := 8) (t := 49) rfl rfl rfl (by decide) (fun h => by cases h)⟩⟩
    ·skip
     have hw := dL aA rfl
     have g1 := c3 49 8 _ rfl (hw 8 rfl)
     have bb := And.intro g1 (And.intro vJ aV)
     refine cZ rfl fun bz aR => ?_;refine a2 bb ?_;refine bh ?_;refine aR _ ?_
     exact ⟨aB.cons aA,.inl ⟨by rw [en (by decide)]; exact hW,x,aW.put (i := 9) (t := 50) rfl rfl rfl (by decide) (fun h => by cases h)⟩⟩
    ·skip
     have bb := And.intro BC Mi
     refine cZ rfl fun bz aR => ?_;refine a2 bb ?_;refine bh ?_;refine aR _ ?_
     exact ⟨aB.cons aA,.inl ⟨by rw [en (by decide)]; exact hW,x,aW.put (i := 10) (t := 51) rfl rfl rfl (by decide) (fun h => by cases h)⟩⟩
    ·have hw := dL aA rfl
     have g1 := c3 50 9 _ rfl (hw 9 rfl)
     have bW := c3 51 10 _ rfl (hw 10 rfl)
     obtain ⟨wu,j6,kk⟩ := S
     obtain ⟨a1,a7⟩ := aW.pre hs
     dsimp only at a1 a7
     subst a1 a7
     dsimp only at g1 bW
     refine cZ rfl fun bz aR => ?_;refine Or.inr (iJ (qt e9 _ _ vw) (by simp only [ak.k0,ak.bg,g1,bW,ak.res,Option.map_some,Option.bind_some]) fun wb xD j6 kk oo => ?_)
     obtain ⟨l9,bJ,rfl,cf,dA⟩ := oo
     refine aR _ ?_
     exact ⟨aB.cons aA,.inl ⟨by rw [en (by decide)]; exact hW,l9,aW.call2 (t := 52) hs rfl rfl rfl rfl (Bm.of bJ cf dA bQ (by omega))⟩⟩
    ·skip
     have hw := dL aA rfl
     have g1 := c3 42 1 _ rfl (hw 1 rfl)
     have bW := c3 44 3 _ rfl (hw 3 rfl)
     have bb := And.intro g1 (And.intro bW (And.intro vJ (And.intro fr (And.intro kT w9))))
     refine cZ rfl fun bz aR => ?_;refine a2 bb ?_;refine bh ?_;refine aR _ ?_
     exact ⟨aB.cons aA,.inl ⟨by rw [en (by decide)]; exact hW,x,aW.put (i := 12) (t := 53) rfl rfl rfl (by decide) (fun _ => hw 11 rfl)⟩⟩
    ·have hw := dL aA rfl
     have g1 := c3 53 12 _ rfl (hw 12 rfl)
     have bW := c3 52 11 _ rfl (hw 11 rfl)
     obtain ⟨eR,fi,fZ⟩ := aW.post (hw 11 rfl)
     have bb := And.intro fo (And.intro g1 (And.intro bW (And.intro vJ jY)))
     refine cZ rfl fun bz aR => ?_;refine a2 bb ?_;refine bh ?_;refine aR _ ?_
     have sU : ∀ e ∈ gJ W x,e < n ∨ n + 7 ≤ e := fun e he => by
      rcases fZ.new e he with h | h
      ·exact .inl (bQ e h)
      ·exact .inr (by omega)
     have hle := fZ.le
     refine ⟨aB.cons aA,.inr ⟨fun i aq => ?_,x,⟨gL,x7,?_,?_,?_,?_,eR,pf fi (Nat.le_refl _) fun e he => ?_,⟨by show n ≤ S.n; omega,fun e he ar => ?_,fun e he => ?_⟩,sU⟩⟩⟩
     ·by_cases h : i = 13
      ·subst h; exact wH _ _
      ·rw [en h]
       have Ck := hw 12 rfl
       have : i = 12 ∨ i < 12 := by omega
       rcases this with rfl | c1
       ·exact Ck
       ·have Ki : i = 0 ∨ i = 1 ∨ i = 2 ∨ i = 3 ∨ i = 4 ∨ i = 5 ∨ i = 6 ∨ i = 7 ∨ i = 8 ∨ i = 9 ∨ i = 10 ∨ i = 11 := by omega
        exact aB 12 _ Ck rfl i (by rcases Ki with rfl | rfl | rfl | rfl | rfl | rfl | rfl | rfl | rfl | rfl | rfl | rfl <;> rfl)
     ·simp only [an,bq]; repeat rw [if_neg (by omega)]
      exact oA
     ·simp only [an,bq]; repeat rw [if_neg (by omega)]
      exact tf
     ·simp only [an,reduceIte]
     ·simp only [an,bq]; repeat rw [if_neg (by omega)]
      exact DA
     ·rcases sU e he with h | h
      ·simp only [an,bq]; repeat rw [if_neg (by omega)]
      ·simp only [an,bq]; repeat rw [if_neg (by omega)]
     ·simp only [an,bq]; repeat rw [if_neg (by omega)]
      rw [fZ.old e (by omega) ar,F4 he (ll e he)]
     ·rcases fZ.new e he with h | h
      ·exact .inl h
      ·exact .inr (by omega)
   ·rw [ec i0 (by simp at lp; omega)] at hs; cases hs
  ·skip
   rintro done S ⟨aB,⟨hW,_⟩ | ⟨_,x,bu⟩⟩ ec
   ·rw [ec 13 (by decide)] at hW; cases hW
   ·refine ⟨some ([3,6],none),x,j1 S.O,S.n,?_,?_⟩
    ·show ak.mk (eL S.T [3,6]) _ _ = _
     simp only [ak.e1,eL,bu.fZ,bu.gW]
    ·obtain ⟨bS,bH,bP,a4,fs,hD,k9,fN,hn,x2⟩ := bu
     have ao : ∀ e,an (j1 S.O) e = an S.O e := fun e => nc _ _
     refine ⟨?_,?_,(ao _).trans bP,(ao _).trans a4,(ao _).trans fs,(ao _).trans hD,k9,pf fN (Nat.le_refl _) fun e he => ao e,⟨hn.le,fun e he ar => (ao e).trans (hn.old e he ar),hn.new⟩,x2⟩
     ·show an (eL S.T [3,6]) 3 = _
      simp only [eL,bS,bH,an,reduceIte]
     ·show an (eL S.T [3,6]) 6 = _
      simp only [eL,bS,bH,an,reduceIte,Nat.reduceEqDiff]
  rintro bT ⟨x,cV,bG,rfl,bS,bH,bP,a4,fs,hD,k9,fN,hn,x2⟩
  dsimp only at bP a4 fs hD fN hn
  skip
  have aD := And.intro ad (And.intro @bP (And.intro @a4 (And.intro @fs @hD)))
  refine dF (some ([3,6],none)) _ (ae fun hc fx r3 mq => ai fun jf eJ => ?_);refine ag 1 aD ?_;refine aS aD ?_;refine eJ _ (fx (some ([6],none)) _ ?_)
  first | refine gv (aF aD) (aF aD) (aF aD) ?_ | refine gu (aF aD) (aF aD) (aF aD) ?_
  try dsimp only
  refine ⟨oH w w.m m x,QI k9,?_,Xb ax aV (pf fN (Nat.le_refl _) fun e he => ?_) ⟨hn.le,fun e he ar => ?_,hn.new⟩⟩
  ·show _ = aw.agg (tL (oH w w.m m x))
   rw [show (w.tasks.map g3).set m (g3 x) = (w.tasks.set m x).map g3 by rw [List.map_set]]
   rfl
  ·rcases x2 e he with h | h
   ·simp only [an,bq]; repeat rw [if_neg (by omega)]
   ·simp only [an,bq]; repeat rw [if_neg (by omega)]
  ·simp only [an,bq]; repeat rw [if_neg (by omega)]
   exact hn.old e he ar
end
end Go.Proofs.YtkmbcjnaaokilaaGreatDoor
