/-
  Layer 8 once more, for codes that have a part of one's own memory: Make.
-/
import Derived.Test.YtkmbcjnaaokilaaGreatDoorK12i
namespace Go.Proofs.YtkmbcjnaaokilaaGreatDoor
set_option linter.unusedSimpArgs false
set_option linter.unusedVariables false
open Go.RowKit Go.Maps
section
variable {C : ed} {W : iz C}
def uZ (W : iz C) (cs : List C.ak) : List Nat := cs.flatMap W.ids
structure Iu (W : iz C) (cs : List C.ak) (O : List (Nat × bo)) (n : Nat) : Prop where
 own : ∀ s ∈ cs,W.own s O n
 ap : ∀ (i j : Nat) (a b : C.ak),i ≠ j → cs[i]? = some a → cs[j]? = some b → ∀ e ∈ W.ids a,e ∉ W.ids b
abbrev Ha (m : e3) (N r : Nat) : List aw := [.au 1 0 (m.mem.places.map sJ),.au 1 0 (m.mem.views.map yf),.au 3 0 (m.lines.first.map c6),.au 2 0 (m.lines.eX.map qg),.mp 3 fun t => (m.lines.asks t).map lf,.au 1 0 (m.steps.map u2),aG m.kc,.own r,.au 1 0 ((List.replicate N false).map wM)]
structure IS (W : iz C) (m : e3) (cs : List C.ak) (J : bl → Env → Prop) (O : List (Nat × bo)) (n i : Nat) (cH : List (dt C)) (r : Nat) (cV : List (Nat × bo)) (bG : Nat) : Prop where
 fY : cH.map (g2 W) = ((cs.take i).map (nX (C := C))).map (g2 W)
 own : lM W ⟨m,cH,[]⟩ cV bG
 rest : ∀ (j : Nat) (s : C.ak),i ≤ j → cs[j]? = some s → W.own s cV bG ∧ (∀ e ∈ W.ids s,e < n) ∧ ∀ t ∈ cH,∀ e ∈ W.ids s,e ∉ gJ W t
 c0 : kq (uZ W cs) (cH.flatMap (gJ W)) O n cV bG
 mj : ∀ t ∈ cH,∀ e ∈ gJ W t,(e < n ∨ n + 4 ≤ e) ∧ e ≠ r
 dI : n + 4 ≤ r
 dS : r < bG
 gA : an cV n = some (.cB J)
 bW : an cV (n + 2) = some (.box 63 uD)
 gH : an cV (n + 3) = some (.box 63 (Ha m cs.length r))
 row : an cV r = some (.row 84 11 (cH.map g3))
theorem IS.len {m : e3} {cs : List C.ak} {J : bl → Env → Prop} {O cV : List (Nat × bo)} {n i r bG : Nat} {cH : List (dt C)} (h : IS W m cs J O n i cH r cV bG) (aq : i ≤ cs.length) : cH.length = i := by
 have := congrArg List.length h.fY
 simp at this; omega
def ZP (W : iz C) (m : e3) (g : Nat) (cs : List C.ak) (J : bl → Env → Prop) (O : List (Nat × bo)) (n : Nat) (k : Nat) (S : ak) : Prop :=
 ∃ (i : Nat) (cH : List (dt C)) (r : Nat) (cV : List (Nat × bo)) (bG : Nat),i ≤ cs.length ∧ k = cs.length - i ∧
  S = ⟨[(4,.ptr (n + 2) 0 0),(8,.ptr (n + 3) 0 0),(26,.au 1 g (cs.map (BV C))),(27,aG cs.length),(28,aG i)],cV,bG⟩ ∧ IS W m cs J O n i cH r cV bG
structure E2 (W : iz C) (s : C.ak) (O : List (Nat × bo)) (m : Nat) (x : dt C) (O' : List (Nat × bo)) (bO : Nat) : Prop where
 fY : g2 W x = g2 W (nX s)
 own : oK W x O' bO
 c0 : kq (W.ids s) (gJ W x) O m O' bO
theorem E2.of {s : C.ak} {x : dt C} {O O' : List (Nat × bo)} {m bO xu : Nat} (af : g2 W x = g2 W (nX s)) (aj : oK W x O' bO) (av : kq (W.ids s) (gJ W x) O m O' bO) (bQ : ∀ e ∈ W.ids s,e < xu) (a9 : xu ≤ m) : E2 W s O m x (ef O' m) bO :=
 ⟨af,pf aj (Nat.le_refl _) fun e he => (by
  rw [bq,if_neg]
  rcases av.new e he with h | h
  ·have := bQ e h; omega
  ·omega),⟨av.le,fun e he ar => (by rw [bq,if_neg (by omega)]; exact av.old e he ar),av.new⟩⟩
abbrev Mp (g n : Nat) (cs : List C.ak) (i : Nat) (s : C.ak) : List (Nat × aw) := [(4,.ptr (n + 2) 0 0),(8,.ptr (n + 3) 0 0),(10,hg C (some s)),(26,.au 1 g (cs.map (BV C))),(27,aG cs.length),(28,aG i)]
abbrev aiF (n r : Nat) (s : C.ak) : List (Nat × (Nat × aw)) := [(32,0,.ptr (n + 3) 0 7),(33,1,.own r),(34,2,hg C (some s))]
abbrev aiG (x : dt C) : List (Nat × (Nat × aw)) := [(35,3,.agg (g3 x)),(36,4,.au 11 0 [g3 x])]
abbrev aiH : List (List Nat) := [[],[0],[],[2],[3],[1,4,3],[0,1,2,3,4,5],[6,5,5,0,1,2,3,4,5]]
abbrev Tg (W : iz C) (g n r : Nat) (cs : List C.ak) (i : Nat) (s : C.ak) (cV : List (Nat × bo)) (bG : Nat) (done : List Nat) (S : ak) (x : dt C) : Prop :=
 jh (Mp g n cs i s) (fun x => aiF n r s ++ aiG x) [4] 3 cV bG (E2 W s cV bG) done S x
structure ZO (W : iz C) (g n r : Nat) (cs : List C.ak) (i : Nat) (s : C.ak) (cH : List (dt C)) (cV : List (Nat × bo)) (bG : Nat) (S : ak) (x : dt C) (h7 : Nat) : Prop where
 base : ∀ t v,an (Mp g n cs i s) t = some v → an S.T t = some v
 v : an S.T 37 = some (.own h7)
 row : an S.O h7 = some (.row 84 11 (cH.map g3 ++ [g3 x]))
 fY : g2 W x = g2 W (nX s)
 own : oK W x S.O S.n
 c0 : ∀ e,e < bG → e ∉ W.ids s → e ≠ r → an S.O e = an cV e
 new : ∀ e ∈ gJ W x,(e ∈ W.ids s ∨ bG < e) ∧ e ≠ h7
 dI : bG ≤ h7
 dS : h7 < S.n
structure Pr (W : iz C) (m : e3) (g n r : Nat) (cs : List C.ak) (i : Nat) (s : C.ak) (cH : List (dt C)) (cV : List (Nat × bo)) (bG : Nat) (S : ak) (x : dt C) (h7 : Nat) : Prop where
 base : ∀ t v,an (Mp g n cs i s) t = some v → an S.T t = some v
 wE : an S.O (n + 3) = some (.box 63 (Ha m cs.length h7))
 row : an S.O h7 = some (.row 84 11 (cH.map g3 ++ [g3 x]))
 fY : g2 W x = g2 W (nX s)
 own : oK W x S.O S.n
 c0 : ∀ e,e < bG → e ∉ W.ids s → e ≠ r → e ≠ n + 3 → an S.O e = an cV e
 new : ∀ e ∈ gJ W x,(e ∈ W.ids s ∨ bG < e) ∧ e ≠ h7
 dI : bG ≤ h7
 dS : h7 < S.n
theorem Th {g n r i bG : Nat} {cs : List C.ak} {s : C.ak} {cV : List (Nat × bo)} {done : List Nat} {S : ak} {x : dt C} (h : Tg W g n r cs i s cV bG done S x) {e : Nat} {Y : bo} (af : e ∉ W.ids s) (aj : e < bG) (cC : an cV e = some Y) : an S.O e = some Y := by
 cases aB : done.contains 3 with
 | false => rw [(h.pre aB).1]; exact cC
 | true => exact (h.post aB).c0.at aj af cC
def ZM (cs : List C.ak) (O : List (Nat × bo)) (n : Nat) (W : iz C) (w : cN C) (_ : bl → Env → Prop) (r : aw) (O' : List (Nat × bo)) (bO : Nat) : Prop :=
 ∃ w',fl W w' = fl W w ∧ r = .bY [od w',aG 0] ∧ lM W w' O' bO ∧ kq (uZ W cs) (ix W w') O n O' bO
set_option maxHeartbeats 8000000 in
set_option maxRecDepth 20000 in
theorem TD (m : e3) (g : Nat) (cs : List C.ak) (bj : m.mem.views.length ≤ 8) {k : Nat} (aB : ∀ s ∈ cs,C.jB k s) (a9 : k ≤ 900) (RZ : cs.length ≤ m.mem.views.length) (O : List (Nat × bo)) (n : Nat) (ax : Iu W cs O n) :
  gg 43 [lS m,.au 1 g (cs.map (BV C))] O n (ZM cs O n W ⟨m,cs.map nX,List.replicate cs.length false⟩) := by
 refine xy Tryz.func43 ank rfl fun J => ?_
 have hid := fG n
 have fo := pa C
 have bX := DM m
 have h : ¬ (m.mem.views.length : Int) < (cs.length : Int) := by omega
 have bJ : cs.length ≤ 1000000 := by omega
 have cf : cs.length * 1 ≤ 140737488355328 := by omega
 have a1 : List.replicate cs.length [aw.v (.bool false)] = (List.replicate cs.length false).map wM := by simp
 have bQ : ∀ s ∈ cs,∀ e ∈ W.ids s,e < n := fun s ao e he => W.lt (ax.own s ao) e he
 unfold Wl Vd;delta ab aQ aa ay
 have ad := And.intro @hid (And.intro @h (And.intro @bJ (And.intro @cf (And.intro @fo @a1))))
 refine ae fun _ aK b9 _ => ai fun _ aH => ?_;refine al ad ?_;refine aH _ (aK (some ([1,2,4],none)) _ (ae fun _ aP _ b8 => ae fun _ bI _ _ => ai fun _ b0 => ?_));refine ag 1 ad ?_;refine aM 1 ad ?_;refine Or.inl (Or.inl ⟨_,bX,?_⟩);refine al ad ?_;refine b0 _ (bI (some ([1,2,4,6],none)) _ (ae fun _ bp _ _ => ai fun _ bE => ?_));refine aS ad ?_;refine bE _ (bp (some ([1,2,4,19],none)) _ (bs (aP (some ([1,2,4],none)) _ (ae fun _ cv _ _ => ?_))));refine gh [] (n := 6) fun bz aR => ?_;refine gY ?_;refine cF 1 ad ?_;refine cF 3 ad ?_;refine lh ad ?_;refine aR _ ?_;refine gZ ?_;refine aS ad ?_;refine cv (some ([1,4,8],none)) _ (ae fun _ cr _ _ => ae fun _ ff _ _ => ai fun _ ew => ?_);refine al ad ?_;refine ew _ (ff (some ([4,8,26,27,28],none)) _ ?_)
 refine cj fun _ _ y3 _ _ => ?_;refine ie (ZP W m g cs J O n) (cs.length) (some ([4,8,26,27,28],none)) ([.cell (n + 3) 7 (some 84) 11]) ?_ ?_
 ·try refine dR ?_
  refine ⟨0,[],n + 4,_,_,by omega,by omega,aF ad,⟨rfl,⟨fun t aL => (by cases aL),fun i j gn vW _ aq => by simp at aq⟩,fun j s _ ao => ⟨W.to (ax.own s (List.mem_of_getElem? ao)) (by omega) fun e he => ?_,bQ s (List.mem_of_getElem? ao),fun t aL => (by cases aL)⟩,⟨by omega,fun e he ar => ?_,fun e he => (by cases he)⟩,fun t aL => (by cases aL),by omega,by omega,?_,?_,?_,?_⟩⟩
  ·have := bQ s (List.mem_of_getElem? ao) e he
   simp only [an,bq]; repeat rw [if_neg (by omega)]
  ·simp only [an,bq]; repeat rw [if_neg (by omega)]
  ·simp [an]
  ·simp [an]
  ·simp [an]
  ·simp [an]
 ·intro k bT aW
  obtain ⟨i,cH,r,cV,bG,aq,rfl,rfl,bA⟩ := aW
  have jm := fG bG
  have b9 := bA.dI
  have Az := bA.dS
  have d0 := cW (n := bG) (d := n) (by omega)
  have d2 := cW (n := bG) (d := n + 2) (by omega)
  have d3 := cW (n := bG) (d := n + 3) (by omega)
  have wL := cW (n := bG) (d := r) (by omega)
  have ady := cW (n := r) (d := n) (by omega)
  have adz := cW (n := r) (d := n + 2) (by omega)
  have adA := cW (n := r) (d := n + 3) (by omega)
  have a0 := bA.gA
  have bH := bA.bW
  have bP := bA.gH
  have j8 := bA.row
  have St := bA.len aq
  have dZ : i = cs.length ∨ i < cs.length := by omega
  intro _ gl _ lo
  rcases dZ with ea | ea
  ·skip
   have cn : ¬ (i : Int) < (cs.length : Int) := by omega
   have aD := And.intro ad (And.intro @jm (And.intro @d0 (And.intro @d2 (And.intro @d3 (And.intro @wL (And.intro @ady (And.intro @adz (And.intro @adA (And.intro @a0 (And.intro @bH (And.intro @bP (And.intro @j8 @cn))))))))))))
   refine ae fun _ fF _ _ => ai fun _ eF => ?_;refine aS aD ?_;refine eF _ (fF (some ([4,8,26,27,28,29],none)) _ (ae fun _ _ _ vd => bs (vd 0 _ (lo 0 _ (y3 _ (cr (some ([4,8],none)) _ (ae fun _ hJ _ _ => ai fun _ hX => ?_)))))));refine ag 1 aD ?_;refine ag 1 aD ?_;refine al aD ?_;refine hX _ (hJ (some ([4,5],none)) _ ?_)
   first | refine gv (aF aD) (aF aD) (aF aD) ?_ | refine gu (aF aD) (aF aD) (aF aD) ?_
   try dsimp only
   refine ⟨⟨m,cH,List.replicate cs.length false⟩,JP rfl (by rw [bA.fY,ea,List.take_of_length_le (Nat.le_refl _)]) rfl,rfl,nZ (w := ⟨m,cH,List.replicate cs.length false⟩) ⟨bA.own.own,bA.own.ap⟩ (by omega) fun e he => ?_,⟨bA.c0.le,fun e he ar => ?_,fun e he => bA.c0.new e he⟩⟩
   ·obtain ⟨t,aL,het⟩ := za.1 he
    obtain ⟨c1 | c1,c9⟩ := bA.mj t aL e het
    ·simp only [an,bq]; repeat rw [if_neg (by omega)]
    ·simp only [an,bq]; repeat rw [if_neg (by omega)]
   ·simp only [an,bq]; repeat rw [if_neg (by omega)]
    exact bA.c0.old e he ar
  ·skip
   have cn : (i : Int) < (cs.length : Int) := by omega
   have dM : IntKind.i64.wrap ((i : Int) + 1) = ((i + 1 : Nat) : Int) := by rw [IntKind.wrap_i64]; omega
   obtain ⟨s,ao⟩ : ∃ s,cs[i]? = some s := ⟨_,List.getElem?_eq_getElem ea⟩
   obtain ⟨vx,nr,mU⟩ := bA.rest i s (Nat.le_refl _) ao
   have cL := ajc s (aB s (List.mem_of_getElem? ao)) a9 cV bG vx
   have uo : ∀ e,n ≤ e → e ∉ W.ids s := fun e af aj => absurd (nr e aj) (by omega)
   have iw : (cH.map g3).length + 1 ≤ 140737488355328 := by simp; omega
   have nG : ((cH.map g3).length + 1) * 96 ≤ 140737488355328 := by simp; omega
   have bc := And.intro ad (And.intro @jm (And.intro @d0 (And.intro @d2 (And.intro @d3 (And.intro @wL (And.intro @a0 (And.intro @bH (And.intro @bP (And.intro @j8 (And.intro @cn (And.intro @dM (And.intro @ao @ea))))))))))))
   refine ae fun _ hK _ _ => ai fun _ gf => ?_;refine aS bc ?_;refine gf _ (hK (some ([4,8,26,27,28,29],none)) _ (ae fun _ iu _ _ => bU (iu (some ([4,8,26,27,28],none)) _ (ae fun _ iP _ _ => cj fun _ ns _ _ _ => ae fun _ lv _ _ => ai fun _ jT => ?_))));refine ag 1 bc ?_;refine ag 1 bc ?_;refine al bc ?_;refine jT _ (lv (some ([4,8,10,26,27,28],none)) _ ?_);refine u0 ([]) (fun done S => qI aiH done ∧ ((done.contains 5 = false ∧ done.contains 6 = false ∧ done.contains 7 = false ∧ ∃ x,Tg W g n r cs i s cV bG done S x) ∨ (done.contains 5 = true ∧ done.contains 7 = false ∧ (∃ x h7,ZO W g n r cs i s cH cV bG S x h7) ∧ (done.contains 6 = true → an S.T 38 = some (.ptr (n + 3) 0 7))) ∨ ((∀ j,j < 8 → done.contains j = true) ∧ ∃ x h7,Pr W m g n r cs i s cH cV bG S x h7))) (fun S => ∃ x h7 mK fz,S = ⟨[(4,.ptr (n + 2) 0 0),(8,.ptr (n + 3) 0 0),(26,.au 1 g (cs.map (BV C))),(27,aG cs.length),(28,aG i)],mK,fz⟩ ∧ Pr W m g n r cs i s cH cV bG ⟨(10,hg C (some s)) :: S.T,mK,fz⟩ x h7) ?_ ?_ ?_ ?_
   ·skip
    refine ⟨uY _,.inl ⟨rfl,rfl,rfl,nX s,jh.init (fun t v h => ?_) ?_ ?_⟩⟩
    ·simp only [an] at h
     simp only [ak.gM,ak.e1,eL,an,reduceIte,Nat.reduceEqDiff]
     repeat' split at h
     all_goals first | (rename_i fE; subst fE; exact h) | cases h
    ·rfl
    ·rfl
   ·skip
    intro done S i0 ⟨gP,aW⟩ aA
    have lp := vS aA
    have hs := vT aA
    have dZ : i0 = 0 ∨ i0 = 1 ∨ i0 = 2 ∨ i0 = 3 ∨ i0 = 4 ∨ i0 = 5 ∨ i0 = 6 ∨ i0 = 7 := by simp at lp; omega
    rcases aW with ⟨bM,bN,cJ,x,aW⟩ | ⟨bM,cJ,⟨x,h7,Gc⟩,afn⟩ | ⟨ec,_⟩
    ·have wA := aW.base 8 _ rfl
     have BC := aW.base 10 _ rfl
     have xr := Th aW (uo (n + 3) (by omega)) (by omega) bP
     have Mq := Th aW (uo r (by omega)) Az j8
     have c3 := fun t j v h aj => aW.mm t j v h aj
     rcases dZ with rfl | rfl | rfl | rfl | rfl | rfl | rfl | rfl
     ·skip
      have bb := And.intro wA xr
      refine cZ rfl fun bz aR => ?_;refine a2 bb ?_;refine aR _ ?_
      exact ⟨gP.cons aA,.inl ⟨by rw [en (by decide)]; exact bM,by rw [en (by decide)]; exact bN,by rw [en (by decide)]; exact cJ,x,aW.put (i := 0) (t := 32) rfl rfl rfl (by decide) (fun h => by cases h)⟩⟩
     ·skip
      have hw := dL aA rfl
      have g1 := c3 32 0 _ rfl (hw 0 rfl)
      have bb := And.intro g1 xr
      refine cZ rfl fun bz aR => ?_;refine a2 bb ?_;refine bh ?_;refine aR _ ?_
      exact ⟨gP.cons aA,.inl ⟨by rw [en (by decide)]; exact bM,by rw [en (by decide)]; exact bN,by rw [en (by decide)]; exact cJ,x,aW.put (i := 1) (t := 33) rfl rfl rfl (by decide) (fun h => by cases h)⟩⟩
     ·skip
      have bb := And.intro fo BC
      refine cZ rfl fun bz aR => ?_;refine a2 bb ?_;refine aR _ ?_
      exact ⟨gP.cons aA,.inl ⟨by rw [en (by decide)]; exact bM,by rw [en (by decide)]; exact bN,by rw [en (by decide)]; exact cJ,x,aW.put (i := 2) (t := 34) rfl rfl rfl (by decide) (fun h => by cases h)⟩⟩
     ·have hw := dL aA rfl
      have g1 := c3 34 2 _ rfl (hw 2 rfl)
      obtain ⟨wu,j6,kk⟩ := S
      obtain ⟨a1,a7⟩ := aW.pre hs
      dsimp only at a1 a7
      subst a1 a7
      dsimp only at g1
      refine cZ rfl fun bz aR => ?_;refine Or.inr (iJ cL (by simp only [ak.k0,ak.bg,g1,Option.map_some,Option.bind_some,fo]) fun wb xD Bq DG oo => ?_)
      obtain ⟨l9,bJ,rfl,cf,dA⟩ := oo
      refine aR _ ?_
      exact ⟨gP.cons aA,.inl ⟨by rw [en (by decide)]; exact bM,by rw [en (by decide)]; exact bN,by rw [en (by decide)]; exact cJ,l9,aW.call2 (t := 35) hs rfl rfl rfl rfl (E2.of bJ cf dA nr (by omega))⟩⟩
     ·skip
      have hw := dL aA rfl
      have g1 := c3 35 3 _ rfl (hw 3 rfl)
      have bb := And.intro fo g1
      refine cZ rfl fun bz aR => ?_;refine a2 bb ?_;refine bh ?_;refine aR _ ?_
      exact ⟨gP.cons aA,.inl ⟨by rw [en (by decide)]; exact bM,by rw [en (by decide)]; exact bN,by rw [en (by decide)]; exact cJ,x,aW.put (i := 4) (t := 36) rfl rfl rfl (by decide) (fun _ => hw 3 rfl)⟩⟩
     ·have hw := dL aA rfl
      have g1 := c3 33 1 _ rfl (hw 1 rfl)
      have bW := c3 36 4 _ rfl (hw 4 rfl)
      obtain ⟨eR,fi,fZ⟩ := aW.post (hw 3 rfl)
      have hle := fZ.le
      have bb := And.intro jm (And.intro g1 (And.intro bW (And.intro Mq (And.intro iw nG))))
      refine cZ rfl fun bz aR => ?_;refine a2 bb ?_;refine bh ?_;refine aR _ ?_
      have Lg : ∀ e ∈ gJ W x,e < S.n := fun e he => A7 fi he
      have agO : ∀ e ∈ gJ W x,e ≠ r := fun e he c1 => by
       subst c1
       rcases fZ.new e he with c9 | c9
       ·exact uo e (by omega) c9
       ·omega
      refine ⟨gP.cons aA,.inr (.inl ⟨wH _ _,by rw [en (by decide)]; exact cJ,⟨x,S.n,⟨fun t v r6 => ?_,?_,?_,eR,pf fi (Nat.le_succ _) fun e he => ?_,fun e he ar qm => ?_,fun e he => ⟨fZ.new e he,by have := Lg e he; omega⟩,hle,Nat.lt_succ_self _⟩⟩,fun h => by rw [en (by decide),bN] at h; cases h⟩)⟩
      ·have := aW.base t v r6
       simp only [an]
       rw [if_neg (fun fE => by subst fE; cases r6),wV _ (fun fE => by subst fE; cases r6)]
       exact this
      ·simp only [an,reduceIte]
      ·simp only [an,reduceIte]
      ·have af := Lg e he
       have aj := agO e he
       simp only [an,bq]; repeat rw [if_neg (by omega)]
      ·simp only [an,bq]; repeat rw [if_neg (by omega)]
       exact fZ.old e he ar
     ·have hw := dL aA rfl
      rw [hw 5 rfl] at bM; cases bM
     ·have hw := dL aA rfl
      rw [hw 6 rfl] at bN; cases bN
    ·have ba : ∀ j,j < 6 → done.contains j = true := fun j aN => by
      have iw := gP 5 _ bM rfl
      have fH := gP 4 _ (iw 4 rfl) rfl
      have dM := gP 3 _ (fH 3 rfl) rfl
      have fB := gP 1 _ (iw 1 rfl) rfl
      have : j = 0 ∨ j = 1 ∨ j = 2 ∨ j = 3 ∨ j = 4 ∨ j = 5 := by omega
      rcases this with rfl | rfl | rfl | rfl | rfl | rfl
      ·exact fB 0 rfl
      ·exact iw 1 rfl
      ·exact dM 2 rfl
      ·exact fH 3 rfl
      ·exact iw 4 rfl
      ·exact bM
     have wA := Gc.base 8 _ rfl
     have adG : i0 = 6 ∨ i0 = 7 := by
      rcases Nat.lt_or_ge i0 6 with h | h
      ·rw [ba i0 h] at hs; cases hs
      ·simp at lp; omega
     rcases adG with rfl | rfl
     ·have xr : an S.O (n + 3) = some (.box 63 (Ha m cs.length r)) := (Gc.c0 (n + 3) (by omega) (uo _ (by omega)) (by omega)).trans bP
      have bb := And.intro wA xr
      refine cZ rfl fun bz aR => ?_;refine a2 bb ?_;refine aR _ ?_
      obtain ⟨eR,fi,fZ,o8,jE,gW,nC,se,qA⟩ := Gc
      refine ⟨gP.cons aA,.inr (.inl ⟨by rw [en (by decide)]; exact bM,by rw [en (by decide)]; exact cJ,⟨x,h7,⟨fun t v r6 => ?_,?_,fZ,o8,jE,gW,nC,se,qA⟩⟩,fun _ => by simp only [an,reduceIte]⟩)⟩
      ·have := eR t v r6
       simp only [an]
       rw [if_neg (fun fE => by subst fE; cases r6),wV _ (fun fE => by subst fE; cases r6)]
       exact this
      ·simp only [an,Nat.reduceEqDiff,reduceIte]
       rw [wV _ (by decide)]; exact fi
     ·have hw := dL aA rfl
      obtain ⟨eR,fi,fZ,o8,jE,gW,nC,se,qA⟩ := Gc
      have g1 := afn (hw 6 rfl)
      have xr : an S.O (n + 3) = some (.box 63 (Ha m cs.length r)) := (gW (n + 3) (by omega) (uo _ (by omega)) (by omega)).trans bP
      have bb := And.intro g1 (And.intro fi (And.intro xr fZ))
      refine cZ rfl fun bz aR => ?_;refine a2 bb ?_;refine bh ?_;refine aR _ ?_
      have aP : ∀ e ∈ gJ W x,e ≠ n + 3 := fun e he c1 => by
       subst c1
       rcases (nC _ he).1 with c9 | c9
       ·exact uo _ (by omega) c9
       ·omega
      refine ⟨gP.cons aA,.inr (.inr ⟨fun j aN => ?_,x,h7,⟨eR,?_,?_,o8,pf jE (Nat.le_refl _) fun e he => ?_,fun e he ar qm b8 => ?_,nC,se,qA⟩⟩)⟩
      ·by_cases h : j = 7
       ·subst h; exact wH _ _
       ·rw [en h]
        by_cases h : j = 6
        ·subst h; exact hw 6 rfl
        ·exact ba j (by omega)
      ·simp only [an,reduceIte]
      ·simp only [an,bq]; repeat rw [if_neg (by omega)]
       exact fZ
      ·have := aP e he
       simp only [an,bq]; repeat rw [if_neg (by omega)]
      ·simp only [an,bq]; repeat rw [if_neg (by omega)]
       exact gW e he ar qm
    ·rw [ec i0 (by simp at lp; omega)] at hs; cases hs
   ·skip
    rintro done S ⟨gP,⟨bM,_⟩ | ⟨_,cJ,_⟩ | ⟨_,x,h7,bu⟩⟩ ec
    ·rw [ec 5 (by decide)] at bM; cases bM
    ·rw [ec 7 (by decide)] at cJ; cases cJ
    ·have t4 := bu.base 4 _ rfl
     have t8 := bu.base 8 _ rfl
     have t26 := bu.base 26 _ rfl
     have t27 := bu.base 27 _ rfl
     have t28 := bu.base 28 _ rfl
     refine ⟨some ([4,8,26,27,28],none),x,h7,j1 S.O,S.n,?_,?_⟩
     ·show ak.mk (eL S.T [4,8,26,27,28]) _ _ = _
      simp only [ak.e1,eL,t4,t8,t26,t27,t28]
     ·obtain ⟨eR,fi,fZ,o8,jE,gW,nC,se,qA⟩ := bu
      have kU : ∀ e,an (j1 S.O) e = an S.O e := fun e => nc _ _
      refine ⟨fun t v r6 => ?_,(kU _).trans fi,(kU _).trans fZ,o8,pf jE (Nat.le_refl _) fun e he => kU e,fun e he ar qm b8 => (kU e).trans (gW e he ar qm b8),nC,se,qA⟩
      show an ((10,hg C (some s)) :: eL S.T [4,8,26,27,28]) t = some v
      simp only [eL,t4,t8,t26,t27,t28,an] at r6 ⊢
      repeat' split at r6
      all_goals first | (rename_i fE; subst fE; simp only [reduceIte,Nat.reduceEqDiff]; exact r6) | cases r6
   rintro bT ⟨x,h7,mK,fz,rfl,eR,fi,fZ,o8,jE,gW,nC,se,qA⟩
   dsimp only at fi fZ jE gW qA
   refine ns _ (iP (some ([4,8,26,27,28],none)) _ (ai fun _ iO => ?_));refine ag 1 bc ?_;refine al bc ?_;refine iO _ ?_;refine gl (cs.length - (i + 1)) (some ([4,8,26,27,28],none)) _ ?_ ?_
   all_goals try refine dR ?_
   ·omega
   ·have Lg : ∀ e ∈ gJ W x,e < fz := fun e he => A7 jE he
    have LN : ∀ t ∈ cH,∀ e ∈ gJ W t,e < bG ∧ e ∉ W.ids s ∧ e ≠ r ∧ e ≠ n + 3 := fun t aL e he => by
     have af := A7 (bA.own.own t aL) he
     obtain ⟨c1,c9⟩ := bA.mj t aL e he
     exact ⟨af,fun hm => mU t aL e hm he,c9,by omega⟩
    have afY : ∀ e ∈ gJ W x,(e < n ∨ bG < e) ∧ e ≠ h7 := fun e he => by
     obtain ⟨c1 | c1,c9⟩ := nC e he
     ·exact ⟨.inl (nr e c1),c9⟩
     ·exact ⟨.inr c1,c9⟩
    refine ⟨i + 1,cH ++ [x],h7,_,_,by omega,by omega,rfl,⟨?_,⟨fun t aL => ?_,fun a b xO tb RN a5 aI e he => ?_⟩,fun j u aN hu => ⟨?_,(bA.rest j u (by omega) hu).2.1,fun t aL e he => ?_⟩,⟨by have := bA.c0.le; omega,fun e he ar => ?_,fun e he => ?_⟩,fun t aL e he => ?_,by omega,qA,?_,?_,fi,?_⟩⟩
    ·rw [show cs.take (i + 1) = cs.take i ++ [s] from by rw [List.take_add_one,ao]; rfl,List.map_append,List.map_append,List.map_append,bA.fY,List.map_cons,List.map_nil,o8]; rfl
    ·rcases List.mem_append.1 aL with aL | aL
     ·exact pf (bA.own.own t aL) (by omega) fun e he => by
       obtain ⟨af,aj,av,aY⟩ := LN t aL e he
       exact gW e af aj av aY
     ·rw [List.mem_singleton] at aL; subst aL; exact jE
    ·have RV : ∀ t ∈ cH,∀ e ∈ gJ W t,e ∉ gJ W x := fun t aL e he hm => by
      obtain ⟨af,aj,_⟩ := LN t aL e he
      rcases (nC e hm).1 with c1 | c1
      ·exact aj c1
      ·omega
     have KB : ∀ (a : Nat) (xO : dt C),(cH ++ [x])[a]? = some xO → (cH[a]? = some xO) ∨ (a = cH.length ∧ xO = x) := fun a xO a5 => by
      rcases Nat.lt_or_ge a cH.length with c1 | c1
      ·rw [List.getElem?_append_left c1] at a5; exact .inl a5
      ·rw [List.getElem?_append_right c1] at a5
       have c9 := (List.getElem?_eq_some_iff.1 a5).1
       have cJ : a - cH.length = 0 := by simp at c9; omega
       rw [cJ] at a5; cases a5; exact .inr ⟨by omega,rfl⟩
     rcases KB a xO a5 with af | ⟨af,rfl⟩
     ·rcases KB b tb aI with aj | ⟨aj,rfl⟩
      ·exact bA.own.ap a b xO tb RN af aj e he
      ·exact RV xO (List.mem_of_getElem? af) e he
     ·rcases KB b tb aI with aj | ⟨aj,rfl⟩
      ·exact fun hm => RV tb (List.mem_of_getElem? aj) e hm he
      ·omega
    ·obtain ⟨af,aj,av⟩ := bA.rest j u (by omega) hu
     refine W.to af (by omega) fun e he => gW e (by have := aj e he; omega) (fun hm => ax.ap i j s u (by omega) ao hu e hm he) (by have := aj e he; omega) (by have := aj e he; omega)
    ·obtain ⟨af,aj,av⟩ := bA.rest j u (by omega) hu
     rcases List.mem_append.1 aL with aL | aL
     ·exact av t aL e he
     ·rw [List.mem_singleton] at aL; subst aL
      intro hm
      rcases (nC e hm).1 with c1 | c1
      ·exact ax.ap i j s u (by omega) ao hu e c1 he
      ·have := aj e he; omega
    ·have Dl : e ∉ W.ids s := fun hm => ar (List.mem_flatMap.2 ⟨s,List.mem_of_getElem? ao,hm⟩)
     rw [gW e (by omega) Dl (by omega) (by omega)]
     exact bA.c0.old e he ar
    ·rw [List.flatMap_append] at he
     rcases List.mem_append.1 he with he | he
     ·exact bA.c0.new e he
     ·simp only [List.flatMap_cons,List.flatMap_nil,List.append_nil] at he
      rcases (nC e he).1 with c1 | c1
      ·exact .inl (List.mem_flatMap.2 ⟨s,List.mem_of_getElem? ao,c1⟩)
      ·exact .inr (by omega)
    ·rcases List.mem_append.1 aL with aL | aL
     ·obtain ⟨af,_,_,_⟩ := LN t aL e he
      exact ⟨(bA.mj t aL e he).1,by omega⟩
     ·rw [List.mem_singleton] at aL; subst aL
      obtain ⟨c1 | c1,c9⟩ := afY e he
      ·exact ⟨.inl c1,c9⟩
      ·exact ⟨.inr (by omega),c9⟩
    ·rw [gW n (by omega) (uo n (by omega)) (by omega) (by omega)]; exact a0
    ·rw [gW (n + 2) (by omega) (uo (n + 2) (by omega)) (by omega) (by omega)]; exact bH
    ·rw [List.map_append]; exact fZ
end
end Go.Proofs.YtkmbcjnaaokilaaGreatDoor
