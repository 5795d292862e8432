/-
  Layer 8 once more, for codes that have a part of one's own memory: Make.
-/
import Derived.Test.YtkmbcjnaaokilaaGreatDoorK12i
namespace Go.Proofs.YtkmbcjnaaokilaaGreatDoor
set_option linter.unusedSimpArgs false
set_option linter.unusedVariables false
open Go.RowKit Go.Maps
section
variable {C : dR} {W : h8 C}
def tG (W : h8 C) (cs : List C.ak) : List Nat := cs.flatMap W.ids
structure Gr (W : h8 C) (cs : List C.ak) (O : List (Nat × bl)) (n : Nat) : Prop where
 own : ∀ s ∈ cs,W.own s O n
 ap : ∀ (i j : Nat) (a b : C.ak),i ≠ j → cs[i]? = some a → cs[j]? = some b → ∀ e ∈ W.ids a,e ∉ W.ids b
abbrev E5 (m : e0) (N r : Nat) : List av := [.au 1 0 (m.mem.places.map rA),.au 1 0 (m.mem.views.map wE),.au 3 0 (m.lines.first.map dj),.au 2 0 (m.lines.eQ.map pb),.mp 3 fun t => (m.lines.asks t).map kR,.au 1 0 (m.steps.map tI),aI m.jR,.own r,.au 1 0 ((List.replicate N false).map u7)]
structure GD (W : h8 C) (m : e0) (cs : List C.ak) (J : bg → Env → Prop) (O : List (Nat × bl)) (n i : Nat) (cB : List (ds C)) (r : Nat) (c1 : List (Nat × bl)) (bM : Nat) : Prop where
 fL : cB.map (gQ W) = ((cs.take i).map (nf (C := C))).map (gQ W)
 own : jw W ⟨m,cB,[]⟩ c1 bM
 rest : ∀ (j : Nat) (s : C.ak),i ≤ j → cs[j]? = some s → W.own s c1 bM ∧ (∀ e ∈ W.ids s,e < n) ∧ ∀ t ∈ cB,∀ e ∈ W.ids s,e ∉ gE W t
 cS : jQ (tG W cs) (cB.flatMap (gE W)) O n c1 bM
 lK : ∀ t ∈ cB,∀ e ∈ gE W t,(e < n ∨ n + 4 ≤ e) ∧ e ≠ r
 et : n + 4 ≤ r
 dP : r < bM
 fC : al c1 n = some (.cq J)
 bQ : al c1 (n + 2) = some (.box 63 ri)
 gy : al c1 (n + 3) = some (.box 63 (E5 m cs.length r))
 row : al c1 r = some (.row 84 11 (cB.map gS))
theorem GD.len {m : e0} {cs : List C.ak} {J : bg → Env → Prop} {O c1 : List (Nat × bl)} {n i r bM : Nat} {cB : List (ds C)} (h : GD W m cs J O n i cB r c1 bM) (aq : i ≤ cs.length) : cB.length = i := by
 have := congrArg List.length h.fL
 simp at this; omega
def Wg (W : h8 C) (m : e0) (g : Nat) (cs : List C.ak) (J : bg → Env → Prop) (O : List (Nat × bl)) (n : Nat) (k : Nat) (S : ak) : Prop :=
 ∃ (i : Nat) (cB : List (ds C)) (r : Nat) (c1 : List (Nat × bl)) (bM : Nat),i ≤ cs.length ∧ k = cs.length - i ∧
  S = ⟨[(4,.ptr (n + 2) 0 0),(8,.ptr (n + 3) 0 0),(26,.au 1 g (cs.map (Al C))),(27,aI cs.length),(28,aI i)],c1,bM⟩ ∧ GD W m cs J O n i cB r c1 bM
structure Dl (W : h8 C) (s : C.ak) (O : List (Nat × bl)) (m : Nat) (x : ds C) (O' : List (Nat × bl)) (bI : Nat) : Prop where
 fL : gQ W x = gQ W (nf s)
 own : nQ W x O' bI
 cS : jQ (W.ids s) (gE W x) O m O' bI
theorem Dl.of {s : C.ak} {x : ds C} {O O' : List (Nat × bl)} {m bI pw : Nat} (af : gQ W x = gQ W (nf s)) (aj : nQ W x O' bI) (aw : jQ (W.ids s) (gE W x) O m O' bI) (bN : ∀ e ∈ W.ids s,e < pw) (a7 : pw ≤ m) : Dl W s O m x (dC O' m) bI :=
 ⟨af,ot aj (Nat.le_refl _) fun e he => (by
  rw [bn,if_neg]
  rcases aw.new e he with h | h
  ·have := bN e h; omega
  ·omega),⟨aw.le,fun e he ar => (by rw [bn,if_neg (by omega)]; exact aw.old e he ar),aw.new⟩⟩
abbrev JT (g n : Nat) (cs : List C.ak) (i : Nat) (s : C.ak) : List (Nat × av) := [(4,.ptr (n + 2) 0 0),(8,.ptr (n + 3) 0 0),(10,g3 C (some s)),(26,.au 1 g (cs.map (Al C))),(27,aI cs.length),(28,aI i)]
abbrev ae2 (n r : Nat) (s : C.ak) : List (Nat × (Nat × av)) := [(32,0,.ptr (n + 3) 0 7),(33,1,.own r),(34,2,g3 C (some s))]
abbrev ae3 (x : ds C) : List (Nat × (Nat × av)) := [(35,3,.agg (gS x)),(36,4,.au 11 0 [gS x])]
abbrev ae4 : List (List Nat) := [[],[0],[],[2],[3],[1,4,3],[0,1,2,3,4,5],[6,5,5,0,1,2,3,4,5]]
abbrev Qk (W : h8 C) (g n r : Nat) (cs : List C.ak) (i : Nat) (s : C.ak) (c1 : List (Nat × bl)) (bM : Nat) (done : List Nat) (S : ak) (x : ds C) : Prop :=
 iM (JT g n cs i s) (fun x => ae2 n r s ++ ae3 x) [4] 3 c1 bM (Dl W s c1 bM) done S x
structure Wf (W : h8 C) (g n r : Nat) (cs : List C.ak) (i : Nat) (s : C.ak) (cB : List (ds C)) (c1 : List (Nat × bl)) (bM : Nat) (S : ak) (x : ds C) (hV : Nat) : Prop where
 base : ∀ t v,al (JT g n cs i s) t = some v → al S.T t = some v
 v : al S.T 37 = some (.own hV)
 row : al S.O hV = some (.row 84 11 (cB.map gS ++ [gS x]))
 fL : gQ W x = gQ W (nf s)
 own : nQ W x S.O S.n
 cS : ∀ e,e < bM → e ∉ W.ids s → e ≠ r → al S.O e = al c1 e
 new : ∀ e ∈ gE W x,(e ∈ W.ids s ∨ bM < e) ∧ e ≠ hV
 et : bM ≤ hV
 dP : hV < S.n
structure MF (W : h8 C) (m : e0) (g n r : Nat) (cs : List C.ak) (i : Nat) (s : C.ak) (cB : List (ds C)) (c1 : List (Nat × bl)) (bM : Nat) (S : ak) (x : ds C) (hV : Nat) : Prop where
 base : ∀ t v,al (JT g n cs i s) t = some v → al S.T t = some v
 gn : al S.O (n + 3) = some (.box 63 (E5 m cs.length hV))
 row : al S.O hV = some (.row 84 11 (cB.map gS ++ [gS x]))
 fL : gQ W x = gQ W (nf s)
 own : nQ W x S.O S.n
 cS : ∀ e,e < bM → e ∉ W.ids s → e ≠ r → e ≠ n + 3 → al S.O e = al c1 e
 new : ∀ e ∈ gE W x,(e ∈ W.ids s ∨ bM < e) ∧ e ≠ hV
 et : bM ≤ hV
 dP : hV < S.n
theorem Ql {g n r i bM : Nat} {cs : List C.ak} {s : C.ak} {c1 : List (Nat × bl)} {done : List Nat} {S : ak} {x : ds C} (h : Qk W g n r cs i s c1 bM done S x) {e : Nat} {Y : bl} (af : e ∉ W.ids s) (aj : e < bM) (cU : al c1 e = some Y) : al S.O e = some Y := by
 cases az : done.contains 3 with
 | false => rw [(h.pre az).1]; exact cU
 | true => exact (h.post az).cS.at aj af cU
def Wa (cs : List C.ak) (O : List (Nat × bl)) (n : Nat) (W : h8 C) (w : cM C) (_ : bg → Env → Prop) (r : av) (O' : List (Nat × bl)) (bI : Nat) : Prop :=
 ∃ w',ff W w' = ff W w ∧ r = .bR [lI w',aI 0] ∧ jw W w' O' bI ∧ jQ (tG W cs) (hP W w') O n O' bI
set_option maxHeartbeats 8000000 in
set_option maxRecDepth 20000 in
theorem QE (m : e0) (g : Nat) (cs : List C.ak) (bj : m.mem.views.length ≤ 8) {k : Nat} (az : ∀ s ∈ cs,C.jy k s) (a7 : k ≤ 900) (Pc : cs.length ≤ m.mem.views.length) (O : List (Nat × bl)) (n : Nat) (ay : Gr W cs O n) :
  fv 43 [mA m,.au 1 g (cs.map (Al C))] O n (Wa cs O n W ⟨m,cs.map nf,List.replicate cs.length false⟩) := by
 refine xB Tryz.func43 ajG rfl fun J => ?_
 have hid := fE n
 have fU := oY C
 have b2 := BZ m
 have h : ¬ (m.mem.views.length : Int) < (cs.length : Int) := by omega
 have bL : cs.length ≤ 1000000 := by omega
 have cd : cs.length * 1 ≤ 140737488355328 := by omega
 have a2 : List.replicate cs.length [av.v (.bool false)] = (List.replicate cs.length false).map u7 := by simp
 have bN : ∀ s ∈ cs,∀ e ∈ W.ids s,e < n := fun s ao e he => W.lt (ay.own s ao) e he
 unfold S8 R1;delta ab aR aa aA
 have ad := And.intro @hid (And.intro @h (And.intro @bL (And.intro @cd (And.intro @fU @a2))))
 refine ae fun _ aK b6 _ => ai fun _ aG => ?_;refine an ad ?_;refine aG _ (aK (some ([1,2,4],none)) _ (ae fun _ aQ _ b5 => ae fun _ bG _ _ => ai fun _ bZ => ?_));refine ag 1 ad ?_;refine aL 1 ad ?_;refine Or.inl (Or.inl ⟨_,b2,?_⟩);refine an ad ?_;refine bZ _ (bG (some ([1,2,4,6],none)) _ (ae fun _ bp _ _ => ai fun _ bD => ?_));refine aU ad ?_;refine bD _ (bp (some ([1,2,4,19],none)) _ (bB (aQ (some ([1,2,4],none)) _ (ae fun _ ck _ _ => ?_))));refine hy [] (n := 6) fun bo aP => ?_;refine hv ?_;refine cR 1 ad ?_;refine cR 3 ad ?_;refine lJ ad ?_;refine aP _ ?_;refine hx ?_;refine aU ad ?_;refine ck (some ([1,4,8],none)) _ (ae fun _ ct _ _ => ae fun _ eW _ _ => ai fun _ ed => ?_);refine an ad ?_;refine ed _ (eW (some ([4,8,26,27,28],none)) _ ?_)
 refine cx fun _ _ xp _ _ => ?_;refine jS (Wg W m g cs J O n) (cs.length) (some ([4,8,26,27,28],none)) ([.cell (n + 3) 7 (some 84) 11]) ?_ ?_
 ·try refine eC ?_
  refine ⟨0,[],n + 4,_,_,by omega,by omega,aE ad,⟨rfl,⟨fun t aO => (by cases aO),fun i j gf uF _ aq => by simp at aq⟩,fun j s _ ao => ⟨W.to (ay.own s (List.mem_of_getElem? ao)) (by omega) fun e he => ?_,bN s (List.mem_of_getElem? ao),fun t aO => (by cases aO)⟩,⟨by omega,fun e he ar => ?_,fun e he => (by cases he)⟩,fun t aO => (by cases aO),by omega,by omega,?_,?_,?_,?_⟩⟩
  ·have := bN s (List.mem_of_getElem? ao) e he
   simp only [al,bn]; repeat rw [if_neg (by omega)]
  ·simp only [al,bn]; repeat rw [if_neg (by omega)]
  ·simp [al]
  ·simp [al]
  ·simp [al]
  ·simp [al]
 ·intro k b0 aY
  obtain ⟨i,cB,r,c1,bM,aq,rfl,rfl,bk⟩ := aY
  have iP := fE bM
  have b6 := bk.et
  have yT := bk.dP
  have d0 := c3 (n := bM) (d := n) (by omega)
  have d2 := c3 (n := bM) (d := n + 2) (by omega)
  have d3 := c3 (n := bM) (d := n + 3) (by omega)
  have ef := c3 (n := bM) (d := r) (by omega)
  have Z8 := c3 (n := r) (d := n) (by omega)
  have Z9 := c3 (n := r) (d := n + 2) (by omega)
  have aaa := c3 (n := r) (d := n + 3) (by omega)
  have a0 := bk.fC
  have bP := bk.bQ
  have cK := bk.gy
  have nV := bk.row
  have PH := bk.len aq
  have eF : i = cs.length ∨ i < cs.length := by omega
  intro _ gK _ lP
  rcases eF with dT | dT
  ·skip
   have cE : ¬ (i : Int) < (cs.length : Int) := by omega
   have aD := And.intro ad (And.intro @iP (And.intro @d0 (And.intro @d2 (And.intro @d3 (And.intro @ef (And.intro @Z8 (And.intro @Z9 (And.intro @aaa (And.intro @a0 (And.intro @bP (And.intro @cK (And.intro @nV @cE))))))))))))
   refine ae fun _ fy _ _ => ai fun _ eV => ?_;refine aU aD ?_;refine eV _ (fy (some ([4,8,26,27,28,29],none)) _ (ae fun _ _ _ tV => bB (tV 0 _ (lP 0 _ (xp _ (ct (some ([4,8],none)) _ (ae fun _ h4 _ _ => ai fun _ hJ => ?_)))))));refine ag 1 aD ?_;refine ag 1 aD ?_;refine an aD ?_;refine hJ _ (h4 (some ([4,5],none)) _ ?_)
   first | refine gd (aE aD) (aE aD) (aE aD) ?_ | refine gb (aE aD) (aE aD) (aE aD) ?_
   try dsimp only
   refine ⟨⟨m,cB,List.replicate cs.length false⟩,HA rfl (by rw [bk.fL,dT,List.take_of_length_le (Nat.le_refl _)]) rfl,rfl,kn (w := ⟨m,cB,List.replicate cs.length false⟩) ⟨bk.own.own,bk.own.ap⟩ (by omega) fun e he => ?_,⟨bk.cS.le,fun e he ar => ?_,fun e he => bk.cS.new e he⟩⟩
   ·obtain ⟨t,aO,het⟩ := xz.1 he
    obtain ⟨ch | ch,dY⟩ := bk.lK t aO e het
    ·simp only [al,bn]; repeat rw [if_neg (by omega)]
    ·simp only [al,bn]; repeat rw [if_neg (by omega)]
   ·simp only [al,bn]; repeat rw [if_neg (by omega)]
    exact bk.cS.old e he ar
  ·skip
   have cE : (i : Int) < (cs.length : Int) := by omega
   have dQ : IntKind.i64.wrap ((i : Int) + 1) = ((i + 1 : Nat) : Int) := by rw [IntKind.wrap_i64]; omega
   obtain ⟨s,ao⟩ : ∃ s,cs[i]? = some s := ⟨_,List.getElem?_eq_getElem dT⟩
   obtain ⟨uf,mK,mh⟩ := bk.rest i s (Nat.le_refl _) ao
   have cy := afC s (az s (List.mem_of_getElem? ao)) a7 c1 bM uf
   have vM : ∀ e,n ≤ e → e ∉ W.ids s := fun e af aj => absurd (mK e aj) (by omega)
   have hO : (cB.map gS).length + 1 ≤ 140737488355328 := by simp; omega
   have l7 : ((cB.map gS).length + 1) * 96 ≤ 140737488355328 := by simp; omega
   have bm := And.intro ad (And.intro @iP (And.intro @d0 (And.intro @d2 (And.intro @d3 (And.intro @ef (And.intro @a0 (And.intro @bP (And.intro @cK (And.intro @nV (And.intro @cE (And.intro @dQ (And.intro @ao @dT))))))))))))
   refine ae fun _ h5 _ _ => ai fun _ gr => ?_;refine aU bm ?_;refine gr _ (h5 (some ([4,8,26,27,28,29],none)) _ (ae fun _ ke _ _ => bY (ke (some ([4,8,26,27,28],none)) _ (ae fun _ iX _ _ => cx fun _ qd _ _ _ => ae fun _ kY _ _ => ai fun _ iU => ?_))));refine ag 1 bm ?_;refine ag 1 bm ?_;refine an bm ?_;refine iU _ (kY (some ([4,8,10,26,27,28],none)) _ ?_);refine sM ([]) (fun done S => o3 ae4 done ∧ ((done.contains 5 = false ∧ done.contains 6 = false ∧ done.contains 7 = false ∧ ∃ x,Qk W g n r cs i s c1 bM done S x) ∨ (done.contains 5 = true ∧ done.contains 7 = false ∧ (∃ x hV,Wf W g n r cs i s cB c1 bM S x hV) ∧ (done.contains 6 = true → al S.T 38 = some (.ptr (n + 3) 0 7))) ∨ ((∀ j,j < 8 → done.contains j = true) ∧ ∃ x hV,MF W m g n r cs i s cB c1 bM S x hV))) (fun S => ∃ x hV mr fV,S = ⟨[(4,.ptr (n + 2) 0 0),(8,.ptr (n + 3) 0 0),(26,.au 1 g (cs.map (Al C))),(27,aI cs.length),(28,aI i)],mr,fV⟩ ∧ MF W m g n r cs i s cB c1 bM ⟨(10,g3 C (some s)) :: S.T,mr,fV⟩ x hV) ?_ ?_ ?_ ?_
   ·skip
    refine ⟨sK _,.inl ⟨rfl,rfl,rfl,nf s,iM.init (fun t v h => ?_) ?_ ?_⟩⟩
    ·simp only [al] at h
     simp only [ak.gw,ak.eH,en,al,reduceIte,Nat.reduceEqDiff]
     repeat' split at h
     all_goals first | (rename_i gH; subst gH; exact h) | cases h
    ·rfl
    ·rfl
   ·skip
    intro done S i0 ⟨gz,aY⟩ ax
    have j9 := tc ax
    have gk := td ax
    have eF : i0 = 0 ∨ i0 = 1 ∨ i0 = 2 ∨ i0 = 3 ∨ i0 = 4 ∨ i0 = 5 ∨ i0 = 6 ∨ i0 = 7 := by simp at j9; omega
    rcases aY with ⟨bF,bH,cA,x,aY⟩ | ⟨bF,cA,⟨x,hV,yI⟩,abU⟩ | ⟨dM,_⟩
    ·have G7 := aY.base 8 _ rfl
     have Ab := aY.base 10 _ rfl
     have vK := Ql aY (vM (n + 3) (by omega)) (by omega) cK
     have ae7 := Ql aY (vM r (by omega)) yT nV
     have cr := fun t j v h aj => aY.jz t j v h aj
     rcases eF with rfl | rfl | rfl | rfl | rfl | rfl | rfl | rfl
     ·skip
      have a5 := And.intro G7 vK
      refine cn rfl fun bo aP => ?_;refine aT a5 ?_;refine aP _ ?_
      exact ⟨gz.cons ax,.inl ⟨by rw [cZ (by decide)]; exact bF,by rw [cZ (by decide)]; exact bH,by rw [cZ (by decide)]; exact cA,x,aY.put (i := 0) (t := 32) rfl rfl rfl (by decide) (fun h => by cases h)⟩⟩
     ·skip
      have hw := dg ax rfl
      have g1 := cr 32 0 _ rfl (hw 0 rfl)
      have a5 := And.intro g1 vK
      refine cn rfl fun bo aP => ?_;refine aT a5 ?_;refine bd ?_;refine aP _ ?_
      exact ⟨gz.cons ax,.inl ⟨by rw [cZ (by decide)]; exact bF,by rw [cZ (by decide)]; exact bH,by rw [cZ (by decide)]; exact cA,x,aY.put (i := 1) (t := 33) rfl rfl rfl (by decide) (fun h => by cases h)⟩⟩
     ·skip
      have a5 := And.intro fU Ab
      refine cn rfl fun bo aP => ?_;refine aT a5 ?_;refine aP _ ?_
      exact ⟨gz.cons ax,.inl ⟨by rw [cZ (by decide)]; exact bF,by rw [cZ (by decide)]; exact bH,by rw [cZ (by decide)]; exact cA,x,aY.put (i := 2) (t := 34) rfl rfl rfl (by decide) (fun h => by cases h)⟩⟩
     ·have hw := dg ax rfl
      have g1 := cr 34 2 _ rfl (hw 2 rfl)
      obtain ⟨u0,jv,jJ⟩ := S
      obtain ⟨a2,a8⟩ := aY.pre gk
      dsimp only at a2 a8
      subst a2 a8
      dsimp only at g1
      refine cn rfl fun bo aP => ?_;refine Or.inr (ia cy (by simp only [ak.kj,ak.bf,g1,Option.map_some,Option.bind_some,fU]) fun tp ik zX BS mC => ?_)
      obtain ⟨m0,bL,rfl,cd,dV⟩ := mC
      refine aP _ ?_
      exact ⟨gz.cons ax,.inl ⟨by rw [cZ (by decide)]; exact bF,by rw [cZ (by decide)]; exact bH,by rw [cZ (by decide)]; exact cA,m0,aY.call2 (t := 35) gk rfl rfl rfl rfl (Dl.of bL cd dV mK (by omega))⟩⟩
     ·skip
      have hw := dg ax rfl
      have g1 := cr 35 3 _ rfl (hw 3 rfl)
      have a5 := And.intro fU g1
      refine cn rfl fun bo aP => ?_;refine aT a5 ?_;refine bd ?_;refine aP _ ?_
      exact ⟨gz.cons ax,.inl ⟨by rw [cZ (by decide)]; exact bF,by rw [cZ (by decide)]; exact bH,by rw [cZ (by decide)]; exact cA,x,aY.put (i := 4) (t := 36) rfl rfl rfl (by decide) (fun _ => hw 3 rfl)⟩⟩
     ·have hw := dg ax rfl
      have g1 := cr 33 1 _ rfl (hw 1 rfl)
      have bQ := cr 36 4 _ rfl (hw 4 rfl)
      obtain ⟨eJ,fu,fM⟩ := aY.post (hw 3 rfl)
      have hle := fM.le
      have a5 := And.intro iP (And.intro g1 (And.intro bQ (And.intro ae7 (And.intro hO l7))))
      refine cn rfl fun bo aP => ?_;refine aT a5 ?_;refine bd ?_;refine aP _ ?_
      have IY : ∀ e ∈ gE W x,e < S.n := fun e he => zu fu he
      have adr : ∀ e ∈ gE W x,e ≠ r := fun e he ch => by
       subst ch
       rcases fM.new e he with dY | dY
       ·exact vM e (by omega) dY
       ·omega
      refine ⟨gz.cons ax,.inr (.inl ⟨ry _ _,by rw [cZ (by decide)]; exact cA,⟨x,S.n,⟨fun t v q0 => ?_,?_,?_,eJ,ot fu (Nat.le_succ _) fun e he => ?_,fun e he ar pg => ?_,fun e he => ⟨fM.new e he,by have := IY e he; omega⟩,hle,Nat.lt_succ_self _⟩⟩,fun h => by rw [cZ (by decide),bH] at h; cases h⟩)⟩
      ·have := aY.base t v q0
       simp only [al]
       rw [if_neg (fun gH => by subst gH; cases q0),vh _ (fun gH => by subst gH; cases q0)]
       exact this
      ·simp only [al,reduceIte]
      ·simp only [al,reduceIte]
      ·have af := IY e he
       have aj := adr e he
       simp only [al,bn]; repeat rw [if_neg (by omega)]
      ·simp only [al,bn]; repeat rw [if_neg (by omega)]
       exact fM.old e he ar
     ·have hw := dg ax rfl
      rw [hw 5 rfl] at bF; cases bF
     ·have hw := dg ax rfl
      rw [hw 6 rfl] at bH; cases bH
    ·have bb : ∀ j,j < 6 → done.contains j = true := fun j aM => by
      have hO := gz 5 _ bF rfl
      have gm := gz 4 _ (hO 4 rfl) rfl
      have dQ := gz 3 _ (gm 3 rfl) rfl
      have fh := gz 1 _ (hO 1 rfl) rfl
      have : j = 0 ∨ j = 1 ∨ j = 2 ∨ j = 3 ∨ j = 4 ∨ j = 5 := by omega
      rcases this with rfl | rfl | rfl | rfl | rfl | rfl
      ·exact fh 0 rfl
      ·exact hO 1 rfl
      ·exact dQ 2 rfl
      ·exact gm 3 rfl
      ·exact hO 4 rfl
      ·exact bF
     have G7 := yI.base 8 _ rfl
     have aah : i0 = 6 ∨ i0 = 7 := by
      rcases Nat.lt_or_ge i0 6 with h | h
      ·rw [bb i0 h] at gk; cases gk
      ·simp at j9; omega
     rcases aah with rfl | rfl
     ·have vK : al S.O (n + 3) = some (.box 63 (E5 m cs.length r)) := (yI.cS (n + 3) (by omega) (vM _ (by omega)) (by omega)).trans cK
      have a5 := And.intro G7 vK
      refine cn rfl fun bo aP => ?_;refine aT a5 ?_;refine aP _ ?_
      obtain ⟨eJ,fu,fM,oi,k4,hg,nK,y5,vQ⟩ := yI
      refine ⟨gz.cons ax,.inr (.inl ⟨by rw [cZ (by decide)]; exact bF,by rw [cZ (by decide)]; exact cA,⟨x,hV,⟨fun t v q0 => ?_,?_,fM,oi,k4,hg,nK,y5,vQ⟩⟩,fun _ => by simp only [al,reduceIte]⟩)⟩
      ·have := eJ t v q0
       simp only [al]
       rw [if_neg (fun gH => by subst gH; cases q0),vh _ (fun gH => by subst gH; cases q0)]
       exact this
      ·simp only [al,Nat.reduceEqDiff,reduceIte]
       rw [vh _ (by decide)]; exact fu
     ·have hw := dg ax rfl
      obtain ⟨eJ,fu,fM,oi,k4,hg,nK,y5,vQ⟩ := yI
      have g1 := abU (hw 6 rfl)
      have vK : al S.O (n + 3) = some (.box 63 (E5 m cs.length r)) := (hg (n + 3) (by omega) (vM _ (by omega)) (by omega)).trans cK
      have a5 := And.intro g1 (And.intro fu (And.intro vK fM))
      refine cn rfl fun bo aP => ?_;refine aT a5 ?_;refine bd ?_;refine aP _ ?_
      have aQ : ∀ e ∈ gE W x,e ≠ n + 3 := fun e he ch => by
       subst ch
       rcases (nK _ he).1 with dY | dY
       ·exact vM _ (by omega) dY
       ·omega
      refine ⟨gz.cons ax,.inr (.inr ⟨fun j aM => ?_,x,hV,⟨eJ,?_,?_,oi,ot k4 (Nat.le_refl _) fun e he => ?_,fun e he ar pg b5 => ?_,nK,y5,vQ⟩⟩)⟩
      ·by_cases h : j = 7
       ·subst h; exact ry _ _
       ·rw [cZ h]
        by_cases h : j = 6
        ·subst h; exact hw 6 rfl
        ·exact bb j (by omega)
      ·simp only [al,reduceIte]
      ·simp only [al,bn]; repeat rw [if_neg (by omega)]
       exact fM
      ·have := aQ e he
       simp only [al,bn]; repeat rw [if_neg (by omega)]
      ·simp only [al,bn]; repeat rw [if_neg (by omega)]
       exact hg e he ar pg
    ·rw [dM i0 (by simp at j9; omega)] at gk; cases gk
   ·skip
    rintro done S ⟨gz,⟨bF,_⟩ | ⟨_,cA,_⟩ | ⟨_,x,hV,bs⟩⟩ dM
    ·rw [dM 5 (by decide)] at bF; cases bF
    ·rw [dM 7 (by decide)] at cA; cases cA
    ·have t4 := bs.base 4 _ rfl
     have t8 := bs.base 8 _ rfl
     have t26 := bs.base 26 _ rfl
     have t27 := bs.base 27 _ rfl
     have t28 := bs.base 28 _ rfl
     refine ⟨some ([4,8,26,27,28],none),x,hV,je S.O,S.n,?_,?_⟩
     ·show ak.mk (en S.T [4,8,26,27,28]) _ _ = _
      simp only [ak.eH,en,t4,t8,t26,t27,t28]
     ·obtain ⟨eJ,fu,fM,oi,k4,hg,nK,y5,vQ⟩ := bs
      have iY : ∀ e,al (je S.O) e = al S.O e := fun e => me _ _
      refine ⟨fun t v q0 => ?_,(iY _).trans fu,(iY _).trans fM,oi,ot k4 (Nat.le_refl _) fun e he => iY e,fun e he ar pg b5 => (iY e).trans (hg e he ar pg b5),nK,y5,vQ⟩
      show al ((10,g3 C (some s)) :: en S.T [4,8,26,27,28]) t = some v
      simp only [en,t4,t8,t26,t27,t28,al] at q0 ⊢
      repeat' split at q0
      all_goals first | (rename_i gH; subst gH; simp only [reduceIte,Nat.reduceEqDiff]; exact q0) | cases q0
   rintro b0 ⟨x,hV,mr,fV,rfl,eJ,fu,fM,oi,k4,hg,nK,y5,vQ⟩
   dsimp only at fu fM k4 hg vQ
   refine qd _ (iX (some ([4,8,26,27,28],none)) _ (ai fun _ iV => ?_));refine ag 1 bm ?_;refine an bm ?_;refine iV _ ?_;refine gK (cs.length - (i + 1)) (some ([4,8,26,27,28],none)) _ ?_ ?_
   all_goals try refine eC ?_
   ·omega
   ·have IY : ∀ e ∈ gE W x,e < fV := fun e he => zu k4 he
    have Jq : ∀ t ∈ cB,∀ e ∈ gE W t,e < bM ∧ e ∉ W.ids s ∧ e ≠ r ∧ e ≠ n + 3 := fun t aO e he => by
     have af := zu (bk.own.own t aO) he
     obtain ⟨ch,dY⟩ := bk.lK t aO e he
     exact ⟨af,fun hm => mh t aO e hm he,dY,by omega⟩
    have acp : ∀ e ∈ gE W x,(e < n ∨ bM < e) ∧ e ≠ hV := fun e he => by
     obtain ⟨ch | ch,dY⟩ := nK e he
     ·exact ⟨.inl (mK e ch),dY⟩
     ·exact ⟨.inr ch,dY⟩
    refine ⟨i + 1,cB ++ [x],hV,_,_,by omega,by omega,rfl,⟨?_,⟨fun t aO => ?_,fun a b v8 tb OZ aZ aJ e he => ?_⟩,fun j u aM hu => ⟨?_,(bk.rest j u (by omega) hu).2.1,fun t aO e he => ?_⟩,⟨by have := bk.cS.le; omega,fun e he ar => ?_,fun e he => ?_⟩,fun t aO e he => ?_,by omega,vQ,?_,?_,fu,?_⟩⟩
    ·rw [show cs.take (i + 1) = cs.take i ++ [s] from by rw [List.take_add_one,ao]; rfl,List.map_append,List.map_append,List.map_append,bk.fL,List.map_cons,List.map_nil,oi]; rfl
    ·rcases List.mem_append.1 aO with aO | aO
     ·exact ot (bk.own.own t aO) (by omega) fun e he => by
       obtain ⟨af,aj,aw,aV⟩ := Jq t aO e he
       exact hg e af aj aw aV
     ·rw [List.mem_singleton] at aO; subst aO; exact k4
    ·have O7 : ∀ t ∈ cB,∀ e ∈ gE W t,e ∉ gE W x := fun t aO e he hm => by
      obtain ⟨af,aj,_⟩ := Jq t aO e he
      rcases (nK e hm).1 with ch | ch
      ·exact aj ch
      ·omega
     have Io : ∀ (a : Nat) (v8 : ds C),(cB ++ [x])[a]? = some v8 → (cB[a]? = some v8) ∨ (a = cB.length ∧ v8 = x) := fun a v8 aZ => by
      rcases Nat.lt_or_ge a cB.length with ch | ch
      ·rw [List.getElem?_append_left ch] at aZ; exact .inl aZ
      ·rw [List.getElem?_append_right ch] at aZ
       have dY := (List.getElem?_eq_some_iff.1 aZ).1
       have cA : a - cB.length = 0 := by simp at dY; omega
       rw [cA] at aZ; cases aZ; exact .inr ⟨by omega,rfl⟩
     rcases Io a v8 aZ with af | ⟨af,rfl⟩
     ·rcases Io b tb aJ with aj | ⟨aj,rfl⟩
      ·exact bk.own.ap a b v8 tb OZ af aj e he
      ·exact O7 v8 (List.mem_of_getElem? af) e he
     ·rcases Io b tb aJ with aj | ⟨aj,rfl⟩
      ·exact fun hm => O7 tb (List.mem_of_getElem? aj) e hm he
      ·omega
    ·obtain ⟨af,aj,aw⟩ := bk.rest j u (by omega) hu
     refine W.to af (by omega) fun e he => hg e (by have := aj e he; omega) (fun hm => ay.ap i j s u (by omega) ao hu e hm he) (by have := aj e he; omega) (by have := aj e he; omega)
    ·obtain ⟨af,aj,aw⟩ := bk.rest j u (by omega) hu
     rcases List.mem_append.1 aO with aO | aO
     ·exact aw t aO e he
     ·rw [List.mem_singleton] at aO; subst aO
      intro hm
      rcases (nK e hm).1 with ch | ch
      ·exact ay.ap i j s u (by omega) ao hu e ch he
      ·have := aj e he; omega
    ·have BI : e ∉ W.ids s := fun hm => ar (List.mem_flatMap.2 ⟨s,List.mem_of_getElem? ao,hm⟩)
     rw [hg e (by omega) BI (by omega) (by omega)]
     exact bk.cS.old e he ar
    ·rw [List.flatMap_append] at he
     rcases List.mem_append.1 he with he | he
     ·exact bk.cS.new e he
     ·simp only [List.flatMap_cons,List.flatMap_nil,List.append_nil] at he
      rcases (nK e he).1 with ch | ch
      ·exact .inl (List.mem_flatMap.2 ⟨s,List.mem_of_getElem? ao,ch⟩)
      ·exact .inr (by omega)
    ·rcases List.mem_append.1 aO with aO | aO
     ·obtain ⟨af,_,_,_⟩ := Jq t aO e he
      exact ⟨(bk.lK t aO e he).1,by omega⟩
     ·rw [List.mem_singleton] at aO; subst aO
      obtain ⟨ch | ch,dY⟩ := acp e he
      ·exact ⟨.inl ch,dY⟩
      ·exact ⟨.inr (by omega),dY⟩
    ·rw [hg n (by omega) (vM n (by omega)) (by omega) (by omega)]; exact a0
    ·rw [hg (n + 2) (by omega) (vM (n + 2) (by omega)) (by omega) (by omega)]; exact bP
    ·rw [List.map_append]; exact fM
end
end Go.Proofs.YtkmbcjnaaokilaaGreatDoor
