/-
  Layer 8 once more, for codes that have a part of one's own memory: tasks.
-/
import Derived.Test.YtkmbcjnaaokilaaGreatDoorMK17
import Derived.Test.YtkmbcjnaaokilaaGreatDoorMS
import Derived.Test.YtkmbcjnaaokilaaGreatDoorK12e
namespace Go.Proofs.YtkmbcjnaaokilaaGreatDoor
set_option linter.unusedSimpArgs false
set_option linter.unusedVariables false
open Go.RowKit Go.Maps
structure kq (ids LW : List Nat) (O : List (Nat × bo)) (n : Nat) (O' : List (Nat × bo)) (bO : Nat) : Prop where
 le : n ≤ bO
 old : ∀ e,e < n → e ∉ ids → an O' e = an O e
 new : ∀ e ∈ LW,e ∈ ids ∨ n < e
theorem kq.at {ids LW : List Nat} {O O' : List (Nat × bo)} {n bO e : Nat} {X : bo} (h : kq ids LW O n O' bO) (he : e < n) (ar : e ∉ ids) (cC : an O e = some X) : an O' e = some X := by
 rw [h.old e he ar]; exact cC
structure iz (C : ed) where
 ids : C.ak → List Nat
 own : C.ak → List (Nat × bo) → Nat → Prop
 fY : C.ak → C.ak
 lt : ∀ {s O n},own s O n → ∀ e ∈ ids s,e < n
 to : ∀ {s O n O' bO},own s O n → n ≤ bO → (∀ e ∈ ids s,an O' e = an O e) → own s O' bO
 Kd : ∀ {a b n},fY a = fY b → C.jB n a → C.jB n b
 o7 : ∀ {a b} (g : ei),fY a = fY b → fY (C.next a g).1 = fY (C.next b g).1 ∧ (C.next a g).2 = (C.next b g).2
 step : ∀ {n s} (g : ei),C.jB n s → n ≤ 900 → ∃ t x f,C.enc s = .ds t x ∧ sy t "Next" f ∧ Enters f ∧ ∀ O n,own s O n → gg f [x,.agg (kR g)] O n (fun _ r O' bO =>
  ∃ dH,fY dH = fY (C.next s g).1 ∧ r = .bY [C.enc dH,.agg (qf (C.next s g).2.1),eA (C.next s g).2.2] ∧ own dH O' bO ∧ kq (ids s) (ids dH) O n O' bO)
section
variable {C : ed} (W : iz C)
def gJ (t : dt C) : List Nat := match t.code with
 | some s => W.ids s
 | none => []
def oK (t : dt C) (O : List (Nat × bo)) (n : Nat) : Prop := ∀ s,t.code = some s → W.own s O n
def g2 (t : dt C) : dt C := { t with code := t.code.map W.fY }
end
section
variable {C : ed} {W : iz C}
theorem JQ {t u : dt C} {s dH : C.ak} {a : dJ} {b : Bool} (aL : t.fc = u.fc) (ao : W.fY s = W.fY dH) : g2 W (jG t s a b) = g2 W (jG u dH a b) := by
 unfold jG g2
 split
 ·simp [ao,aL]
 ·simp [ao,aL]
theorem Xl {t : dt C} {s : C.ak} {a : dJ} {b : Bool} : gJ W (jG t s a b) = W.ids s := by unfold jG gJ; cases b <;> rfl
theorem Xm {t : dt C} {s : C.ak} {a : dJ} {b : Bool} {O : List (Nat × bo)} {n : Nat} (h : W.own s O n) : oK W (jG t s a b) O n := by
 intro dH yY
 unfold jG at yY
 split at yY <;> (cases yY; exact h)
theorem Tt {s : C.ak} {O : List (Nat × bo)} {n e : Nat} (h : W.own s O n) (he : n ≤ e) : e ∉ W.ids s := fun hm => absurd (W.lt h e hm) (by omega)
def PK (ids : List Nat) (O : List (Nat × bo)) (n : Nat) (W : iz C) (t : dt C) (_ : bl → Env → Prop) (r : aw) (O' : List (Nat × bo)) (bO : Nat) : Prop :=
 ∃ t',g2 W t' = g2 W t ∧ r = .agg (g3 t') ∧ oK W t' O' bO ∧ kq ids (gJ W t') O n O' bO
abbrev Ih : List aw := [.v .nilIface,.v .nilFunc,aG 0,aG 0,aG 0,gk 0,gk 0,aG 0,gk 0,gk 0,.au 4 0 []]
set_option maxHeartbeats 4000000 in
theorem ajc (s : C.ak) {k : Nat} (ao : C.jB k s) (az : k ≤ 900) (O : List (Nat × bo)) (n : Nat) (ax : W.own s O n) : gg 67 [hg C (some s)] O n (PK (W.ids s) O n W (nX s)) := by
 refine oF Tryz.func67 anl rfl fun J => ?_
 have hid := fG n
 obtain ⟨ty,x,f,he,hm,bL,nt⟩ := W.step e9 ao az
 have kg : hg C (some s) = .ds ty x := he
 have fo := pa C
 have vv : W.own s ((n + 1,.box 84 Ih) :: (n,.cB J) :: O) (n + 2) := W.to ax (by omega) fun e he => by have := W.lt ax e he; simp only [an]; repeat rw [if_neg (by omega)]
 have de := fun dH => TS (v9 C) dH (C.next s e9).2.1 (C.next s e9).2.2
 rw [kg]
 unfold Wm Ve;delta ab aQ aa
 have ad := And.intro @fo @hid
 refine ae fun _ aK _ _ => ai fun _ aH => ?_;refine al ad ?_;refine aH _ (aK (some ([0,2],none)) _ (ae fun _ aP _ _ => ae fun _ bI _ _ => ai fun _ b0 => ?_));refine aM 1 ad ?_;refine al ad ?_;refine Or.inl ⟨_,Am ye,?_⟩;refine b0 _ (bI (some ([0,2,4],none)) _ (bs (aP (some ([0,2],none)) _ (ae fun _ bp _ _ => ai fun _ bE => ?_))));refine aM 3 ad ?_;refine aM 1 ad ?_;refine Or.inr (B0 (nt _ _ vv) (hm) (bL) (aF ad) (aF ad) (fun EV HA EW lZ u9 => ?_))
 obtain ⟨dH,yY,rfl,Co,bu⟩ := u9
 dsimp only at Co bu
 have gA := bu.at (e := n) (X := .cB J) (by omega) (Tt ax (by omega)) (aF ad)
 have g1 := bu.at (e := n + 1) (X := .box 84 Ih) (by omega) (Tt ax (by omega)) (aF ad)
 have Cw : C.enc dH = hg C (some dH) := rfl
 have aD := And.intro ad (And.intro @gA (And.intro @g1 @Cw))
 refine aM 3 aD ?_;refine aM 1 aD ?_;refine Or.inl (Or.inl ⟨_,de dH,?_⟩);refine aS aD ?_;refine bE _ (bp (some ([2],none)) _ ?_)
 first | refine gv (aF aD) (aF aD) (aF aD) ?_ | refine gu (aF aD) (aF aD) (aF aD) ?_
 try dsimp only
 refine ⟨_,JQ (t := v9 C) (u := v9 C) (s := dH) rfl yY,rfl,Xm (W.to Co (by omega) fun e he => ?_),⟨by have := bu.le; omega,fun e he ar => ?_,fun e he => ?_⟩⟩
 ·rcases bu.new e he with h | h
  ·have := W.lt ax e h; simp only [an,bq]; repeat rw [if_neg (by omega)]
  ·simp only [an,bq]; repeat rw [if_neg (by omega)]
 ·simp only [an,bq]; repeat rw [if_neg (by omega)]
  rw [bu.old e (by omega) ar]
  simp only [an]; repeat rw [if_neg (by omega)]
 ·rw [Xl] at he
  rcases bu.new e he with h | h
  ·exact .inl h
  ·exact .inr (by omega)
structure ES (W : iz C) (s : C.ak) (g : ei) (O : List (Nat × bo)) (m : Nat) (x : C.ak) (O' : List (Nat × bo)) (bO : Nat) : Prop where
 fY : W.fY x = W.fY (C.next s g).1
 own : W.own x O' bO
 c0 : kq (W.ids s) (W.ids x) O m O' bO
theorem ES.of {W : iz C} {s : C.ak} {g : ei} {O O' : List (Nat × bo)} {m bO xu : Nat} {x : C.ak} (af : W.fY x = W.fY (C.next s g).1) (aj : W.own x O' bO) (av : kq (W.ids s) (W.ids x) O m O' bO) (bQ : ∀ e ∈ W.ids s,e < xu) (a9 : xu ≤ m) : ES W s g O m x (ef O' m) bO :=
 ⟨af,W.to aj (Nat.le_refl _) fun e he => (by
  rw [bq,if_neg]
  rcases av.new e he with h | h
  ·have := bQ e h; omega
  ·omega),⟨av.le,fun e he ar => (by rw [bq,if_neg (by omega)]; exact av.old e he ar),av.new⟩⟩
structure YO (W : iz C) (s : C.ak) (g : ei) (t1 : dt C) (J : bl → Env → Prop) (O : List (Nat × bo)) (n : Nat) (S : ak) (x : C.ak) : Prop where
 p : an S.T 4 = some (.ptr (n + 3) 0 0)
 v : an S.T 25 = some (.agg (g3 (jG t1 x (C.next s g).2.1 (C.next s g).2.2)))
 wE : an S.O (n + 3) = some (.box 84 Ih)
 cB : an S.O n = some (.cB J)
 fY : W.fY x = W.fY (C.next s g).1
 own : W.own x S.O S.n
 c0 : kq (W.ids s) (W.ids x) O n S.O S.n
 mj : ∀ e ∈ W.ids x,e < n ∨ n + 5 ≤ e
 le : n + 5 ≤ S.n
structure Po (W : iz C) (s : C.ak) (g : ei) (t1 : dt C) (J : bl → Env → Prop) (O : List (Nat × bo)) (n : Nat) (S : ak) (x : C.ak) : Prop where
 p : an S.T 4 = some (.ptr (n + 3) 0 0)
 wE : an S.O (n + 3) = some (.box 84 (g3 (jG t1 x (C.next s g).2.1 (C.next s g).2.2)))
 cB : an S.O n = some (.cB J)
 fY : W.fY x = W.fY (C.next s g).1
 own : W.own x S.O S.n
 c0 : kq (W.ids s) (W.ids x) O n S.O S.n
abbrev RC (n : Nat) (ty : TypeId) (x : aw) (act : dJ) : List aw := [.ds ty x,.fn (.method "Next") [.ds ty x] [],aG act.op,aG act.place,aG act.old.val,gk act.old.eV,gk act.old.ref,aG act.new.val,gk act.new.eV,gk act.new.ref,.own (n + 4)]
abbrev Ci (J : bl → Env → Prop) (O : List (Nat × bo)) (n : Nat) (ty : TypeId) (x : aw) (act : dJ) (fc : List ei) (g : ei) : List (Nat × bo) :=
 (n + 1,.box 84 (RC n ty x act)) :: (n + 4,.row 100 4 (fc.map kR ++ [kR g])) :: (n + 3,.box 84 Ih) :: (n + 2,.box 100 (kR g)) :: (n,.cB J) :: ef O (n + 1)
theorem RB {J : bl → Env → Prop} {O : List (Nat × bo)} {n : Nat} {ty : TypeId} {x : aw} {act : dJ} {fc : List ei} {g : ei} {e : Nat} (he : e < n) : an (Ci J O n ty x act fc g) e = an O e := by
 simp only [an,bq]; repeat rw [if_neg (by omega)]
abbrev afb (n : Nat) (ty : TypeId) (x : aw) : List (Nat × aw) := [(2,.ptr (n + 1) 0 0),(3,.ptr (n + 2) 0 0),(4,.ptr (n + 3) 0 0),(5,.fn (.method "Next") [.ds ty x] [])]
abbrev afa (n : Nat) (ty : TypeId) (x : aw) (act : dJ) (g : ei) : List (Nat × (Nat × aw)) := [(18,0,.agg (RC n ty x act)),(19,1,.fn (.method "Next") [.ds ty x] []),(20,2,.agg (kR g))]
abbrev afc (a : dJ) (d : Bool) (dH : C.ak) : List (Nat × (Nat × aw)) := [(21,3,.bY [hg C (some dH),.agg (qf a),eA d]),(22,4,hg C (some dH)),(23,5,.agg (qf a)),(24,6,eA d)]
abbrev afd : List (List Nat) := [[],[],[],[1,2],[3],[3],[3],[0,4,5,6,3],[7,7,0,1,2,3,4,5,6,7]]
abbrev RA (W : iz C) (s : C.ak) (g : ei) (J : bl → Env → Prop) (O : List (Nat × bo)) (n : Nat) (ty : TypeId) (x : aw) (act : dJ) (fc : List ei) (done : List Nat) (S : ak) (dH : C.ak) : Prop :=
 jh (afb n ty x) (fun dH => afa n ty x act g ++ afc (C := C) (C.next s g).2.1 (C.next s g).2.2 dH) [4,5,6] 3 (Ci J O n ty x act fc g) (n + 5) (ES W s g (Ci J O n ty x act fc g) (n + 5)) done S dH
theorem Cj {s : C.ak} {g : ei} {J : bl → Env → Prop} {O : List (Nat × bo)} {n : Nat} {ty : TypeId} {x : aw} {act : dJ} {fc : List ei} {done : List Nat} {S : ak} {dH : C.ak} (h : RA W s g J O n ty x act fc done S dH) (bQ : ∀ e ∈ W.ids s,e < n) {e : Nat} {X : bo} (af : n ≤ e) (aj : e < n + 5) (cC : an (Ci J O n ty x act fc g) e = some X) : an S.O e = some X := by
 cases aB : done.contains 3 with
 | false => rw [(h.pre aB).1]; exact cC
 | true => exact (h.post aB).c0.at aj (fun hm => absurd (bQ e hm) (by omega)) cC
set_option maxHeartbeats 8000000 in
set_option maxRecDepth 20000 in
theorem ajb (t : dt C) (g : ei) {k : Nat} (aL : tF t k) (az : k ≤ 900) (O : List (Nat × bo)) (n : Nat) (ax : oK W t O n) : gg 75 [.agg (g3 t),.agg (kR g)] O n (PK (gJ W t) O n W (jl t g)) := by
 refine xy Tryz.func75 anj rfl fun J => ?_
 have hid := fG n
 have fo := pa C
 have bX := Hj t
 obtain ⟨code,live,act,fc⟩ := t
 have ve := aL.fc
 simp only at ve
 cases live
 ·have e : jl ⟨code,false,act,fc⟩ g = ⟨code,false,act,fc⟩ := if_neg (by simp)
  rw [e]
  unfold N4 NA;delta ab aQ aa
  have ad := And.intro @fo @hid
  refine ae fun bD aK b9 ck => ai fun ca aH => ?_;refine al ad ?_;refine aH _ (aK (some ([2,3,4],none)) _ (ae fun cg aP bx b8 => ae fun ch bI dd dU => ai fun cM b0 => ?_));refine ag 1 ad ?_;refine al ad ?_;refine Or.inl (Or.inl ⟨_,bX,?_⟩);refine b0 _ (bI (some ([2,3,4,7],none)) _ (bU (ae fun cG bp c5 dn => ai fun cI bE => ?_)));refine ag 1 ad ?_;refine aS ad ?_;refine bE _ (bp (some ([4],none)) _ (bx _ ?_))
  first | refine gv (aF ad) (aF ad) (aF ad) ?_ | refine gu (aF ad) (aF ad) (aF ad) ?_
  try dsimp only
  refine ⟨_,rfl,rfl,fun s ao => W.to (ax s ao) (by omega) fun e he => ?_,⟨by omega,fun e he ar => ?_,fun e he => .inl he⟩⟩
  ·have := W.lt (ax s ao) e he
   simp only [an,bq]; repeat rw [if_neg (by omega)]
  ·simp only [an,bq]; repeat rw [if_neg (by omega)]
 ·obtain ⟨s,ao⟩ := aL.code rfl
  simp only at ao
  subst ao
  obtain ⟨ty,x,f,he,hm,bL,nt⟩ := W.step g (aL.jB s rfl) az
  have vx := ax s rfl
  have kg : hg C (some s) = .ds ty x := he
  have e : jl ⟨some s,true,act,fc⟩ g = jG ⟨some s,true,act,fc ++ [g]⟩ (C.next s g).1 (C.next s g).2.1 (C.next s g).2.2 := if_pos rfl
  rw [e]
  have a7 : iI C (some s) true = .fn (.method "Next") [.ds ty x] [] := by unfold iI; rw [if_pos rfl,kg]
  have de := fun dH => TS (⟨some s,true,act,fc ++ [g]⟩ : dt C) dH (C.next s g).2.1 (C.next s g).2.2
  have bQ := W.lt vx
  have agS : W.own s (Ci J O n ty x act fc g) (n + 5) := W.to vx (by omega) fun e he => RB (bQ e he)
  simp only [g3,kg,a7,List.map_append,List.map_cons,List.map_nil] at bX de ⊢
  have bJ : fc.length ≤ 1000000 := by omega
  have cf : (fc.length + 1) * 24 ≤ 140737488355328 := by omega
  unfold N4 NA;delta ab aQ aa
  have ad := And.intro @fo (And.intro @hid (And.intro @bJ @cf))
  refine ae fun bD aK b9 ck => ai fun ca aH => ?_;refine al ad ?_;refine aH _ (aK (some ([2,3,4],none)) _ (ae fun cg aP bx b8 => ae fun ch bI dd dU => ai fun cM b0 => ?_));refine ag 1 ad ?_;refine al ad ?_;refine Or.inl (Or.inl ⟨_,bX,?_⟩);refine b0 _ (bI (some ([2,3,4,7],none)) _ (bs (aP (some ([2,3,4],none)) _ (ae fun cG bp c5 dn => ai fun cI bE => ?_))));refine ag 2 ad ?_;refine al ad ?_;refine bE _ (bp (some ([2,3,4,5],none)) _ (ae fun _ cv _ _ => ?_));refine gh [] (n := 5) fun bz aR => ?_;refine gY ?_;refine cF 2 ad ?_;refine gd 1 ad ?_;refine ⟨_,ajy _ _,?_⟩;refine cF 1 ad ?_;refine og ad ?_;refine aR _ ?_;refine gZ ?_;refine ag 1 ad ?_;refine aS ad ?_;refine cv (some ([2,3,4,5],none)) _ (ae fun _ cr _ _ => ?_);refine u0 ([]) (fun done S => qI afd done ∧ ((done.contains 7 = false ∧ done.contains 8 = false ∧ ∃ dH,RA W s g J O n ty x act fc done S dH) ∨ (done.contains 7 = true ∧ done.contains 8 = false ∧ ∃ dH,YO W s g ⟨some s,true,act,fc ++ [g]⟩ J O n S dH) ∨ ((∀ i,i < 9 → done.contains i = true) ∧ ∃ dH,Po W s g ⟨some s,true,act,fc ++ [g]⟩ J O n S dH))) (fun S => ∃ dH cV bG,S = ⟨[(4,.ptr (n + 3) 0 0)],cV,bG⟩ ∧ Po W s g ⟨some s,true,act,fc ++ [g]⟩ J O n S dH) ?_ ?_ ?_ ?_
  ·skip
   refine ⟨uY _,.inl ⟨rfl,rfl,s,jh.init (fun t v h => ?_) ?_ ?_⟩⟩
   ·simp only [an] at h
    simp only [ak.gM,ak.e1,eL,an,reduceIte,Nat.reduceEqDiff]
    repeat' split at h
    all_goals first | (rename_i fE; subst fE; exact h) | cases h
   ·rfl
   ·rfl
  ·skip
   intro done S i0 ⟨aB,aW⟩ aA
   have lp := vS aA
   have hs := vT aA
   rcases aW with ⟨cJ,c9,dH,aW⟩ | ⟨cJ,c9,dH,bA⟩ | ⟨ec,_⟩
   ·have dv := aW.base 2 _ rfl
    have gL := aW.base 3 _ rfl
    have acV := aW.base 4 _ rfl
    have lQ := aW.base 5 _ rfl
    have oA := Cj aW bQ (e := n + 1) (by omega) (by omega) (aF ad)
    have tf := Cj aW bQ (e := n + 2) (by omega) (by omega) (aF ad)
    have xr := Cj aW bQ (e := n + 3) (by omega) (by omega) (aF ad)
    have aim := Cj aW bQ (e := n + 4) (by omega) (by omega) (aF ad)
    have DA := Cj aW bQ (e := n) (by omega) (by omega) (aF ad)
    have c3 := fun t j v h aj => aW.mm t j v h aj
    have dZ : i0 = 0 ∨ i0 = 1 ∨ i0 = 2 ∨ i0 = 3 ∨ i0 = 4 ∨ i0 = 5 ∨ i0 = 6 ∨ i0 = 7 ∨ i0 = 8 := by simp at lp; omega
    rcases dZ with rfl | rfl | rfl | rfl | rfl | rfl | rfl | rfl | rfl
    ·skip
     have bb := And.intro dv oA
     refine cZ rfl fun bz aR => ?_;refine a2 bb ?_;refine bh ?_;refine aR _ ?_
     exact ⟨aB.cons aA,.inl ⟨by rw [en (by decide)]; exact cJ,by rw [en (by decide)]; exact c9,dH,aW.put (i := 0) (t := 18) rfl rfl rfl (by decide) (fun h => by cases h)⟩⟩
    ·skip
     have bb := lQ
     refine cZ rfl fun bz aR => ?_;refine a2 bb ?_;refine aR _ ?_
     exact ⟨aB.cons aA,.inl ⟨by rw [en (by decide)]; exact cJ,by rw [en (by decide)]; exact c9,dH,aW.put (i := 1) (t := 19) rfl rfl rfl (by decide) (fun h => by cases h)⟩⟩
    ·skip
     have bb := And.intro gL tf
     refine cZ rfl fun bz aR => ?_;refine a2 bb ?_;refine bh ?_;refine aR _ ?_
     exact ⟨aB.cons aA,.inl ⟨by rw [en (by decide)]; exact cJ,by rw [en (by decide)]; exact c9,dH,aW.put (i := 2) (t := 20) rfl rfl rfl (by decide) (fun h => by cases h)⟩⟩
    ·have hw := dL aA rfl
     have g1 := c3 19 1 _ rfl (hw 1 rfl)
     have bW := c3 20 2 _ rfl (hw 2 rfl)
     obtain ⟨wu,j6,kk⟩ := S
     obtain ⟨a1,a7⟩ := aW.pre hs
     dsimp only at a1 a7
     subst a1 a7
     dsimp only at g1 bW
     have bb := And.intro g1 bW
     refine cZ rfl fun bz aR => ?_;refine Or.inr (JL (nt _ _ agS) (aF bb) (by simp only [ak.k0,ak.bg,bW,ak.res,Option.map_some,Option.bind_some]) (.inr ⟨"Next",ty,x,[],[],rfl,hm,bL,rfl⟩) fun wb xD j6 kk oo => ?_)
     obtain ⟨ala,bJ,rfl,cf,dA⟩ := oo
     refine aR _ ?_
     exact ⟨aB.cons aA,.inl ⟨by rw [en (by decide)]; exact cJ,by rw [en (by decide)]; exact c9,ala,aW.call2 (t := 21) hs rfl rfl rfl rfl (ES.of bJ cf dA bQ (by omega))⟩⟩
    ·skip
     have hw := dL aA rfl
     have g1 := c3 21 3 _ rfl (hw 3 rfl)
     have bb := And.intro fo g1
     refine cZ rfl fun bz aR => ?_;refine a2 bb ?_;refine aR _ ?_
     exact ⟨aB.cons aA,.inl ⟨by rw [en (by decide)]; exact cJ,by rw [en (by decide)]; exact c9,dH,aW.put (i := 4) (t := 22) rfl rfl rfl (by decide) (fun _ => hw 3 rfl)⟩⟩
    ·skip
     have hw := dL aA rfl
     have g1 := c3 21 3 _ rfl (hw 3 rfl)
     have bb := And.intro fo g1
     refine cZ rfl fun bz aR => ?_;refine a2 bb ?_;refine aR _ ?_
     exact ⟨aB.cons aA,.inl ⟨by rw [en (by decide)]; exact cJ,by rw [en (by decide)]; exact c9,dH,aW.put (i := 5) (t := 23) rfl rfl rfl (by decide) (fun _ => hw 3 rfl)⟩⟩
    ·skip
     have hw := dL aA rfl
     have g1 := c3 21 3 _ rfl (hw 3 rfl)
     have bb := And.intro fo g1
     refine cZ rfl fun bz aR => ?_;refine a2 bb ?_;refine aR _ ?_
     exact ⟨aB.cons aA,.inl ⟨by rw [en (by decide)]; exact cJ,by rw [en (by decide)]; exact c9,dH,aW.put (i := 6) (t := 24) rfl rfl rfl (by decide) (fun _ => hw 3 rfl)⟩⟩
    ·have hw := dL aA rfl
     have gA := c3 18 0 _ rfl (hw 0 rfl)
     have Cb := c3 22 4 _ rfl (hw 4 rfl)
     have u4 := c3 23 5 _ rfl (hw 5 rfl)
     have Cc := c3 24 6 _ rfl (hw 6 rfl)
     obtain ⟨eR,fi,fZ⟩ := aW.post (hw 3 rfl)
     have bb := And.intro fo (And.intro hid (And.intro gA (And.intro Cb (And.intro u4 (And.intro Cc (And.intro aim (Int.toNat_natCast)))))))
     refine cZ rfl fun bz aR => ?_;refine a2 bb ?_;refine Or.inl (Or.inl ⟨_,de dH,?_⟩);refine aR _ ?_
     have sU : ∀ e ∈ W.ids dH,e < n ∨ n + 5 ≤ e := fun e he => by
      rcases fZ.new e he with h | h
      ·exact .inl (bQ e h)
      ·exact .inr (by omega)
     refine ⟨aB.cons aA,.inr (.inl ⟨wH _ _,by rw [en (by decide)]; exact c9,dH,⟨?_,?_,?_,?_,eR,W.to fi (Nat.le_refl _) fun e he => ?_,⟨by show n ≤ S.n; have := fZ.le; omega,fun e he ar => ?_,fun e he => ?_⟩,sU,fZ.le⟩⟩)⟩
     ·simp only [an,wV,mR,Nat.reduceEqDiff,reduceIte,ne_eq,not_false_eq_true]; exact acV
     ·simp only [an,reduceIte]
     ·simp only [an,bq]; repeat rw [if_neg (by omega)]
      exact xr
     ·simp only [an,bq]; repeat rw [if_neg (by omega)]
      exact DA
     ·rcases sU e he with h | h
      ·simp only [an,bq]; repeat rw [if_neg (by omega)]
      ·simp only [an,bq]; repeat rw [if_neg (by omega)]
     ·simp only [an,bq]; repeat rw [if_neg (by omega)]
      rw [fZ.old e (by omega) ar,RB he]
     ·rcases fZ.new e he with h | h
      ·exact .inl h
      ·exact .inr (by omega)
    ·have hw := dL aA rfl
     rw [hw 7 rfl] at cJ; cases cJ
   ·have ba : ∀ j,j < 8 → done.contains j = true := fun j aN => by
     have km := aB 7 _ cJ rfl
     have dM := aB 3 _ (km 3 rfl) rfl
     have : j = 0 ∨ j = 1 ∨ j = 2 ∨ j = 3 ∨ j = 4 ∨ j = 5 ∨ j = 6 ∨ j = 7 := by omega
     rcases this with rfl | rfl | rfl | rfl | rfl | rfl | rfl | rfl
     ·exact km 0 rfl
     ·exact dM 1 rfl
     ·exact dM 2 rfl
     ·exact km 3 rfl
     ·exact km 4 rfl
     ·exact km 5 rfl
     ·exact km 6 rfl
     ·exact cJ
    have oc : i0 = 8 := by
     rcases Nat.lt_or_ge i0 8 with h | h
     ·rw [ba i0 h] at hs; cases hs
     ·simp at lp; omega
    subst oc
    have bb := And.intro fo (And.intro bA.p (And.intro bA.v bA.wE))
    refine cZ rfl fun bz aR => ?_;refine a2 bb ?_;refine bh ?_;refine aR _ ?_
    have hle := bA.le
    refine ⟨aB.cons aA,.inr (.inr ⟨fun i aq => ?_,dH,⟨bA.p,?_,?_,bA.fY,W.to bA.own (Nat.le_refl _) fun e he => ?_,⟨bA.c0.le,fun e he ar => ?_,bA.c0.new⟩⟩⟩)⟩
    ·by_cases h : i = 8
     ·subst h; exact wH _ _
     ·rw [en h]; exact ba i (by omega)
    ·simp only [an,reduceIte]
    ·simp only [an,bq]; repeat rw [if_neg (by omega)]
     exact bA.cB
    ·rcases bA.mj e he with h | h
     ·simp only [an,bq]; repeat rw [if_neg (by omega)]
     ·simp only [an,bq]; repeat rw [if_neg (by omega)]
    ·simp only [an,bq]; repeat rw [if_neg (by omega)]
     exact bA.c0.old e he ar
   ·rw [ec i0 (by simp at lp; omega)] at hs; cases hs
  ·skip
   rintro done S ⟨aB,⟨cJ,c9,_⟩ | ⟨cJ,c9,_⟩ | ⟨_,dH,bu⟩⟩ ec
   ·rw [ec 8 (by decide)] at c9; cases c9
   ·rw [ec 8 (by decide)] at c9; cases c9
   ·refine ⟨some ([4],none),dH,j1 S.O,S.n,?_,?_⟩
    ·show ak.mk (eL S.T [4]) _ _ = _
     simp only [ak.e1,eL,bu.p]
    ·obtain ⟨bS,bH,bP,a4,fs,hD⟩ := bu
     refine ⟨?_,by show an (j1 S.O) _ = _; rw [nc]; exact bH,by show an (j1 S.O) _ = _; rw [nc]; exact bP,a4,W.to fs (Nat.le_refl _) fun e he => nc _ _,⟨hD.le,fun e he ar => by show an (j1 S.O) _ = _; rw [nc]; exact hD.old e he ar,hD.new⟩⟩
     show an (eL S.T [4]) 4 = _
     simp only [eL,bS,an,reduceIte]
  rintro bT ⟨dH,cV,bG,rfl,bS,bH,bP,a4,fs,hD⟩
  dsimp only at bS bH bP fs hD
  have aD := And.intro ad (And.intro @bH @bP)
  refine cr (some ([4],none)) _ ?_
  first | refine gv (aF aD) (aF aD) (aF aD) ?_ | refine gu (aF aD) (aF aD) (aF aD) ?_
  try dsimp only
  exact ⟨_,JQ rfl a4,rfl,Xm fs,hD.le,hD.old,fun e he => by rw [Xl] at he; exact hD.new e he⟩
end
end Go.Proofs.YtkmbcjnaaokilaaGreatDoor
