/-
  Layer 8 once more, for codes that have a part of one's own memory: tasks.
-/
import Derived.Test.YtkmbcjnaaokilaaGreatDoorMK22
import Derived.Test.YtkmbcjnaaokilaaGreatDoorMS
import Derived.Test.YtkmbcjnaaokilaaGreatDoorK12e
namespace Go.Proofs.YtkmbcjnaaokilaaGreatDoor
set_option linter.unusedSimpArgs false
set_option linter.unusedVariables false
open Go.RowKit Go.Maps
structure jQ (ids Jx : List Nat) (O : List (Nat × bl)) (n : Nat) (O' : List (Nat × bl)) (bI : Nat) : Prop where
 le : n ≤ bI
 old : ∀ e,e < n → e ∉ ids → al O' e = al O e
 new : ∀ e ∈ Jx,e ∈ ids ∨ n < e
theorem jQ.at {ids Jx : List Nat} {O O' : List (Nat × bl)} {n bI e : Nat} {X : bl} (h : jQ ids Jx O n O' bI) (he : e < n) (ar : e ∉ ids) (cU : al O e = some X) : al O' e = some X := by
 rw [h.old e he ar]; exact cU
structure h8 (C : dR) where
 ids : C.ak → List Nat
 own : C.ak → List (Nat × bl) → Nat → Prop
 fL : C.ak → C.ak
 lt : ∀ {s O n},own s O n → ∀ e ∈ ids s,e < n
 to : ∀ {s O n O' bI},own s O n → n ≤ bI → (∀ e ∈ ids s,al O' e = al O e) → own s O' bI
 HY : ∀ {a b n},fL a = fL b → C.jy n a → C.jy n b
 oh : ∀ {a b} (g : dW),fL a = fL b → fL (C.next a g).1 = fL (C.next b g).1 ∧ (C.next a g).2 = (C.next b g).2
 step : ∀ {n s} (g : dW),C.jy n s → n ≤ 900 → ∃ t x f,C.enc s = .dr t x ∧ rr t "Next" f ∧ Enters f ∧ ∀ O n,own s O n → fv f [x,.agg (kz g)] O n (fun _ r O' bI =>
  ∃ dv,fL dv = fL (C.next s g).1 ∧ r = .bR [C.enc dv,.agg (pa (C.next s g).2.1),dH (C.next s g).2.2] ∧ own dv O' bI ∧ jQ (ids s) (ids dv) O n O' bI)
section
variable {C : dR} (W : h8 C)
def gE (t : ds C) : List Nat := match t.code with
 | some s => W.ids s
 | none => []
def nQ (t : ds C) (O : List (Nat × bl)) (n : Nat) : Prop := ∀ s,t.code = some s → W.own s O n
def gQ (t : ds C) : ds C := { t with code := t.code.map W.fL }
end
section
variable {C : dR} {W : h8 C}
theorem HB {t u : ds C} {s dv : C.ak} {a : dB} {b : Bool} (aO : t.e8 = u.e8) (ao : W.fL s = W.fL dv) : gQ W (jr t s a b) = gQ W (jr u dv a b) := by
 unfold jr gQ
 split
 ·simp [ao,aO]
 ·simp [ao,aO]
theorem T7 {t : ds C} {s : C.ak} {a : dB} {b : Bool} : gE W (jr t s a b) = W.ids s := by unfold jr gE; cases b <;> rfl
theorem T8 {t : ds C} {s : C.ak} {a : dB} {b : Bool} {O : List (Nat × bl)} {n : Nat} (h : W.own s O n) : nQ W (jr t s a b) O n := by
 intro dv xk
 unfold jr at xk
 split at xk <;> (cases xk; exact h)
theorem Qx {s : C.ak} {O : List (Nat × bl)} {n e : Nat} (h : W.own s O n) (he : n ≤ e) : e ∉ W.ids s := fun hm => absurd (W.lt h e hm) (by omega)
def MS (ids : List Nat) (O : List (Nat × bl)) (n : Nat) (W : h8 C) (t : ds C) (_ : bg → Env → Prop) (r : av) (O' : List (Nat × bl)) (bI : Nat) : Prop :=
 ∃ t',gQ W t' = gQ W t ∧ r = .agg (gS t') ∧ nQ W t' O' bI ∧ jQ ids (gE W t') O n O' bI
abbrev Gj : List av := [.v .nilIface,.v .nilFunc,aI 0,aI 0,aI 0,fX 0,fX 0,aI 0,fX 0,fX 0,.au 4 0 []]
set_option maxHeartbeats 4000000 in
theorem afC (s : C.ak) {k : Nat} (ao : C.jy k s) (aB : k ≤ 900) (O : List (Nat × bl)) (n : Nat) (ay : W.own s O n) : fv 67 [g3 C (some s)] O n (MS (W.ids s) O n W (nf s)) := by
 refine nJ Tryz.func67 ajH rfl fun J => ?_
 have hid := fE n
 obtain ⟨ty,x,f,he,hm,bK,mM⟩ := W.step e4 ao aB
 have jW : g3 C (some s) = .dr ty x := he
 have fU := oY C
 have ue : W.own s ((n + 1,.box 84 Gj) :: (n,.cq J) :: O) (n + 2) := W.to ay (by omega) fun e he => by have := W.lt ay e he; simp only [al]; repeat rw [if_neg (by omega)]
 have dn := fun dv => QS (uN C) dv (C.next s e4).2.1 (C.next s e4).2.2
 rw [jW]
 unfold S9 R2;delta ab aR aa
 have ad := And.intro @fU @hid
 refine ae fun _ aK _ _ => ai fun _ aG => ?_;refine an ad ?_;refine aG _ (aK (some ([0,2],none)) _ (ae fun _ aQ _ _ => ae fun _ bG _ _ => ai fun _ bZ => ?_));refine aL 1 ad ?_;refine an ad ?_;refine Or.inl ⟨_,yE wD,?_⟩;refine bZ _ (bG (some ([0,2,4],none)) _ (bB (aQ (some ([0,2],none)) _ (ae fun _ bp _ _ => ai fun _ bD => ?_))));refine aL 3 ad ?_;refine aL 1 ad ?_;refine Or.inr (Aq (mM _ _ ue) (hm) (bK) (aE ad) (aE ad) (fun Dd FC Df lq tP => ?_))
 obtain ⟨dv,xk,rfl,AG,bs⟩ := tP
 dsimp only at AG bs
 have fC := bs.at (e := n) (X := .cq J) (by omega) (Qx ay (by omega)) (aE ad)
 have g1 := bs.at (e := n + 1) (X := .box 84 Gj) (by omega) (Qx ay (by omega)) (aE ad)
 have AP : C.enc dv = g3 C (some dv) := rfl
 have aD := And.intro ad (And.intro @fC (And.intro @g1 @AP))
 refine aL 3 aD ?_;refine aL 1 aD ?_;refine Or.inl (Or.inl ⟨_,dn dv,?_⟩);refine aU aD ?_;refine bD _ (bp (some ([2],none)) _ ?_)
 first | refine gd (aE aD) (aE aD) (aE aD) ?_ | refine gb (aE aD) (aE aD) (aE aD) ?_
 try dsimp only
 refine ⟨_,HB (t := uN C) (u := uN C) (s := dv) rfl xk,rfl,T8 (W.to AG (by omega) fun e he => ?_),⟨by have := bs.le; omega,fun e he ar => ?_,fun e he => ?_⟩⟩
 ·rcases bs.new e he with h | h
  ·have := W.lt ay e h; simp only [al,bn]; repeat rw [if_neg (by omega)]
  ·simp only [al,bn]; repeat rw [if_neg (by omega)]
 ·simp only [al,bn]; repeat rw [if_neg (by omega)]
  rw [bs.old e (by omega) ar]
  simp only [al]; repeat rw [if_neg (by omega)]
 ·rw [T7] at he
  rcases bs.new e he with h | h
  ·exact .inl h
  ·exact .inr (by omega)
structure C8 (W : h8 C) (s : C.ak) (g : dW) (O : List (Nat × bl)) (m : Nat) (x : C.ak) (O' : List (Nat × bl)) (bI : Nat) : Prop where
 fL : W.fL x = W.fL (C.next s g).1
 own : W.own x O' bI
 cS : jQ (W.ids s) (W.ids x) O m O' bI
theorem C8.of {W : h8 C} {s : C.ak} {g : dW} {O O' : List (Nat × bl)} {m bI pw : Nat} {x : C.ak} (af : W.fL x = W.fL (C.next s g).1) (aj : W.own x O' bI) (aw : jQ (W.ids s) (W.ids x) O m O' bI) (bN : ∀ e ∈ W.ids s,e < pw) (a7 : pw ≤ m) : C8 W s g O m x (dC O' m) bI :=
 ⟨af,W.to aj (Nat.le_refl _) fun e he => (by
  rw [bn,if_neg]
  rcases aw.new e he with h | h
  ·have := bN e h; omega
  ·omega),⟨aw.le,fun e he ar => (by rw [bn,if_neg (by omega)]; exact aw.old e he ar),aw.new⟩⟩
structure Vi (W : h8 C) (s : C.ak) (g : dW) (t1 : ds C) (J : bg → Env → Prop) (O : List (Nat × bl)) (n : Nat) (S : ak) (x : C.ak) : Prop where
 p : al S.T 4 = some (.ptr (n + 3) 0 0)
 v : al S.T 25 = some (.agg (gS (jr t1 x (C.next s g).2.1 (C.next s g).2.2)))
 gn : al S.O (n + 3) = some (.box 84 Gj)
 cq : al S.O n = some (.cq J)
 fL : W.fL x = W.fL (C.next s g).1
 own : W.own x S.O S.n
 cS : jQ (W.ids s) (W.ids x) O n S.O S.n
 lK : ∀ e ∈ W.ids x,e < n ∨ n + 5 ≤ e
 le : n + 5 ≤ S.n
structure Mx (W : h8 C) (s : C.ak) (g : dW) (t1 : ds C) (J : bg → Env → Prop) (O : List (Nat × bl)) (n : Nat) (S : ak) (x : C.ak) : Prop where
 p : al S.T 4 = some (.ptr (n + 3) 0 0)
 gn : al S.O (n + 3) = some (.box 84 (gS (jr t1 x (C.next s g).2.1 (C.next s g).2.2)))
 cq : al S.O n = some (.cq J)
 fL : W.fL x = W.fL (C.next s g).1
 own : W.own x S.O S.n
 cS : jQ (W.ids s) (W.ids x) O n S.O S.n
abbrev OO (n : Nat) (ty : TypeId) (x : av) (act : dB) : List av := [.dr ty x,.fn (.method "Next") [.dr ty x] [],aI act.op,aI act.place,aI act.old.val,fX act.old.eZ,fX act.old.ref,aI act.new.val,fX act.new.eZ,fX act.new.ref,.own (n + 4)]
abbrev AB (J : bg → Env → Prop) (O : List (Nat × bl)) (n : Nat) (ty : TypeId) (x : av) (act : dB) (e8 : List dW) (g : dW) : List (Nat × bl) :=
 (n + 1,.box 84 (OO n ty x act)) :: (n + 4,.row 100 4 (e8.map kz ++ [kz g])) :: (n + 3,.box 84 Gj) :: (n + 2,.box 100 (kz g)) :: (n,.cq J) :: dC O (n + 1)
theorem ON {J : bg → Env → Prop} {O : List (Nat × bl)} {n : Nat} {ty : TypeId} {x : av} {act : dB} {e8 : List dW} {g : dW} {e : Nat} (he : e < n) : al (AB J O n ty x act e8 g) e = al O e := by
 simp only [al,bn]; repeat rw [if_neg (by omega)]
abbrev abL (n : Nat) (ty : TypeId) (x : av) : List (Nat × av) := [(2,.ptr (n + 1) 0 0),(3,.ptr (n + 2) 0 0),(4,.ptr (n + 3) 0 0),(5,.fn (.method "Next") [.dr ty x] [])]
abbrev abK (n : Nat) (ty : TypeId) (x : av) (act : dB) (g : dW) : List (Nat × (Nat × av)) := [(18,0,.agg (OO n ty x act)),(19,1,.fn (.method "Next") [.dr ty x] []),(20,2,.agg (kz g))]
abbrev abM (a : dB) (d : Bool) (dv : C.ak) : List (Nat × (Nat × av)) := [(21,3,.bR [g3 C (some dv),.agg (pa a),dH d]),(22,4,g3 C (some dv)),(23,5,.agg (pa a)),(24,6,dH d)]
abbrev abN : List (List Nat) := [[],[],[],[1,2],[3],[3],[3],[0,4,5,6,3],[7,7,0,1,2,3,4,5,6,7]]
abbrev OM (W : h8 C) (s : C.ak) (g : dW) (J : bg → Env → Prop) (O : List (Nat × bl)) (n : Nat) (ty : TypeId) (x : av) (act : dB) (e8 : List dW) (done : List Nat) (S : ak) (dv : C.ak) : Prop :=
 iM (abL n ty x) (fun dv => abK n ty x act g ++ abM (C := C) (C.next s g).2.1 (C.next s g).2.2 dv) [4,5,6] 3 (AB J O n ty x act e8 g) (n + 5) (C8 W s g (AB J O n ty x act e8 g) (n + 5)) done S dv
theorem AD {s : C.ak} {g : dW} {J : bg → Env → Prop} {O : List (Nat × bl)} {n : Nat} {ty : TypeId} {x : av} {act : dB} {e8 : List dW} {done : List Nat} {S : ak} {dv : C.ak} (h : OM W s g J O n ty x act e8 done S dv) (bN : ∀ e ∈ W.ids s,e < n) {e : Nat} {X : bl} (af : n ≤ e) (aj : e < n + 5) (cU : al (AB J O n ty x act e8 g) e = some X) : al S.O e = some X := by
 cases az : done.contains 3 with
 | false => rw [(h.pre az).1]; exact cU
 | true => exact (h.post az).cS.at aj (fun hm => absurd (bN e hm) (by omega)) cU
set_option maxHeartbeats 8000000 in
set_option maxRecDepth 20000 in
theorem afB (t : ds C) (g : dW) {k : Nat} (aO : sC t k) (aB : k ≤ 900) (O : List (Nat × bl)) (n : Nat) (ay : nQ W t O n) : fv 75 [.agg (gS t),.agg (kz g)] O n (MS (gE W t) O n W (iO t g)) := by
 refine xB Tryz.func75 ajF rfl fun J => ?_
 have hid := fE n
 have fU := oY C
 have b2 := Fh t
 obtain ⟨code,live,act,e8⟩ := t
 have tW := aO.e8
 simp only at tW
 cases live
 ·have e : iO ⟨code,false,act,e8⟩ g = ⟨code,false,act,e8⟩ := if_neg (by simp)
  rw [e]
  unfold Lq KY;delta ab aR aa
  have ad := And.intro @fU @hid
  refine ae fun bz aK b6 cb => ai fun b7 aG => ?_;refine an ad ?_;refine aG _ (aK (some ([2,3,4],none)) _ (ae fun b8 aQ bt b5 => ae fun b9 bG c7 dF => ai fun cD bZ => ?_));refine ag 1 ad ?_;refine an ad ?_;refine Or.inl (Or.inl ⟨_,b2,?_⟩);refine bZ _ (bG (some ([2,3,4,7],none)) _ (bY (ae fun cv bp cY dk => ai fun cC bD => ?_)));refine ag 1 ad ?_;refine aU ad ?_;refine bD _ (bp (some ([4],none)) _ (bt _ ?_))
  first | refine gd (aE ad) (aE ad) (aE ad) ?_ | refine gb (aE ad) (aE ad) (aE ad) ?_
  try dsimp only
  refine ⟨_,rfl,rfl,fun s ao => W.to (ay s ao) (by omega) fun e he => ?_,⟨by omega,fun e he ar => ?_,fun e he => .inl he⟩⟩
  ·have := W.lt (ay s ao) e he
   simp only [al,bn]; repeat rw [if_neg (by omega)]
  ·simp only [al,bn]; repeat rw [if_neg (by omega)]
 ·obtain ⟨s,ao⟩ := aO.code rfl
  simp only at ao
  subst ao
  obtain ⟨ty,x,f,he,hm,bK,mM⟩ := W.step g (aO.jy s rfl) aB
  have uf := ay s rfl
  have jW : g3 C (some s) = .dr ty x := he
  have e : iO ⟨some s,true,act,e8⟩ g = jr ⟨some s,true,act,e8 ++ [g]⟩ (C.next s g).1 (C.next s g).2.1 (C.next s g).2.2 := if_pos rfl
  rw [e]
  have a8 : ir C (some s) true = .fn (.method "Next") [.dr ty x] [] := by unfold ir; rw [if_pos rfl,jW]
  have dn := fun dv => QS (⟨some s,true,act,e8 ++ [g]⟩ : ds C) dv (C.next s g).2.1 (C.next s g).2.2
  have bN := W.lt uf
  have adv : W.own s (AB J O n ty x act e8 g) (n + 5) := W.to uf (by omega) fun e he => ON (bN e he)
  simp only [gS,jW,a8,List.map_append,List.map_cons,List.map_nil] at b2 dn ⊢
  have bL : e8.length ≤ 1000000 := by omega
  have cd : (e8.length + 1) * 24 ≤ 140737488355328 := by omega
  unfold Lq KY;delta ab aR aa
  have ad := And.intro @fU (And.intro @hid (And.intro @bL @cd))
  refine ae fun bz aK b6 cb => ai fun b7 aG => ?_;refine an ad ?_;refine aG _ (aK (some ([2,3,4],none)) _ (ae fun b8 aQ bt b5 => ae fun b9 bG c7 dF => ai fun cD bZ => ?_));refine ag 1 ad ?_;refine an ad ?_;refine Or.inl (Or.inl ⟨_,b2,?_⟩);refine bZ _ (bG (some ([2,3,4,7],none)) _ (bB (aQ (some ([2,3,4],none)) _ (ae fun cv bp cY dk => ai fun cC bD => ?_))));refine ag 2 ad ?_;refine an ad ?_;refine bD _ (bp (some ([2,3,4,5],none)) _ (ae fun _ ck _ _ => ?_));refine hy [] (n := 5) fun bo aP => ?_;refine hv ?_;refine cR 2 ad ?_;refine gj 1 ad ?_;refine ⟨_,af1 _ _,?_⟩;refine cR 1 ad ?_;refine pc ad ?_;refine aP _ ?_;refine hx ?_;refine ag 1 ad ?_;refine aU ad ?_;refine ck (some ([2,3,4,5],none)) _ (ae fun _ ct _ _ => ?_);refine sM ([]) (fun done S => o3 abN done ∧ ((done.contains 7 = false ∧ done.contains 8 = false ∧ ∃ dv,OM W s g J O n ty x act e8 done S dv) ∨ (done.contains 7 = true ∧ done.contains 8 = false ∧ ∃ dv,Vi W s g ⟨some s,true,act,e8 ++ [g]⟩ J O n S dv) ∨ ((∀ i,i < 9 → done.contains i = true) ∧ ∃ dv,Mx W s g ⟨some s,true,act,e8 ++ [g]⟩ J O n S dv))) (fun S => ∃ dv c1 bM,S = ⟨[(4,.ptr (n + 3) 0 0)],c1,bM⟩ ∧ Mx W s g ⟨some s,true,act,e8 ++ [g]⟩ J O n S dv) ?_ ?_ ?_ ?_
  ·skip
   refine ⟨sK _,.inl ⟨rfl,rfl,s,iM.init (fun t v h => ?_) ?_ ?_⟩⟩
   ·simp only [al] at h
    simp only [ak.gw,ak.eH,en,al,reduceIte,Nat.reduceEqDiff]
    repeat' split at h
    all_goals first | (rename_i gH; subst gH; exact h) | cases h
   ·rfl
   ·rfl
  ·skip
   intro done S i0 ⟨az,aY⟩ ax
   have j9 := tc ax
   have gk := td ax
   rcases aY with ⟨cA,dY,dv,aY⟩ | ⟨cA,dY,dv,bk⟩ | ⟨dM,_⟩
   ·have dm := aY.base 2 _ rfl
    have gi := aY.base 3 _ rfl
    have G5 := aY.base 4 _ rfl
    have cW := aY.base 5 _ rfl
    have nG := AD aY bN (e := n + 1) (by omega) (by omega) (aE ad)
    have sa := AD aY bN (e := n + 2) (by omega) (by omega) (aE ad)
    have vK := AD aY bN (e := n + 3) (by omega) (by omega) (aE ad)
    have aeM := AD aY bN (e := n + 4) (by omega) (by omega) (aE ad)
    have BM := AD aY bN (e := n) (by omega) (by omega) (aE ad)
    have cr := fun t j v h aj => aY.jz t j v h aj
    have eF : i0 = 0 ∨ i0 = 1 ∨ i0 = 2 ∨ i0 = 3 ∨ i0 = 4 ∨ i0 = 5 ∨ i0 = 6 ∨ i0 = 7 ∨ i0 = 8 := by simp at j9; omega
    rcases eF with rfl | rfl | rfl | rfl | rfl | rfl | rfl | rfl | rfl
    ·skip
     have a5 := And.intro dm nG
     refine cn rfl fun bo aP => ?_;refine aT a5 ?_;refine bd ?_;refine aP _ ?_
     exact ⟨az.cons ax,.inl ⟨by rw [cZ (by decide)]; exact cA,by rw [cZ (by decide)]; exact dY,dv,aY.put (i := 0) (t := 18) rfl rfl rfl (by decide) (fun h => by cases h)⟩⟩
    ·skip
     have a5 := cW
     refine cn rfl fun bo aP => ?_;refine aT a5 ?_;refine aP _ ?_
     exact ⟨az.cons ax,.inl ⟨by rw [cZ (by decide)]; exact cA,by rw [cZ (by decide)]; exact dY,dv,aY.put (i := 1) (t := 19) rfl rfl rfl (by decide) (fun h => by cases h)⟩⟩
    ·skip
     have a5 := And.intro gi sa
     refine cn rfl fun bo aP => ?_;refine aT a5 ?_;refine bd ?_;refine aP _ ?_
     exact ⟨az.cons ax,.inl ⟨by rw [cZ (by decide)]; exact cA,by rw [cZ (by decide)]; exact dY,dv,aY.put (i := 2) (t := 20) rfl rfl rfl (by decide) (fun h => by cases h)⟩⟩
    ·have hw := dg ax rfl
     have g1 := cr 19 1 _ rfl (hw 1 rfl)
     have bQ := cr 20 2 _ rfl (hw 2 rfl)
     obtain ⟨u0,jv,jJ⟩ := S
     obtain ⟨a2,a8⟩ := aY.pre gk
     dsimp only at a2 a8
     subst a2 a8
     dsimp only at g1 bQ
     have a5 := And.intro g1 bQ
     refine cn rfl fun bo aP => ?_;refine Or.inr (Hv (mM _ _ adv) (aE a5) (by simp only [ak.kj,ak.bf,bQ,ak.res,Option.map_some,Option.bind_some]) (.inr ⟨"Next",ty,x,[],[],rfl,hm,bK,rfl⟩) fun tp ik jv jJ mC => ?_)
     obtain ⟨ahA,bL,rfl,cd,dV⟩ := mC
     refine aP _ ?_
     exact ⟨az.cons ax,.inl ⟨by rw [cZ (by decide)]; exact cA,by rw [cZ (by decide)]; exact dY,ahA,aY.call2 (t := 21) gk rfl rfl rfl rfl (C8.of bL cd dV bN (by omega))⟩⟩
    ·skip
     have hw := dg ax rfl
     have g1 := cr 21 3 _ rfl (hw 3 rfl)
     have a5 := And.intro fU g1
     refine cn rfl fun bo aP => ?_;refine aT a5 ?_;refine aP _ ?_
     exact ⟨az.cons ax,.inl ⟨by rw [cZ (by decide)]; exact cA,by rw [cZ (by decide)]; exact dY,dv,aY.put (i := 4) (t := 22) rfl rfl rfl (by decide) (fun _ => hw 3 rfl)⟩⟩
    ·skip
     have hw := dg ax rfl
     have g1 := cr 21 3 _ rfl (hw 3 rfl)
     have a5 := And.intro fU g1
     refine cn rfl fun bo aP => ?_;refine aT a5 ?_;refine aP _ ?_
     exact ⟨az.cons ax,.inl ⟨by rw [cZ (by decide)]; exact cA,by rw [cZ (by decide)]; exact dY,dv,aY.put (i := 5) (t := 23) rfl rfl rfl (by decide) (fun _ => hw 3 rfl)⟩⟩
    ·skip
     have hw := dg ax rfl
     have g1 := cr 21 3 _ rfl (hw 3 rfl)
     have a5 := And.intro fU g1
     refine cn rfl fun bo aP => ?_;refine aT a5 ?_;refine aP _ ?_
     exact ⟨az.cons ax,.inl ⟨by rw [cZ (by decide)]; exact cA,by rw [cZ (by decide)]; exact dY,dv,aY.put (i := 6) (t := 24) rfl rfl rfl (by decide) (fun _ => hw 3 rfl)⟩⟩
    ·have hw := dg ax rfl
     have fC := cr 18 0 _ rfl (hw 0 rfl)
     have Aw := cr 22 4 _ rfl (hw 4 rfl)
     have vf := cr 23 5 _ rfl (hw 5 rfl)
     have Ax := cr 24 6 _ rfl (hw 6 rfl)
     obtain ⟨eJ,fu,fM⟩ := aY.post (hw 3 rfl)
     have a5 := And.intro fU (And.intro hid (And.intro fC (And.intro Aw (And.intro vf (And.intro Ax (And.intro aeM (Int.toNat_natCast)))))))
     refine cn rfl fun bo aP => ?_;refine aT a5 ?_;refine Or.inl (Or.inl ⟨_,dn dv,?_⟩);refine aP _ ?_
     have rL : ∀ e ∈ W.ids dv,e < n ∨ n + 5 ≤ e := fun e he => by
      rcases fM.new e he with h | h
      ·exact .inl (bN e h)
      ·exact .inr (by omega)
     refine ⟨az.cons ax,.inr (.inl ⟨ry _ _,by rw [cZ (by decide)]; exact dY,dv,⟨?_,?_,?_,?_,eJ,W.to fu (Nat.le_refl _) fun e he => ?_,⟨by show n ≤ S.n; have := fM.le; omega,fun e he ar => ?_,fun e he => ?_⟩,rL,fM.le⟩⟩)⟩
     ·simp only [al,vh,lj,Nat.reduceEqDiff,reduceIte,ne_eq,not_false_eq_true]; exact G5
     ·simp only [al,reduceIte]
     ·simp only [al,bn]; repeat rw [if_neg (by omega)]
      exact vK
     ·simp only [al,bn]; repeat rw [if_neg (by omega)]
      exact BM
     ·rcases rL e he with h | h
      ·simp only [al,bn]; repeat rw [if_neg (by omega)]
      ·simp only [al,bn]; repeat rw [if_neg (by omega)]
     ·simp only [al,bn]; repeat rw [if_neg (by omega)]
      rw [fM.old e (by omega) ar,ON he]
     ·rcases fM.new e he with h | h
      ·exact .inl h
      ·exact .inr (by omega)
    ·have hw := dg ax rfl
     rw [hw 7 rfl] at cA; cases cA
   ·have bb : ∀ j,j < 8 → done.contains j = true := fun j aM => by
     have jt := az 7 _ cA rfl
     have dQ := az 3 _ (jt 3 rfl) rfl
     have : j = 0 ∨ j = 1 ∨ j = 2 ∨ j = 3 ∨ j = 4 ∨ j = 5 ∨ j = 6 ∨ j = 7 := by omega
     rcases this with rfl | rfl | rfl | rfl | rfl | rfl | rfl | rfl
     ·exact jt 0 rfl
     ·exact dQ 1 rfl
     ·exact dQ 2 rfl
     ·exact jt 3 rfl
     ·exact jt 4 rfl
     ·exact jt 5 rfl
     ·exact jt 6 rfl
     ·exact cA
    have qK : i0 = 8 := by
     rcases Nat.lt_or_ge i0 8 with h | h
     ·rw [bb i0 h] at gk; cases gk
     ·simp at j9; omega
    subst qK
    have a5 := And.intro fU (And.intro bk.p (And.intro bk.v bk.gn))
    refine cn rfl fun bo aP => ?_;refine aT a5 ?_;refine bd ?_;refine aP _ ?_
    have hle := bk.le
    refine ⟨az.cons ax,.inr (.inr ⟨fun i aq => ?_,dv,⟨bk.p,?_,?_,bk.fL,W.to bk.own (Nat.le_refl _) fun e he => ?_,⟨bk.cS.le,fun e he ar => ?_,bk.cS.new⟩⟩⟩)⟩
    ·by_cases h : i = 8
     ·subst h; exact ry _ _
     ·rw [cZ h]; exact bb i (by omega)
    ·simp only [al,reduceIte]
    ·simp only [al,bn]; repeat rw [if_neg (by omega)]
     exact bk.cq
    ·rcases bk.lK e he with h | h
     ·simp only [al,bn]; repeat rw [if_neg (by omega)]
     ·simp only [al,bn]; repeat rw [if_neg (by omega)]
    ·simp only [al,bn]; repeat rw [if_neg (by omega)]
     exact bk.cS.old e he ar
   ·rw [dM i0 (by simp at j9; omega)] at gk; cases gk
  ·skip
   rintro done S ⟨az,⟨cA,dY,_⟩ | ⟨cA,dY,_⟩ | ⟨_,dv,bs⟩⟩ dM
   ·rw [dM 8 (by decide)] at dY; cases dY
   ·rw [dM 8 (by decide)] at dY; cases dY
   ·refine ⟨some ([4],none),dv,je S.O,S.n,?_,?_⟩
    ·show ak.mk (en S.T [4]) _ _ = _
     simp only [ak.eH,en,bs.p]
    ·obtain ⟨bE,bP,cK,a4,fY,ho⟩ := bs
     refine ⟨?_,by show al (je S.O) _ = _; rw [me]; exact bP,by show al (je S.O) _ = _; rw [me]; exact cK,a4,W.to fY (Nat.le_refl _) fun e he => me _ _,⟨ho.le,fun e he ar => by show al (je S.O) _ = _; rw [me]; exact ho.old e he ar,ho.new⟩⟩
     show al (en S.T [4]) 4 = _
     simp only [en,bE,al,reduceIte]
  rintro b0 ⟨dv,c1,bM,rfl,bE,bP,cK,a4,fY,ho⟩
  dsimp only at bE bP cK fY ho
  have aD := And.intro ad (And.intro @bP @cK)
  refine ct (some ([4],none)) _ ?_
  first | refine gd (aE aD) (aE aD) (aE aD) ?_ | refine gb (aE aD) (aE aD) (aE aD) ?_
  try dsimp only
  exact ⟨_,HB rfl a4,rfl,T8 fY,ho.le,ho.old,fun e he => by rw [T7] at he; exact ho.new e he⟩
end
end Go.Proofs.YtkmbcjnaaokilaaGreatDoor
