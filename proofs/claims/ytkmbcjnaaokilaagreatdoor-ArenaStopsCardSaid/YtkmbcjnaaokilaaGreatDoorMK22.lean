/-
  Layer 8 by shadows: worlds.
-/
import Derived.Test.YtkmbcjnaaokilaaGreatDoorK8a
import Derived.Test.YtkmbcjnaaokilaaGreatDoorMC
namespace Go.Proofs.YtkmbcjnaaokilaaGreatDoor
set_option linter.unusedSimpArgs false
set_option linter.unusedVariables false
open Go.RowKit Go.Maps
theorem TU {M : e0} {n : Nat} (bk : m1 M n) (t : Int) (a : dB) (c : Int) : (kx M t a c).1.mem.views.length = M.mem.views.length ∧ (kx M t a c).1.mem.places.length = M.mem.places.length := by
 unfold kx
 split
 ·rename_i h
  obtain ⟨_,_,af,aj,_⟩ := JO bk c h
  exact ⟨af,aj⟩
 ·exact ⟨rfl,rfl⟩
structure cM (C : dR) where
 m : e0
 tasks : List (ds C)
 hY : List Bool
abbrev u7 (b : Bool) : List av := [dH b]
abbrev sG {C : dR} (w : cM C) : List av := [.au 1 0 (w.m.mem.places.map rA),.au 1 0 (w.m.mem.views.map wE),.au 3 0 (w.m.lines.first.map dj),.au 2 0 (w.m.lines.eQ.map pb),.mp 3 fun t => (w.m.lines.asks t).map kR,.au 1 0 (w.m.steps.map tI),aI w.m.jR,.au 11 0 (w.tasks.map gS),.au 1 0 (w.hY.map u7)]
abbrev lI {C : dR} (w : cM C) : av := .agg (sG w)
abbrev ri : List av := [.au 1 0 [],.au 1 0 [],.au 3 0 [],.au 2 0 [],.mp 3 fun _ => none,.au 1 0 [],aI 0,.au 11 0 [],.au 1 0 []]
structure jh {C : dR} (w : cM C) (n : Nat) : Prop where
 q5 : m1 w.m n
 pd : w.tasks.length ≤ w.m.mem.views.length
 stops : w.hY.length = w.tasks.length
 task : ∀ t ∈ w.tasks,sC t n
theorem LY {C : dR} {t : ds C} {n k : Nat} (h : sC t n) (aB : n ≤ k) : sC t k := ⟨Nat.le_trans h.e8 aB,h.code,fun s ao => C.up (h.jy s ao) aB⟩
theorem Ge {C : dR} {w : cM C} {n k : Nat} (h : jh w n) (aB : n ≤ k) : jh w k := ⟨E2 h.q5 aB,h.pd,h.stops,fun t aO => LY (h.task t aO) aB⟩
theorem Gd {C : dR} {w : cM C} {n : Nat} (h : jh w n) : w.tasks.length ≤ 8 := Nat.le_trans h.pd h.q5.mem.o2
abbrev Al (C : dR) (s : C.ak) : List av := [g3 C (some s)]
def jf {C : dR} (w : cM C) (i : Nat) : Bool := (w.hY[i]?).getD false
theorem QR {C : dR} (w : cM C) (i : Nat) (aq : i ≤ 1000000) : cu 54 [lI w,aI i] (dH (jf w i)) := by
 refine df Tryz.func54 ajJ rfl ?_
 unfold jf
 by_cases h : i < w.hY.length
 ·have af : (i : Int) < (w.hY.length : Int) := by omega
  have aj := List.getElem?_eq_getElem h
  generalize w.hY[i] = b at aj
  rw [aj]
  unfold bJ Lr KZ;delta ab a9 aa a6
  have ad := And.intro @af @aj
  refine ae fun bz aK b6 cb => ai fun b7 aG => ?_;refine an ad ?_;refine aG _ (aK (some ([1,2],none)) _ (ae fun b8 aQ bt b5 => ai fun b9 bh => ?_));refine ag 3 ad ?_;refine ag 2 ad ?_;refine ag 3 ad ?_;refine ag 2 ad ?_;refine ag 1 ad ?_;refine an ad ?_;refine bh _ (aQ (some ([4],none)) _ ?_)
  exact cO ad
 ·have af : ¬ (i : Int) < (w.hY.length : Int) := by omega
  rw [List.getElem?_eq_none (by omega)]
  unfold bJ Lr KZ;delta ab a9 aa a6
  have ad := @af
  refine ae fun bz aK b6 cb => ai fun b7 aG => ?_;refine an ad ?_;refine aG _ (aK (some ([1,2],none)) _ (ae fun b8 aQ bt b5 => ai fun b9 bh => ?_));refine ag 3 ad ?_;refine ag 2 ad ?_;refine ag 3 ad ?_;refine ag 2 ad ?_;refine ag 1 ad ?_;refine an ad ?_;refine bh _ (aQ (some ([4],none)) _ ?_)
  exact cO ad
def sL {C : dR} (w : cM C) : Bool := decide (w.m.mem.views.length = 0)
theorem aga {C : dR} (w : cM C) : cu 49 [lI w] (dH (sL w)) := by
 refine df Tryz.func49 ajD rfl ?_
 have e : sL w = ((w.m.mem.views.length : Int) == 0) := by
  unfold sL
  rw [Bool.eq_iff_iff]; simp
 rw [e]
 unfold bJ S6 RZ;delta ab aa aA a6
 refine ae fun _ aK _ _ => ai fun _ aG => ?_;refine cz ?_;refine aG _ (aK (some ([1],none)) _ (ae fun _ aQ _ _ => ai fun _ bh => ?_));refine cV 2 ?_;refine eu 1 ?_;refine Or.inl (Or.inl ⟨_,BZ w.m,?_⟩);refine cz ?_;refine bh _ (aQ (some ([3],none)) _ (ae fun _ bT _ _ => ai fun _ de => ?_));refine cV 2 ?_;refine cz ?_;refine de _ (bT (some ([2],none)) _ ?_)
 exact jb
def kh {C : dR} (w : cM C) (i : Nat) : Bool := ((w.tasks[i]?).map ds.live).getD false
def kJ {C : dR} (w : cM C) (t : Int) : Bool := decide (1 ≤ t ∧ t ≤ (w.tasks.length : Int)) && (!(jf w (t - 1).toNat) && kh w (t - 1).toNat)
set_option maxHeartbeats 2000000 in
theorem agb {C : dR} (w : cM C) (t : Int) (aF : w.tasks.length ≤ 8) : cu 51 [lI w,aI t] (dH (kJ w t)) := by
 refine df Tryz.func51 ajK rfl ?_
 have fU := oY C
 unfold kJ
 by_cases af : 1 ≤ t
 case neg =>
  rw [show decide (1 ≤ t ∧ t ≤ (w.tasks.length : Int)) = false from decide_eq_false (fun h => af h.1),Bool.false_and]
  unfold bJ Cp Ci;delta ab a9 aa aA a6
  have ad := And.intro @af @fU
  refine ae fun bz aK b6 cb => ai fun b7 aG => ?_;refine an ad ?_;refine aG _ (aK (some ([1,2],none)) _ (ae fun b8 aQ bt b5 => ai fun b9 bh => ?_));refine ag 2 ad ?_;refine ag 4 ad ?_;refine ag 2 ad ?_;refine ag 3 ad ?_;refine ag 2 ad ?_;refine aL 1 ad ?_
  skip
  refine ag 5 ad ?_;refine ag 2 ad ?_;refine ag 1 ad ?_;refine ag 1 ad ?_;refine aL 1 ad ?_
  skip
  refine an ad ?_;refine bh _ (aQ (some ([4],none)) _ ?_)
  exact cO ad
 by_cases aj : t ≤ (w.tasks.length : Int)
 case neg =>
  rw [show decide (1 ≤ t ∧ t ≤ (w.tasks.length : Int)) = false from decide_eq_false (fun h => aj h.2),Bool.false_and]
  unfold bJ Cp Ci;delta ab a9 aa aA a6
  have ad := And.intro @af (And.intro @aj @fU)
  refine ae fun bz aK b6 cb => ai fun b7 aG => ?_;refine an ad ?_;refine aG _ (aK (some ([1,2],none)) _ (ae fun b8 aQ bt b5 => ai fun b9 bh => ?_));refine ag 2 ad ?_;refine ag 4 ad ?_;refine ag 2 ad ?_;refine ag 3 ad ?_;refine ag 2 ad ?_;refine aL 1 ad ?_
  skip
  refine ag 5 ad ?_;refine ag 2 ad ?_;refine ag 1 ad ?_;refine ag 1 ad ?_;refine aL 1 ad ?_
  skip
  refine an ad ?_;refine bh _ (aQ (some ([4],none)) _ ?_)
  exact cO ad
 rw [show decide (1 ≤ t ∧ t ≤ (w.tasks.length : Int)) = true from decide_eq_true ⟨af,aj⟩,Bool.true_and]
 obtain ⟨m,hm⟩ := Int.eq_ofNat_of_zero_le (show 0 ≤ t - 1 by omega)
 have bL : IntKind.i64.wrap (t - 1) = (m : Int) := by rw [IntKind.wrap_i64]; omega
 have b2 := QR w m (by omega)
 rw [hm,Int.toNat_natCast]
 obtain ⟨y,a1⟩ : ∃ y,w.tasks[m]? = some y := ⟨_,List.getElem?_eq_getElem (by omega)⟩
 have a2 : kh w m = y.live := by unfold kh; rw [a1]; rfl
 have cy := Fh y
 rw [a2]
 generalize y.live = b at cy
 cases aJ : jf w m
 ·rw [aJ] at b2
  have a7 : (!!b) = b := by simp
  unfold bJ Cp Ci;delta ab a9 aa aA a6
  have ad := And.intro @af (And.intro @aj (And.intro @bL (And.intro @fU (And.intro @a1 @a7))))
  refine ae fun bz aK b6 cb => ai fun b7 aG => ?_;refine an ad ?_;refine aG _ (aK (some ([1,2],none)) _ (ae fun b8 aQ bt b5 => ai fun b9 bh => ?_));refine ag 2 ad ?_;refine ag 4 ad ?_;refine ag 2 ad ?_;refine ag 3 ad ?_;refine ag 2 ad ?_;refine aL 1 ad ?_;refine Or.inl (Or.inl ⟨_,b2,?_⟩);refine ag 5 ad ?_;refine ag 2 ad ?_;refine ag 1 ad ?_;refine ag 1 ad ?_;refine aL 1 ad ?_;refine Or.inl (Or.inl ⟨_,cy,?_⟩);refine an ad ?_;refine bh _ (aQ (some ([4],none)) _ ?_)
  exact cO ad
 ·rw [aJ] at b2
  unfold bJ Cp Ci;delta ab a9 aa aA a6
  have ad := And.intro @af (And.intro @aj (And.intro @bL (And.intro @fU @a1)))
  refine ae fun bz aK b6 cb => ai fun b7 aG => ?_;refine an ad ?_;refine aG _ (aK (some ([1,2],none)) _ (ae fun b8 aQ bt b5 => ai fun b9 bh => ?_));refine ag 2 ad ?_;refine ag 4 ad ?_;refine ag 2 ad ?_;refine ag 3 ad ?_;refine ag 2 ad ?_;refine aL 1 ad ?_;refine Or.inl (Or.inl ⟨_,b2,?_⟩);refine ag 5 ad ?_;refine ag 2 ad ?_;refine ag 1 ad ?_;refine ag 1 ad ?_;refine aL 1 ad ?_
  skip
  refine an ad ?_;refine bh _ (aQ (some ([4],none)) _ ?_)
  exact cO ad
def nN {C : dR} (w : cM C) (m : e0) (i : Nat) (t : ds C) : cM C := ⟨m,w.tasks.set i t,w.hY⟩
noncomputable def oD {C : dR} (w : cM C) (t c : Int) : cM C := match w.tasks[(t - 1).toNat]? with
 | some y => nN w (kx w.m t y.act c).1 (t - 1).toNat (iO y (kx w.m t y.act c).2.1)
 | none => w
def qU {C : dR} (w : cM C) (t : Int) : cM C := { w with hY := w.hY.set (t - 1).toNat true }
structure kO where
 kind : Int
 iC : Int
 choice : Int
abbrev sN (p : kO) : List av := [aI p.kind,aI p.iC,aI p.choice]
noncomputable def eL {C : dR} (w : cM C) (p : kO) : cM C × Bool :=
 if sL w = true then (w,false)
 else if p.kind = 2 then (⟨yq w.m p.choice,[],[]⟩,true)
 else if kJ w p.iC = false then (w,false)
 else if p.kind = 0 then (oD w p.iC p.choice,true)
 else if p.kind = 1 then (qU w p.iC,true)
 else (w,false)
theorem LX {C : dR} {w : cM C} {t : Int} (h : kJ w t = true) : ∃ (m : Nat) (y : ds C),t = (m : Int) + 1 ∧ w.tasks[m]? = some y ∧ y.live = true ∧ jf w m = false := by
 unfold kJ at h
 simp only [Bool.and_eq_true,decide_eq_true_eq,Bool.not_eq_true'] at h
 obtain ⟨⟨af,aj⟩,aw,aV⟩ := h
 obtain ⟨m,hm⟩ := Int.eq_ofNat_of_zero_le (show 0 ≤ t - 1 by omega)
 rw [hm,Int.toNat_natCast] at aw aV
 obtain ⟨y,a1⟩ : ∃ y,w.tasks[m]? = some y := ⟨_,List.getElem?_eq_getElem (by omega)⟩
 refine ⟨m,y,by omega,a1,?_,aw⟩
 unfold kh at aV
 rw [a1] at aV; exact aV
theorem Ue {C : dR} {t : ds C} {s : C.ak} {a : dB} {b : Bool} {n : Nat} (aH : t.e8.length ≤ n) (ao : C.jy n s) : sC (jr t s a b) n := by
 unfold jr
 split
 ·exact ⟨aH,(fun h => nomatch h),fun dv h => by cases h; exact ao⟩
 ·exact ⟨aH,fun _ => ⟨s,rfl⟩,fun dv h => by cases h; exact ao⟩
theorem abd {C : dR} {t : ds C} {g : dW} {n : Nat} (h : sC t n) : sC (iO t g) (n + 1) := by
 unfold iO
 split
 ·rename_i aF
  obtain ⟨s,ao⟩ := h.code aF
  rw [ao]
  exact Ue (t := { t with e8 := t.e8 ++ [g] }) (by have := h.e8; simp; omega) (C.keeps g (h.jy s ao))
 ·exact LY h (by omega)
theorem T1 {C : dR} {s : C.ak} {n : Nat} (h : C.jy n s) : sC (nf s) (n + 1) := Ue (t := uN C) (by simp [uN]) (C.keeps e4 h)
theorem abh {C : dR} {w : cM C} {n : Nat} (h : jh w n) (t c : Int) : jh (oD w t c) (n + 1) := by
 unfold oD
 split
 ·rename_i y a1
  have ao := TU h.q5 t y.act c
  refine ⟨aeO h.q5 t y.act c,by simp only [nN,List.length_set]; rw [ao.1]; exact h.pd,by simp only [nN,List.length_set]; exact h.stops,fun x ar => ?_⟩
  rcases List.mem_or_eq_of_mem_set ar with ar | rfl
  ·exact LY (h.task x ar) (by omega)
  ·exact abd (h.task y (List.mem_of_getElem? a1))
 ·exact Ge h (by omega)
theorem ab6 {C : dR} {w : cM C} {n : Nat} (h : jh w n) (t : Int) : jh (qU w t) n := ⟨h.q5,h.pd,by simp only [qU,List.length_set]; exact h.stops,h.task⟩
theorem F3 {C : dR} {w : cM C} {n : Nat} (h : jh w n) (p : kO) : jh (eL w p).1 (n + 1) := by
 have hu := Ge h (show n ≤ n + 1 by omega)
 unfold eL
 split
 ·exact hu
 ·split
  ·exact ⟨aeN h.q5 p.choice,by simp,rfl,fun t aO => by cases aO⟩
  ·split
   ·exact hu
   ·split
    ·exact abh h _ _
    ·split
     ·exact ab6 hu _
     ·exact hu
set_option maxHeartbeats 2000000 in
theorem agc {C : dR} (w : cM C) (t : Int) {n : Nat} (h : jh w n) (aO : kJ w t = true) : cu 53 [lI w,aI t] (lI (qU w t)) := by
 refine df Tryz.func53 ajN rfl ?_
 obtain ⟨m,y,rfl,a1,aF,_⟩ := LX aO
 have fU := oY C
 have dY := Gd h
 have kC := (List.getElem?_eq_some_iff.1 a1).1
 have ie := h.stops
 have bL : IntKind.i64.wrap ((m : Int) + 1 - 1) = (m : Int) := by rw [IntKind.wrap_i64]; omega
 have cd : w.tasks.length ≤ 1000000 := by omega
 have dV : w.tasks.length * 1 ≤ 140737488355328 := by omega
 have em : ((m : Int) + 1 - 1).toNat = m := by omega
 have a2 : (w.hY.map u7).take w.tasks.length = w.hY.map u7 := by rw [List.take_of_length_le (by simp; omega)]
 have a8 : (List.replicate w.tasks.length [av.v (.bool false)]).drop w.hY.length = [] := by simp; omega
 have cg : (w.hY.map u7).set m [dH true] = (w.hY.set m true).map u7 := by rw [List.map_set]
 obtain ⟨b,aJ⟩ : ∃ b,w.hY[m]? = some b := ⟨_,List.getElem?_eq_getElem (by omega)⟩
 have fW : m < w.hY.length := by omega
 unfold qU
 rw [em]
 unfold bJ Ta R3;delta ab aR aa aA a6
 have ad := And.intro @bL (And.intro @cd (And.intro @dV (And.intro @fW (And.intro @a2 (And.intro @a8 (And.intro @aJ @cg))))))
 refine ae fun _ aK _ _ => ai fun _ aG => ?_;refine an ad ?_;refine aG _ (aK (some ([1,2,4],none)) _ (ae fun _ aQ _ _ => ai fun _ bh => ?_));refine ag 2 ad ?_;refine ag 2 ad ?_;refine an ad ?_;refine bh _ (aQ (some ([1,2,4,5],none)) _ (ae fun _ bT _ _ => ai fun _ de => ?_));refine ag 3 ad ?_;refine aU ad ?_;refine de _ (bT (some ([1,2,4,5],none)) _ (ae fun _ cp _ _ => ai fun _ c0 => ?_));refine ag 3 ad ?_;refine ag 1 ad ?_;refine aU ad ?_;refine c0 _ (cp (some ([2,4,5],none)) _ (ae fun _ cN _ _ => ai fun _ cF => ?_));refine aU ad ?_;refine cF _ (cN (some ([2,4],none)) _ (ae fun _ ct _ _ => ai fun _ cG => ?_));refine ag 1 ad ?_;refine aU ad ?_;refine cG _ (ct (some ([4],none)) _ ?_)
 exact cO ad
abbrev Hb {C : dR} (w : cM C) : bl := .box 63 (sG w)
noncomputable def eT {C : dR} (w : cM C) (t : Int) : Nat → cM C
 | 0 => w
 | n + 1 => if (eL w ⟨0,t,0⟩).2 = true then eT (eL w ⟨0,t,0⟩).1 t n else w
theorem Oy {C : dR} {w : cM C} {t : Int} : ∀ {n : Nat},eT w t (n + 1) = if (eL (eT w t n) ⟨0,t,0⟩).2 = true then (eL (eT w t n) ⟨0,t,0⟩).1 else eT w t n
 | 0 => rfl
 | n + 1 => by
  unfold eT
  by_cases h : (eL w ⟨0,t,0⟩).2 = true
  ·rw [if_pos h,if_pos h]
   exact Oy (w := (eL w ⟨0,t,0⟩).1) (n := n)
  ·rw [if_neg h,if_neg h]
   rw [if_neg h]
theorem HV {C : dR} (t : Int) : ∀ (k : Nat) {w : cM C} {n : Nat},jh w n → jh (eT w t k) (n + k)
 | 0,_,_,h => h
 | k + 1,w,n,h => by
  unfold eT
  split
  ·have := HV t k (F3 h ⟨0,t,0⟩)
   rw [show n + (k + 1) = n + 1 + k by omega]
   exact this
  ·exact Ge h (by omega)
theorem ah1 {C : dR} (w : cM C) (t : Int) : (eL w ⟨0,t,0⟩).1.tasks.length = w.tasks.length := by
 unfold eL
 split
 ·rfl
 ·rw [if_neg (by simp)]
  split
  ·rfl
  ·rw [if_pos rfl]
   unfold oD
   split
   ·simp [nN]
   ·rfl
theorem Ox {C : dR} (t : Int) : ∀ (k : Nat) (w : cM C),(eT w t k).tasks.length = w.tasks.length
 | 0,_ => rfl
 | k + 1,w => by
  unfold eT
  split
  ·rw [Ox t k,ah1]
  ·rfl
theorem D0 {C : dR} {w : cM C} {t : Int} (h : (eL w ⟨0,t,0⟩).2 = false) : ∀ k,eT w t k = w
 | 0 => rfl
 | k + 1 => by unfold eT; rw [if_neg (by rw [h]; simp)]
theorem HW {C : dR} (t : Int) : ∀ (i k : Nat) (w : cM C),eT w t (i + k) = eT (eT w t i) t k
 | 0,k,w => by rw [Nat.zero_add]; rfl
 | i + 1,k,w => by
  rw [show i + 1 + k = (i + k) + 1 by omega]
  by_cases h : (eL w ⟨0,t,0⟩).2 = true
  ·rw [eT,if_pos h,eT,if_pos h]
   exact HW t i k _
  ·rw [eT,if_neg h,eT,if_neg h]
   exact (D0 (by simpa using h) k).symm
end Go.Proofs.YtkmbcjnaaokilaaGreatDoor
set_option linter.defProp false
namespace Go.Proofs.YtkmbcjnaaokilaaGreatDoor
set_option linter.unusedSimpArgs false
set_option linter.unusedVariables false
open Go.RowKit Go.Maps

theorem gd {ew : List b3} {n : Nat} {J : bg → Env → Prop} {P : (bg → Env → Prop) → av → List (Nat × bl) → Nat → Prop} {S gh : ak} {l : List av} (bb : S.jU ew = gh) (af : gh.oX ew = some l) (aj : al gh.O n = some (.cq J)) (aw : P J (q9 l) gh.O gh.n) : wK ew n J P .ret S := by
 subst bb
 show cL _ _
 rw [af]; exact ⟨aj,aw⟩
theorem gb {ew : List b3} {n : Nat} {J : bg → Env → Prop} {P : (bg → Env → Prop) → av → List (Nat × bl) → Nat → Prop} {S gh : ak} {l : List av} (bb : S.jU ew = gh) (af : gh.oX ew = some l) (aj : al gh.O n = some (.cq J)) (aw : P J (q9 l) gh.O gh.n) : wK ew n J P .next S := by
 subst bb
 show cL _ _
 rw [af]; exact ⟨aj,aw⟩
theorem nJ {f : FuncId} {fn : Func} {g5 : bU} {ew : List b3} {args : List av} {O : List (Nat × bl)} {n : Nat} {P : (bg → Env → Prop) → av → List (Nat × bl) → Nat → Prop} (aW : Tryz.prog.funcs[f]? = some fn) (aO : cJ Tryz.prog rfl fn = some (g5,ew)) (a7 : Nat.ble args.length fn.ntmps = true)
  (h : ∀ J,hd g5 ⟨o8 0 args,(n,.cq J) :: O,n + 1⟩ (wK ew n J P)) : fv f args O n P := by
 unfold cJ at aO
 split at aO
 ·cases aO
 ·rename_i c aJ
  split at aO
  ·rename_i x y _ _
   cases aO
   exact J7 aW aJ mixed x.2 y.2 (Nat.le_of_ble_eq_true a7) h
  ·cases aO
theorem bn (l : List (Nat × bl)) (i j : Nat) : al (dC l i) j = if i = j then none else al l j := by
 split
 ·rename_i e; subst e; exact Om l i
 ·rename_i e; exact vh l e
theorem fE (n : Nat) : (∀ a b : Nat,n + a + b = n + (a + b)) ∧ (∀ (l : List (Nat × bl)) (i j : Nat),al (dC l i) j = if i = j then none else al l j) ∧ (∀ a : Nat,a + 0 = a) ∧
  ((n + 1 = n) = False) ∧ ((n + 2 = n) = False) ∧ ((n + 3 = n) = False) ∧ ((n + 4 = n) = False) ∧ ((n + 5 = n) = False) ∧ ((n + 6 = n) = False) ∧ ((n + 7 = n) = False) ∧ ((n + 8 = n) = False) ∧
  ((n = n + 1) = False) ∧ ((n = n + 2) = False) ∧ ((n = n + 3) = False) ∧ ((n = n + 4) = False) ∧ ((n = n + 5) = False) ∧ ((n = n + 6) = False) ∧ ((n = n + 7) = False) ∧ ((n = n + 8) = False) := by
 refine ⟨fun a b => by omega,bn,fun a => rfl,?_⟩
 refine ⟨?_,?_,?_,?_,?_,?_,?_,?_,?_,?_,?_,?_,?_,?_,?_,?_⟩ <;> exact eq_false (by omega)
theorem c3 {n d : Nat} (h : d < n) : ((n = d) = False) ∧ ((d = n) = False) ∧ (∀ k : Nat,(n + k = d) = False) ∧ (∀ k : Nat,(d = n + k) = False) := by
 refine ⟨?_,?_,?_,?_⟩ <;> first | exact eq_false (by omega) | (intro k; exact eq_false (by omega))
theorem BY {a b : Nat} (h : a ≠ b) : ((a = b) = False) ∧ ((b = a) = False) := ⟨eq_false h,eq_false (fun e => h e.symm)⟩
end Go.Proofs.YtkmbcjnaaokilaaGreatDoor
