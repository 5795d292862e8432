/-
  Layer 8 by shadows: worlds.
-/
import Derived.Test.YtkmbcjnaaokilaaGreatDoorK8a
import Derived.Test.YtkmbcjnaaokilaaGreatDoorMC
namespace Go.Proofs.YtkmbcjnaaokilaaGreatDoor
set_option linter.unusedSimpArgs false
set_option linter.unusedVariables false
open Go.RowKit Go.Maps
theorem Xc {M : e3} {n : Nat} (bA : nK M n) (t : Int) (a : dJ) (c : Int) : (kQ M t a c).1.mem.views.length = M.mem.views.length ∧ (kQ M t a c).1.mem.places.length = M.mem.places.length := by
 unfold kQ
 split
 ·rename_i h
  obtain ⟨_,_,af,aj,_⟩ := Mk bA c h
  exact ⟨af,aj⟩
 ·exact ⟨rfl,rfl⟩
structure cN (C : ed) where
 m : e3
 tasks : List (dt C)
 ib : List Bool
abbrev wM (b : Bool) : List aw := [eA b]
abbrev tL {C : ed} (w : cN C) : List aw := [.au 1 0 (w.m.mem.places.map sJ),.au 1 0 (w.m.mem.views.map yf),.au 3 0 (w.m.lines.first.map c6),.au 2 0 (w.m.lines.eX.map qg),.mp 3 fun t => (w.m.lines.asks t).map lf,.au 1 0 (w.m.steps.map u2),aG w.m.kc,.au 11 0 (w.tasks.map g3),.au 1 0 (w.ib.map wM)]
abbrev od {C : ed} (w : cN C) : aw := .agg (tL w)
abbrev uD : List aw := [.au 1 0 [],.au 1 0 [],.au 3 0 [],.au 2 0 [],.mp 3 fun _ => none,.au 1 0 [],aG 0,.au 11 0 [],.au 1 0 []]
structure iW {C : ed} (w : cN C) (n : Nat) : Prop where
 pU : nK w.m n
 oT : w.tasks.length ≤ w.m.mem.views.length
 stops : w.ib.length = w.tasks.length
 task : ∀ t ∈ w.tasks,tF t n
theorem OI {C : ed} {t : dt C} {n k : Nat} (h : tF t n) (az : n ≤ k) : tF t k := ⟨Nat.le_trans h.fc az,h.code,fun s ao => C.up (h.jB s ao) az⟩
theorem Ib {C : ed} {w : cN C} {n k : Nat} (h : iW w n) (az : n ≤ k) : iW w k := ⟨G7 h.pU az,h.oT,h.stops,fun t aL => OI (h.task t aL) az⟩
theorem Eo {C : ed} {w : cN C} {n : Nat} (h : iW w n) : w.tasks.length ≤ 8 := Nat.le_trans h.oT h.pU.mem.p4
abbrev BV (C : ed) (s : C.ak) : List aw := [hg C (some s)]
def jt {C : ed} (w : cN C) (i : Nat) : Bool := (w.ib[i]?).getD false
theorem TR {C : ed} (w : cN C) (i : Nat) (aq : i ≤ 1000000) : cq 54 [od w,aG i] (eA (jt w i)) := by
 refine df Tryz.func54 ann rfl ?_
 unfold jt
 by_cases h : i < w.ib.length
 ·have af : (i : Int) < (w.ib.length : Int) := by omega
  have aj := List.getElem?_eq_getElem h
  generalize w.ib[i] = b at aj
  rw [aj]
  unfold bK N5 NB;delta ab a8 aa a3
  have ad := And.intro @af @aj
  refine ae fun bD aK b9 ck => ai fun ca aH => ?_;refine al ad ?_;refine aH _ (aK (some ([1,2],none)) _ (ae fun cg aP bx b8 => ai fun ch bk => ?_));refine ag 3 ad ?_;refine ag 2 ad ?_;refine ag 3 ad ?_;refine ag 2 ad ?_;refine ag 1 ad ?_;refine al ad ?_;refine bk _ (aP (some ([4],none)) _ ?_)
  exact cQ ad
 ·have af : ¬ (i : Int) < (w.ib.length : Int) := by omega
  rw [List.getElem?_eq_none (by omega)]
  unfold bK N5 NB;delta ab a8 aa a3
  have ad := @af
  refine ae fun bD aK b9 ck => ai fun ca aH => ?_;refine al ad ?_;refine aH _ (aK (some ([1,2],none)) _ (ae fun cg aP bx b8 => ai fun ch bk => ?_));refine ag 3 ad ?_;refine ag 2 ad ?_;refine ag 3 ad ?_;refine ag 2 ad ?_;refine ag 1 ad ?_;refine al ad ?_;refine bk _ (aP (some ([4],none)) _ ?_)
  exact cQ ad
def tQ {C : ed} (w : cN C) : Bool := decide (w.m.mem.views.length = 0)
theorem ajH {C : ed} (w : cN C) : cq 49 [od w] (eA (tQ w)) := by
 refine df Tryz.func49 anh rfl ?_
 have e : tQ w = ((w.m.mem.views.length : Int) == 0) := by
  unfold tQ
  rw [Bool.eq_iff_iff]; simp
 rw [e]
 unfold bK Wj Vb;delta ab aa ay a3
 refine ae fun _ aK _ _ => ai fun _ aH => ?_;refine cE ?_;refine aH _ (aK (some ([1],none)) _ (ae fun _ aP _ _ => ai fun _ bk => ?_));refine c4 2 ?_;refine eH 1 ?_;refine Or.inl (Or.inl ⟨_,DM w.m,?_⟩);refine cE ?_;refine bk _ (aP (some ([3],none)) _ (ae fun _ bV _ _ => ai fun _ dk => ?_));refine c4 2 ?_;refine cE ?_;refine dk _ (bV (some ([2],none)) _ ?_)
 exact jq
def je {C : ed} (w : cN C) (i : Nat) : Bool := ((w.tasks[i]?).map dt.live).getD false
def k3 {C : ed} (w : cN C) (t : Int) : Bool := decide (1 ≤ t ∧ t ≤ (w.tasks.length : Int)) && (!(jt w (t - 1).toNat) && je w (t - 1).toNat)
set_option maxHeartbeats 2000000 in
theorem ajI {C : ed} (w : cN C) (t : Int) (aE : w.tasks.length ≤ 8) : cq 51 [od w,aG t] (eA (k3 w t)) := by
 refine df Tryz.func51 ano rfl ?_
 have fo := pa C
 unfold k3
 by_cases af : 1 ≤ t
 case neg =>
  rw [show decide (1 ≤ t ∧ t ≤ (w.tasks.length : Int)) = false from decide_eq_false (fun h => af h.1),Bool.false_and]
  unfold bK D7 D3;delta ab a8 aa ay a3
  have ad := And.intro @af @fo
  refine ae fun bD aK b9 ck => ai fun ca aH => ?_;refine al ad ?_;refine aH _ (aK (some ([1,2],none)) _ (ae fun cg aP bx b8 => ai fun ch bk => ?_));refine ag 2 ad ?_;refine ag 4 ad ?_;refine ag 2 ad ?_;refine ag 3 ad ?_;refine ag 2 ad ?_;refine aM 1 ad ?_
  skip
  refine ag 5 ad ?_;refine ag 2 ad ?_;refine ag 1 ad ?_;refine ag 1 ad ?_;refine aM 1 ad ?_
  skip
  refine al ad ?_;refine bk _ (aP (some ([4],none)) _ ?_)
  exact cQ ad
 by_cases aj : t ≤ (w.tasks.length : Int)
 case neg =>
  rw [show decide (1 ≤ t ∧ t ≤ (w.tasks.length : Int)) = false from decide_eq_false (fun h => aj h.2),Bool.false_and]
  unfold bK D7 D3;delta ab a8 aa ay a3
  have ad := And.intro @af (And.intro @aj @fo)
  refine ae fun bD aK b9 ck => ai fun ca aH => ?_;refine al ad ?_;refine aH _ (aK (some ([1,2],none)) _ (ae fun cg aP bx b8 => ai fun ch bk => ?_));refine ag 2 ad ?_;refine ag 4 ad ?_;refine ag 2 ad ?_;refine ag 3 ad ?_;refine ag 2 ad ?_;refine aM 1 ad ?_
  skip
  refine ag 5 ad ?_;refine ag 2 ad ?_;refine ag 1 ad ?_;refine ag 1 ad ?_;refine aM 1 ad ?_
  skip
  refine al ad ?_;refine bk _ (aP (some ([4],none)) _ ?_)
  exact cQ ad
 rw [show decide (1 ≤ t ∧ t ≤ (w.tasks.length : Int)) = true from decide_eq_true ⟨af,aj⟩,Bool.true_and]
 obtain ⟨m,hm⟩ := Int.eq_ofNat_of_zero_le (show 0 ≤ t - 1 by omega)
 have bJ : IntKind.i64.wrap (t - 1) = (m : Int) := by rw [IntKind.wrap_i64]; omega
 have bX := TR w m (by omega)
 rw [hm,Int.toNat_natCast]
 obtain ⟨y,aV⟩ : ∃ y,w.tasks[m]? = some y := ⟨_,List.getElem?_eq_getElem (by omega)⟩
 have a1 : je w m = y.live := by unfold je; rw [aV]; rfl
 have cL := Hj y
 rw [a1]
 generalize y.live = b at cL
 cases aI : jt w m
 ·rw [aI] at bX
  have a9 : (!!b) = b := by simp
  unfold bK D7 D3;delta ab a8 aa ay a3
  have ad := And.intro @af (And.intro @aj (And.intro @bJ (And.intro @fo (And.intro @aV @a9))))
  refine ae fun bD aK b9 ck => ai fun ca aH => ?_;refine al ad ?_;refine aH _ (aK (some ([1,2],none)) _ (ae fun cg aP bx b8 => ai fun ch bk => ?_));refine ag 2 ad ?_;refine ag 4 ad ?_;refine ag 2 ad ?_;refine ag 3 ad ?_;refine ag 2 ad ?_;refine aM 1 ad ?_;refine Or.inl (Or.inl ⟨_,bX,?_⟩);refine ag 5 ad ?_;refine ag 2 ad ?_;refine ag 1 ad ?_;refine ag 1 ad ?_;refine aM 1 ad ?_;refine Or.inl (Or.inl ⟨_,cL,?_⟩);refine al ad ?_;refine bk _ (aP (some ([4],none)) _ ?_)
  exact cQ ad
 ·rw [aI] at bX
  unfold bK D7 D3;delta ab a8 aa ay a3
  have ad := And.intro @af (And.intro @aj (And.intro @bJ (And.intro @fo @aV)))
  refine ae fun bD aK b9 ck => ai fun ca aH => ?_;refine al ad ?_;refine aH _ (aK (some ([1,2],none)) _ (ae fun cg aP bx b8 => ai fun ch bk => ?_));refine ag 2 ad ?_;refine ag 4 ad ?_;refine ag 2 ad ?_;refine ag 3 ad ?_;refine ag 2 ad ?_;refine aM 1 ad ?_;refine Or.inl (Or.inl ⟨_,bX,?_⟩);refine ag 5 ad ?_;refine ag 2 ad ?_;refine ag 1 ad ?_;refine ag 1 ad ?_;refine aM 1 ad ?_
  skip
  refine al ad ?_;refine bk _ (aP (some ([4],none)) _ ?_)
  exact cQ ad
def oH {C : ed} (w : cN C) (m : e3) (i : Nat) (t : dt C) : cN C := ⟨m,w.tasks.set i t,w.ib⟩
noncomputable def pF {C : ed} (w : cN C) (t c : Int) : cN C := match w.tasks[(t - 1).toNat]? with
 | some y => oH w (kQ w.m t y.act c).1 (t - 1).toNat (jl y (kQ w.m t y.act c).2.1)
 | none => w
def rZ {C : ed} (w : cN C) (t : Int) : cN C := { w with ib := w.ib.set (t - 1).toNat true }
structure lI where
 kind : Int
 jv : Int
 choice : Int
abbrev wQ (p : lI) : List aw := [aG p.kind,aG p.jv,aG p.choice]
noncomputable def eU {C : ed} (w : cN C) (p : lI) : cN C × Bool :=
 if tQ w = true then (w,false)
 else if p.kind = 2 then (⟨z7 w.m p.choice,[],[]⟩,true)
 else if k3 w p.jv = false then (w,false)
 else if p.kind = 0 then (pF w p.jv p.choice,true)
 else if p.kind = 1 then (rZ w p.jv,true)
 else (w,false)
theorem OH {C : ed} {w : cN C} {t : Int} (h : k3 w t = true) : ∃ (m : Nat) (y : dt C),t = (m : Int) + 1 ∧ w.tasks[m]? = some y ∧ y.live = true ∧ jt w m = false := by
 unfold k3 at h
 simp only [Bool.and_eq_true,decide_eq_true_eq,Bool.not_eq_true'] at h
 obtain ⟨⟨af,aj⟩,av,aY⟩ := h
 obtain ⟨m,hm⟩ := Int.eq_ofNat_of_zero_le (show 0 ≤ t - 1 by omega)
 rw [hm,Int.toNat_natCast] at av aY
 obtain ⟨y,aV⟩ : ∃ y,w.tasks[m]? = some y := ⟨_,List.getElem?_eq_getElem (by omega)⟩
 refine ⟨m,y,by omega,aV,?_,av⟩
 unfold je at aY
 rw [aV] at aY; exact aY
theorem Xs {C : ed} {t : dt C} {s : C.ak} {a : dJ} {b : Bool} {n : Nat} (aJ : t.fc.length ≤ n) (ao : C.jB n s) : tF (jG t s a b) n := by
 unfold jG
 split
 ·exact ⟨aJ,(fun h => nomatch h),fun dH h => by cases h; exact ao⟩
 ·exact ⟨aJ,fun _ => ⟨s,rfl⟩,fun dH h => by cases h; exact ao⟩
theorem aeE {C : ed} {t : dt C} {g : ei} {n : Nat} (h : tF t n) : tF (jl t g) (n + 1) := by
 unfold jl
 split
 ·rename_i aE
  obtain ⟨s,ao⟩ := h.code aE
  rw [ao]
  exact Xs (t := { t with fc := t.fc ++ [g] }) (by have := h.fc; simp; omega) (C.keeps g (h.jB s ao))
 ·exact OI h (by omega)
theorem Xi {C : ed} {s : C.ak} {n : Nat} (h : C.jB n s) : tF (nX s) (n + 1) := Xs (t := v9 C) (by simp [v9]) (C.keeps e9 h)
theorem aeI {C : ed} {w : cN C} {n : Nat} (h : iW w n) (t c : Int) : iW (pF w t c) (n + 1) := by
 unfold pF
 split
 ·rename_i y aV
  have ao := Xc h.pU t y.act c
  refine ⟨aiq h.pU t y.act c,by simp only [oH,List.length_set]; rw [ao.1]; exact h.oT,by simp only [oH,List.length_set]; exact h.stops,fun x ar => ?_⟩
  rcases List.mem_or_eq_of_mem_set ar with ar | rfl
  ·exact OI (h.task x ar) (by omega)
  ·exact aeE (h.task y (List.mem_of_getElem? aV))
 ·exact Ib h (by omega)
theorem afz {C : ed} {w : cN C} {n : Nat} (h : iW w n) (t : Int) : iW (rZ w t) n := ⟨h.pU,h.oT,by simp only [rZ,List.length_set]; exact h.stops,h.task⟩
theorem H2 {C : ed} {w : cN C} {n : Nat} (h : iW w n) (p : lI) : iW (eU w p).1 (n + 1) := by
 have hu := Ib h (show n ≤ n + 1 by omega)
 unfold eU
 split
 ·exact hu
 ·split
  ·exact ⟨aip h.pU p.choice,by simp,rfl,fun t aL => by cases aL⟩
  ·split
   ·exact hu
   ·split
    ·exact aeI h _ _
    ·split
     ·exact afz hu _
     ·exact hu
set_option maxHeartbeats 2000000 in
theorem ajJ {C : ed} (w : cN C) (t : Int) {n : Nat} (h : iW w n) (aL : k3 w t = true) : cq 53 [od w,aG t] (od (rZ w t)) := by
 refine df Tryz.func53 anr rfl ?_
 obtain ⟨m,y,rfl,aV,aE,_⟩ := OH aL
 have fo := pa C
 have c9 := Eo h
 have kT := (List.getElem?_eq_some_iff.1 aV).1
 have iB := h.stops
 have bJ : IntKind.i64.wrap ((m : Int) + 1 - 1) = (m : Int) := by rw [IntKind.wrap_i64]; omega
 have cf : w.tasks.length ≤ 1000000 := by omega
 have dA : w.tasks.length * 1 ≤ 140737488355328 := by omega
 have em : ((m : Int) + 1 - 1).toNat = m := by omega
 have a1 : (w.ib.map wM).take w.tasks.length = w.ib.map wM := by rw [List.take_of_length_le (by simp; omega)]
 have a7 : (List.replicate w.tasks.length [aw.v (.bool false)]).drop w.ib.length = [] := by simp; omega
 have ct : (w.ib.map wM).set m [eA true] = (w.ib.set m true).map wM := by rw [List.map_set]
 obtain ⟨b,aI⟩ : ∃ b,w.ib[m]? = some b := ⟨_,List.getElem?_eq_getElem (by omega)⟩
 have fr : m < w.ib.length := by omega
 unfold rZ
 rw [em]
 unfold bK Wn Vf;delta ab aQ aa ay a3
 have ad := And.intro @bJ (And.intro @cf (And.intro @dA (And.intro @fr (And.intro @a1 (And.intro @a7 (And.intro @aI @ct))))))
 refine ae fun _ aK _ _ => ai fun _ aH => ?_;refine al ad ?_;refine aH _ (aK (some ([1,2,4],none)) _ (ae fun _ aP _ _ => ai fun _ bk => ?_));refine ag 2 ad ?_;refine ag 2 ad ?_;refine al ad ?_;refine bk _ (aP (some ([1,2,4,5],none)) _ (ae fun _ bV _ _ => ai fun _ dk => ?_));refine ag 3 ad ?_;refine aS ad ?_;refine dk _ (bV (some ([1,2,4,5],none)) _ (ae fun _ cz _ _ => ai fun _ c7 => ?_));refine ag 3 ad ?_;refine ag 1 ad ?_;refine aS ad ?_;refine c7 _ (cz (some ([2,4,5],none)) _ (ae fun _ cR _ _ => ai fun _ cK => ?_));refine aS ad ?_;refine cK _ (cR (some ([2,4],none)) _ (ae fun _ cr _ _ => ai fun _ cD => ?_));refine ag 1 ad ?_;refine aS ad ?_;refine cD _ (cr (some ([4],none)) _ ?_)
 exact cQ ad
abbrev Jo {C : ed} (w : cN C) : bo := .box 63 (tL w)
noncomputable def e0 {C : ed} (w : cN C) (t : Int) : Nat → cN C
 | 0 => w
 | n + 1 => if (eU w ⟨0,t,0⟩).2 = true then e0 (eU w ⟨0,t,0⟩).1 t n else w
theorem Rm {C : ed} {w : cN C} {t : Int} : ∀ {n : Nat},e0 w t (n + 1) = if (eU (e0 w t n) ⟨0,t,0⟩).2 = true then (eU (e0 w t n) ⟨0,t,0⟩).1 else e0 w t n
 | 0 => rfl
 | n + 1 => by
  unfold e0
  by_cases h : (eU w ⟨0,t,0⟩).2 = true
  ·rw [if_pos h,if_pos h]
   exact Rm (w := (eU w ⟨0,t,0⟩).1) (n := n)
  ·rw [if_neg h,if_neg h]
   rw [if_neg h]
theorem J9 {C : ed} (t : Int) : ∀ (k : Nat) {w : cN C} {n : Nat},iW w n → iW (e0 w t k) (n + k)
 | 0,_,_,h => h
 | k + 1,w,n,h => by
  unfold e0
  split
  ·have := J9 t k (H2 h ⟨0,t,0⟩)
   rw [show n + (k + 1) = n + 1 + k by omega]
   exact this
  ·exact Ib h (by omega)
theorem alD {C : ed} (w : cN C) (t : Int) : (eU w ⟨0,t,0⟩).1.tasks.length = w.tasks.length := by
 unfold eU
 split
 ·rfl
 ·rw [if_neg (by simp)]
  split
  ·rfl
  ·rw [if_pos rfl]
   unfold pF
   split
   ·simp [oH]
   ·rfl
theorem Kb {C : ed} (t : Int) : ∀ (k : Nat) (w : cN C),(e0 w t k).tasks.length = w.tasks.length
 | 0,_ => rfl
 | k + 1,w => by
  unfold e0
  split
  ·rw [Kb t k,alD]
  ·rfl
theorem F5 {C : ed} {w : cN C} {t : Int} (h : (eU w ⟨0,t,0⟩).2 = false) : ∀ k,e0 w t k = w
 | 0 => rfl
 | k + 1 => by unfold e0; rw [if_neg (by rw [h]; simp)]
theorem Ka {C : ed} (t : Int) : ∀ (i k : Nat) (w : cN C),e0 w t (i + k) = e0 (e0 w t i) t k
 | 0,k,w => by rw [Nat.zero_add]; rfl
 | i + 1,k,w => by
  rw [show i + 1 + k = (i + k) + 1 by omega]
  by_cases h : (eU w ⟨0,t,0⟩).2 = true
  ·rw [e0,if_pos h,e0,if_pos h]
   exact Ka t i k _
  ·rw [e0,if_neg h,e0,if_neg h]
   exact (F5 (by simpa using h) k).symm
end Go.Proofs.YtkmbcjnaaokilaaGreatDoor
set_option linter.defProp false
namespace Go.Proofs.YtkmbcjnaaokilaaGreatDoor
set_option linter.unusedSimpArgs false
set_option linter.unusedVariables false
open Go.RowKit Go.Maps

theorem gv {eS : List b6} {n : Nat} {J : bl → Env → Prop} {P : (bl → Env → Prop) → aw → List (Nat × bo) → Nat → Prop} {S gr : ak} {l : List aw} (ba : S.ke eS = gr) (af : gr.pZ eS = some l) (aj : an gr.O n = some (.cB J)) (av : P J (si l) gr.O gr.n) : Ah eS n J P .ret S := by
 subst ba
 show cS _ _
 rw [af]; exact ⟨aj,av⟩
theorem gu {eS : List b6} {n : Nat} {J : bl → Env → Prop} {P : (bl → Env → Prop) → aw → List (Nat × bo) → Nat → Prop} {S gr : ak} {l : List aw} (ba : S.ke eS = gr) (af : gr.pZ eS = some l) (aj : an gr.O n = some (.cB J)) (av : P J (si l) gr.O gr.n) : Ah eS n J P .next S := by
 subst ba
 show cS _ _
 rw [af]; exact ⟨aj,av⟩
theorem oF {f : FuncId} {fn : Func} {h9 : bZ} {eS : List b6} {args : List aw} {O : List (Nat × bo)} {n : Nat} {P : (bl → Env → Prop) → aw → List (Nat × bo) → Nat → Prop} (aZ : Tryz.prog.funcs[f]? = some fn) (aL : cP Tryz.prog rfl fn = some (h9,eS)) (a9 : Nat.ble args.length fn.ntmps = true)
  (h : ∀ J,g4 h9 ⟨qT 0 args,(n,.cB J) :: O,n + 1⟩ (Ah eS n J P)) : gg f args O n P := by
 unfold cP at aL
 split at aL
 ·cases aL
 ·rename_i c aI
  split at aL
  ·rename_i x y _ _
   cases aL
   exact TE aZ aI mixed x.2 y.2 (Nat.le_of_ble_eq_true a9) h
  ·cases aL
theorem bq (l : List (Nat × bo)) (i j : Nat) : an (ef l i) j = if i = j then none else an l j := by
 split
 ·rename_i e; subst e; exact Re l i
 ·rename_i e; exact wV l e
theorem fG (n : Nat) : (∀ a b : Nat,n + a + b = n + (a + b)) ∧ (∀ (l : List (Nat × bo)) (i j : Nat),an (ef l i) j = if i = j then none else an l j) ∧ (∀ a : Nat,a + 0 = a) ∧
  ((n + 1 = n) = False) ∧ ((n + 2 = n) = False) ∧ ((n + 3 = n) = False) ∧ ((n + 4 = n) = False) ∧ ((n + 5 = n) = False) ∧ ((n + 6 = n) = False) ∧ ((n + 7 = n) = False) ∧ ((n + 8 = n) = False) ∧
  ((n = n + 1) = False) ∧ ((n = n + 2) = False) ∧ ((n = n + 3) = False) ∧ ((n = n + 4) = False) ∧ ((n = n + 5) = False) ∧ ((n = n + 6) = False) ∧ ((n = n + 7) = False) ∧ ((n = n + 8) = False) := by
 refine ⟨fun a b => by omega,bq,fun a => rfl,?_⟩
 refine ⟨?_,?_,?_,?_,?_,?_,?_,?_,?_,?_,?_,?_,?_,?_,?_,?_⟩ <;> exact eq_false (by omega)
theorem cW {n d : Nat} (h : d < n) : ((n = d) = False) ∧ ((d = n) = False) ∧ (∀ k : Nat,(n + k = d) = False) ∧ (∀ k : Nat,(d = n + k) = False) := by
 refine ⟨?_,?_,?_,?_⟩ <;> first | exact eq_false (by omega) | (intro k; exact eq_false (by omega))
theorem zg {a b : Nat} (h : a ≠ b) : ((a = b) = False) ∧ ((b = a) = False) := ⟨eq_false h,eq_false (fun e => h e.symm)⟩
end Go.Proofs.YtkmbcjnaaokilaaGreatDoor
