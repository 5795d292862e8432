/-
  The shadow machine: a fourth reading of code, where a new row's zero maps are nil.
-/
import Derived.Test.YtkmbcjnaaokilaaGreatDoorMC
import Derived.Test.YtkmbcjnaaokilaaGreatDoorMK17
namespace Go.Proofs.YtkmbcjnaaokilaaGreatDoor
set_option linter.unusedSimpArgs false
set_option linter.unusedVariables false
open Go.RowKit Go.Maps

def bZ.sub : bZ → List Bool → bZ
 | .seq a _,false :: p => a.sub p
 | .seq _ b,true :: p => b.sub p
 | .cond _ a _,false :: p => a.sub p
 | .cond _ _ b,true :: p => b.sub p
 | .block _ a,false :: p => a.sub p
 | .loop a,false :: p => a.sub p
 | c,_ => c
theorem u0 {S : ak} {K : qK → ak → Prop} (cs : List rC) (I : List Nat → ak → Prop) (P : ak → Prop) {wt : List (List Nat)} {l : List cA} (ba : I [] (S.gM cs)) (af : ∀ done S' i,I done S' → sh wt done i = true → cS l[i]? fun g => kd g S' fun gr => I (i :: done) gr)
  (aj : ∀ done S',I done S' → (∀ i,i < wt.length → done.contains i = true) → ∃ ht,P ((S'.e1 ht).sorted)) (av : ∀ bT,P bT → K .next bT) : g4 (.qc wt l) S K :=
 ⟨cs,I,ba,af,fun d S' aq a5 => by obtain ⟨ht,e⟩ := aj d S' aq a5; exact ⟨ht,av _ e⟩⟩
theorem cZ {l : List cA} {i : Nat} {o : cA} {S : ak} {J : ak → Prop} (ax : l[i]? = some o) (h : ∀ wi : ak → Prop,(∀ S',J S' → wi S') → kd o S wi) : cS l[i]? fun g => kd g S J := by
 rw [ax]
 exact h J fun _ h => h
theorem dL {wt : List (List Nat)} {done : List Nat} {i : Nat} {l : List Nat} (h : sh wt done i = true) (aE : wt[i]? = some l) : ∀ j,l.contains j = true → done.contains j = true := fun j aN => by
 unfold sh at h
 rw [aE,Bool.and_eq_true] at h
 exact List.all_eq_true.1 h.2 j (by simpa using aN)
theorem vS {wt : List (List Nat)} {done : List Nat} {i : Nat} (h : sh wt done i = true) : i < wt.length := by
 unfold sh at h
 rw [Bool.and_eq_true] at h
 by_cases aq : i < wt.length
 ·exact aq
 ·rw [List.getElem?_eq_none (by omega)] at h
  cases h.2
theorem vT {wt : List (List Nat)} {done : List Nat} {i : Nat} (h : sh wt done i = true) : done.contains i = false := by
 unfold sh at h
 rw [Bool.and_eq_true] at h
 simpa using h.1

def akq : List FuncId := [67,75,12,13]
def aks (l : List cA) : Bool := l.any fun g => match g.op with
 | .kP .. => true
 | .call f _ => akq.contains f
 | _ => false
def zF (P : Program) (cb : P = Tryz.prog) (N : Nat) : (c : Code) → Option {h9 : bZ // k7 N c h9}
 | .region id ops true => match H8 P cb N ops ops.toList with
  | some cu => if aks cu.1 = true then (if h : (Region.noSelect ops && Em ops) = true then some ⟨.qc (ops.toList.map wl) cu.1,by
     simp only [Bool.and_eq_true] at h
     exact .qc cu.2 h.1 h.2⟩ else none) else vY P cb N (.region id ops true)
  | none => none
 | .seq a b => match zF P cb N a,zF P cb N b with
  | some x,some y => some ⟨.seq x.1 y.1,.seq x.2 y.2⟩
  | _,_ => none
 | .cond c a b => match zF P cb N a,zF P cb N b with
  | some x,some y => some ⟨.cond c x.1 y.1,.cond x.2 y.2⟩
  | _,_ => none
 | .block id a => match zF P cb N a with
  | some x => some ⟨.block id x.1,.block x.2⟩
  | none => none
 | .loop a => match zF P cb N a with
  | some x => some ⟨.loop x.1,.loop x.2⟩
  | none => none
 | c => vY P cb N c
def uy (P : Program) (cb : P = Tryz.prog) (fn : Func) : Option (bZ × List b6) :=
 match fn.body with
 | none => none
 | some c => match zF P cb fn.ntmps c,OM P cb fn.results.toList with
  | some x,some y => some (x.1,y.1)
  | _,_ => none
theorem xy {f : FuncId} {fn : Func} {h9 : bZ} {eS : List b6} {args : List aw} {O : List (Nat × bo)} {n : Nat} {P : (bl → Env → Prop) → aw → List (Nat × bo) → Nat → Prop} (aZ : Tryz.prog.funcs[f]? = some fn) (aL : uy Tryz.prog rfl fn = some (h9,eS)) (a9 : Nat.ble args.length fn.ntmps = true)
  (h : ∀ J,g4 h9 ⟨qT 0 args,(n,.cB J) :: O,n + 1⟩ (Ah eS n J P)) : gg f args O n P := by
 unfold uy at aL
 split at aL
 ·cases aL
 ·rename_i c aI
  split at aL
  ·rename_i x y _ _
   cases aL
   exact TE aZ aI mixed x.2 y.2 (Nat.le_of_ble_eq_true a9) h
  ·cases aL

theorem T5 {f : FuncId} {l : List aw} {r : aw} (h : gg f l [] 0 (fun _ h7 _ _ => h7 = r)) (hp : r.pure = true) : cq f l r := by
 intro w H vs ao bj
 have aO : bC 0 w H ⟨[],[(0,.cB fun _ _ => True)],1⟩ (eD.set 0 (undef,0,none)) { tmps := #[],defers := [] } w H := by
  refine ⟨Grow.refl ao,fun t x ar => (by cases ar),fun i o ax => ?_,fun i j iN aq aN b u k k5 dG a1 a7 => ?_,fun i aq => ?_,rfl,rfl⟩
  ·simp only [an] at ax
   split at ax
   ·rename_i e
    cases ax
    subst e
    exact ⟨⟨_,Env.iU _ _ _⟩,trivial,fun _ _ _ _ _ _ _ => trivial⟩
   ·cases ax
  ·obtain ⟨o,ax,aE⟩ := aq
   simp only [an] at ax
   split at ax
   ·cases ax; cases aE
   ·cases ax
  ·show Env.set eD 0 _ i = none
   unfold Env.set
   rw [if_neg (by have : 1 ≤ i := aq; omega)]
   rfl
 have aB := h (fun _ _ => True) 0 w H _ _ w H vs aO (bj.mono (fun _ _ h => h) (mb _))
 refine Calls.mono aB fun e w' aT => ?_
 obtain ⟨v,h7,O',bO,E',H',rfl,rfl,_,dY,bf⟩ := aT
 exact ⟨v,H',rfl,dY.grow,bf.pure hp eD⟩
theorem en {i j : Nat} (h : j ≠ i) (done : List Nat) : (i :: done).contains j = done.contains j := by
 rw [List.contains_cons,show (j == i) = false by simpa using h,Bool.false_or]
theorem wH (i : Nat) (done : List Nat) : (i :: done).contains i = true := by simp
theorem F2 {α : Type} : ∀ {l : List (Nat × α)} {t : Nat} {v : α},an l t = some v → (t,v) ∈ l
 | (k,q) :: l,t,v,hu => by
  simp only [an] at hu
  split at hu
  ·rename_i a7; cases hu; subst a7; exact List.mem_cons_self ..
  ·exact List.mem_cons_of_mem _ (F2 hu)
def qI (wt : List (List Nat)) (done : List Nat) : Prop := ∀ i l,done.contains i = true → wt[i]? = some l → ∀ j,l.contains j = true → done.contains j = true
theorem uY (wt : List (List Nat)) : qI wt [] := fun i l h => by simp at h
theorem qI.cons {wt : List (List Nat)} {done : List Nat} {i : Nat} (h : qI wt done) (aA : sh wt done i = true) : qI wt (i :: done) := by
 intro k l az aE j aN
 by_cases e : k = i
 ·subst e
  have := dL aA aE j aN
  rw [List.contains_cons,this,Bool.or_true]
 ·rw [en e] at az
  have := h k l az aE j aN
  rw [List.contains_cons,this,Bool.or_true]
structure jh {α : Type} (lG : List (Nat × aw)) (V : α → List (Nat × (Nat × aw))) (late : List Nat) (c : Nat) (O : List (Nat × bo)) (n : Nat) (P : α → List (Nat × bo) → Nat → Prop) (done : List Nat) (S : ak) (x : α) : Prop where
 base : ∀ t s,an lG t = some s → an S.T t = some s
 mm : ∀ t j s,an (V x) t = some (j,s) → done.contains j = true → an S.T t = some s
 late : ∀ j,late.contains j = true → done.contains j = true → done.contains c = true
 pre : done.contains c = false → S.O = O ∧ S.n = n
 post : done.contains c = true → P x S.O S.n
section
variable {α : Type} {lG : List (Nat × aw)} {V : α → List (Nat × (Nat × aw))} {late : List Nat} {c : Nat} {O : List (Nat × bo)} {n : Nat} {P : α → List (Nat × bo) → Nat → Prop} {done : List Nat} {S : ak} {x : α}
theorem jh.init {S : ak} (h : ∀ t s,an lG t = some s → an S.T t = some s) (dX : S.O = O) (a9 : S.n = n) : jh lG V late c O n P [] S x :=
 ⟨h,fun t j s _ aN => by simp at aN,fun j _ aN => by simp at aN,fun _ => ⟨dX,a9⟩,fun h => by simp at h⟩
theorem jh.put (h : jh lG V late c O n P done S x) {i t : Nat} {s : aw} (aq : an (V x) t = some (i,s)) (fw : an lG t = none) (bf : ((V x).all fun r => r.2.1 != i || r.1 == t) = true) (aB : i ≠ c) (aE : late.contains i = true → done.contains c = true) : jh lG V late c O n P (i :: done) (S.put t s) x := by
 refine ⟨fun u v hu => ?_,fun u j v hu aN => ?_,fun j aN a6 => ?_,fun a6 => ?_,fun a6 => ?_⟩
 ·show an ((t,s) :: ef S.T t) u = _
  rw [mR,if_neg (fun e => by subst e; rw [fw] at hu; cases hu)]
  exact h.base u v hu
 ·show an ((t,s) :: ef S.T t) u = _
  rw [mR]
  by_cases e : t = u
  ·subst e
   rw [aq] at hu
   cases hu
   exact if_pos rfl
  ·rw [if_neg e]
   have pJ : j ≠ i := fun a7 => by
    subst a7
    have c1 := List.all_eq_true.1 bf _ (F2 hu)
    simp at c1
    exact e c1.symm
   rw [en pJ] at aN
   exact h.mm u j v hu aN
 ·rw [en (Ne.symm aB)]
  by_cases e : j = i
  ·subst e; exact aE aN
  ·rw [en e] at a6; exact h.late j aN a6
 ·rw [en (Ne.symm aB)] at a6; exact h.pre a6
 ·rw [en (Ne.symm aB)] at a6; exact h.post a6
theorem jh.call (h : jh lG V late c O n P done S x) (a6 : done.contains c = false) {rB : α} {t : Nat} {s : aw} {O' : List (Nat × bo)} {bO : Nat} (aq : an (V rB) t = some (c,s)) (fw : an lG t = none) (bf : ((V rB).all fun r => r.2.1 != c || r.1 == t) = true)
  (q5 : ∀ u j v,an (V rB) u = some (j,v) → late.contains j = false → j ≠ c → an (V x) u = some (j,v)) (cb : P rB O' bO) : jh lG V late c O n P (c :: done) ⟨(t,s) :: ef S.T t,O',bO⟩ rB := by
 refine ⟨fun u v hu => ?_,fun u j v hu aN => ?_,fun j aN _ => wH _ _,fun a6 => (by rw [wH] at a6; cases a6),fun _ => cb⟩
 ·show an ((t,s) :: ef S.T t) u = _
  rw [mR,if_neg (fun e => by subst e; rw [fw] at hu; cases hu)]
  exact h.base u v hu
 ·show an ((t,s) :: ef S.T t) u = _
  rw [mR]
  by_cases e : t = u
  ·subst e
   rw [aq] at hu
   cases hu
   exact if_pos rfl
  ·rw [if_neg e]
   have R9 : j ≠ c := fun a7 => by
    subst a7
    have c1 := List.all_eq_true.1 bf _ (F2 hu)
    simp at c1
    exact e c1.symm
   rw [en R9] at aN
   have aE : late.contains j = false := by
    cases ct : late.contains j with
    | false => rfl
    | true => rw [h.late j ct aN] at a6; cases a6
   exact h.mm u j v (q5 u j v hu aE R9) aN
theorem Rd {α : Type} : ∀ (a b : List (Nat × α)) (t : Nat),an (a ++ b) t = match an a t with | some x => some x | none => an b t
 | [],_,_ => rfl
 | (k,x) :: a,b,t => by
  simp only [List.cons_append,an]
  by_cases h : k = t
  ·simp [h]
  ·simp only [if_neg h]; exact Rd a b t
end
section
variable {α : Type} {lG PL : List (Nat × aw)} {W : α → List (Nat × (Nat × aw))} {B : List (Nat × (Nat × aw))} {late : List Nat} {c : Nat} {O : List (Nat × bo)} {n : Nat} {P : α → List (Nat × bo) → Nat → Prop} {done : List Nat} {S : ak} {x : α}
theorem jh.call2 (h : jh lG (fun x => B ++ W x) late c O n P done S x) (a6 : done.contains c = false) {rB : α} {t : Nat} {s : aw} {O' : List (Nat × bo)} {bO : Nat} (aq : an (B ++ W rB) t = some (c,s)) (fw : an lG t = none) (bf : ((B ++ W rB).all fun r => r.2.1 != c || r.1 == t) = true)
  (ng : ((W rB).all fun r => late.contains r.2.1 || r.2.1 == c) = true) (cb : P rB O' bO) : jh lG (fun x => B ++ W x) late c O n P (c :: done) ⟨(t,s) :: ef S.T t,O',bO⟩ rB := by
 refine h.call a6 aq fw bf (fun u j v hu aE aN => ?_) cb
 rw [Rd] at hu ⊢
 cases aI : an B u with
 | some y => rw [aI] at hu; exact hu
 | none =>
  rw [aI] at hu
  have := List.all_eq_true.1 ng _ (F2 hu)
  simp only [Bool.or_eq_true,beq_iff_eq] at this
  rcases this with af | af
  ·rw [af] at aE; cases aE
  ·exact absurd af aN
end
end Go.Proofs.YtkmbcjnaaokilaaGreatDoor
namespace Go.Proofs.YtkmbcjnaaokilaaGreatDoor
open Go.RowKit

def N4 : bZ := (.seq (.ops [ab 2 (.box 84 (aa 0)),ab 3 (.box 100 (aa 1)),ab 4 (.cw 84 [.nilIface,.nilFunc,.int .i64,.int .i64,.int .i64,.int .u32,.int .u32,.int .i64,.int .u32,.int .u32,.au 4])]) (.seq (.seq (.ops [ab 6 (.aC (aa 2) (some 11)),ab 7 (.call 55 [.tmp 6])]) (.cond (aa 7) (.seq (.ops [ab 8 (.aC (aa 2) (some 11)),aQ (.st 11 (aa 4) (aa 8))]) .ret) .skip)) (.seq (.ops [ab 9 (.aU (aa 2) 1),ab 10 (.aC (aa 9) none),ab 5 (.ah (aa 10))]) (.seq (.g0 5 [ab 11 (.aU (aa 2) 10),ab 12 (.aC (aa 11) none),ab 13 (.call 94 [.tmp 12]),ab 14 (.aC (aa 3) (some 4)),ab 15 (.hE 4 [.tmp 14]),ab 16 (.app (aa 13) (aa 15) 100 4 24),ab 17 (.aU (aa 2) 10),aQ (.st 1 (aa 17) (aa 16))]) (.seq (.qc [[],[],[],[1,2],[3],[3],[3],[0,4,5,6,3],[7,7,0,1,2,3,4,5,6,7]] [ab 18 (.aC (aa 2) (some 11)),ab 19 (.ah (aa 5)),ab 20 (.aC (aa 3) (some 4)),ab 21 (.kP (aa 19) [.tmp 20]),ab 22 (.ext (aa 21) 0),ab 23 (.ext (aa 21) 1),ab 24 (.ext (aa 21) 2),ab 25 (.call 82 [.tmp 18,.tmp 22,.tmp 23,.tmp 24]),aQ (.st 11 (aa 4) (aa 25))]) .ret)))))
def NA : List b6 := [(.eB 4 (some 11))]
theorem anj : uy Tryz.prog rfl Tryz.f75 = some (N4,NA) := by kernel_rfl
def N7 : bZ := (.seq (.ops [ab 3 (.box 63 (aa 0)),ab 6 (.cw 63 [.au 1,.au 1,.au 3,.au 2,.mp 3,.au 1,.int .i64,.au 11,.au 1])]) (.seq (.ops [ab 13 (.aU (aa 3) 7),ab 14 (.aC (aa 13) none),ab 15 (.ah (aa 1)),ab 16 (.bin .sub (aa 15) (ay 1)),ab 17 (.dD (aa 14) (aa 16) 11),ab 18 (.aC (aa 17) (some 11)),ab 19 (.call 72 [.tmp 18]),ab 12 (.ah (aa 19)),ab 20 (.ext (aa 12) 0),ab 21 (.ext (aa 12) 1),ab 7 (.cw 81 [.int .i64,.int .i64,.int .i64,.int .u32,.int .u32,.int .i64,.int .u32,.int .u32]),aQ (.st 8 (aa 7) (aa 20)),ab 8 (.ah (aa 21))]) (.seq (.ops [ab 23 (.aU (aa 3) 0),ab 24 (.aC (aa 23) (some 7)),ab 25 (.ah (aa 1)),ab 26 (.aC (aa 7) (some 8)),ab 27 (.ah (aa 2)),ab 28 (.call 73 [.tmp 24,.tmp 25,.tmp 26,.tmp 27]),ab 22 (.ah (aa 28)),ab 29 (.ext (aa 22) 0),ab 30 (.ext (aa 22) 1),ab 31 (.ext (aa 22) 2),ab 9 (.cw 59 [.au 1,.au 1,.au 3,.au 2,.mp 3,.au 1,.int .i64]),ab 10 (.cw 100 [.int .i64,.int .u32,.int .u32,.bool]),aQ (.st 7 (aa 9) (aa 29)),aQ (.st 4 (aa 10) (aa 30)),ab 11 (.ah (aa 31))]) (.seq (.seq (.ops [ab 32 (.ah (aa 11)),ab 33 (.bin .neq (aa 32) (ay 0))]) (.cond (aa 33) (.ops [ab 34 (.dO [.int .i64,.int .u32,.int .u32,.bool] []),aQ (.st 4 (aa 10) (aa 34))]) (.ops [ab 35 (.aC (aa 9) (some 7)),ab 36 (.aU (aa 3) 0),aQ (.st 7 (aa 36) (aa 35))]))) (.seq (.ops [ab 37 (.aU (aa 3) 7),ab 38 (.aC (aa 37) none),ab 39 (.call 74 [.tmp 38]),ab 40 (.aU (aa 3) 7),aQ (.st 1 (aa 40) (aa 39))]) (.seq (.qc [[],[0],[],[2],[],[4],[],[6],[5,7],[8],[],[9,10],[1,3,0,1,2,3,4,5,6,7,8,9,10,11],[12,11,11,0,1,2,3,4,5,6,7,8,9,10,11]] [ab 41 (.aU (aa 3) 7),ab 42 (.aC (aa 41) none),ab 43 (.ah (aa 1)),ab 44 (.bin .sub (aa 43) (ay 1)),ab 45 (.aU (aa 3) 7),ab 46 (.aC (aa 45) none),ab 47 (.ah (aa 1)),ab 48 (.bin .sub (aa 47) (ay 1)),ab 49 (.dD (aa 46) (aa 48) 11),ab 50 (.aC (aa 49) (some 11)),ab 51 (.aC (aa 10) (some 4)),ab 52 (.call 75 [.tmp 50,.tmp 51]),ab 53 (.dD (aa 42) (aa 44) 11),aQ (.st 11 (aa 53) (aa 52))]) (.seq (.ops [ab 54 (.aC (aa 3) (some 9)),aQ (.st 9 (aa 6) (aa 54))]) .ret)))))))
def ND : List b6 := [(.eB 6 (some 9))]
theorem anq : uy Tryz.prog rfl Tryz.f52 = some (N7,ND) := by kernel_rfl
def Wl : bZ := (.seq (.ops [ab 2 (.box 59 (aa 0)),ab 4 (.cw 63 [.au 1,.au 1,.au 3,.au 2,.mp 3,.au 1,.int .i64,.au 11,.au 1]),ab 5 (.ah (ay 0))]) (.seq (.seq (.ops [ab 12 (.aC (aa 2) (some 7)),ab 13 (.call 47 [.tmp 12]),ab 11 (.ah (aa 13)),ab 14 (.ext (aa 11) 0),ab 15 (.ext (aa 11) 1),ab 6 (.ah (aa 14)),ab 7 (.ah (aa 15))]) (.seq (.ops [ab 16 (.ah (aa 1)),ab 17 (.len (aa 16)),ab 18 (.ah (aa 6)),ab 19 (.bin .gtr (aa 17) (aa 18))]) (.cond (aa 19) (.seq (.ops [ab 20 (.dO [.au 1,.au 1,.au 3,.au 2,.mp 3,.au 1,.int .i64,.au 11,.au 1] []),aQ (.st 9 (aa 4) (aa 20)),ab 5 (.ah (ay 15))]) .ret) .skip))) (.seq (.g0 6 [ab 21 (.aC (aa 2) (some 7)),ab 22 (.ah (aa 1)),ab 23 (.len (aa 22)),ab 24 (.mY (aa 23) 4 1 1 [.bool]),ab 25 (.dO [.au 1,.au 1,.au 3,.au 2,.mp 3,.au 1,.int .i64,.au 11,.au 1] [(0,(7,(aa 21))),(8,(1,(aa 24)))]),ab 8 (.cw 63 [.au 1,.au 1,.au 3,.au 2,.mp 3,.au 1,.int .i64,.au 11,.au 1]),aQ (.st 9 (aa 8) (aa 25))]) (.seq (.seq (.ops [ab 26 (.ah (aa 1)),ab 27 (.len (aa 26)),ab 28 (.ah (ay 0))]) (.block 0 (.loop (.seq (.ops [ab 29 (.bin .lss (aa 28) (aa 27))]) (.seq (.cond (aa 29) .skip (.exit 0)) (.seq (.block 1 (.seq (.ops [ab 30 (.dD (aa 26) (aa 28) 1),ab 31 (.aC (aa 30) none),ab 10 (.ah (aa 31))]) (.qc [[],[0],[],[2],[3],[1,4,3],[0,1,2,3,4,5],[6,5,5,0,1,2,3,4,5]] [ab 32 (.aU (aa 8) 7),ab 33 (.aC (aa 32) none),ab 34 (.ah (aa 10)),ab 35 (.call 67 [.tmp 34]),ab 36 (.hE 11 [.tmp 35]),ab 37 (.app (aa 33) (aa 36) 84 11 96),ab 38 (.aU (aa 8) 7),aQ (.st 1 (aa 38) (aa 37))]))) (.ops [ab 39 (.bin .add (aa 28) (ay 1)),ab 28 (.ah (aa 39))]))))))) (.seq (.ops [ab 40 (.aC (aa 8) (some 9)),aQ (.st 9 (aa 4) (aa 40)),ab 5 (.ah (ay 0))]) .ret)))))
def Vd : List b6 := [(.eB 4 (some 9)),.tmp 5]
theorem ank : uy Tryz.prog rfl Tryz.f43 = some (Wl,Vd) := by kernel_rfl
end Go.Proofs.YtkmbcjnaaokilaaGreatDoor
