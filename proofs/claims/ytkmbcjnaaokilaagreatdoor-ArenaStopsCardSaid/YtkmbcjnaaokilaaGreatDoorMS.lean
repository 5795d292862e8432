/-
  The shadow machine: a fourth reading of code, where a new row's zero maps are nil.
-/
import Derived.Test.YtkmbcjnaaokilaaGreatDoorMC
import Derived.Test.YtkmbcjnaaokilaaGreatDoorMK22
namespace Go.Proofs.YtkmbcjnaaokilaaGreatDoor
set_option linter.unusedSimpArgs false
set_option linter.unusedVariables false
open Go.RowKit Go.Maps

def bU.sub : bU → List Bool → bU
 | .seq a _,false :: p => a.sub p
 | .seq _ b,true :: p => b.sub p
 | .cond _ a _,false :: p => a.sub p
 | .cond _ _ b,true :: p => b.sub p
 | .block _ a,false :: p => a.sub p
 | .loop a,false :: p => a.sub p
 | c,_ => c
theorem sM {S : ak} {K : pI → ak → Prop} (cs : List qz) (I : List Nat → ak → Prop) (P : ak → Prop) {wt : List (List Nat)} {l : List cl} (bb : I [] (S.gw cs)) (af : ∀ done S' i,I done S' → q8 wt done i = true → cL l[i]? fun g => jT g S' fun gh => I (i :: done) gh)
  (aj : ∀ done S',I done S' → (∀ i,i < wt.length → done.contains i = true) → ∃ hf,P ((S'.eH hf).sorted)) (aw : ∀ b0,P b0 → K .next b0) : hd (.np wt l) S K :=
 ⟨cs,I,bb,af,fun d S' aq aZ => by obtain ⟨hf,e⟩ := aj d S' aq aZ; exact ⟨hf,aw _ e⟩⟩
theorem cn {l : List cl} {i : Nat} {o : cl} {S : ak} {J : ak → Prop} (ay : l[i]? = some o) (h : ∀ uV : ak → Prop,(∀ S',J S' → uV S') → jT o S uV) : cL l[i]? fun g => jT g S J := by
 rw [ay]
 exact h J fun _ h => h
theorem dg {wt : List (List Nat)} {done : List Nat} {i : Nat} {l : List Nat} (h : q8 wt done i = true) (aF : wt[i]? = some l) : ∀ j,l.contains j = true → done.contains j = true := fun j aM => by
 unfold q8 at h
 rw [aF,Bool.and_eq_true] at h
 exact List.all_eq_true.1 h.2 j (by simpa using aM)
theorem tc {wt : List (List Nat)} {done : List Nat} {i : Nat} (h : q8 wt done i = true) : i < wt.length := by
 unfold q8 at h
 rw [Bool.and_eq_true] at h
 by_cases aq : i < wt.length
 ·exact aq
 ·rw [List.getElem?_eq_none (by omega)] at h
  cases h.2
theorem td {wt : List (List Nat)} {done : List Nat} {i : Nat} (h : q8 wt done i = true) : done.contains i = false := by
 unfold q8 at h
 rw [Bool.and_eq_true] at h
 simpa using h.1

def agW : List FuncId := [67,75,12,13]
def agY (l : List cl) : Bool := l.any fun g => match g.op with
 | .kt .. => true
 | .call f _ => agW.contains f
 | _ => false
def xY (P : Program) (bV : P = Tryz.prog) (N : Nat) : (c : Code) → Option {g5 : bU // kp N c g5}
 | .region id ops true => match Cz P bV N ops ops.toList with
  | some cf => if agY cf.1 = true then (if h : (Region.noSelect ops && zA ops) = true then some ⟨.np (ops.toList.map wl) cf.1,by
     simp only [Bool.and_eq_true] at h
     exact .np cf.2 h.1 h.2⟩ else none) else sv P bV N (.region id ops true)
  | none => none
 | .seq a b => match xY P bV N a,xY P bV N b with
  | some x,some y => some ⟨.seq x.1 y.1,.seq x.2 y.2⟩
  | _,_ => none
 | .cond c a b => match xY P bV N a,xY P bV N b with
  | some x,some y => some ⟨.cond c x.1 y.1,.cond x.2 y.2⟩
  | _,_ => none
 | .block id a => match xY P bV N a with
  | some x => some ⟨.block id x.1,.block x.2⟩
  | none => none
 | .loop a => match xY P bV N a with
  | some x => some ⟨.loop x.1,.loop x.2⟩
  | none => none
 | c => sv P bV N c
def uH (P : Program) (bV : P = Tryz.prog) (fn : Func) : Option (bU × List b3) :=
 match fn.body with
 | none => none
 | some c => match xY P bV fn.ntmps c,F9 P bV fn.results.toList with
  | some x,some y => some (x.1,y.1)
  | _,_ => none
theorem xB {f : FuncId} {fn : Func} {g5 : bU} {ew : List b3} {args : List av} {O : List (Nat × bl)} {n : Nat} {P : (bg → Env → Prop) → av → List (Nat × bl) → Nat → Prop} (aW : Tryz.prog.funcs[f]? = some fn) (aO : uH Tryz.prog rfl fn = some (g5,ew)) (a7 : Nat.ble args.length fn.ntmps = true)
  (h : ∀ J,hd g5 ⟨o8 0 args,(n,.cq J) :: O,n + 1⟩ (wK ew n J P)) : fv f args O n P := by
 unfold uH at aO
 split at aO
 ·cases aO
 ·rename_i c aJ
  split at aO
  ·rename_i x y _ _
   cases aO
   exact J7 aW aJ mixed x.2 y.2 (Nat.le_of_ble_eq_true a7) h
  ·cases aO

theorem Q2 {f : FuncId} {l : List av} {r : av} (h : fv f l [] 0 (fun _ hV _ _ => hV = r)) (hp : r.pure = true) : cu f l r := by
 intro w H vs ao bj
 have aN : bu 0 w H ⟨[],[(0,.cq fun _ _ => True)],1⟩ (ep.set 0 (undef,0,none)) { tmps := #[],defers := [] } w H := by
  refine ⟨Grow.refl ao,fun t x ar => (by cases ar),fun i o ay => ?_,fun i j iw aq aM b u k kL dA a2 a8 => ?_,fun i aq => ?_,rfl,rfl⟩
  ·simp only [al] at ay
   split at ay
   ·rename_i e
    cases ay
    subst e
    exact ⟨⟨_,Env.iB _ _ _⟩,trivial,fun _ _ _ _ _ _ _ => trivial⟩
   ·cases ay
  ·obtain ⟨o,ay,aF⟩ := aq
   simp only [al] at ay
   split at ay
   ·cases ay; cases aF
   ·cases ay
  ·show Env.set ep 0 _ i = none
   unfold Env.set
   rw [if_neg (by have : 1 ≤ i := aq; omega)]
   rfl
 have az := h (fun _ _ => True) 0 w H _ _ w H vs aN (bj.mono (fun _ _ h => h) (lB _))
 refine Calls.mono az fun e w' aS => ?_
 obtain ⟨v,hV,O',bI,E',H',rfl,rfl,_,dL,ba⟩ := aS
 exact ⟨v,H',rfl,dL.grow,ba.pure hp ep⟩
theorem cZ {i j : Nat} (h : j ≠ i) (done : List Nat) : (i :: done).contains j = done.contains j := by
 rw [List.contains_cons,show (j == i) = false by simpa using h,Bool.false_or]
theorem ry (i : Nat) (done : List Nat) : (i :: done).contains i = true := by simp
theorem yF {α : Type} : ∀ {l : List (Nat × α)} {t : Nat} {v : α},al l t = some v → (t,v) ∈ l
 | (k,q) :: l,t,v,hu => by
  simp only [al] at hu
  split at hu
  ·rename_i a8; cases hu; subst a8; exact List.mem_cons_self ..
  ·exact List.mem_cons_of_mem _ (yF hu)
def o3 (wt : List (List Nat)) (done : List Nat) : Prop := ∀ i l,done.contains i = true → wt[i]? = some l → ∀ j,l.contains j = true → done.contains j = true
theorem sK (wt : List (List Nat)) : o3 wt [] := fun i l h => by simp at h
theorem o3.cons {wt : List (List Nat)} {done : List Nat} {i : Nat} (h : o3 wt done) (ax : q8 wt done i = true) : o3 wt (i :: done) := by
 intro k l aB aF j aM
 by_cases e : k = i
 ·subst e
  have := dg ax aF j aM
  rw [List.contains_cons,this,Bool.or_true]
 ·rw [cZ e] at aB
  have := h k l aB aF j aM
  rw [List.contains_cons,this,Bool.or_true]
structure iM {α : Type} (j0 : List (Nat × av)) (V : α → List (Nat × (Nat × av))) (late : List Nat) (c : Nat) (O : List (Nat × bl)) (n : Nat) (P : α → List (Nat × bl) → Nat → Prop) (done : List Nat) (S : ak) (x : α) : Prop where
 base : ∀ t s,al j0 t = some s → al S.T t = some s
 jz : ∀ t j s,al (V x) t = some (j,s) → done.contains j = true → al S.T t = some s
 late : ∀ j,late.contains j = true → done.contains j = true → done.contains c = true
 pre : done.contains c = false → S.O = O ∧ S.n = n
 post : done.contains c = true → P x S.O S.n
section
variable {α : Type} {j0 : List (Nat × av)} {V : α → List (Nat × (Nat × av))} {late : List Nat} {c : Nat} {O : List (Nat × bl)} {n : Nat} {P : α → List (Nat × bl) → Nat → Prop} {done : List Nat} {S : ak} {x : α}
theorem iM.init {S : ak} (h : ∀ t s,al j0 t = some s → al S.T t = some s) (cX : S.O = O) (a7 : S.n = n) : iM j0 V late c O n P [] S x :=
 ⟨h,fun t j s _ aM => by simp at aM,fun j _ aM => by simp at aM,fun _ => ⟨cX,a7⟩,fun h => by simp at h⟩
theorem iM.put (h : iM j0 V late c O n P done S x) {i t : Nat} {s : av} (aq : al (V x) t = some (i,s)) (fD : al j0 t = none) (ba : ((V x).all fun r => r.2.1 != i || r.1 == t) = true) (az : i ≠ c) (aF : late.contains i = true → done.contains c = true) : iM j0 V late c O n P (i :: done) (S.put t s) x := by
 refine ⟨fun u v hu => ?_,fun u j v hu aM => ?_,fun j aM aX => ?_,fun aX => ?_,fun aX => ?_⟩
 ·show al ((t,s) :: dC S.T t) u = _
  rw [lj,if_neg (fun e => by subst e; rw [fD] at hu; cases hu)]
  exact h.base u v hu
 ·show al ((t,s) :: dC S.T t) u = _
  rw [lj]
  by_cases e : t = u
  ·subst e
   rw [aq] at hu
   cases hu
   exact if_pos rfl
  ·rw [if_neg e]
   have m9 : j ≠ i := fun a8 => by
    subst a8
    have ch := List.all_eq_true.1 ba _ (yF hu)
    simp at ch
    exact e ch.symm
   rw [cZ m9] at aM
   exact h.jz u j v hu aM
 ·rw [cZ (Ne.symm az)]
  by_cases e : j = i
  ·subst e; exact aF aM
  ·rw [cZ e] at aX; exact h.late j aM aX
 ·rw [cZ (Ne.symm az)] at aX; exact h.pre aX
 ·rw [cZ (Ne.symm az)] at aX; exact h.post aX
theorem iM.call (h : iM j0 V late c O n P done S x) (aX : done.contains c = false) {qx : α} {t : Nat} {s : av} {O' : List (Nat × bl)} {bI : Nat} (aq : al (V qx) t = some (c,s)) (fD : al j0 t = none) (ba : ((V qx).all fun r => r.2.1 != c || r.1 == t) = true)
  (e9 : ∀ u j v,al (V qx) u = some (j,v) → late.contains j = false → j ≠ c → al (V x) u = some (j,v)) (bV : P qx O' bI) : iM j0 V late c O n P (c :: done) ⟨(t,s) :: dC S.T t,O',bI⟩ qx := by
 refine ⟨fun u v hu => ?_,fun u j v hu aM => ?_,fun j aM _ => ry _ _,fun aX => (by rw [ry] at aX; cases aX),fun _ => bV⟩
 ·show al ((t,s) :: dC S.T t) u = _
  rw [lj,if_neg (fun e => by subst e; rw [fD] at hu; cases hu)]
  exact h.base u v hu
 ·show al ((t,s) :: dC S.T t) u = _
  rw [lj]
  by_cases e : t = u
  ·subst e
   rw [aq] at hu
   cases hu
   exact if_pos rfl
  ·rw [if_neg e]
   have Pm : j ≠ c := fun a8 => by
    subst a8
    have ch := List.all_eq_true.1 ba _ (yF hu)
    simp at ch
    exact e ch.symm
   rw [cZ Pm] at aM
   have aF : late.contains j = false := by
    cases cg : late.contains j with
    | false => rfl
    | true => rw [h.late j cg aM] at aX; cases aX
   exact h.jz u j v (e9 u j v hu aF Pm) aM
theorem Ol {α : Type} : ∀ (a b : List (Nat × α)) (t : Nat),al (a ++ b) t = match al a t with | some x => some x | none => al b t
 | [],_,_ => rfl
 | (k,x) :: a,b,t => by
  simp only [List.cons_append,al]
  by_cases h : k = t
  ·simp [h]
  ·simp only [if_neg h]; exact Ol a b t
end
section
variable {α : Type} {j0 alm : List (Nat × av)} {W : α → List (Nat × (Nat × av))} {B : List (Nat × (Nat × av))} {late : List Nat} {c : Nat} {O : List (Nat × bl)} {n : Nat} {P : α → List (Nat × bl) → Nat → Prop} {done : List Nat} {S : ak} {x : α}
theorem iM.call2 (h : iM j0 (fun x => B ++ W x) late c O n P done S x) (aX : done.contains c = false) {qx : α} {t : Nat} {s : av} {O' : List (Nat × bl)} {bI : Nat} (aq : al (B ++ W qx) t = some (c,s)) (fD : al j0 t = none) (ba : ((B ++ W qx).all fun r => r.2.1 != c || r.1 == t) = true)
  (mD : ((W qx).all fun r => late.contains r.2.1 || r.2.1 == c) = true) (bV : P qx O' bI) : iM j0 (fun x => B ++ W x) late c O n P (c :: done) ⟨(t,s) :: dC S.T t,O',bI⟩ qx := by
 refine h.call aX aq fD ba (fun u j v hu aF aM => ?_) bV
 rw [Ol] at hu ⊢
 cases aJ : al B u with
 | some y => rw [aJ] at hu; exact hu
 | none =>
  rw [aJ] at hu
  have := List.all_eq_true.1 mD _ (yF hu)
  simp only [Bool.or_eq_true,beq_iff_eq] at this
  rcases this with af | af
  ·rw [af] at aF; cases aF
  ·exact absurd af aM
end
end Go.Proofs.YtkmbcjnaaokilaaGreatDoor
namespace Go.Proofs.YtkmbcjnaaokilaaGreatDoor
open Go.RowKit

def Lq : bU := (.seq (.ops [ab 2 (.box 84 (aa 0)),ab 3 (.box 100 (aa 1)),ab 4 (.cm 84 [.nilIface,.nilFunc,.int .i64,.int .i64,.int .i64,.int .u32,.int .u32,.int .i64,.int .u32,.int .u32,.au 4])]) (.seq (.seq (.ops [ab 6 (.aC (aa 2) (some 11)),ab 7 (.call 55 [.tmp 6])]) (.cond (aa 7) (.seq (.ops [ab 8 (.aC (aa 2) (some 11)),aR (.st 11 (aa 4) (aa 8))]) .ret) .skip)) (.seq (.ops [ab 9 (.a3 (aa 2) 1),ab 10 (.aC (aa 9) none),ab 5 (.ah (aa 10))]) (.seq (.hc 5 [ab 11 (.a3 (aa 2) 10),ab 12 (.aC (aa 11) none),ab 13 (.call 94 [.tmp 12]),ab 14 (.aC (aa 3) (some 4)),ab 15 (.g2 4 [.tmp 14]),ab 16 (.app (aa 13) (aa 15) 100 4 24),ab 17 (.a3 (aa 2) 10),aR (.st 1 (aa 17) (aa 16))]) (.seq (.np [[],[],[],[1,2],[3],[3],[3],[0,4,5,6,3],[7,7,0,1,2,3,4,5,6,7]] [ab 18 (.aC (aa 2) (some 11)),ab 19 (.ah (aa 5)),ab 20 (.aC (aa 3) (some 4)),ab 21 (.kt (aa 19) [.tmp 20]),ab 22 (.ext (aa 21) 0),ab 23 (.ext (aa 21) 1),ab 24 (.ext (aa 21) 2),ab 25 (.call 82 [.tmp 18,.tmp 22,.tmp 23,.tmp 24]),aR (.st 11 (aa 4) (aa 25))]) .ret)))))
def KY : List b3 := [(.eh 4 (some 11))]
theorem ajF : uH Tryz.prog rfl Tryz.f75 = some (Lq,KY) := by kernel_rfl
def Lt : bU := (.seq (.ops [ab 3 (.box 63 (aa 0)),ab 6 (.cm 63 [.au 1,.au 1,.au 3,.au 2,.mp 3,.au 1,.int .i64,.au 11,.au 1])]) (.seq (.ops [ab 13 (.a3 (aa 3) 7),ab 14 (.aC (aa 13) none),ab 15 (.ah (aa 1)),ab 16 (.bin .sub (aa 15) (aA 1)),ab 17 (.dU (aa 14) (aa 16) 11),ab 18 (.aC (aa 17) (some 11)),ab 19 (.call 72 [.tmp 18]),ab 12 (.ah (aa 19)),ab 20 (.ext (aa 12) 0),ab 21 (.ext (aa 12) 1),ab 7 (.cm 81 [.int .i64,.int .i64,.int .i64,.int .u32,.int .u32,.int .i64,.int .u32,.int .u32]),aR (.st 8 (aa 7) (aa 20)),ab 8 (.ah (aa 21))]) (.seq (.ops [ab 23 (.a3 (aa 3) 0),ab 24 (.aC (aa 23) (some 7)),ab 25 (.ah (aa 1)),ab 26 (.aC (aa 7) (some 8)),ab 27 (.ah (aa 2)),ab 28 (.call 73 [.tmp 24,.tmp 25,.tmp 26,.tmp 27]),ab 22 (.ah (aa 28)),ab 29 (.ext (aa 22) 0),ab 30 (.ext (aa 22) 1),ab 31 (.ext (aa 22) 2),ab 9 (.cm 59 [.au 1,.au 1,.au 3,.au 2,.mp 3,.au 1,.int .i64]),ab 10 (.cm 100 [.int .i64,.int .u32,.int .u32,.bool]),aR (.st 7 (aa 9) (aa 29)),aR (.st 4 (aa 10) (aa 30)),ab 11 (.ah (aa 31))]) (.seq (.seq (.ops [ab 32 (.ah (aa 11)),ab 33 (.bin .neq (aa 32) (aA 0))]) (.cond (aa 33) (.ops [ab 34 (.dE [.int .i64,.int .u32,.int .u32,.bool] []),aR (.st 4 (aa 10) (aa 34))]) (.ops [ab 35 (.aC (aa 9) (some 7)),ab 36 (.a3 (aa 3) 0),aR (.st 7 (aa 36) (aa 35))]))) (.seq (.ops [ab 37 (.a3 (aa 3) 7),ab 38 (.aC (aa 37) none),ab 39 (.call 74 [.tmp 38]),ab 40 (.a3 (aa 3) 7),aR (.st 1 (aa 40) (aa 39))]) (.seq (.np [[],[0],[],[2],[],[4],[],[6],[5,7],[8],[],[9,10],[1,3,0,1,2,3,4,5,6,7,8,9,10,11],[12,11,11,0,1,2,3,4,5,6,7,8,9,10,11]] [ab 41 (.a3 (aa 3) 7),ab 42 (.aC (aa 41) none),ab 43 (.ah (aa 1)),ab 44 (.bin .sub (aa 43) (aA 1)),ab 45 (.a3 (aa 3) 7),ab 46 (.aC (aa 45) none),ab 47 (.ah (aa 1)),ab 48 (.bin .sub (aa 47) (aA 1)),ab 49 (.dU (aa 46) (aa 48) 11),ab 50 (.aC (aa 49) (some 11)),ab 51 (.aC (aa 10) (some 4)),ab 52 (.call 75 [.tmp 50,.tmp 51]),ab 53 (.dU (aa 42) (aa 44) 11),aR (.st 11 (aa 53) (aa 52))]) (.seq (.ops [ab 54 (.aC (aa 3) (some 9)),aR (.st 9 (aa 6) (aa 54))]) .ret)))))))
def K1 : List b3 := [(.eh 6 (some 9))]
theorem ajM : uH Tryz.prog rfl Tryz.f52 = some (Lt,K1) := by kernel_rfl
def S8 : bU := (.seq (.ops [ab 2 (.box 59 (aa 0)),ab 4 (.cm 63 [.au 1,.au 1,.au 3,.au 2,.mp 3,.au 1,.int .i64,.au 11,.au 1]),ab 5 (.ah (aA 0))]) (.seq (.seq (.ops [ab 12 (.aC (aa 2) (some 7)),ab 13 (.call 47 [.tmp 12]),ab 11 (.ah (aa 13)),ab 14 (.ext (aa 11) 0),ab 15 (.ext (aa 11) 1),ab 6 (.ah (aa 14)),ab 7 (.ah (aa 15))]) (.seq (.ops [ab 16 (.ah (aa 1)),ab 17 (.len (aa 16)),ab 18 (.ah (aa 6)),ab 19 (.bin .gtr (aa 17) (aa 18))]) (.cond (aa 19) (.seq (.ops [ab 20 (.dE [.au 1,.au 1,.au 3,.au 2,.mp 3,.au 1,.int .i64,.au 11,.au 1] []),aR (.st 9 (aa 4) (aa 20)),ab 5 (.ah (aA 15))]) .ret) .skip))) (.seq (.hc 6 [ab 21 (.aC (aa 2) (some 7)),ab 22 (.ah (aa 1)),ab 23 (.len (aa 22)),ab 24 (.mm (aa 23) 4 1 1 [.bool]),ab 25 (.dE [.au 1,.au 1,.au 3,.au 2,.mp 3,.au 1,.int .i64,.au 11,.au 1] [(0,(7,(aa 21))),(8,(1,(aa 24)))]),ab 8 (.cm 63 [.au 1,.au 1,.au 3,.au 2,.mp 3,.au 1,.int .i64,.au 11,.au 1]),aR (.st 9 (aa 8) (aa 25))]) (.seq (.seq (.ops [ab 26 (.ah (aa 1)),ab 27 (.len (aa 26)),ab 28 (.ah (aA 0))]) (.block 0 (.loop (.seq (.ops [ab 29 (.bin .lss (aa 28) (aa 27))]) (.seq (.cond (aa 29) .skip (.exit 0)) (.seq (.block 1 (.seq (.ops [ab 30 (.dU (aa 26) (aa 28) 1),ab 31 (.aC (aa 30) none),ab 10 (.ah (aa 31))]) (.np [[],[0],[],[2],[3],[1,4,3],[0,1,2,3,4,5],[6,5,5,0,1,2,3,4,5]] [ab 32 (.a3 (aa 8) 7),ab 33 (.aC (aa 32) none),ab 34 (.ah (aa 10)),ab 35 (.call 67 [.tmp 34]),ab 36 (.g2 11 [.tmp 35]),ab 37 (.app (aa 33) (aa 36) 84 11 96),ab 38 (.a3 (aa 8) 7),aR (.st 1 (aa 38) (aa 37))]))) (.ops [ab 39 (.bin .add (aa 28) (aA 1)),ab 28 (.ah (aa 39))]))))))) (.seq (.ops [ab 40 (.aC (aa 8) (some 9)),aR (.st 9 (aa 4) (aa 40)),ab 5 (.ah (aA 0))]) .ret)))))
def R1 : List b3 := [(.eh 4 (some 9)),.tmp 5]
theorem ajG : uH Tryz.prog rfl Tryz.f43 = some (S8,R1) := by kernel_rfl
end Go.Proofs.YtkmbcjnaaokilaaGreatDoor
