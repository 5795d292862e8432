/-
  The shadow machine: a fourth reading of code, where a new row's zero maps are nil.
  The shadow machine: a reading in which a drawn region that holds a call with parts of one's own is a region of many orders; what such a region keeps.
  The shadow code of functions, written by a program; each is what the translator makes of the function.
-/
import Derived.Test.YtkmbcjnaaokilaaGreatDoorMC
import Derived.Test.YtkmbcjnaaokilaaGreatDoorMK11
namespace Go.Proofs.YtkmbcjnaaokilaaGreatDoor
set_option linter.unusedSimpArgs false
set_option linter.unusedVariables false
open Go.RowKit Go.Maps

def SC.sub : SC → List Bool → SC
 | .seq a _,false :: p => a.sub p
 | .seq _ b,true :: p => b.sub p
 | .cond _ a _,false :: p => a.sub p
 | .cond _ _ b,true :: p => b.sub p
 | .block _ a,false :: p => a.sub p
 | .loop a,false :: p => a.sub p
 | c,_ => c
theorem eCflP {S : St} {K : Ex → St → Prop} (cs : List Cst) (I : List Nat → St → Prop) (P : St → Prop) {wt : List (List Nat)} {l : List GOp} (h0 : I [] (S.casts cs)) (h1 : ∀ done S' i,I done S' → rdyW wt done i = true → oB l[i]? fun g => evG g S' fun S2 => I (i :: done) S2)
  (h2 : ∀ done S',I done S' → (∀ i,i < wt.length → done.contains i = true) → ∃ kp,P ((S'.keep kp).sorted)) (h3 : ∀ S1,P S1 → K .next S1) : ev (.cfl wt l) S K :=
 ⟨cs,I,h0,h1,fun d S' hi ha => by obtain ⟨kp,e⟩ := h2 d S' hi ha; exact ⟨kp,h3 _ e⟩⟩
theorem cfOpN {l : List GOp} {i : Nat} {o : GOp} {S : St} {J : St → Prop} (ho : l[i]? = some o) (h : ∀ L1 : St → Prop,(∀ S',J S' → L1 S') → evG o S L1) : oB l[i]? fun g => evG g S J := by
 rw [ho]
 exact h J fun _ h => h
theorem rdyN_wait {wt : List (List Nat)} {done : List Nat} {i : Nat} {l : List Nat} (h : rdyW wt done i = true) (hl : wt[i]? = some l) : ∀ j,l.contains j = true → done.contains j = true := fun j hj => by
 unfold rdyW at h
 rw [hl,Bool.and_eq_true] at h
 exact List.all_eq_true.1 h.2 j (by simpa using hj)
theorem rdyN_lt {wt : List (List Nat)} {done : List Nat} {i : Nat} (h : rdyW wt done i = true) : i < wt.length := by
 unfold rdyW at h
 rw [Bool.and_eq_true] at h
 by_cases hi : i < wt.length
 ·exact hi
 ·rw [List.getElem?_eq_none (by omega)] at h
  cases h.2
theorem rdyN_not {wt : List (List Nat)} {done : List Nat} {i : Nat} (h : rdyW wt done i = true) : done.contains i = false := by
 unfold rdyW at h
 rw [Bool.and_eq_true] at h
 simpa using h.1
end Go.Proofs.YtkmbcjnaaokilaaGreatDoor
namespace Go.Proofs.YtkmbcjnaaokilaaGreatDoor
set_option linter.unusedSimpArgs false
set_option linter.unusedVariables false
open Go.RowKit Go.Maps

def ownFs : List FuncId := [67,75,12,13]
def ownP (l : List GOp) : Bool := l.any fun g => match g.op with
 | .callv .. => true
 | .call f _ => ownFs.contains f
 | _ => false
def trCodeC (P : Program) (hP : P = Tryz.prog) (N : Nat) : (c : Code) → Option {sc : SC // CM N c sc}
 | .region id ops true => match trOpers P hP N ops ops.toList with
  | some gl => if ownP gl.1 = true then (if h : (Region.noSelect ops && wlLow ops) = true then some ⟨.cfl (ops.toList.map wl) gl.1,by
     simp only [Bool.and_eq_true] at h
     exact .cfl gl.2 h.1 h.2⟩ else none) else trCode P hP N (.region id ops true)
  | none => none
 | .seq a b => match trCodeC P hP N a,trCodeC P hP N b with
  | some x,some y => some ⟨.seq x.1 y.1,.seq x.2 y.2⟩
  | _,_ => none
 | .cond c a b => match trCodeC P hP N a,trCodeC P hP N b with
  | some x,some y => some ⟨.cond c x.1 y.1,.cond x.2 y.2⟩
  | _,_ => none
 | .block id a => match trCodeC P hP N a with
  | some x => some ⟨.block id x.1,.block x.2⟩
  | none => none
 | .loop a => match trCodeC P hP N a with
  | some x => some ⟨.loop x.1,.loop x.2⟩
  | none => none
 | c => trCode P hP N c
def trFnC (P : Program) (hP : P = Tryz.prog) (fn : Func) : Option (SC × List RV) :=
 match fn.body with
 | none => none
 | some c => match trCodeC P hP fn.ntmps c,trRes P hP fn.results.toList with
  | some x,some y => some (x.1,y.1)
  | _,_ => none
theorem okO_of_trC {f : FuncId} {fn : Func} {sc : SC} {rvs : List RV} {args : List Sh} {O : List (Nat × Ob)} {n : Nat} {P : (Hp → Env → Prop) → Sh → List (Nat × Ob) → Nat → Prop} (hf : Tryz.prog.funcs[f]? = some fn) (ht : trFnC Tryz.prog rfl fn = some (sc,rvs)) (hn : Nat.ble args.length fn.ntmps = true)
  (h : ∀ J,ev sc ⟨argT 0 args,(n,.gh J) :: O,n + 1⟩ (finO rvs n J P)) : OkO f args O n P := by
 unfold trFnC at ht
 split at ht
 ·cases ht
 ·rename_i c hb
  split at ht
  ·rename_i x y _ _
   cases ht
   exact okO_of_ev hf hb mixed x.2 y.2 (Nat.le_of_ble_eq_true hn) h
  ·cases ht

theorem ok_of_okO {f : FuncId} {l : List Sh} {r : Sh} (h : OkO f l [] 0 (fun _ r' _ _ => r' = r)) (hp : r.pure = true) : Ok f l r := by
 intro w H vs hs hv
 have hS : Sim 0 w H ⟨[],[(0,.gh fun _ _ => True)],1⟩ (E0.set 0 (undef,0,none)) { tmps := #[],defers := [] } w H := by
  refine ⟨Grow.refl hs,fun t x hx => (by cases hx),fun i o ho => ?_,fun i j hij hi hj b u k u' k' e1 e2 => ?_,fun i hi => ?_,rfl,rfl⟩
  ·simp only [getA] at ho
   split at ho
   ·rename_i e
    cases ho
    subst e
    exact ⟨⟨_,Env.set_self _ _ _⟩,trivial,fun _ _ _ _ _ _ _ => trivial⟩
   ·cases ho
  ·obtain ⟨o,ho,hl⟩ := hi
   simp only [getA] at ho
   split at ho
   ·cases ho; cases hl
   ·cases ho
  ·show Env.set E0 0 _ i = none
   unfold Env.set
   rw [if_neg (by have : 1 ≤ i := hi; omega)]
   rfl
 have hc := h (fun _ _ => True) 0 w H _ _ w H vs hS (hv.mono (fun _ _ h => h) (E0_le _))
 refine Calls.mono hc fun e w' hq => ?_
 obtain ⟨v,r',O',n',E',H',rfl,rfl,_,hS',hR⟩ := hq
 exact ⟨v,H',rfl,hS'.grow,hR.pure hp E0⟩
theorem cons_cC {i j : Nat} (h : j ≠ i) (done : List Nat) : (i :: done).contains j = done.contains j := by
 rw [List.contains_cons,show (j == i) = false by simpa using h,Bool.false_or]
theorem cons_sC (i : Nat) (done : List Nat) : (i :: done).contains i = true := by simp
theorem getA_memC {α : Type} : ∀ {l : List (Nat × α)} {t : Nat} {v : α},getA l t = some v → (t,v) ∈ l
 | (k,q) :: l,t,v,hu => by
  simp only [getA] at hu
  split at hu
  ·rename_i e2; cases hu; subst e2; exact List.mem_cons_self ..
  ·exact List.mem_cons_of_mem _ (getA_memC hu)
def Closed (wt : List (List Nat)) (done : List Nat) : Prop := ∀ i l,done.contains i = true → wt[i]? = some l → ∀ j,l.contains j = true → done.contains j = true
theorem closed_nil (wt : List (List Nat)) : Closed wt [] := fun i l h => by simp at h
theorem Closed.cons {wt : List (List Nat)} {done : List Nat} {i : Nat} (h : Closed wt done) (hr : rdyW wt done i = true) : Closed wt (i :: done) := by
 intro k l hk hl j hj
 by_cases e : k = i
 ·subst e
  have := rdyN_wait hr hl j hj
  rw [List.contains_cons,this,Bool.or_true]
 ·rw [cons_cC e] at hk
  have := h k l hk hl j hj
  rw [List.contains_cons,this,Bool.or_true]
structure RgC {α : Type} (Bl : List (Nat × Sh)) (V : α → List (Nat × (Nat × Sh))) (late : List Nat) (c : Nat) (O : List (Nat × Ob)) (n : Nat) (P : α → List (Nat × Ob) → Nat → Prop) (done : List Nat) (S : St) (x : α) : Prop where
 base : ∀ t s,getA Bl t = some s → getA S.T t = some s
 got : ∀ t j s,getA (V x) t = some (j,s) → done.contains j = true → getA S.T t = some s
 late : ∀ j,late.contains j = true → done.contains j = true → done.contains c = true
 pre : done.contains c = false → S.O = O ∧ S.n = n
 post : done.contains c = true → P x S.O S.n
section
variable {α : Type} {Bl : List (Nat × Sh)} {V : α → List (Nat × (Nat × Sh))} {late : List Nat} {c : Nat} {O : List (Nat × Ob)} {n : Nat} {P : α → List (Nat × Ob) → Nat → Prop} {done : List Nat} {S : St} {x : α}
theorem RgC.init {S : St} (h : ∀ t s,getA Bl t = some s → getA S.T t = some s) (hO : S.O = O) (hn : S.n = n) : RgC Bl V late c O n P [] S x :=
 ⟨h,fun t j s _ hj => by simp at hj,fun j _ hj => by simp at hj,fun _ => ⟨hO,hn⟩,fun h => by simp at h⟩
theorem RgC.put (h : RgC Bl V late c O n P done S x) {i t : Nat} {s : Sh} (hi : getA (V x) t = some (i,s)) (hB : getA Bl t = none) (hR : ((V x).all fun r => r.2.1 != i || r.1 == t) = true) (hc : i ≠ c) (hl : late.contains i = true → done.contains c = true) : RgC Bl V late c O n P (i :: done) (S.put t s) x := by
 refine ⟨fun u v hu => ?_,fun u j v hu hj => ?_,fun j hj hd => ?_,fun hd => ?_,fun hd => ?_⟩
 ·show getA ((t,s) :: delA S.T t) u = _
  rw [getA_put,if_neg (fun e => by subst e; rw [hB] at hu; cases hu)]
  exact h.base u v hu
 ·show getA ((t,s) :: delA S.T t) u = _
  rw [getA_put]
  by_cases e : t = u
  ·subst e
   rw [hi] at hu
   cases hu
   exact if_pos rfl
  ·rw [if_neg e]
   have hji : j ≠ i := fun e2 => by
    subst e2
    have h9 := List.all_eq_true.1 hR _ (getA_memC hu)
    simp at h9
    exact e h9.symm
   rw [cons_cC hji] at hj
   exact h.got u j v hu hj
 ·rw [cons_cC (Ne.symm hc)]
  by_cases e : j = i
  ·subst e; exact hl hj
  ·rw [cons_cC e] at hd; exact h.late j hj hd
 ·rw [cons_cC (Ne.symm hc)] at hd; exact h.pre hd
 ·rw [cons_cC (Ne.symm hc)] at hd; exact h.post hd
theorem RgC.call (h : RgC Bl V late c O n P done S x) (hd : done.contains c = false) {x' : α} {t : Nat} {s : Sh} {O' : List (Nat × Ob)} {n' : Nat} (hi : getA (V x') t = some (c,s)) (hB : getA Bl t = none) (hR : ((V x').all fun r => r.2.1 != c || r.1 == t) = true)
  (hV : ∀ u j v,getA (V x') u = some (j,v) → late.contains j = false → j ≠ c → getA (V x) u = some (j,v)) (hP : P x' O' n') : RgC Bl V late c O n P (c :: done) ⟨(t,s) :: delA S.T t,O',n'⟩ x' := by
 refine ⟨fun u v hu => ?_,fun u j v hu hj => ?_,fun j hj _ => cons_sC _ _,fun hd => (by rw [cons_sC] at hd; cases hd),fun _ => hP⟩
 ·show getA ((t,s) :: delA S.T t) u = _
  rw [getA_put,if_neg (fun e => by subst e; rw [hB] at hu; cases hu)]
  exact h.base u v hu
 ·show getA ((t,s) :: delA S.T t) u = _
  rw [getA_put]
  by_cases e : t = u
  ·subst e
   rw [hi] at hu
   cases hu
   exact if_pos rfl
  ·rw [if_neg e]
   have hjc : j ≠ c := fun e2 => by
    subst e2
    have h9 := List.all_eq_true.1 hR _ (getA_memC hu)
    simp at h9
    exact e h9.symm
   rw [cons_cC hjc] at hj
   have hl : late.contains j = false := by
    cases e3 : late.contains j with
    | false => rfl
    | true => rw [h.late j e3 hj] at hd; cases hd
   exact h.got u j v (hV u j v hu hl hjc) hj
theorem getA_appC {α : Type} : ∀ (a b : List (Nat × α)) (t : Nat),getA (a ++ b) t = match getA a t with | some x => some x | none => getA b t
 | [],_,_ => rfl
 | (k,x) :: a,b,t => by
  simp only [List.cons_append,getA]
  by_cases h : k = t
  ·simp [h]
  ·simp only [if_neg h]; exact getA_appC a b t
end
section
variable {α : Type} {Bl Vb : List (Nat × Sh)} {W : α → List (Nat × (Nat × Sh))} {B : List (Nat × (Nat × Sh))} {late : List Nat} {c : Nat} {O : List (Nat × Ob)} {n : Nat} {P : α → List (Nat × Ob) → Nat → Prop} {done : List Nat} {S : St} {x : α}
theorem RgC.call2 (h : RgC Bl (fun x => B ++ W x) late c O n P done S x) (hd : done.contains c = false) {x' : α} {t : Nat} {s : Sh} {O' : List (Nat × Ob)} {n' : Nat} (hi : getA (B ++ W x') t = some (c,s)) (hB : getA Bl t = none) (hR : ((B ++ W x').all fun r => r.2.1 != c || r.1 == t) = true)
  (hW : ((W x').all fun r => late.contains r.2.1 || r.2.1 == c) = true) (hP : P x' O' n') : RgC Bl (fun x => B ++ W x) late c O n P (c :: done) ⟨(t,s) :: delA S.T t,O',n'⟩ x' := by
 refine h.call hd hi hB hR (fun u j v hu hl hj => ?_) hP
 rw [getA_appC] at hu ⊢
 cases hb : getA B u with
 | some y => rw [hb] at hu; exact hu
 | none =>
  rw [hb] at hu
  have := List.all_eq_true.1 hW _ (getA_memC hu)
  simp only [Bool.or_eq_true,beq_iff_eq] at this
  rcases this with h1 | h1
  ·rw [h1] at hl; cases hl
  ·exact absurd h1 hj
end
end Go.Proofs.YtkmbcjnaaokilaaGreatDoor
namespace Go.Proofs.YtkmbcjnaaokilaaGreatDoor
open Go.RowKit

def sc_kGiveO : SC := (.seq (.ops [⟨some 2,none,.box 84 (.tmp 0)⟩,⟨some 3,none,.box 100 (.tmp 1)⟩,⟨some 4,none,.alc 84 [.nilIface,.nilFunc,.int .i64,.int .i64,.int .i64,.int .u32,.int .u32,.int .i64,.int .u32,.int .u32,.sl 4]⟩]) (.seq (.seq (.ops [⟨some 6,none,.ld (.tmp 2) (some 11)⟩,⟨some 7,none,.call 55 [.tmp 6]⟩]) (.cond (.tmp 7) (.seq (.ops [⟨some 8,none,.ld (.tmp 2) (some 11)⟩,⟨none,none,.st 11 (.tmp 4) (.tmp 8)⟩]) .ret) .skip)) (.seq (.ops [⟨some 9,none,.fa (.tmp 2) 1⟩,⟨some 10,none,.ld (.tmp 9) none⟩,⟨some 5,none,.mv (.tmp 10)⟩]) (.seq (.drw 5 [⟨some 11,none,.fa (.tmp 2) 10⟩,⟨some 12,none,.ld (.tmp 11) none⟩,⟨some 13,none,.call 94 [.tmp 12]⟩,⟨some 14,none,.ld (.tmp 3) (some 4)⟩,⟨some 15,none,.bsl 4 [.tmp 14]⟩,⟨some 16,none,.app (.tmp 13) (.tmp 15) 100 4 24⟩,⟨some 17,none,.fa (.tmp 2) 10⟩,⟨none,none,.st 1 (.tmp 17) (.tmp 16)⟩]) (.seq (.cfl [[],[],[],[1,2],[3],[3],[3],[0,4,5,6,3],[7,7,0,1,2,3,4,5,6,7]] [⟨some 18,none,.ld (.tmp 2) (some 11)⟩,⟨some 19,none,.mv (.tmp 5)⟩,⟨some 20,none,.ld (.tmp 3) (some 4)⟩,⟨some 21,none,.callv (.tmp 19) [.tmp 20]⟩,⟨some 22,none,.ext (.tmp 21) 0⟩,⟨some 23,none,.ext (.tmp 21) 1⟩,⟨some 24,none,.ext (.tmp 21) 2⟩,⟨some 25,none,.call 82 [.tmp 18,.tmp 22,.tmp 23,.tmp 24]⟩,⟨none,none,.st 11 (.tmp 4) (.tmp 25)⟩]) .ret)))))
def rv_kGiveO : List RV := [(.cel 4 (some 11))]
theorem tr_kGiveO : trFnC Tryz.prog rfl Tryz.f75 = some (sc_kGiveO,rv_kGiveO) := by kernel_rfl
def sc_kgoO : SC := (.seq (.ops [⟨some 3,none,.box 63 (.tmp 0)⟩,⟨some 6,none,.alc 63 [.sl 1,.sl 1,.sl 3,.sl 2,.mp 3,.sl 1,.int .i64,.sl 11,.sl 1]⟩]) (.seq (.ops [⟨some 13,none,.fa (.tmp 3) 7⟩,⟨some 14,none,.ld (.tmp 13) none⟩,⟨some 15,none,.mv (.tmp 1)⟩,⟨some 16,none,.bin .sub (.tmp 15) (.const (.int .i64 1))⟩,⟨some 17,none,.ixa (.tmp 14) (.tmp 16) 11⟩,⟨some 18,none,.ld (.tmp 17) (some 11)⟩,⟨some 19,none,.call 72 [.tmp 18]⟩,⟨some 12,none,.mv (.tmp 19)⟩,⟨some 20,none,.ext (.tmp 12) 0⟩,⟨some 21,none,.ext (.tmp 12) 1⟩,⟨some 7,none,.alc 81 [.int .i64,.int .i64,.int .i64,.int .u32,.int .u32,.int .i64,.int .u32,.int .u32]⟩,⟨none,none,.st 8 (.tmp 7) (.tmp 20)⟩,⟨some 8,none,.mv (.tmp 21)⟩]) (.seq (.ops [⟨some 23,none,.fa (.tmp 3) 0⟩,⟨some 24,none,.ld (.tmp 23) (some 7)⟩,⟨some 25,none,.mv (.tmp 1)⟩,⟨some 26,none,.ld (.tmp 7) (some 8)⟩,⟨some 27,none,.mv (.tmp 2)⟩,⟨some 28,none,.call 73 [.tmp 24,.tmp 25,.tmp 26,.tmp 27]⟩,⟨some 22,none,.mv (.tmp 28)⟩,⟨some 29,none,.ext (.tmp 22) 0⟩,⟨some 30,none,.ext (.tmp 22) 1⟩,⟨some 31,none,.ext (.tmp 22) 2⟩,⟨some 9,none,.alc 59 [.sl 1,.sl 1,.sl 3,.sl 2,.mp 3,.sl 1,.int .i64]⟩,⟨some 10,none,.alc 100 [.int .i64,.int .u32,.int .u32,.bool]⟩,⟨none,none,.st 7 (.tmp 9) (.tmp 29)⟩,⟨none,none,.st 4 (.tmp 10) (.tmp 30)⟩,⟨some 11,none,.mv (.tmp 31)⟩]) (.seq (.seq (.ops [⟨some 32,none,.mv (.tmp 11)⟩,⟨some 33,none,.bin .neq (.tmp 32) (.const (.int .i64 0))⟩]) (.cond (.tmp 33) (.ops [⟨some 34,none,.bld [.int .i64,.int .u32,.int .u32,.bool] []⟩,⟨none,none,.st 4 (.tmp 10) (.tmp 34)⟩]) (.ops [⟨some 35,none,.ld (.tmp 9) (some 7)⟩,⟨some 36,none,.fa (.tmp 3) 0⟩,⟨none,none,.st 7 (.tmp 36) (.tmp 35)⟩]))) (.seq (.ops [⟨some 37,none,.fa (.tmp 3) 7⟩,⟨some 38,none,.ld (.tmp 37) none⟩,⟨some 39,none,.call 74 [.tmp 38]⟩,⟨some 40,none,.fa (.tmp 3) 7⟩,⟨none,none,.st 1 (.tmp 40) (.tmp 39)⟩]) (.seq (.cfl [[],[0],[],[2],[],[4],[],[6],[5,7],[8],[],[9,10],[1,3,0,1,2,3,4,5,6,7,8,9,10,11],[12,11,11,0,1,2,3,4,5,6,7,8,9,10,11]] [⟨some 41,none,.fa (.tmp 3) 7⟩,⟨some 42,none,.ld (.tmp 41) none⟩,⟨some 43,none,.mv (.tmp 1)⟩,⟨some 44,none,.bin .sub (.tmp 43) (.const (.int .i64 1))⟩,⟨some 45,none,.fa (.tmp 3) 7⟩,⟨some 46,none,.ld (.tmp 45) none⟩,⟨some 47,none,.mv (.tmp 1)⟩,⟨some 48,none,.bin .sub (.tmp 47) (.const (.int .i64 1))⟩,⟨some 49,none,.ixa (.tmp 46) (.tmp 48) 11⟩,⟨some 50,none,.ld (.tmp 49) (some 11)⟩,⟨some 51,none,.ld (.tmp 10) (some 4)⟩,⟨some 52,none,.call 75 [.tmp 50,.tmp 51]⟩,⟨some 53,none,.ixa (.tmp 42) (.tmp 44) 11⟩,⟨none,none,.st 11 (.tmp 53) (.tmp 52)⟩]) (.seq (.ops [⟨some 54,none,.ld (.tmp 3) (some 9)⟩,⟨none,none,.st 9 (.tmp 6) (.tmp 54)⟩]) .ret)))))))
def rv_kgoO : List RV := [(.cel 6 (some 9))]
theorem tr_kgoO : trFnC Tryz.prog rfl Tryz.f52 = some (sc_kgoO,rv_kgoO) := by kernel_rfl
def sc_kMakeO : SC := (.seq (.ops [⟨some 2,none,.box 59 (.tmp 0)⟩,⟨some 4,none,.alc 63 [.sl 1,.sl 1,.sl 3,.sl 2,.mp 3,.sl 1,.int .i64,.sl 11,.sl 1]⟩,⟨some 5,none,.mv (.const (.int .i64 0))⟩]) (.seq (.seq (.ops [⟨some 12,none,.ld (.tmp 2) (some 7)⟩,⟨some 13,none,.call 47 [.tmp 12]⟩,⟨some 11,none,.mv (.tmp 13)⟩,⟨some 14,none,.ext (.tmp 11) 0⟩,⟨some 15,none,.ext (.tmp 11) 1⟩,⟨some 6,none,.mv (.tmp 14)⟩,⟨some 7,none,.mv (.tmp 15)⟩]) (.seq (.ops [⟨some 16,none,.mv (.tmp 1)⟩,⟨some 17,none,.len (.tmp 16)⟩,⟨some 18,none,.mv (.tmp 6)⟩,⟨some 19,none,.bin .gtr (.tmp 17) (.tmp 18)⟩]) (.cond (.tmp 19) (.seq (.ops [⟨some 20,none,.bld [.sl 1,.sl 1,.sl 3,.sl 2,.mp 3,.sl 1,.int .i64,.sl 11,.sl 1] []⟩,⟨none,none,.st 9 (.tmp 4) (.tmp 20)⟩,⟨some 5,none,.mv (.const (.int .i64 15))⟩]) .ret) .skip))) (.seq (.drw 6 [⟨some 21,none,.ld (.tmp 2) (some 7)⟩,⟨some 22,none,.mv (.tmp 1)⟩,⟨some 23,none,.len (.tmp 22)⟩,⟨some 24,none,.mks (.tmp 23) 4 1 1 [.bool]⟩,⟨some 25,none,.bld [.sl 1,.sl 1,.sl 3,.sl 2,.mp 3,.sl 1,.int .i64,.sl 11,.sl 1] [(0,(7,(.tmp 21))),(8,(1,(.tmp 24)))]⟩,⟨some 8,none,.alc 63 [.sl 1,.sl 1,.sl 3,.sl 2,.mp 3,.sl 1,.int .i64,.sl 11,.sl 1]⟩,⟨none,none,.st 9 (.tmp 8) (.tmp 25)⟩]) (.seq (.seq (.ops [⟨some 26,none,.mv (.tmp 1)⟩,⟨some 27,none,.len (.tmp 26)⟩,⟨some 28,none,.mv (.const (.int .i64 0))⟩]) (.block 0 (.loop (.seq (.ops [⟨some 29,none,.bin .lss (.tmp 28) (.tmp 27)⟩]) (.seq (.cond (.tmp 29) .skip (.exit 0)) (.seq (.block 1 (.seq (.ops [⟨some 30,none,.ixa (.tmp 26) (.tmp 28) 1⟩,⟨some 31,none,.ld (.tmp 30) none⟩,⟨some 10,none,.mv (.tmp 31)⟩]) (.cfl [[],[0],[],[2],[3],[1,4,3],[0,1,2,3,4,5],[6,5,5,0,1,2,3,4,5]] [⟨some 32,none,.fa (.tmp 8) 7⟩,⟨some 33,none,.ld (.tmp 32) none⟩,⟨some 34,none,.mv (.tmp 10)⟩,⟨some 35,none,.call 67 [.tmp 34]⟩,⟨some 36,none,.bsl 11 [.tmp 35]⟩,⟨some 37,none,.app (.tmp 33) (.tmp 36) 84 11 96⟩,⟨some 38,none,.fa (.tmp 8) 7⟩,⟨none,none,.st 1 (.tmp 38) (.tmp 37)⟩]))) (.ops [⟨some 39,none,.bin .add (.tmp 28) (.const (.int .i64 1))⟩,⟨some 28,none,.mv (.tmp 39)⟩]))))))) (.seq (.ops [⟨some 40,none,.ld (.tmp 8) (some 9)⟩,⟨none,none,.st 9 (.tmp 4) (.tmp 40)⟩,⟨some 5,none,.mv (.const (.int .i64 0))⟩]) .ret)))))
def rv_kMakeO : List RV := [(.cel 4 (some 9)),.tmp 5]
theorem tr_kMakeO : trFnC Tryz.prog rfl Tryz.f43 = some (sc_kMakeO,rv_kMakeO) := by kernel_rfl
end Go.Proofs.YtkmbcjnaaokilaaGreatDoor
