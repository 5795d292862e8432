/-
  ArenaStops by shadows: the world that it begins with.
-/
import Derived.Test.YtkmbcjnaaokilaaGreatDoorMK21
namespace Go.Proofs.YtkmbcjnaaokilaaGreatDoor
set_option linter.unusedSimpArgs false
set_option linter.unusedVariables false
open Go.RowKit Go.Maps
theorem afz {f : FuncId} {l q3 : List av} {O : List (Nat × bl)} {n : Nat} {P : (bg → Env → Prop) → av → List (Nat × bl) → Nat → Prop} (h : ∀ H E vs,db H E l vs → db H E q3 vs) (cX : fv f q3 O n P) : fv f l O n P :=
 fun J N w0 H0 E a w H vs aN bj => cX J N w0 H0 E a w H vs aN (h H E vs bj)
theorem ahm {H : bg} {E : Env} {fs : List av} {es : List (List av)} {u : Value} (h : ca H E (.au 1 0 (fs :: [.v (.slice none 0 0)] :: es)) u) : ca H E (.au 1 0 (fs :: [.au 2 2 []] :: es)) u := by
 cases h with
 | au af aj aw aV bF bH cA =>
  refine .au ?_ aj aw aV ⟨fun e => (nomatch e),fun _ a7 => bF.2 rfl a7⟩ bH cA
  cases af with
  | cons bE bP cK af =>
   cases af with
   | cons c4 dm gi af =>
    refine .cons bE bP cK (.cons ?_ dm rfl af)
    cases c4 with
    | cons cw c2 =>
     refine .cons ?_ c2
     cases cw
     exact .au .nil rfl (Nat.le_refl _) (Nat.zero_le _) ⟨fun _ => rfl,fun _ _ => rfl⟩ (fun _ => rfl) (fun j u hu => by simp at hu)
structure wy (j0 : List (Nat × av)) (V : List (Nat × (Nat × av))) (done : List Nat) (T : List (Nat × av)) : Prop where
 base : ∀ t s,al j0 t = some s → al T t = some s
 jz : ∀ t j s,al V t = some (j,s) → done.contains j = true → al T t = some s
theorem wy.put {j0 : List (Nat × av)} {V Dn : List (Nat × (Nat × av))} {done : List Nat} {T : List (Nat × av)} (h : wy j0 V done T) {i t : Nat} {s : av} (e9 : ∀ u j v,al Dn u = some (j,v) → j ≠ i → done.contains j = true → al V u = some (j,v)) (aq : al Dn t = some (i,s)) (fD : al j0 t = none) (ba : (Dn.all fun r => r.2.1 != i || r.1 == t) = true) : wy j0 Dn (i :: done) ((t,s) :: dC T t) := by
 refine ⟨fun u v hu => ?_,fun u j v hu aM => ?_⟩
 ·rw [lj,if_neg (fun e => by subst e; rw [fD] at hu; cases hu)]
  exact h.base u v hu
 ·rw [lj]
  by_cases e : t = u
  ·subst e
   rw [aq] at hu
   cases hu
   exact if_pos rfl
  ·rw [if_neg e]
   have m9 : j ≠ i := fun a8 => by
    subst a8
    have ch := List.all_eq_true.1 ba _ (yF hu)
    simp at ch
    exact e ch.symm
   rw [cZ m9] at aM
   exact h.jz u j v (e9 u j v hu m9 aM) aM
theorem wy.no {j0 : List (Nat × av)} {V : List (Nat × (Nat × av))} {done : List Nat} {T : List (Nat × av)} (h : wy j0 V done T) {i : Nat} (ba : (V.all fun r => r.2.1 != i) = true) : wy j0 V (i :: done) T :=
 ⟨h.base,fun u j v hu aM => h.jz u j v hu (by
  have ch := List.all_eq_true.1 ba _ (yF hu)
  rw [cZ (fun e => by subst e; simp at ch)] at aM; exact aM)⟩
abbrev ahZ (n : Nat) (rows : List (List fi)) (ps : List kO) : List (Nat × av) := [(1,.au 1 2 (rows.map nZ)),(2,.au 3 2 (ps.map sN)),(7,.ptr (n + 2) 0 0)]
abbrev LR (fp : List fi) : List (List av) := [nZ fp,[.v (.slice none 0 0)]]
abbrev LS (fp : List fi) (rs : List (List fi)) : List (List av) := nZ fp :: [.v (.slice none 0 0)] :: rs.map nZ
structure GQ where
 nM : Nat
 ik : Nat
 gn : Nat
 w : cM fR
abbrev qs (l : cc) (fp : List fi) (rs : List (List fi)) (x : GQ) : List (Nat × (Nat × av)) :=
 [(34,0,.agg (fe l)),(35,1,.au 1 0 []),(36,2,.au 1 2 ((fp :: rs).map nZ)),(37,3,.dc (nZ fp) 0),(38,4,.au 2 2 (fp.map yt)),(39,5,.au 1 0 (LR fp)),(40,6,.own x.nM),(41,7,.au 1 2 ((fp :: rs).map nZ)),(42,8,.au 1 2 (rs.map nZ)),(43,9,.own x.ik),(44,10,.bR [lI x.w,dH true]),(33,11,.bR [lI x.w,dH true]),(45,12,lI x.w),(46,13,dH true),(8,14,.ptr x.gn 0 0),(9,16,dH true)]
abbrev T0 : List (List Nat) := [[],[],[],[2],[3],[4],[1,5],[],[7],[6,8,6],[0,9,9],[10],[11],[11],[],[14,12,10,0,1,2,3,4,5,6,7,8,9,10,11,12,14],[13,15,0,1,2,3,4,5,6,7,8,9,10,11,12,13,14,15]]
theorem wO {i t : Nat} {s dv : av} {u j : Nat} {v : av} (aM : j ≠ i) : ∀ (A B : List (Nat × (Nat × av))),al (A ++ (t,(i,dv)) :: B) u = some (j,v) → al (A ++ (t,(i,s)) :: B) u = some (j,v)
 | [],B,h => by
  simp only [List.nil_append,al] at h ⊢
  split at h
  ·cases h; exact absurd rfl aM
  ·rename_i e; rw [if_neg e]; exact h
 | (k,y) :: A,B,h => by
  simp only [List.cons_append,al] at h ⊢
  split at h
  ·rename_i e; rw [if_pos e]; exact h
  ·rename_i e; rw [if_neg e]; exact wO aM A B h
structure mv (Q : cM fR → Prop) (J : bg → Env → Prop) (n : Nat) (l : cc) (fp : List fi) (rs : List (List fi)) (x : GQ) (done : List Nat) (S : ak) : Prop where
 le : n + 3 ≤ S.n
 fC : al S.O n = some (.cq J)
 bQ : al S.O (n + 2) = some (.box 25 (fe l))
 pt : done.contains 6 = true → done.contains 9 = false → al S.O x.nM = some (.row 22 1 (LR fp)) ∧ n + 3 ≤ x.nM ∧ x.nM < S.n ∧ (done.contains 14 = true → x.nM ≠ x.gn)
 E1 : done.contains 9 = true → done.contains 10 = false → al S.O x.ik = some (.row 22 1 (LS fp rs)) ∧ n + 3 ≤ x.ik ∧ x.ik < S.n ∧ (done.contains 14 = true → x.ik ≠ x.gn)
 E6 : done.contains 10 = true → Q x.w ∧ jw hG x.w S.O S.n ∧ ∀ e ∈ hP hG x.w,n + 3 ≤ e ∧ (done.contains 14 = true → e ≠ x.gn)
 s8 : done.contains 14 = true → n + 3 ≤ x.gn ∧ x.gn < S.n ∧ al S.O x.gn = some (.box 63 (if done.contains 15 = true then sG x.w else ri))
section
variable {Q : cM fR → Prop} {J : bg → Env → Prop} {n : Nat} {l : cc} {fp : List fi} {rs : List (List fi)} {x : GQ} {done : List Nat} {S S' : ak}
theorem mv.pure (h : mv Q J n l fp rs x done S) (i : Nat) (aq : i ≠ 6 ∧ i ≠ 9 ∧ i ≠ 10 ∧ i ≠ 14 ∧ i ≠ 15) (cX : S'.O = S.O) (a7 : S'.n = S.n) : mv Q J n l fp rs x (i :: done) S' := by
 obtain ⟨af,aj,aw,aV,bF⟩ := aq
 refine ⟨by rw [a7]; exact h.le,by rw [cX]; exact h.fC,by rw [cX]; exact h.bQ,?_,?_,?_,?_⟩
 ·rw [cZ (Ne.symm af),cZ (Ne.symm aj),cZ (Ne.symm aV),cX,a7]; exact h.pt
 ·rw [cZ (Ne.symm aj),cZ (Ne.symm aw),cZ (Ne.symm aV),cX,a7]; exact h.E1
 ·rw [cZ (Ne.symm aw),cZ (Ne.symm aV),cX,a7]; exact h.E6
 ·rw [cZ (Ne.symm aV),cZ (Ne.symm bF),cX,a7]; exact h.s8
theorem mv.E9 (h : mv Q J n l fp rs x done S) (ch : done.contains 9 = false) (n2 : done.contains 10 = false) (cX : S'.O = (S.n,.row 22 1 (LR fp)) :: S.O) (a7 : S'.n = S.n + 1) : mv Q J n l fp rs ⟨S.n,x.ik,x.gn,x.w⟩ (6 :: done) S' := by
 have hle := h.le
 refine ⟨by rw [a7]; omega,by rw [cX]; simp only [al]; rw [if_neg (by omega)]; exact h.fC,by rw [cX]; simp only [al]; rw [if_neg (by omega)]; exact h.bQ,fun _ _ => ⟨by rw [cX]; simp only [al,if_true],hle,by rw [a7]; exact Nat.lt_succ_self _,fun qR => ?_⟩,fun dh => ?_,fun dh => ?_,fun dh => ?_⟩
 ·rw [cZ (by decide)] at qR
  have := (h.s8 qR).2.1
  show S.n ≠ x.gn
  omega
 ·rw [cZ (by decide),ch] at dh; cases dh
 ·rw [cZ (by decide),n2] at dh; cases dh
 ·rw [cZ (by decide)] at dh ⊢
  obtain ⟨bE,bP,cK⟩ := h.s8 dh
  exact ⟨bE,by rw [a7]; show x.gn < _; omega,by rw [cX]; simp only [al]; rw [if_neg (by omega)]; exact cK⟩
theorem mv.vN (h : mv Q J n l fp rs x done S) (bH : done.contains 6 = true) (ch : done.contains 9 = false) (n2 : done.contains 10 = false) (cX : S'.O = (S.n,.row 22 1 (LS fp rs)) :: dC S.O x.nM) (a7 : S'.n = S.n + 1) : mv Q J n l fp rs ⟨x.nM,S.n,x.gn,x.w⟩ (9 :: done) S' := by
 have hle := h.le
 obtain ⟨_,c4,dm,gi⟩ := h.pt bH ch
 refine ⟨by rw [a7]; omega,by rw [cX]; simp only [al,bn]; (repeat rw [if_neg (by omega)]); exact h.fC,by rw [cX]; simp only [al,bn]; (repeat rw [if_neg (by omega)]); exact h.bQ,fun _ dh => ?_,fun _ _ => ⟨by rw [cX]; simp only [al,if_true],hle,by rw [a7]; exact Nat.lt_succ_self _,fun qR => ?_⟩,fun dh => ?_,fun dh => ?_⟩
 ·rw [ry] at dh; cases dh
 ·rw [cZ (by decide)] at qR
  have := (h.s8 qR).2.1
  show S.n ≠ x.gn
  omega
 ·rw [cZ (by decide),n2] at dh; cases dh
 ·rw [cZ (by decide)] at dh ⊢
  obtain ⟨bE,bP,cK⟩ := h.s8 dh
  have G5 := gi dh
  refine ⟨bE,by rw [a7]; show x.gn < _; omega,?_⟩
  rw [cX]; simp only [al,bn]
  rw [if_neg (by omega),if_neg (by omega)]; exact cK
theorem mv.afq (h : mv Q J n l fp rs x done S) (ch : done.contains 9 = true) (n2 : done.contains 10 = false) (rH : done.contains 15 = false) {w' : cM fR} (jB : Q w') {O' : List (Nat × bl)} {bI : Nat} (hw : jw hG w' O' bI) {X : bl} (bs : jQ [] (hP hG w') ((x.ik,X) :: dC S.O x.ik) S.n O' bI) (cX : S'.O = dC O' S.n) (a7 : S'.n = bI) : mv Q J n l fp rs ⟨x.nM,x.ik,x.gn,w'⟩ (10 :: done) S' := by
 have hle := h.le
 have ub := bs.le
 obtain ⟨_,c4,dm,gi⟩ := h.E1 ch n2
 have vu : ∀ e ∈ hP hG w',S.n < e := fun e he => (bs.new e he).resolve_left (by simp)
 have hold : ∀ e,e < S.n → e ≠ x.ik → al S'.O e = al S.O e := fun e he dd => by
  rw [cX,bn,if_neg (by omega),bs.old e he (by simp)]
  simp only [al,bn]
  rw [if_neg (Ne.symm dd),if_neg (Ne.symm dd)]
 refine ⟨by rw [a7]; omega,by rw [hold n (by omega) (by omega)]; exact h.fC,by rw [hold (n + 2) (by omega) (by omega)]; exact h.bQ,fun _ dh => ?_,fun _ dh => ?_,fun _ => ⟨jB,?_,fun e he => ⟨by have := vu e he; omega,fun qR => ?_⟩⟩,fun dh => ?_⟩
 ·rw [cZ (by decide),ch] at dh; cases dh
 ·rw [ry] at dh; cases dh
 ·rw [cX,a7]
  exact kn hw (Nat.le_refl _) fun e he => by have := vu e he; rw [bn,if_neg (by omega)]
 ·rw [cZ (by decide)] at qR
  have := (h.s8 qR).2.1
  have := vu e he
  show e ≠ x.gn
  omega
 ·rw [cZ (by decide)] at dh ⊢
  obtain ⟨bE,bP,cK⟩ := h.s8 dh
  have G5 := gi dh
  rw [rH] at cK
  refine ⟨bE,by rw [a7]; show x.gn < _; omega,?_⟩
  show al S'.O x.gn = _
  rw [rH,hold x.gn bP (by omega)]; exact cK
theorem mv.afr (h : mv Q J n l fp rs x done S) (rH : done.contains 15 = false) (cX : S'.O = (S.n,.box 63 ri) :: S.O) (a7 : S'.n = S.n + 1) : mv Q J n l fp rs ⟨x.nM,x.ik,S.n,x.w⟩ (14 :: done) S' := by
 have hle := h.le
 have hold : ∀ e,e < S.n → al S'.O e = al S.O e := fun e he => by rw [cX]; simp only [al]; rw [if_neg (by omega)]
 refine ⟨by rw [a7]; omega,by rw [hold n (by omega)]; exact h.fC,by rw [hold (n + 2) (by omega)]; exact h.bQ,fun af aj => ?_,fun af aj => ?_,fun af => ?_,fun _ => ⟨hle,by rw [a7]; exact Nat.lt_succ_self _,?_⟩⟩
 ·rw [cZ (by decide)] at af aj
  obtain ⟨bE,bP,cK,_⟩ := h.pt af aj
  exact ⟨by show al S'.O x.nM = _; rw [hold _ cK]; exact bE,bP,by rw [a7]; show x.nM < _; omega,fun _ => by show x.nM ≠ S.n; omega⟩
 ·rw [cZ (by decide)] at af aj
  obtain ⟨bE,bP,cK,_⟩ := h.E1 af aj
  exact ⟨by show al S'.O x.ik = _; rw [hold _ cK]; exact bE,bP,by rw [a7]; show x.ik < _; omega,fun _ => by show x.ik ≠ S.n; omega⟩
 ·rw [cZ (by decide)] at af
  obtain ⟨bE,bP,cK⟩ := h.E6 af
  exact ⟨bE,kn bP (by rw [a7]; omega) fun e he => hold e (rh bP he),fun e he => ⟨(cK e he).1,fun _ => by have := rh bP he; show e ≠ S.n; omega⟩⟩
 ·rw [cZ (by decide),rH,cX]; simp only [al,if_true]; rfl
theorem mv.afs (h : mv Q J n l fp rs x done S) (ch : done.contains 9 = true) (n2 : done.contains 10 = true) (qR : done.contains 14 = true) (cX : S'.O = (x.gn,.box 63 (sG x.w)) :: dC S.O x.gn) (a7 : S'.n = S.n) : mv Q J n l fp rs x (15 :: done) S' := by
 obtain ⟨c4,dm,gi⟩ := h.s8 qR
 obtain ⟨cw,c2,eE⟩ := h.E6 n2
 have hold : ∀ e,e ≠ x.gn → al S'.O e = al S.O e := fun e he => by rw [cX]; simp only [al,bn]; rw [if_neg (Ne.symm he),if_neg (Ne.symm he)]
 refine ⟨by rw [a7]; exact h.le,by rw [hold n (by omega)]; exact h.fC,by rw [hold (n + 2) (by omega)]; exact h.bQ,fun _ aj => ?_,fun _ aj => ?_,fun _ => ⟨cw,kn c2 (by rw [a7]; omega) fun e he => hold e ((eE e he).2 qR),fun e he => ⟨(eE e he).1,fun _ => (eE e he).2 qR⟩⟩,fun _ => ⟨c4,by rw [a7]; exact dm,?_⟩⟩
 ·rw [cZ (by decide),ch] at aj; cases aj
 ·rw [cZ (by decide),n2] at aj; cases aj
 ·rw [ry,cX]; simp only [al,if_true]
end
end Go.Proofs.YtkmbcjnaaokilaaGreatDoor
