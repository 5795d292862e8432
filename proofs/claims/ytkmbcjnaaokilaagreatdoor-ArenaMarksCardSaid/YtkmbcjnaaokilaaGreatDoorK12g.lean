/-
  Layer 8 once more, for codes that have a part of one's own memory: worlds.
-/
import Derived.Test.YtkmbcjnaaokilaaGreatDoorK12f
namespace Go.Proofs.YtkmbcjnaaokilaaGreatDoor
set_option linter.unusedSimpArgs false
set_option linter.unusedVariables false
open Go.RowKit Go.Maps
section
variable {C : Coder} (W : Owner C)
structure WOwn (w : WorldM C) (O : List (Nat × Ob)) (n : Nat) : Prop where
 own : ∀ t ∈ w.tasks,tOwn W t O n
 ap : ∀ (i j : Nat) (ti tj : TaskM C),i ≠ j → w.tasks[i]? = some ti → w.tasks[j]? = some tj → ∀ e ∈ tIds W ti,e ∉ tIds W tj
def wIds (w : WorldM C) : List Nat := w.tasks.flatMap (tIds W)
def fgtW (w : WorldM C) : WorldM C := ⟨w.m,w.tasks.map (fgtT W),w.stopped⟩
end
section
variable {C : Coder} {W : Owner C}
theorem tOwn_lt {t : TaskM C} {O : List (Nat × Ob)} {n e : Nat} (h : tOwn W t O n) (he : e ∈ tIds W t) : e < n := by
 obtain ⟨code,live,act,gots⟩ := t
 cases code with
 | none => cases he
 | some s => exact W.lt (h s rfl) e he
theorem tOwn_to {t : TaskM C} {O O' : List (Nat × Ob)} {n n' : Nat} (h : tOwn W t O n) (hn : n ≤ n') (hO : ∀ e ∈ tIds W t,getA O' e = getA O e) : tOwn W t O' n' := by
 obtain ⟨code,live,act,gots⟩ := t
 cases code with
 | none => intro s hs; cases hs
 | some s => intro s' hs; cases hs; exact W.to (h s rfl) hn hO
theorem mem_wIds {w : WorldM C} {e : Nat} : e ∈ wIds W w ↔ ∃ t ∈ w.tasks,e ∈ tIds W t := List.mem_flatMap
theorem set_own {w : WorldM C} {O O' : List (Nat × Ob)} {n n' m : Nat} {y t' : TaskM C} {M : MachM} (h : WOwn W w O n) (hy : w.tasks[m]? = some y) (ht : tOwn W t' O' n') (hf : OFr (tIds W y) (tIds W t') O n O' n') :
  WOwn W (setTask w M m t') O' n' ∧ OFr (wIds W w) (wIds W (setTask w M m t')) O n O' n' := by
 have hml := (List.getElem?_eq_some_iff.1 hy).1
 have hget : ∀ i ti,(w.tasks.set m t')[i]? = some ti → (i = m ∧ ti = t') ∨ (i ≠ m ∧ w.tasks[i]? = some ti) := fun i ti hi => by
  rw [List.getElem?_set] at hi
  by_cases e : m = i
  ·subst e; rw [if_pos rfl,if_pos hml] at hi; cases hi; exact .inl ⟨rfl,rfl⟩
  ·rw [if_neg e] at hi; exact .inr ⟨fun h => e h.symm,hi⟩
 have hlt : ∀ i ti,w.tasks[i]? = some ti → ∀ e ∈ tIds W ti,e < n := fun i ti hi e he => tOwn_lt (h.own ti (List.mem_of_getElem? hi)) he
 have hap : ∀ i ti,i ≠ m → w.tasks[i]? = some ti → ∀ e ∈ tIds W ti,e ∉ tIds W y := fun i ti hi hti => h.ap i m ti y hi hti hy
 have hnew : ∀ i ti,i ≠ m → w.tasks[i]? = some ti → ∀ e ∈ tIds W ti,e ∉ tIds W t' := fun i ti hi hti e he hm => by
  rcases hf.new e hm with h1 | h1
  ·exact hap i ti hi hti e he h1
  ·have := hlt i ti hti e he; omega
 refine ⟨⟨fun t htm => ?_,fun i j ti tj hij hi hj e he => ?_⟩,hf.le,fun e he hx => ?_,fun e he => ?_⟩
 ·obtain ⟨i,hi⟩ := List.getElem?_of_mem htm
  rcases hget i t hi with ⟨rfl,rfl⟩ | ⟨hi1,hi2⟩
  ·exact ht
  ·exact tOwn_to (h.own t (List.mem_of_getElem? hi2)) hf.le fun e he => hf.old e (hlt i t hi2 e he) (hap i t hi1 hi2 e he)
 ·rcases hget i ti hi with ⟨rfl,rfl⟩ | ⟨hi1,hi2⟩
  ·rcases hget j tj hj with ⟨rfl,rfl⟩ | ⟨hj1,hj2⟩
   ·exact absurd rfl hij
   ·exact fun hm => hnew j tj hj1 hj2 e hm he
  ·rcases hget j tj hj with ⟨rfl,rfl⟩ | ⟨hj1,hj2⟩
   ·exact hnew i ti hi1 hi2 e he
   ·exact h.ap i j ti tj hij hi2 hj2 e he
 ·exact hf.old e he fun hm => hx (mem_wIds.2 ⟨y,List.mem_of_getElem? hy,hm⟩)
 ·obtain ⟨t,htm,het⟩ := mem_wIds.1 he
  obtain ⟨i,hi⟩ := List.getElem?_of_mem htm
  rcases hget i t hi with ⟨rfl,rfl⟩ | ⟨hi1,hi2⟩
  ·rcases hf.new e het with h1 | h1
   ·exact .inl (mem_wIds.2 ⟨y,List.mem_of_getElem? hy,h1⟩)
   ·exact .inr h1
  ·exact .inl (mem_wIds.2 ⟨t,List.mem_of_getElem? hi2,het⟩)
theorem wOwn_to {w : WorldM C} {O O' : List (Nat × Ob)} {n n' : Nat} (h : WOwn W w O n) (hn : n ≤ n') (hO : ∀ e ∈ wIds W w,getA O' e = getA O e) : WOwn W w O' n' :=
 ⟨fun t ht => tOwn_to (h.own t ht) hn fun e he => hO e (mem_wIds.2 ⟨t,ht,he⟩),h.ap⟩
theorem wOwn_lt {w : WorldM C} {O : List (Nat × Ob)} {n e : Nat} (h : WOwn W w O n) (he : e ∈ wIds W w) : e < n := by
 obtain ⟨t,ht,he⟩ := mem_wIds.1 he
 exact tOwn_lt (h.own t ht) he
theorem fgt_set {w : WorldM C} {M : MachM} {m : Nat} {t t' : TaskM C} (h : fgtT W t = fgtT W t') : fgtW W (setTask w M m t) = fgtW W (setTask w M m t') := by
 unfold fgtW setTask
 simp only [List.map_set,h]
def WPost (ids : List Nat) (O : List (Nat × Ob)) (n : Nat) (W : Owner C) (w : WorldM C) (_ : Hp → Env → Prop) (r : Sh) (O' : List (Nat × Ob)) (n' : Nat) : Prop :=
 ∃ w',fgtW W w' = fgtW W w ∧ r = eWorld w' ∧ WOwn W w' O' n' ∧ OFr ids (wIds W w') O n O' n'
structure GoP (W : Owner C) (y : TaskM C) (g : GotV) (O : List (Nat × Ob)) (m : Nat) (x : TaskM C) (O' : List (Nat × Ob)) (n' : Nat) : Prop where
 fgt : fgtT W x = fgtT W (giveM y g)
 own : tOwn W x O' n'
 fr : OFr (tIds W y) (tIds W x) O m O' n'
theorem GoP.of {y x : TaskM C} {g : GotV} {O O' : List (Nat × Ob)} {m n' n0 : Nat} (h1 : fgtT W x = fgtT W (giveM y g)) (h2 : tOwn W x O' n') (h3 : OFr (tIds W y) (tIds W x) O m O' n') (hlt : ∀ e ∈ tIds W y,e < n0) (hn : n0 ≤ m) : GoP W y g O m x (delA O' m) n' :=
 ⟨h1,tOwn_to h2 (Nat.le_refl _) fun e he => (by
  rw [getA_delO,if_neg]
  rcases h3.new e he with h | h
  ·have := hlt e h; omega
  ·omega),⟨h3.le,fun e he hx => (by rw [getA_delO,if_neg (by omega)]; exact h3.old e he hx),h3.new⟩⟩
abbrev goCells (w : WorldM C) (M : MachM) (n : Nat) : List Sh := [.sl 1 0 (M.mem.places.map ePlace),.sl 1 0 (M.mem.views.map eV1),.sl 3 0 (M.lines.first.map eWord),.sl 2 0 (M.lines.logs.map eLog),.mp 3 fun t => (M.lines.asks t).map eAsked,.sl 1 0 (M.steps.map eSt),sI M.crashes,.own (n + 6),.sl 1 0 (w.stopped.map eBl)]
abbrev goBl (n m : Nat) : List (Nat × Sh) := [(1,sI ((m : Int) + 1)),(3,.ptr (n + 1) 0 0),(6,.ptr (n + 2) 0 0),(10,.ptr (n + 5) 0 0)]
abbrev goB (n m : Nat) (y : TaskM C) (g : GotV) : List (Nat × (Nat × Sh)) := [(41,0,.ptr (n + 1) 0 7),(42,1,.own (n + 6)),(43,2,sI ((m : Int) + 1)),(44,3,sI (m : Int)),(45,4,.ptr (n + 1) 0 7),(46,5,.own (n + 6)),(47,6,sI ((m : Int) + 1)),(48,7,sI (m : Int)),(49,8,.ptr (n + 6) m 0),(50,9,.agg (eTask y)),(51,10,.agg (eGot g))]
abbrev goW (n m : Nat) (x : TaskM C) : List (Nat × (Nat × Sh)) := [(52,11,.agg (eTask x)),(53,12,.ptr (n + 6) m 0)]
abbrev goWt : List (List Nat) := [[],[0],[],[2],[],[4],[],[6],[5,7],[8],[],[9,10],[1,3,0,1,2,3,4,5,6,7,8,9,10,11],[12,11,11,0,1,2,3,4,5,6,7,8,9,10,11]]
abbrev goZ1 (O : List (Nat × Ob)) (n : Nat) : List (Nat × Ob) := delA (delA (delA (delA (delA O (n + 3)) (n + 4)) (n + 5)) (n + 1)) (n + 1)
abbrev goZ2 (O : List (Nat × Ob)) (n : Nat) : List (Nat × Ob) := delA (delA (delA (delA (delA O (n + 3)) (n + 4)) (n + 5)) (n + 5)) (n + 1)
abbrev goOb (J : Hp → Env → Prop) (Z : List (Nat × Ob)) (n : Nat) (w : WorldM C) (M : MachM) (g : GotV) (y : TaskM C) : List (Nat × Ob) :=
 (n + 1,.box 63 (goCells w M n)) :: (n + 6,.row 84 11 (w.tasks.map eTask)) :: (n + 5,.box 100 (eGot g)) :: (n + 4,.box 59 (cMach M)) :: (n + 3,.box 81 (eAct4 y.act)) :: (n + 2,.box 63 zCells) :: (n,.gh J) :: Z
theorem goOb_old {J : Hp → Env → Prop} {O Z : List (Nat × Ob)} {n : Nat} {w : WorldM C} {M : MachM} {g : GotV} {y : TaskM C} {e : Nat} (he : e < n) (hZ : getA Z e = getA O e) : getA (goOb J Z n w M g y) e = getA O e := by
 simp only [getA]; repeat rw [if_neg (by omega)]
 exact hZ
structure GoFin (W : Owner C) (w : WorldM C) (y : TaskM C) (M : MachM) (g : GotV) (J : Hp → Env → Prop) (O : List (Nat × Ob)) (n m : Nat) (S : St) (x : TaskM C) : Prop where
 p3 : getA S.T 3 = some (.ptr (n + 1) 0 0)
 p6 : getA S.T 6 = some (.ptr (n + 2) 0 0)
 bx : getA S.O (n + 1) = some (.box 63 (goCells w M n))
 rx : getA S.O (n + 2) = some (.box 63 zCells)
 row : getA S.O (n + 6) = some (.row 84 11 ((w.tasks.map eTask).set m (eTask x)))
 gh : getA S.O n = some (.gh J)
 fgt : fgtT W x = fgtT W (giveM y g)
 own : tOwn W x S.O S.n
 fr : OFr (tIds W y) (tIds W x) O n S.O S.n
 far : ∀ e ∈ tIds W x,e < n ∨ n + 7 ≤ e
abbrev goI (W : Owner C) (w : WorldM C) (y : TaskM C) (M : MachM) (g : GotV) (J : Hp → Env → Prop) (O : List (Nat × Ob)) (n m : Nat) (X : List (Nat × Ob)) (done : List Nat) (S : St) (x : TaskM C) : Prop :=
 RgC (goBl n m) (fun x => goB n m y g ++ goW n m x) [12] 11 X (n + 7) (GoP W y g X (n + 7)) done S x
theorem go_mem {y : TaskM C} {g : GotV} {w : WorldM C} {M : MachM} {J : Hp → Env → Prop} {O : List (Nat × Ob)} {n m : Nat} {done : List Nat} {S : St} {x : TaskM C} {X : List (Nat × Ob)} (h : goI W w y M g J O n m X done S x) (hlt : ∀ e ∈ tIds W y,e < n) {e : Nat} {Y : Ob} (h1 : n ≤ e) (h2 : e < n + 7) (hX : getA X e = some Y) : getA S.O e = some Y := by
 cases hc : done.contains 11 with
 | false => rw [(h.pre hc).1]; exact hX
 | true => exact (h.post hc).fr.at h2 (fun hm => absurd (hlt e hm) (by omega)) hX
set_option maxHeartbeats 8000000 in
set_option maxRecDepth 20000 in
theorem okO_kgo (w : WorldM C) (t c : Int) {k : Nat} (h : WorldOk w k) (hk : k ≤ 900) (ht : takesM w t = true) (O : List (Nat × Ob)) (n : Nat) (ho : WOwn W w O n) : OkO 52 [eWorld w,sI t,sI c] O n (WPost (wIds W w) O n W (goM w t c)) := by
 refine okO_of_trC Tryz.func52 tr_kgoO rfl fun J => ?_
 have hid := oid n
 obtain ⟨m,y,rfl,hy,hl,_⟩ := takes_spec ht
 have hK := shK C
 have h8 := worldOk_eight h
 have hml := (List.getElem?_eq_some_iff.1 hy).1
 have q1 : IntKind.i64.wrap ((m : Int) + 1 - 1) = (m : Int) := by rw [IntKind.wrap_i64]; omega
 have k0 := ok_kAct y
 rw [hl] at k0
 have k1 := ok_cDo w.m ((m : Int) + 1) y.act c h.mach hk
 have k2 := fun g => row_cloneTask g (w.tasks.map eTask) (by simp; omega)
 have hoy := ho.own y (List.mem_of_getElem? hy)
 have hlt : ∀ e ∈ tIds W y,e < n := fun e he => tOwn_lt hoy he
 have em : ((m : Int) + 1 - 1).toNat = m := by omega
 have eg : goM w ((m : Int) + 1) c = setTask w (doM w.m ((m : Int) + 1) y.act c).1 m (giveM y (doM w.m ((m : Int) + 1) y.act c).2.1) := by
  unfold goM
  rw [em,hy]
 rw [eg]
 have k3 := fun g X N hX => okO_kGive (W := W) y g (h.task y (List.mem_of_getElem? hy)) hk X N hX
 have hz : (doM w.m ((m : Int) + 1) y.act c).2.2 ≠ 0 → (doM w.m ((m : Int) + 1) y.act c).1 = w.m ∧ (doM w.m ((m : Int) + 1) y.act c).2.1 = zGot := by
  unfold doM; split
  ·intro h; exact absurd rfl h
  ·intro _; exact ⟨rfl,rfl⟩
 have q3 : (m : Int) < (w.tasks.length : Int) := by omega
 have q4 : (0 : Int) ≤ (m : Int) := by omega
 have q5 : (w.tasks.map eTask)[m]? = some (eTask y) := by rw [List.getElem?_map,hy]; rfl
 have hm0 : m < (w.tasks.map eTask).length := by simp; omega
 generalize doM w.m ((m : Int) + 1) y.act c = R at k1 hz ⊢
 obtain ⟨R1,R2,R3⟩ := R
 simp only at k1 hz ⊢
 by_cases h0 : R3 = 0
 ·subst h0
  have hZ : ∀ e,e < n → getA (goZ1 O n) e = getA O e := fun e he => by
   simp only [getA_delO]; repeat rw [if_neg (by omega)]
  have hoX : tOwn W y (goOb J (goZ1 O n) n w R1 R2 y) (n + 7) := tOwn_to hoy (by omega) fun e he => goOb_old (hlt e he) (hZ e (hlt e he))
  unfold sc_kgoO rv_kgoO
  have F1 := And.intro @hid (And.intro @q1 (And.intro @q3 (And.intro @hml (And.intro @hy @hK))))
  refine eS fun K1 hn1 hr1 he1 => ?_;refine eO fun K2 hk2 => ?_;refine tL F1 ?_;refine hk2 _ ?_;refine hn1 (some ([1,2,3,6],none)) _ ?_;refine eS fun K3 hn3 hr3 he3 => ?_;refine eO fun K4 hk4 => ?_;refine tC 2 F1 ?_;refine tC 2 F1 ?_;refine tC 1 F1 ?_;refine tC 1 F1 ?_;refine tS 1 F1 ?_;refine Or.inl (Or.inl ⟨_,k0,?_⟩);refine tC 5 F1 ?_;refine tL F1 ?_;refine hk4 _ ?_;refine hn3 (some ([1,2,3,6,7],none)) _ ?_;refine eS fun K5 hn5 hr5 he5 => ?_;refine eO fun K6 hk6 => ?_;refine tC 2 F1 ?_;refine tC 2 F1 ?_;refine tS 1 F1 ?_;refine tS 1 F1 ?_;refine Or.inl (Or.inl ⟨_,k1,?_⟩);refine tC 7 F1 ?_;refine tC 1 F1 ?_;refine tL F1 ?_;refine hk6 _ ?_;refine hn5 (some ([1,3,6,9,10,11],none)) _ ?_;refine eS fun K7 hn7 hr7 he7 => ?_;refine eS fun K8 hn8 hr8 he8 => ?_;refine eO fun K9 hk9 => ?_;refine tZ F1 ?_;refine hk9 _ ?_;refine hn8 (some ([1,3,6,9,10,33],none)) _ ?_;refine eCf ?_;refine eO fun K10 hk10 => ?_
  refine tC 1 F1 ?_;refine tZ F1 ?_;refine hk10 _ ?_;refine hn7 (some ([1,3,6,10],none)) _ ?_;refine eS fun K11 hn11 hr11 he11 => ?_;refine eO fun K12 hk12 => ?_;refine tC 2 F1 ?_;refine tS 1 F1 ?_;refine Or.inl (Or.inr (Or.inl ⟨_,_,_,k2 _,?_⟩));refine tZ F1 ?_;refine hk12 _ ?_;refine hn11 (some ([1,3,6,10],none)) _ ?_;refine eS fun K13 hn13 hr13 he13 => ?_;refine eCflP ([]) (fun done S => Closed goWt done ∧ ((done.contains 13 = false ∧ ∃ x,goI W w y R1 R2 J O n m (goOb J (goZ1 O n) n w R1 R2 y) done S x) ∨ ((∀ i,i < 14 → done.contains i = true) ∧ ∃ x,GoFin W w y R1 R2 J O n m S x))) (fun S => ∃ x O1 n1,S = ⟨[(3,.ptr (n + 1) 0 0),(6,.ptr (n + 2) 0 0)],O1,n1⟩ ∧ GoFin W w y R1 R2 J O n m S x) ?_ ?_ ?_ ?_
  ·skip
   refine ⟨closed_nil _,.inl ⟨rfl,y,RgC.init (fun t v h => ?_) ?_ ?_⟩⟩
   ·simp only [getA] at h
    simp only [St.casts,St.keep,keepT,getA,reduceIte,Nat.reduceEqDiff]
    repeat' split at h
    all_goals first | (rename_i e9; subst e9; exact h) | cases h
   ·rfl
   ·rfl
  ·skip
   intro done S i0 ⟨hc,hI⟩ hr
   have hi9 := rdyN_lt hr
   have hnr := rdyN_not hr
   rcases hI with ⟨h13,x,hI⟩ | ⟨hall,_⟩
   ·have b1 := hI.base 1 _ rfl
    have b3 := hI.base 3 _ rfl
    have b6 := hI.base 6 _ rfl
    have b10 := hI.base 10 _ rfl
    have m1 := go_mem hI hlt (e := n + 1) (by omega) (by omega) (sgE1 F1)
    have m2 := go_mem hI hlt (e := n + 2) (by omega) (by omega) (sgE1 F1)
    have m5 := go_mem hI hlt (e := n + 5) (by omega) (by omega) (sgE1 F1)
    have m6 := go_mem hI hlt (e := n + 6) (by omega) (by omega) (sgE1 F1)
    have m0 := go_mem hI hlt (e := n) (by omega) (by omega) (sgE1 F1)
    have hgot := fun t j v h h2 => hI.got t j v h h2
    have hcase : i0 = 0 ∨ i0 = 1 ∨ i0 = 2 ∨ i0 = 3 ∨ i0 = 4 ∨ i0 = 5 ∨ i0 = 6 ∨ i0 = 7 ∨ i0 = 8 ∨ i0 = 9 ∨ i0 = 10 ∨ i0 = 11 ∨ i0 = 12 ∨ i0 = 13 := by simp at hi9; omega
    rcases hcase with rfl | rfl | rfl | rfl | rfl | rfl | rfl | rfl | rfl | rfl | rfl | rfl | rfl | rfl
    ·skip
     have F9 := And.intro b3 m1
     refine cfOpN rfl fun K9 hk9 => ?_;refine sh1 F9 ?_;refine hk9 _ ?_
     exact ⟨hc.cons hr,.inl ⟨by rw [cons_cC (by decide)]; exact h13,x,hI.put (i := 0) (t := 41) rfl rfl rfl (by decide) (fun h => by cases h)⟩⟩
    ·skip
     have hw := rdyN_wait hr rfl
     have g1 := hgot 41 0 _ rfl (hw 0 rfl)
     have F9 := And.intro g1 m1
     refine cfOpN rfl fun K9 hk9 => ?_;refine sh1 F9 ?_;refine sd ?_;refine hk9 _ ?_
     exact ⟨hc.cons hr,.inl ⟨by rw [cons_cC (by decide)]; exact h13,x,hI.put (i := 1) (t := 42) rfl rfl rfl (by decide) (fun h => by cases h)⟩⟩
    ·skip
     have F9 := b1
     refine cfOpN rfl fun K9 hk9 => ?_;refine sh1 F9 ?_;refine hk9 _ ?_
     exact ⟨hc.cons hr,.inl ⟨by rw [cons_cC (by decide)]; exact h13,x,hI.put (i := 2) (t := 43) rfl rfl rfl (by decide) (fun h => by cases h)⟩⟩
    ·skip
     have hw := rdyN_wait hr rfl
     have g1 := hgot 43 2 _ rfl (hw 2 rfl)
     have F9 := And.intro g1 q1
     refine cfOpN rfl fun K9 hk9 => ?_;refine sh1 F9 ?_;refine hk9 _ ?_
     exact ⟨hc.cons hr,.inl ⟨by rw [cons_cC (by decide)]; exact h13,x,hI.put (i := 3) (t := 44) rfl rfl rfl (by decide) (fun h => by cases h)⟩⟩
    ·skip
     have F9 := And.intro b3 m1
     refine cfOpN rfl fun K9 hk9 => ?_;refine sh1 F9 ?_;refine hk9 _ ?_
     exact ⟨hc.cons hr,.inl ⟨by rw [cons_cC (by decide)]; exact h13,x,hI.put (i := 4) (t := 45) rfl rfl rfl (by decide) (fun h => by cases h)⟩⟩
    ·skip
     have hw := rdyN_wait hr rfl
     have g1 := hgot 45 4 _ rfl (hw 4 rfl)
     have F9 := And.intro g1 m1
     refine cfOpN rfl fun K9 hk9 => ?_;refine sh1 F9 ?_;refine sd ?_;refine hk9 _ ?_
     exact ⟨hc.cons hr,.inl ⟨by rw [cons_cC (by decide)]; exact h13,x,hI.put (i := 5) (t := 46) rfl rfl rfl (by decide) (fun h => by cases h)⟩⟩
    ·skip
     have F9 := b1
     refine cfOpN rfl fun K9 hk9 => ?_;refine sh1 F9 ?_;refine hk9 _ ?_
     exact ⟨hc.cons hr,.inl ⟨by rw [cons_cC (by decide)]; exact h13,x,hI.put (i := 6) (t := 47) rfl rfl rfl (by decide) (fun h => by cases h)⟩⟩
    ·skip
     have hw := rdyN_wait hr rfl
     have g1 := hgot 47 6 _ rfl (hw 6 rfl)
     have F9 := And.intro g1 q1
     refine cfOpN rfl fun K9 hk9 => ?_;refine sh1 F9 ?_;refine hk9 _ ?_
     exact ⟨hc.cons hr,.inl ⟨by rw [cons_cC (by decide)]; exact h13,x,hI.put (i := 7) (t := 48) rfl rfl rfl (by decide) (fun h => by cases h)⟩⟩
    ·skip
     have hw := rdyN_wait hr rfl
     have g1 := hgot 46 5 _ rfl (hw 5 rfl)
     have g2 := hgot 48 7 _ rfl (hw 7 rfl)
     have F9 := And.intro g1 (And.intro g2 (And.intro m6 (And.intro q4 (And.intro hml hm0))))
     refine cfOpN rfl fun K9 hk9 => ?_;refine sh1 F9 ?_;refine sd ?_;refine hk9 _ ?_
     exact ⟨hc.cons hr,.inl ⟨by rw [cons_cC (by decide)]; exact h13,x,hI.put (i := 8) (t := 49) rfl rfl rfl (by decide) (fun h => by cases h)⟩⟩
    ·skip
     have hw := rdyN_wait hr rfl
     have g1 := hgot 49 8 _ rfl (hw 8 rfl)
     have F9 := And.intro g1 (And.intro m6 hy)
     refine cfOpN rfl fun K9 hk9 => ?_;refine sh1 F9 ?_;refine sd ?_;refine hk9 _ ?_
     exact ⟨hc.cons hr,.inl ⟨by rw [cons_cC (by decide)]; exact h13,x,hI.put (i := 9) (t := 50) rfl rfl rfl (by decide) (fun h => by cases h)⟩⟩
    ·skip
     have F9 := And.intro b10 m5
     refine cfOpN rfl fun K9 hk9 => ?_;refine sh1 F9 ?_;refine sd ?_;refine hk9 _ ?_
     exact ⟨hc.cons hr,.inl ⟨by rw [cons_cC (by decide)]; exact h13,x,hI.put (i := 10) (t := 51) rfl rfl rfl (by decide) (fun h => by cases h)⟩⟩
    ·have hw := rdyN_wait hr rfl
     have g1 := hgot 50 9 _ rfl (hw 9 rfl)
     have g2 := hgot 51 10 _ rfl (hw 10 rfl)
     obtain ⟨T9,O9,n9⟩ := S
     obtain ⟨e1,e2⟩ := hI.pre hnr
     dsimp only at e1 e2
     subst e1 e2
     dsimp only at g1 g2
     refine cfOpN rfl fun K9 hk9 => ?_;refine Or.inr (evCallO_mk (k3 R2 _ _ hoX) (by simp only [St.opdL,St.opd,g1,g2,St.res,Option.map_some,Option.bind_some]) fun J9 r9 O9 n9 hP9 => ?_)
     obtain ⟨x9,q1,rfl,q2,q3⟩ := hP9
     refine hk9 _ ?_
     exact ⟨hc.cons hr,.inl ⟨by rw [cons_cC (by decide)]; exact h13,x9,hI.call2 (t := 52) hnr rfl rfl rfl rfl (GoP.of q1 q2 q3 hlt (by omega))⟩⟩
    ·skip
     have hw := rdyN_wait hr rfl
     have g1 := hgot 42 1 _ rfl (hw 1 rfl)
     have g2 := hgot 44 3 _ rfl (hw 3 rfl)
     have F9 := And.intro g1 (And.intro g2 (And.intro m6 (And.intro q4 (And.intro hml hm0))))
     refine cfOpN rfl fun K9 hk9 => ?_;refine sh1 F9 ?_;refine sd ?_;refine hk9 _ ?_
     exact ⟨hc.cons hr,.inl ⟨by rw [cons_cC (by decide)]; exact h13,x,hI.put (i := 12) (t := 53) rfl rfl rfl (by decide) (fun _ => hw 11 rfl)⟩⟩
    ·have hw := rdyN_wait hr rfl
     have g1 := hgot 53 12 _ rfl (hw 12 rfl)
     have g2 := hgot 52 11 _ rfl (hw 11 rfl)
     obtain ⟨p1,p2,p3⟩ := hI.post (hw 11 rfl)
     have F9 := And.intro hK (And.intro g1 (And.intro g2 (And.intro m6 q5)))
     refine cfOpN rfl fun K9 hk9 => ?_;refine sh1 F9 ?_;refine sd ?_;refine hk9 _ ?_
     have hfar : ∀ e ∈ tIds W x,e < n ∨ n + 7 ≤ e := fun e he => by
      rcases p3.new e he with h | h
      ·exact .inl (hlt e h)
      ·exact .inr (by omega)
     have hle := p3.le
     refine ⟨hc.cons hr,.inr ⟨fun i hi => ?_,x,⟨b3,b6,?_,?_,?_,?_,p1,tOwn_to p2 (Nat.le_refl _) fun e he => ?_,⟨by show n ≤ S.n; omega,fun e he hx => ?_,fun e he => ?_⟩,hfar⟩⟩⟩
     ·by_cases h : i = 13
      ·subst h; exact cons_sC _ _
      ·rw [cons_cC h]
       have h12 := hw 12 rfl
       have : i = 12 ∨ i < 12 := by omega
       rcases this with rfl | h9
       ·exact h12
       ·have h10 : i = 0 ∨ i = 1 ∨ i = 2 ∨ i = 3 ∨ i = 4 ∨ i = 5 ∨ i = 6 ∨ i = 7 ∨ i = 8 ∨ i = 9 ∨ i = 10 ∨ i = 11 := by omega
        exact hc 12 _ h12 rfl i (by rcases h10 with rfl | rfl | rfl | rfl | rfl | rfl | rfl | rfl | rfl | rfl | rfl | rfl <;> rfl)
     ·simp only [getA,getA_delO]; repeat rw [if_neg (by omega)]
      exact m1
     ·simp only [getA,getA_delO]; repeat rw [if_neg (by omega)]
      exact m2
     ·simp only [getA,reduceIte]
     ·simp only [getA,getA_delO]; repeat rw [if_neg (by omega)]
      exact m0
     ·rcases hfar e he with h | h
      ·simp only [getA,getA_delO]; repeat rw [if_neg (by omega)]
      ·simp only [getA,getA_delO]; repeat rw [if_neg (by omega)]
     ·simp only [getA,getA_delO]; repeat rw [if_neg (by omega)]
      rw [p3.old e (by omega) hx,goOb_old he (hZ e he)]
     ·rcases p3.new e he with h | h
      ·exact .inl h
      ·exact .inr (by omega)
   ·rw [hall i0 (by simp at hi9; omega)] at hnr; cases hnr
  ·skip
   rintro done S ⟨hc,⟨h13,_⟩ | ⟨_,x,hF⟩⟩ hall
   ·rw [hall 13 (by decide)] at h13; cases h13
   ·refine ⟨some ([3,6],none),x,srtO S.O,S.n,?_,?_⟩
    ·show St.mk (keepT S.T [3,6]) _ _ = _
     simp only [St.keep,keepT,hF.p3,hF.p6]
    ·obtain ⟨a1,a2,a3,a4,a5,a6,a7,a8,a9,a10⟩ := hF
     have hs : ∀ e,getA (srtO S.O) e = getA S.O e := fun e => getA_srtO _ _
     refine ⟨?_,?_,(hs _).trans a3,(hs _).trans a4,(hs _).trans a5,(hs _).trans a6,a7,tOwn_to a8 (Nat.le_refl _) fun e he => hs e,⟨a9.le,fun e he hx => (hs e).trans (a9.old e he hx),a9.new⟩,a10⟩
     ·show getA (keepT S.T [3,6]) 3 = _
      simp only [keepT,a1,a2,getA,reduceIte]
     ·show getA (keepT S.T [3,6]) 6 = _
      simp only [keepT,a1,a2,getA,reduceIte,Nat.reduceEqDiff]
  rintro S1 ⟨x,O1,n1,rfl,a1,a2,a3,a4,a5,a6,a7,a8,a9,a10⟩
  dsimp only at a3 a4 a5 a6 a8 a9
  skip
  have F2 := And.intro F1 (And.intro @a3 (And.intro @a4 (And.intro @a5 @a6)))
  refine hn13 (some ([3,6],none)) _ ?_;refine eS fun K14 hn14 hr14 he14 => ?_;refine eO fun K15 hk15 => ?_;refine tC 1 F2 ?_;refine tZ F2 ?_;refine hk15 _ ?_;refine hn14 (some ([6],none)) _ ?_
  first | refine finO_ret (sgE1 F2) (sgE1 F2) (sgE1 F2) ?_ | refine finO_next (sgE1 F2) (sgE1 F2) (sgE1 F2) ?_
  try dsimp only
  refine ⟨setTask w R1 m x,fgt_set a7,?_,set_own ho hy (tOwn_to a8 (Nat.le_refl _) fun e he => ?_) ⟨a9.le,fun e he hx => ?_,a9.new⟩⟩
  ·show _ = Sh.agg (cWorld (setTask w R1 m x))
   rw [show (w.tasks.map eTask).set m (eTask x) = (w.tasks.set m x).map eTask by rw [List.map_set]]
   rfl
  ·rcases a10 e he with h | h
   ·simp only [getA,getA_delO]; repeat rw [if_neg (by omega)]
   ·simp only [getA,getA_delO]; repeat rw [if_neg (by omega)]
  ·simp only [getA,getA_delO]; repeat rw [if_neg (by omega)]
   exact a9.old e he hx
 ·obtain ⟨z1,z2⟩ := hz h0
  subst z1
  subst z2
  have d : (R3 != 0) = true := by simpa using h0
  have hZ : ∀ e,e < n → getA (goZ2 O n) e = getA O e := fun e he => by
   simp only [getA_delO]; repeat rw [if_neg (by omega)]
  have hoX : tOwn W y (goOb J (goZ2 O n) n w w.m zGot y) (n + 7) := tOwn_to hoy (by omega) fun e he => goOb_old (hlt e he) (hZ e (hlt e he))
  unfold sc_kgoO rv_kgoO
  have F1 := And.intro @hid (And.intro @q1 (And.intro @q3 (And.intro @hml (And.intro @hy (And.intro @hK @d)))))
  refine eS fun K1 hn1 hr1 he1 => ?_;refine eO fun K2 hk2 => ?_;refine tL F1 ?_;refine hk2 _ ?_;refine hn1 (some ([1,2,3,6],none)) _ ?_;refine eS fun K3 hn3 hr3 he3 => ?_;refine eO fun K4 hk4 => ?_;refine tC 2 F1 ?_;refine tC 2 F1 ?_;refine tC 1 F1 ?_;refine tC 1 F1 ?_;refine tS 1 F1 ?_;refine Or.inl (Or.inl ⟨_,k0,?_⟩);refine tC 5 F1 ?_;refine tL F1 ?_;refine hk4 _ ?_;refine hn3 (some ([1,2,3,6,7],none)) _ ?_;refine eS fun K5 hn5 hr5 he5 => ?_;refine eO fun K6 hk6 => ?_;refine tC 2 F1 ?_;refine tC 2 F1 ?_;refine tS 1 F1 ?_;refine tS 1 F1 ?_;refine Or.inl (Or.inl ⟨_,k1,?_⟩);refine tC 7 F1 ?_;refine tC 1 F1 ?_;refine tL F1 ?_;refine hk6 _ ?_;refine hn5 (some ([1,3,6,9,10,11],none)) _ ?_;refine eS fun K7 hn7 hr7 he7 => ?_;refine eS fun K8 hn8 hr8 he8 => ?_;refine eO fun K9 hk9 => ?_;refine tZ F1 ?_;refine hk9 _ ?_;refine hn8 (some ([1,3,6,9,10,33],none)) _ ?_;refine eCt ?_;refine eO fun K10 hk10 => ?_
  refine tZ F1 ?_;refine hk10 _ ?_;refine hn7 (some ([1,3,6,10],none)) _ ?_;refine eS fun K11 hn11 hr11 he11 => ?_;refine eO fun K12 hk12 => ?_;refine tC 2 F1 ?_;refine tS 1 F1 ?_;refine Or.inl (Or.inr (Or.inl ⟨_,_,_,k2 _,?_⟩));refine tZ F1 ?_;refine hk12 _ ?_;refine hn11 (some ([1,3,6,10],none)) _ ?_;refine eS fun K13 hn13 hr13 he13 => ?_;refine eCflP ([]) (fun done S => Closed goWt done ∧ ((done.contains 13 = false ∧ ∃ x,goI W w y w.m zGot J O n m (goOb J (goZ2 O n) n w w.m zGot y) done S x) ∨ ((∀ i,i < 14 → done.contains i = true) ∧ ∃ x,GoFin W w y w.m zGot J O n m S x))) (fun S => ∃ x O1 n1,S = ⟨[(3,.ptr (n + 1) 0 0),(6,.ptr (n + 2) 0 0)],O1,n1⟩ ∧ GoFin W w y w.m zGot J O n m S x) ?_ ?_ ?_ ?_
  ·skip
   refine ⟨closed_nil _,.inl ⟨rfl,y,RgC.init (fun t v h => ?_) ?_ ?_⟩⟩
   ·simp only [getA] at h
    simp only [St.casts,St.keep,keepT,getA,reduceIte,Nat.reduceEqDiff]
    repeat' split at h
    all_goals first | (rename_i e9; subst e9; exact h) | cases h
   ·rfl
   ·rfl
  ·skip
   intro done S i0 ⟨hc,hI⟩ hr
   have hi9 := rdyN_lt hr
   have hnr := rdyN_not hr
   rcases hI with ⟨h13,x,hI⟩ | ⟨hall,_⟩
   ·have b1 := hI.base 1 _ rfl
    have b3 := hI.base 3 _ rfl
    have b6 := hI.base 6 _ rfl
    have b10 := hI.base 10 _ rfl
    have m1 := go_mem hI hlt (e := n + 1) (by omega) (by omega) (sgE1 F1)
    have m2 := go_mem hI hlt (e := n + 2) (by omega) (by omega) (sgE1 F1)
    have m5 := go_mem hI hlt (e := n + 5) (by omega) (by omega) (sgE1 F1)
    have m6 := go_mem hI hlt (e := n + 6) (by omega) (by omega) (sgE1 F1)
    have m0 := go_mem hI hlt (e := n) (by omega) (by omega) (sgE1 F1)
    have hgot := fun t j v h h2 => hI.got t j v h h2
    have hcase : i0 = 0 ∨ i0 = 1 ∨ i0 = 2 ∨ i0 = 3 ∨ i0 = 4 ∨ i0 = 5 ∨ i0 = 6 ∨ i0 = 7 ∨ i0 = 8 ∨ i0 = 9 ∨ i0 = 10 ∨ i0 = 11 ∨ i0 = 12 ∨ i0 = 13 := by simp at hi9; omega
    rcases hcase with rfl | rfl | rfl | rfl | rfl | rfl | rfl | rfl | rfl | rfl | rfl | rfl | rfl | rfl
    ·skip
     have F9 := And.intro b3 m1
     refine cfOpN rfl fun K9 hk9 => ?_;refine sh1 F9 ?_;refine hk9 _ ?_
     exact ⟨hc.cons hr,.inl ⟨by rw [cons_cC (by decide)]; exact h13,x,hI.put (i := 0) (t := 41) rfl rfl rfl (by decide) (fun h => by cases h)⟩⟩
    ·skip
     have hw := rdyN_wait hr rfl
     have g1 := hgot 41 0 _ rfl (hw 0 rfl)
     have F9 := And.intro g1 m1
     refine cfOpN rfl fun K9 hk9 => ?_;refine sh1 F9 ?_;refine sd ?_;refine hk9 _ ?_
     exact ⟨hc.cons hr,.inl ⟨by rw [cons_cC (by decide)]; exact h13,x,hI.put (i := 1) (t := 42) rfl rfl rfl (by decide) (fun h => by cases h)⟩⟩
    ·skip
     have F9 := b1
     refine cfOpN rfl fun K9 hk9 => ?_;refine sh1 F9 ?_;refine hk9 _ ?_
     exact ⟨hc.cons hr,.inl ⟨by rw [cons_cC (by decide)]; exact h13,x,hI.put (i := 2) (t := 43) rfl rfl rfl (by decide) (fun h => by cases h)⟩⟩
    ·skip
     have hw := rdyN_wait hr rfl
     have g1 := hgot 43 2 _ rfl (hw 2 rfl)
     have F9 := And.intro g1 q1
     refine cfOpN rfl fun K9 hk9 => ?_;refine sh1 F9 ?_;refine hk9 _ ?_
     exact ⟨hc.cons hr,.inl ⟨by rw [cons_cC (by decide)]; exact h13,x,hI.put (i := 3) (t := 44) rfl rfl rfl (by decide) (fun h => by cases h)⟩⟩
    ·skip
     have F9 := And.intro b3 m1
     refine cfOpN rfl fun K9 hk9 => ?_;refine sh1 F9 ?_;refine hk9 _ ?_
     exact ⟨hc.cons hr,.inl ⟨by rw [cons_cC (by decide)]; exact h13,x,hI.put (i := 4) (t := 45) rfl rfl rfl (by decide) (fun h => by cases h)⟩⟩
    ·skip
     have hw := rdyN_wait hr rfl
     have g1 := hgot 45 4 _ rfl (hw 4 rfl)
     have F9 := And.intro g1 m1
     refine cfOpN rfl fun K9 hk9 => ?_;refine sh1 F9 ?_;refine sd ?_;refine hk9 _ ?_
     exact ⟨hc.cons hr,.inl ⟨by rw [cons_cC (by decide)]; exact h13,x,hI.put (i := 5) (t := 46) rfl rfl rfl (by decide) (fun h => by cases h)⟩⟩
    ·skip
     have F9 := b1
     refine cfOpN rfl fun K9 hk9 => ?_;refine sh1 F9 ?_;refine hk9 _ ?_
     exact ⟨hc.cons hr,.inl ⟨by rw [cons_cC (by decide)]; exact h13,x,hI.put (i := 6) (t := 47) rfl rfl rfl (by decide) (fun h => by cases h)⟩⟩
    ·skip
     have hw := rdyN_wait hr rfl
     have g1 := hgot 47 6 _ rfl (hw 6 rfl)
     have F9 := And.intro g1 q1
     refine cfOpN rfl fun K9 hk9 => ?_;refine sh1 F9 ?_;refine hk9 _ ?_
     exact ⟨hc.cons hr,.inl ⟨by rw [cons_cC (by decide)]; exact h13,x,hI.put (i := 7) (t := 48) rfl rfl rfl (by decide) (fun h => by cases h)⟩⟩
    ·skip
     have hw := rdyN_wait hr rfl
     have g1 := hgot 46 5 _ rfl (hw 5 rfl)
     have g2 := hgot 48 7 _ rfl (hw 7 rfl)
     have F9 := And.intro g1 (And.intro g2 (And.intro m6 (And.intro q4 (And.intro hml hm0))))
     refine cfOpN rfl fun K9 hk9 => ?_;refine sh1 F9 ?_;refine sd ?_;refine hk9 _ ?_
     exact ⟨hc.cons hr,.inl ⟨by rw [cons_cC (by decide)]; exact h13,x,hI.put (i := 8) (t := 49) rfl rfl rfl (by decide) (fun h => by cases h)⟩⟩
    ·skip
     have hw := rdyN_wait hr rfl
     have g1 := hgot 49 8 _ rfl (hw 8 rfl)
     have F9 := And.intro g1 (And.intro m6 hy)
     refine cfOpN rfl fun K9 hk9 => ?_;refine sh1 F9 ?_;refine sd ?_;refine hk9 _ ?_
     exact ⟨hc.cons hr,.inl ⟨by rw [cons_cC (by decide)]; exact h13,x,hI.put (i := 9) (t := 50) rfl rfl rfl (by decide) (fun h => by cases h)⟩⟩
    ·skip
     have F9 := And.intro b10 m5
     refine cfOpN rfl fun K9 hk9 => ?_;refine sh1 F9 ?_;refine sd ?_;refine hk9 _ ?_
     exact ⟨hc.cons hr,.inl ⟨by rw [cons_cC (by decide)]; exact h13,x,hI.put (i := 10) (t := 51) rfl rfl rfl (by decide) (fun h => by cases h)⟩⟩
    ·have hw := rdyN_wait hr rfl
     have g1 := hgot 50 9 _ rfl (hw 9 rfl)
     have g2 := hgot 51 10 _ rfl (hw 10 rfl)
     obtain ⟨T9,O9,n9⟩ := S
     obtain ⟨e1,e2⟩ := hI.pre hnr
     dsimp only at e1 e2
     subst e1 e2
     dsimp only at g1 g2
     refine cfOpN rfl fun K9 hk9 => ?_;refine Or.inr (evCallO_mk (k3 zGot _ _ hoX) (by simp only [St.opdL,St.opd,g1,g2,St.res,Option.map_some,Option.bind_some]) fun J9 r9 O9 n9 hP9 => ?_)
     obtain ⟨x9,q1,rfl,q2,q3⟩ := hP9
     refine hk9 _ ?_
     exact ⟨hc.cons hr,.inl ⟨by rw [cons_cC (by decide)]; exact h13,x9,hI.call2 (t := 52) hnr rfl rfl rfl rfl (GoP.of q1 q2 q3 hlt (by omega))⟩⟩
    ·skip
     have hw := rdyN_wait hr rfl
     have g1 := hgot 42 1 _ rfl (hw 1 rfl)
     have g2 := hgot 44 3 _ rfl (hw 3 rfl)
     have F9 := And.intro g1 (And.intro g2 (And.intro m6 (And.intro q4 (And.intro hml hm0))))
     refine cfOpN rfl fun K9 hk9 => ?_;refine sh1 F9 ?_;refine sd ?_;refine hk9 _ ?_
     exact ⟨hc.cons hr,.inl ⟨by rw [cons_cC (by decide)]; exact h13,x,hI.put (i := 12) (t := 53) rfl rfl rfl (by decide) (fun _ => hw 11 rfl)⟩⟩
    ·have hw := rdyN_wait hr rfl
     have g1 := hgot 53 12 _ rfl (hw 12 rfl)
     have g2 := hgot 52 11 _ rfl (hw 11 rfl)
     obtain ⟨p1,p2,p3⟩ := hI.post (hw 11 rfl)
     have F9 := And.intro hK (And.intro g1 (And.intro g2 (And.intro m6 q5)))
     refine cfOpN rfl fun K9 hk9 => ?_;refine sh1 F9 ?_;refine sd ?_;refine hk9 _ ?_
     have hfar : ∀ e ∈ tIds W x,e < n ∨ n + 7 ≤ e := fun e he => by
      rcases p3.new e he with h | h
      ·exact .inl (hlt e h)
      ·exact .inr (by omega)
     have hle := p3.le
     refine ⟨hc.cons hr,.inr ⟨fun i hi => ?_,x,⟨b3,b6,?_,?_,?_,?_,p1,tOwn_to p2 (Nat.le_refl _) fun e he => ?_,⟨by show n ≤ S.n; omega,fun e he hx => ?_,fun e he => ?_⟩,hfar⟩⟩⟩
     ·by_cases h : i = 13
      ·subst h; exact cons_sC _ _
      ·rw [cons_cC h]
       have h12 := hw 12 rfl
       have : i = 12 ∨ i < 12 := by omega
       rcases this with rfl | h9
       ·exact h12
       ·have h10 : i = 0 ∨ i = 1 ∨ i = 2 ∨ i = 3 ∨ i = 4 ∨ i = 5 ∨ i = 6 ∨ i = 7 ∨ i = 8 ∨ i = 9 ∨ i = 10 ∨ i = 11 := by omega
        exact hc 12 _ h12 rfl i (by rcases h10 with rfl | rfl | rfl | rfl | rfl | rfl | rfl | rfl | rfl | rfl | rfl | rfl <;> rfl)
     ·simp only [getA,getA_delO]; repeat rw [if_neg (by omega)]
      exact m1
     ·simp only [getA,getA_delO]; repeat rw [if_neg (by omega)]
      exact m2
     ·simp only [getA,reduceIte]
     ·simp only [getA,getA_delO]; repeat rw [if_neg (by omega)]
      exact m0
     ·rcases hfar e he with h | h
      ·simp only [getA,getA_delO]; repeat rw [if_neg (by omega)]
      ·simp only [getA,getA_delO]; repeat rw [if_neg (by omega)]
     ·simp only [getA,getA_delO]; repeat rw [if_neg (by omega)]
      rw [p3.old e (by omega) hx,goOb_old he (hZ e he)]
     ·rcases p3.new e he with h | h
      ·exact .inl h
      ·exact .inr (by omega)
   ·rw [hall i0 (by simp at hi9; omega)] at hnr; cases hnr
  ·skip
   rintro done S ⟨hc,⟨h13,_⟩ | ⟨_,x,hF⟩⟩ hall
   ·rw [hall 13 (by decide)] at h13; cases h13
   ·refine ⟨some ([3,6],none),x,srtO S.O,S.n,?_,?_⟩
    ·show St.mk (keepT S.T [3,6]) _ _ = _
     simp only [St.keep,keepT,hF.p3,hF.p6]
    ·obtain ⟨a1,a2,a3,a4,a5,a6,a7,a8,a9,a10⟩ := hF
     have hs : ∀ e,getA (srtO S.O) e = getA S.O e := fun e => getA_srtO _ _
     refine ⟨?_,?_,(hs _).trans a3,(hs _).trans a4,(hs _).trans a5,(hs _).trans a6,a7,tOwn_to a8 (Nat.le_refl _) fun e he => hs e,⟨a9.le,fun e he hx => (hs e).trans (a9.old e he hx),a9.new⟩,a10⟩
     ·show getA (keepT S.T [3,6]) 3 = _
      simp only [keepT,a1,a2,getA,reduceIte]
     ·show getA (keepT S.T [3,6]) 6 = _
      simp only [keepT,a1,a2,getA,reduceIte,Nat.reduceEqDiff]
  rintro S1 ⟨x,O1,n1,rfl,a1,a2,a3,a4,a5,a6,a7,a8,a9,a10⟩
  dsimp only at a3 a4 a5 a6 a8 a9
  skip
  have F2 := And.intro F1 (And.intro @a3 (And.intro @a4 (And.intro @a5 @a6)))
  refine hn13 (some ([3,6],none)) _ ?_;refine eS fun K14 hn14 hr14 he14 => ?_;refine eO fun K15 hk15 => ?_;refine tC 1 F2 ?_;refine tZ F2 ?_;refine hk15 _ ?_;refine hn14 (some ([6],none)) _ ?_
  first | refine finO_ret (sgE1 F2) (sgE1 F2) (sgE1 F2) ?_ | refine finO_next (sgE1 F2) (sgE1 F2) (sgE1 F2) ?_
  try dsimp only
  refine ⟨setTask w w.m m x,fgt_set a7,?_,set_own ho hy (tOwn_to a8 (Nat.le_refl _) fun e he => ?_) ⟨a9.le,fun e he hx => ?_,a9.new⟩⟩
  ·show _ = Sh.agg (cWorld (setTask w w.m m x))
   rw [show (w.tasks.map eTask).set m (eTask x) = (w.tasks.set m x).map eTask by rw [List.map_set]]
   rfl
  ·rcases a10 e he with h | h
   ·simp only [getA,getA_delO]; repeat rw [if_neg (by omega)]
   ·simp only [getA,getA_delO]; repeat rw [if_neg (by omega)]
  ·simp only [getA,getA_delO]; repeat rw [if_neg (by omega)]
   exact a9.old e he hx
end
end Go.Proofs.YtkmbcjnaaokilaaGreatDoor
