/-
  Looks, swaps and releases see the newest words: what a step of a world does to them.
-/
import Derived.Test.YtkmbcjnaaokilaaGreatDoorMK11
namespace Go.Proofs.YtkmbcjnaaokilaaGreatDoor
set_option linter.unusedSimpArgs false
set_option linter.unusedVariables false
open Go.RowKit Go.Maps
theorem do_check_ok {M : MachM} {t : Int} {a : ActM} (ht : ThrB M.mem t) (h1 : 0 ≤ a.op ∧ a.op ≤ 8) (hp : a.op ≠ 0 → a.op ≠ 8 → PlcB M.mem a.place) : checkM M t a = 0 := by
 unfold checkM
 obtain ⟨t1,t2⟩ := ht
 rw [if_neg (by omega),if_neg (by omega),if_neg]
 rintro ⟨h2,h3,h4⟩
 obtain ⟨p1,p2⟩ := hp h2 h3
 omega
noncomputable abbrev Wd (M : MachM) (p : Int) : WordV := lastWM M.mem p
def scGot (f : Int → WordV) (a : ActM) : GotV := if a.op = 5 then ⟨f a.place,true⟩ else if a.op = 6 then ⟨f a.place,weq (f a.place) a.old⟩ else ⟨zWord,true⟩
def scHits (f : Int → WordV) (a : ActM) : Bool := a.op == 4 || (a.op == 6 && weq (f a.place) a.old)
def scSet (f : Int → WordV) (a : ActM) (p : Int) : WordV := if p = a.place ∧ scHits f a = true then a.new else f p
structure ScAct (M : MachM) (a : ActM) : Prop where
 op : a.op = 4 ∨ a.op = 5 ∨ a.op = 6
 place : PlcB M.mem a.place
theorem sc_last_adds {M : MemM} {a : Int} (ha : PlcB M a) (t : Int) (w : WordV) (b : Bool) (p : Int) : lastWM (addsM M t a w b) p = if p = a then w else lastWM M p := by
 unfold lastWM
 rw [hist_adds ha]
 split
 ·rw [last_app]
 ·rfl
theorem do_sc {M : MachM} {n : Nat} (hM : MachOk M n) {t : Int} (ht : ThrB M.mem t) {a : ActM} (ha : ScAct M a) (c : Int) :
  (doM M t a c).2 = (scGot (Wd M) a,0) ∧ ∀ p,Wd (doM M t a c).1 p = scSet (Wd M) a p := by
 obtain ⟨op,pl,o,w⟩ := a
 obtain ⟨hop,hp⟩ := ha
 simp only at hop hp
 have hc : checkM M t ⟨op,pl,o,w⟩ = 0 := do_check_ok ht (by simp only; omega) fun _ _ => hp
 unfold doM
 rw [if_pos hc]
 rcases hop with rfl | rfl | rfl
 ·refine ⟨rfl,fun p => ?_⟩
  have e : (mstoreM M.mem t pl w true).1 = addsM M.mem t pl w true := by unfold mstoreM; rw [if_pos (wrong_zero.2 ⟨ht,hp⟩)]
  show lastWM (mstoreM M.mem t pl w true).1 p = _
  rw [e,sc_last_adds hp]
  unfold scSet scHits
  by_cases h : p = pl
  ·rw [if_pos h,if_pos ⟨h,rfl⟩]
  ·rw [if_neg h,if_neg (fun h' => h h'.1)]
 ·refine ⟨?_,fun p => ?_⟩
  ·show ((⟨(look1M M.mem t pl).2.1,true⟩,0) : GotV × Int) = _
   rw [look_word ht hp]; rfl
  ·show lastWM (look1M M.mem t pl).1 p = _
   rw [lastW_look]
   unfold scSet scHits
   rw [if_neg (by simp)]
 ·have e0 : (actM M t ⟨6,pl,o,w⟩ c) = writeM M t ⟨6,pl,o,w⟩ := rfl
  rw [e0]
  have e1 : writeM M t ⟨6,pl,o,w⟩ = (if (mswapM M.mem t pl o w).2.2.1 = true then { M with mem := (mswapM M.mem t pl o w).1,lines := storeM M.lines pl w } else { M with mem := (mswapM M.mem t pl o w).1 },⟨(mswapM M.mem t pl o w).2.1,(mswapM M.mem t pl o w).2.2.1⟩) := by
   unfold writeM; rw [if_pos rfl]
  rw [e1]
  have hg : scGot (Wd M) ⟨6,pl,o,w⟩ = ⟨lastWM M.mem pl,weq (lastWM M.mem pl) o⟩ := rfl
  rw [hg]
  by_cases h : weq (lastWM M.mem pl) o = true
  ·obtain ⟨s1,_,_⟩ := swap_yes hM.mem hM.into ht hp h (w := w)
   rw [s1,h]
   refine ⟨rfl,fun p => ?_⟩
   rw [if_pos rfl]
   show lastWM (mswapM M.mem t pl o w).1 p = _
   have hs : (mswapM M.mem t pl o w).1 = addsM (look1M M.mem t pl).1 t pl w true := by
    unfold mswapM
    rw [if_pos ⟨wrong_zero.2 ⟨ht,hp⟩,by rw [look_word ht hp]; exact h⟩]
   rw [hs,sc_last_adds (plc_look.2 hp),lastW_look]
   unfold scSet scHits
   by_cases h2 : p = pl
   ·rw [if_pos h2,if_pos ⟨h2,by simp only [beq_self_eq_true,Bool.true_and]; rw [show Wd M pl = lastWM M.mem pl from rfl,h]; rfl⟩]
   ·rw [if_neg h2,if_neg (fun h' => h2 h'.1)]
  ·have s := swap_no ht hp h (w := w)
   have h' : weq (lastWM M.mem pl) o = false := by simpa using h
   rw [s,h']
   refine ⟨rfl,fun p => ?_⟩
   rw [if_neg (by simp)]
   show lastWM (look1M M.mem t pl).1 p = _
   rw [lastW_look]
   unfold scSet scHits
   rw [if_neg]
   rintro ⟨_,h2⟩
   simp only [beq_self_eq_true,Bool.true_and,show Wd M pl = lastWM M.mem pl from rfl,h'] at h2
   exact absurd h2 (by decide)
structure ScW {C : Coder} (w : WorldM C) (n : Nat) : Prop where
 ok : WorldOk w n
 awake : 0 < w.m.mem.views.length
 acts : ∀ y ∈ w.tasks,y.live = true → ScAct w.m y.act
theorem thr_of {C : Coder} {w : WorldM C} {n : Nat} (h : WorldOk w n) {m : Nat} (hm : m < w.tasks.length) : ThrB w.m.mem ((m : Int) + 1) := by
 have := h.few
 exact ⟨by omega,by omega⟩
theorem sc_step {C : Coder} {w : WorldM C} {n : Nat} (h : ScW w n) (p : PickV) (hp : p.kind ≠ 2) :
  (stepM w p = (w,false) ∧ (p.kind = 0 → takesM w p.thread = false)) ∨
  (∃ (m : Nat) (y : TaskM C),p.kind = 0 ∧ p.thread = (m : Int) + 1 ∧ w.tasks[m]? = some y ∧ y.live = true ∧ stoppedM w m = false ∧ (stepM w p).2 = true ∧
   (stepM w p).1.tasks = w.tasks.set m (giveM y (scGot (Wd w.m) y.act)) ∧ (stepM w p).1.stopped = w.stopped ∧ (∀ q,Wd (stepM w p).1.m q = scSet (Wd w.m) y.act q)) ∨
  (∃ (m : Nat) (y : TaskM C),p.kind = 1 ∧ p.thread = (m : Int) + 1 ∧ w.tasks[m]? = some y ∧ y.live = true ∧ stoppedM w m = false ∧ stepM w p = (haltM w p.thread,true)) := by
 have hd : deadM w = false := by unfold deadM; rw [decide_eq_false_iff_not]; have := h.awake; omega
 unfold stepM
 rw [if_neg (by rw [hd]; simp),if_neg hp]
 cases ht : takesM w p.thread
 ·exact .inl ⟨by rw [if_pos rfl],fun _ => rfl⟩
 ·rw [if_neg (by simp)]
  obtain ⟨m,y,e,hy,hl,hs⟩ := takes_spec ht
  by_cases h0 : p.kind = 0
  ·rw [if_pos h0]
   refine .inr (.inl ⟨m,y,h0,e,hy,hl,hs,rfl,?_⟩)
   have hm := (List.getElem?_eq_some_iff.1 hy).1
   have hsc := do_sc h.ok.mach (thr_of h.ok hm) (h.acts y (List.mem_of_getElem? hy) hl) p.choice
   have eg : goM w p.thread p.choice = setTask w (doM w.m ((m : Int) + 1) y.act p.choice).1 m (giveM y (doM w.m ((m : Int) + 1) y.act p.choice).2.1) := by
    unfold goM
    rw [e,show ((m : Int) + 1 - 1).toNat = m by omega,hy]
   rw [eg]
   refine ⟨?_,rfl,fun q => ?_⟩
   ·show w.tasks.set m (giveM y (doM w.m ((m : Int) + 1) y.act p.choice).2.1) = _
    rw [hsc.1]
   ·exact hsc.2 q
  ·rw [if_neg h0]
   by_cases h1 : p.kind = 1
   ·rw [if_pos h1]
    exact .inr (.inr ⟨m,y,h1,e,hy,hl,hs,rfl⟩)
   ·rw [if_neg h1]
    exact .inl ⟨rfl,fun h => absurd h h0⟩
theorem sc_size {C : Coder} {w : WorldM C} {n : Nat} (h : WorldOk w n) (p : PickV) (hp : p.kind ≠ 2) : (stepM w p).1.m.mem.views.length = w.m.mem.views.length ∧ (stepM w p).1.m.mem.places.length = w.m.mem.places.length ∧ (stepM w p).1.tasks.length = w.tasks.length := by
 unfold stepM
 split
 ·exact ⟨rfl,rfl,rfl⟩
 ·try rw [if_neg hp]
  split
  ·exact ⟨rfl,rfl,rfl⟩
  ·split
   ·unfold goM
    split
    ·rename_i y _
     have := size_do h.mach p.thread y.act p.choice
     exact ⟨this.1,this.2,by simp [setTask]⟩
    ·exact ⟨rfl,rfl,rfl⟩
   ·split
    ·exact ⟨rfl,rfl,rfl⟩
    ·exact ⟨rfl,rfl,rfl⟩
theorem wd_new {k : Int} {ws : List WordV} (h : (mnewM k ws).2 = 0) {p : Nat} {w : WordV} (hp : ws[p]? = some w) : Wd (cnewM k ws).1 p = w := by
 obtain ⟨_,_,_,_,e⟩ := mnew_ok h
 have e2 : (cnewM k ws).1.mem = ⟨ws.map newP,List.replicate k.toNat fun _ => none⟩ := by unfold cnewM; rw [if_pos h]; exact e
 have hi := (List.getElem?_eq_some_iff.1 hp)
 obtain ⟨h1,h2⟩ := hi
 unfold Wd
 rw [e2]
 unfold lastWM histM
 simp [h1,newP,lastM,atM,h2]
theorem cnew_sizes {k : Int} {ws : List WordV} (h : (mnewM k ws).2 = 0) : (cnewM k ws).1.mem.views.length = k.toNat ∧ (cnewM k ws).1.mem.places.length = ws.length ∧ (cnewM k ws).2 = 0 := by
 obtain ⟨_,_,_,_,e⟩ := mnew_ok h
 have e2 : (cnewM k ws).1.mem = ⟨ws.map newP,List.replicate k.toNat fun _ => none⟩ := by unfold cnewM; rw [if_pos h]; exact e
 rw [e2]
 exact ⟨by simp,by simp,by unfold cnewM; rw [if_pos h]⟩
theorem goes_done {C : Coder} {w : WorldM C} {t : Int} {m : Nat} (ht : t - 1 = m) (h : liveAt w m = false) (k : Nat) : goesM w t k = w := by
 refine goes_stuck ?_ k
 unfold stepM
 split
 ·rfl
 ·rw [if_neg (by simp),if_pos (show takesM w t = false by unfold takesM; rw [ht,Int.toNat_natCast,h,Bool.and_false,Bool.and_false])]
def sel (q : PickV → Bool) (l : List PickV) : List PickV := l.filter q
end Go.Proofs.YtkmbcjnaaokilaaGreatDoor
