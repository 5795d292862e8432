/-
  Looks, swaps and releases see the newest words: what a step of a world does to them.
-/
import Derived.Test.YtkmbcjnaaokilaaGreatDoorMK17
import Derived.Test.YtkmbcjnaaokilaaGreatDoorK12j
namespace Go.Proofs.YtkmbcjnaaokilaaGreatDoor
set_option linter.unusedSimpArgs false
set_option linter.unusedVariables false
open Go.RowKit Go.Maps
theorem adw {M : e3} {t : Int} {a : dJ} (aL : hA M.mem t) (af : 0 ≤ a.op ∧ a.op ≤ 8) (hp : a.op ≠ 0 → a.op ≠ 8 → fC M.mem a.place) : qW M t a = 0 := by
 unfold qW
 obtain ⟨t1,t2⟩ := aL
 rw [if_neg (by omega),if_neg (by omega),if_neg]
 rintro ⟨aj,av,aY⟩
 obtain ⟨eR,fi⟩ := hp aj av
 omega
noncomputable abbrev dx (M : e3) (p : Int) : bm := jd M.mem p
def cY (f : Int → bm) (a : dJ) : ei := if a.op = 5 then ⟨f a.place,true⟩ else if a.op = 6 then ⟨f a.place,nH (f a.place) a.old⟩ else ⟨gE,true⟩
def vU (f : Int → bm) (a : dJ) : Bool := a.op == 4 || (a.op == 6 && nH (f a.place) a.old)
def iT (f : Int → bm) (a : dJ) (p : Int) : bm := if p = a.place ∧ vU f a = true then a.new else f p
structure IY (M : e3) (a : dJ) : Prop where
 op : a.op = 4 ∨ a.op = 5 ∨ a.op = 6
 place : fC M.mem a.place
theorem WE {M : c8} {a : Int} (a5 : fC M a) (t : Int) (w : bm) (b : Bool) (p : Int) : jd (kr M t a w b) p = if p = a then w else jd M p := by
 unfold jd
 rw [CI a5]
 split
 ·rw [aie]
 ·rfl
theorem adx {M : e3} {n : Nat} (bA : nK M n) {t : Int} (aL : hA M.mem t) {a : dJ} (a5 : IY M a) (c : Int) :
  (kQ M t a c).2 = (cY (dx M) a,0) ∧ ∀ p,dx (kQ M t a c).1 p = iT (dx M) a p := by
 obtain ⟨op,pl,o,w⟩ := a
 obtain ⟨ki,hp⟩ := a5
 simp only at ki hp
 have aB : qW M t ⟨op,pl,o,w⟩ = 0 := adw aL (by simp only; omega) fun _ _ => hp
 unfold kQ
 rw [if_pos aB]
 rcases ki with rfl | rfl | rfl
 ·refine ⟨rfl,fun p => ?_⟩
  have e : (oB M.mem t pl w true).1 = kr M.mem t pl w true := by unfold oB; rw [if_pos (qF.2 ⟨aL,hp⟩)]
  show jd (oB M.mem t pl w true).1 p = _
  rw [e,WE hp]
  unfold iT vU
  by_cases h : p = pl
  ·rw [if_pos h,if_pos ⟨h,rfl⟩]
  ·rw [if_neg h,if_neg (fun e6 => h e6.1)]
 ·refine ⟨?_,fun p => ?_⟩
  ·show ((⟨(fh M.mem t pl).2.1,true⟩,0) : ei × Int) = _
   rw [G6 aL hp]; rfl
  ·show jd (fh M.mem t pl).1 p = _
   rw [Mc]
   unfold iT vU
   rw [if_neg (by simp)]
 ·have fD : (tI M t ⟨6,pl,o,w⟩ c) = tB M t ⟨6,pl,o,w⟩ := rfl
  rw [fD]
  have a1 : tB M t ⟨6,pl,o,w⟩ = (if (iD M.mem t pl o w).2.2.1 = true then { M with mem := (iD M.mem t pl o w).1,lines := sk M.lines pl w } else { M with mem := (iD M.mem t pl o w).1 },⟨(iD M.mem t pl o w).2.1,(iD M.mem t pl o w).2.2.1⟩) := by
   unfold tB; rw [if_pos rfl]
  rw [a1]
  have aJ : cY (dx M) ⟨6,pl,o,w⟩ = ⟨jd M.mem pl,nH (jd M.mem pl) o⟩ := rfl
  rw [aJ]
  by_cases h : nH (jd M.mem pl) o = true
  ·obtain ⟨s1,_,_⟩ := alG bA.mem bA.vG aL hp h (w := w)
   rw [s1,h]
   refine ⟨rfl,fun p => ?_⟩
   rw [if_pos rfl]
   show jd (iD M.mem t pl o w).1 p = _
   have ao : (iD M.mem t pl o w).1 = kr (fh M.mem t pl).1 t pl w true := by
    unfold iD
    rw [if_pos ⟨qF.2 ⟨aL,hp⟩,by rw [G6 aL hp]; exact h⟩]
   rw [ao,WE (M0.2 hp),Mc]
   unfold iT vU
   by_cases aj : p = pl
   ·rw [if_pos aj,if_pos ⟨aj,by simp only [beq_self_eq_true,Bool.true_and]; rw [show dx M pl = jd M.mem pl from rfl,h]; rfl⟩]
   ·rw [if_neg aj,if_neg (fun e6 => aj e6.1)]
  ·have s := alF aL hp h (w := w)
   have e6 : nH (jd M.mem pl) o = false := by simpa using h
   rw [s,e6]
   refine ⟨rfl,fun p => ?_⟩
   rw [if_neg (by simp)]
   show jd (fh M.mem t pl).1 p = _
   rw [Mc]
   unfold iT vU
   rw [if_neg]
   rintro ⟨_,aj⟩
   simp only [beq_self_eq_true,Bool.true_and,show dx M pl = jd M.mem pl from rfl,e6] at aj
   exact absurd aj (by decide)
structure IZ {C : ed} (w : cN C) (n : Nat) : Prop where
 ok : iW w n
 acT : 0 < w.m.mem.views.length
 I4 : ∀ y ∈ w.tasks,y.live = true → IY w.m y.act
theorem alQ {C : ed} {w : cN C} {n : Nat} (h : iW w n) {m : Nat} (hm : m < w.tasks.length) : hA w.m.mem ((m : Int) + 1) := by
 have := h.oT
 exact ⟨by omega,by omega⟩
theorem W2 {C : ed} {w : cN C} {n : Nat} (h : IZ w n) (p : lI) (hp : p.kind ≠ 2) :
  (eU w p = (w,false) ∧ (p.kind = 0 → k3 w p.jv = false)) ∨
  (∃ (m : Nat) (y : dt C),p.kind = 0 ∧ p.jv = (m : Int) + 1 ∧ w.tasks[m]? = some y ∧ y.live = true ∧ jt w m = false ∧ (eU w p).2 = true ∧
   (eU w p).1.tasks = w.tasks.set m (jl y (cY (dx w.m) y.act)) ∧ (eU w p).1.ib = w.ib ∧ (∀ q,dx (eU w p).1.m q = iT (dx w.m) y.act q)) ∨
  (∃ (m : Nat) (y : dt C),p.kind = 1 ∧ p.jv = (m : Int) + 1 ∧ w.tasks[m]? = some y ∧ y.live = true ∧ jt w m = false ∧ eU w p = (rZ w p.jv,true)) := by
 have a6 : tQ w = false := by unfold tQ; rw [decide_eq_false_iff_not]; have := h.acT; omega
 unfold eU
 rw [if_neg (by rw [a6]; simp),if_neg hp]
 cases aL : k3 w p.jv
 ·exact .inl ⟨by rw [if_pos rfl],fun _ => rfl⟩
 ·rw [if_neg (by simp)]
  obtain ⟨m,y,e,aV,aE,ao⟩ := OH aL
  by_cases ba : p.kind = 0
  ·rw [if_pos ba]
   refine .inr (.inl ⟨m,y,ba,e,aV,aE,ao,rfl,?_⟩)
   have hm := (List.getElem?_eq_some_iff.1 aV).1
   have GJ := adx h.ok.pU (alQ h.ok hm) (h.I4 y (List.mem_of_getElem? aV) aE) p.choice
   have FG : pF w p.jv p.choice = oH w (kQ w.m ((m : Int) + 1) y.act p.choice).1 m (jl y (kQ w.m ((m : Int) + 1) y.act p.choice).2.1) := by
    unfold pF
    rw [e,show ((m : Int) + 1 - 1).toNat = m by omega,aV]
   rw [FG]
   refine ⟨?_,rfl,fun q => ?_⟩
   ·show w.tasks.set m (jl y (kQ w.m ((m : Int) + 1) y.act p.choice).2.1) = _
    rw [GJ.1]
   ·exact GJ.2 q
  ·rw [if_neg ba]
   by_cases af : p.kind = 1
   ·rw [if_pos af]
    exact .inr (.inr ⟨m,y,af,e,aV,aE,ao,rfl⟩)
   ·rw [if_neg af]
    exact .inl ⟨rfl,fun h => absurd h ba⟩
theorem Oh {C : ed} {w : cN C} {n : Nat} (h : iW w n) (p : lI) (hp : p.kind ≠ 2) : (eU w p).1.m.mem.views.length = w.m.mem.views.length ∧ (eU w p).1.m.mem.places.length = w.m.mem.places.length ∧ (eU w p).1.tasks.length = w.tasks.length := by
 unfold eU
 split
 ·exact ⟨rfl,rfl,rfl⟩
 ·try rw [if_neg hp]
  split
  ·exact ⟨rfl,rfl,rfl⟩
  ·split
   ·unfold pF
    split
    ·rename_i y _
     have := Xc h.pU p.jv y.act p.choice
     exact ⟨this.1,this.2,by simp [oH]⟩
    ·exact ⟨rfl,rfl,rfl⟩
   ·split
    ·exact ⟨rfl,rfl,rfl⟩
    ·exact ⟨rfl,rfl,rfl⟩
theorem XM {k : Int} {ws : List bm} (h : (gI k ws).2 = 0) {p : Nat} {w : bm} (hp : ws[p]? = some w) : dx (ks k ws).1 p = w := by
 obtain ⟨_,_,_,_,e⟩ := DF h
 have a7 : (ks k ws).1.mem = ⟨ws.map th,List.replicate k.toNat fun _ => none⟩ := by unfold ks; rw [if_pos h]; exact e
 have aq := (List.getElem?_eq_some_iff.1 hp)
 obtain ⟨af,aj⟩ := aq
 unfold dx
 rw [a7]
 unfold jd dV
 simp [af,th,AG,lb,aj]
theorem BK {k : Int} {ws : List bm} (h : (gI k ws).2 = 0) : (ks k ws).1.mem.views.length = k.toNat ∧ (ks k ws).1.mem.places.length = ws.length ∧ (ks k ws).2 = 0 := by
 obtain ⟨_,_,_,_,e⟩ := DF h
 have a7 : (ks k ws).1.mem = ⟨ws.map th,List.replicate k.toNat fun _ => none⟩ := by unfold ks; rw [if_pos h]; exact e
 rw [a7]
 exact ⟨by simp,by simp,by unfold ks; rw [if_pos h]⟩
theorem Rj {C : ed} {w : cN C} {t : Int} {m : Nat} (aL : t - 1 = m) (h : je w m = false) (k : Nat) : e0 w t k = w := by
 refine F5 ?_ k
 unfold eU
 split
 ·rfl
 ·rw [if_neg (by simp),if_pos (show k3 w t = false by unfold k3; rw [aL,Int.toNat_natCast,h,Bool.and_false,Bool.and_false])]
theorem Rl {C : ed} {I : cN C → Prop} (t : Int) (h : ∀ w p,p.kind = 0 → I w → I (eU w p).1) : ∀ (k : Nat) {w : cN C},I w → I (e0 w t k)
 | 0,_,hw => hw
 | k + 1,w,hw => by
  unfold e0
  split
  ·exact Rl t h k (h w ⟨0,t,0⟩ rfl hw)
  ·exact hw
def W8 (q : lI → Bool) (l : List lI) : List lI := l.filter q
def lW : fa → b1
 | .dp s => s.l
 | .ev s => s.l
structure tC (l : b1) (a : dJ) : Prop where
 op : a.op = 5 ∨ a.op = 6
 pl : ∃ i : Nat,(i : Int) < l.blocks ∧ a.place = bw l i
theorem Xq {s : hl} (ao : p9 s) {p : Nat × Nat} (hp : p ∈ s.parts) : (p.1 : Int) < s.l.blocks := by have := ao.kl p hp; omega
theorem FY {v : Int} : ∀ {m a i : Nat},sO v a m = some i → a ≤ i ∧ i < a + m ∧ l7 v i = false ∧ ∀ j,a ≤ j → j < i → l7 v j = true
 | 0,a,i,h => by cases h
 | m + 1,a,i,h => by
  unfold sO at h
  split at h
  ·rename_i hu
   obtain ⟨af,aj,av,aY⟩ := FY h
   exact ⟨by omega,by omega,av,fun j r1 kA => (by
    by_cases e : j = a
    ·subst e; exact hu
    ·exact aY j (by omega) kA)⟩
  ·rename_i hu
   cases h
   exact ⟨Nat.le_refl _,by omega,by simpa using hu,fun j af aj => by omega⟩
theorem SZ {s : hl} (ao : p9 s) : pW (.dp (iv s).1) ∧ (iv s).1.l = s.l ∧ ((iv s).2.2 = false → tC s.l (iv s).2.1) ∧ ((iv s).2.2 = true → (iv s).1.fin = true) := by
 unfold iv
 split
 ·exact ⟨⟨⟨ao.lay,ao.g,ao.kl⟩,fun h => by cases h⟩,rfl,fun h => (by cases h),fun _ => rfl⟩
 ·rename_i p ps hp
  refine ⟨⟨⟨ao.lay,ao.g,ao.kl⟩,fun _ _ h => ?_⟩,rfl,fun _ => ⟨.inl rfl,p.1,Xq ao (by rw [hp]; exact List.mem_cons_self ..),rfl⟩,fun h => by cases h⟩
  simp only at h
  rw [hp] at h; cases h
theorem QX {s : hl} (ao : p9 s) (dj : s.parts ≠ []) (w : bm) : pW (.dp (g5 s w).1) ∧ (g5 s w).1.l = s.l ∧ ((g5 s w).2.2 = false → tC s.l (g5 s w).2.1) ∧ ((g5 s w).2.2 = true → (g5 s w).1.fin = true) := by
 unfold g5
 split
 ·rename_i h; exact absurd h dj
 ·rename_i p ps hp
  have aA := ao.kl p (by rw [hp]; exact List.mem_cons_self ..)
  split
  ·rename_i i aq
   obtain ⟨af,aj,_,_⟩ := FY aq
   refine ⟨⟨⟨ao.lay,ao.g,ao.kl⟩,fun _ _ h => ?_⟩,rfl,fun _ => ⟨.inr rfl,i,by omega,rfl⟩,fun h => by cases h⟩
   simp only at h
   rw [hp] at h; cases h
  ·exact SZ ⟨ao.lay,by show (2 : Nat) ≠ 1; decide,fun q aT => ao.kl q (by rw [hp]; exact List.mem_cons_of_mem _ aT)⟩
theorem QV {s : ko} (ao : qL s) (w : bm) : qL (ih s w).1 ∧ (ih s w).1.l = s.l ∧ ((ih s w).2.2 = false → tC s.l (ih s w).2.1) ∧ ((ih s w).2.2 = true → (ih s w).1.fin = true) := by
 unfold ih
 split
 ·exact ⟨⟨ao.lay,ao.uU⟩,rfl,fun _ => ⟨.inr rfl,s.block,ao.uU,rfl⟩,fun h => by cases h⟩
 ·exact ⟨⟨ao.lay,ao.uU⟩,rfl,fun h => (by cases h),fun _ => rfl⟩
theorem zd {s : fa} (ao : pW s) (g : ei) : pW (cU s g).1 ∧ lW (cU s g).1 = lW s ∧ ((cU s g).2.2 = false → tC (lW s) (cU s g).2.1) ∧ ((cU s g).2.2 = true → Ag (cU s g).1 = true) := by
 cases s with
 | dp s =>
  show pW (.dp (h6 s g).1) ∧ (h6 s g).1.l = s.l ∧ ((h6 s g).2.2 = false → tC s.l (h6 s g).2.1) ∧ ((h6 s g).2.2 = true → (h6 s g).1.fin = true)
  unfold h6
  split
  ·rename_i aZ
   exact ⟨ao,rfl,fun h => (by cases h),fun _ => aZ⟩
  ·rename_i aZ
   have aZ : s.fin = false := by simpa using aZ
   split
   ·exact SZ ao.1
   ·rename_i az
    exact QX ao.1 (ao.2 aZ (by omega)) _
   ·rename_i ba af
    split
    ·exact ⟨⟨⟨ao.1.lay,ao.1.g,ao.1.kl⟩,fun h => by cases h⟩,rfl,fun h => (by cases h),fun _ => rfl⟩
    ·exact QX ao.1 (ao.2 aZ (fun e => ba e)) _
 | ev s =>
  show qL (kY s g).1 ∧ (kY s g).1.l = s.l ∧ ((kY s g).2.2 = false → tC s.l (kY s g).2.1) ∧ ((kY s g).2.2 = true → (kY s g).1.fin = true)
  unfold kY
  split
  ·rename_i aZ
   exact ⟨ao,rfl,fun h => (by cases h),fun _ => aZ⟩
  ·split
   ·exact ⟨⟨ao.lay,ao.uU⟩,rfl,fun _ => ⟨.inl rfl,s.block,ao.uU,rfl⟩,fun h => by cases h⟩
   ·exact QV ao _
   ·split
    ·exact ⟨⟨ao.lay,ao.uU⟩,rfl,fun h => (by cases h),fun _ => rfl⟩
    ·exact QV ao _
abbrev mc : ed where
 ak := fa × fO
 enc p := jz p.1 p.2
 next p g := (((cU p.1 g).1,p.2),(cU p.1 g).2)
 jB _ p := pW p.1
 up h _ := h
 keeps g h := (zd h g).1
 shape p := ⟨_,_,rfl⟩
def ma : fO := ⟨0,0,0,.any⟩
def la : iz mc where
 ids p := [p.2.i,p.2.g]
 own p O n := kJ p.1 p.2 O n
 fY p := (p.1,ma)
 lt {s O n} h e he := by
  simp only [List.mem_cons,List.not_mem_nil,or_false] at he
  rcases he with rfl | rfl
  ·exact h.i
  ·exact h.g
 to h a9 dX := kJ.to h a9 (dX _ (by simp)) (dX _ (by simp))
 Kd {a b n} h aJ := by
  have : a.1 = b.1 := (Prod.mk.inj h).1
  show pW b.1
  rw [← this]; exact aJ
 o7 {a b} g h := by
  have : a.1 = b.1 := (Prod.mk.inj h).1
  show ((cU a.1 g).1,ma) = ((cU b.1 g).1,ma) ∧ (cU a.1 g).2 = (cU b.1 g).2
  rw [this]; exact ⟨rfl,rfl⟩
 step {n s} g aJ _ := by
  obtain ⟨s,L⟩ := s
  refine ⟨ON s,.agg (Jr s L.eG),?_⟩
  cases s with
  | dp s =>
   refine ⟨_,rfl,Tp,Qo,fun O n ax => (TN s aJ.1 aJ.2 g ax).mono ?_⟩
   rintro J r O' bO ⟨dw,af,aj,av,aY⟩
   refine ⟨((cU (.dp s) g).1,dw),rfl,af,aj,av.le,fun e he ar => av.old e he ?_,fun e he => ?_⟩
   ·intro h
    simp only [Option.map_some,Option.some.injEq] at h
    exact ar (by rw [← h]; simp)
   ·simp only [List.mem_cons,List.not_mem_nil,or_false] at he ⊢
    rcases aY with ⟨bS,bH⟩ | ⟨_,a0,bS,bH⟩
    ·rcases he with rfl | rfl
     ·exact .inr bS
     ·exact .inr bH
    ·cases a0
     rcases he with rfl | rfl
     ·exact .inl (.inl bS)
     ·exact .inl (.inr bH)
  | ev s =>
   refine ⟨_,rfl,To,Qn,fun O n ax => (TJ s aJ g ax).mono ?_⟩
   rintro J r O' bO ⟨dw,af,aj,av,aY⟩
   refine ⟨((cU (.ev s) g).1,dw),rfl,af,aj,av.le,fun e he ar => av.old e he ?_,fun e he => ?_⟩
   ·intro h
    simp only [Option.map_some,Option.some.injEq] at h
    exact ar (by rw [← h]; simp)
   ·simp only [List.mem_cons,List.not_mem_nil,or_false] at he ⊢
    rcases aY with ⟨bS,bH⟩ | ⟨_,a0,bS,bH⟩
    ·rcases he with rfl | rfl
     ·exact .inr bS
     ·exact .inr bH
    ·cases a0
     rcases he with rfl | rfl
     ·exact .inl (.inl bS)
     ·exact .inl (.inr bH)
def fk : fa → Int × Int × Bool
 | .dp s => if s.fin = true then (if s.err ≠ 0 then (0,s.err,true) else (s.block,0,true)) else (0,0,false)
 | .ev s => if s.fin = true then ((s.block : Int),s.err,true) else (0,0,false)
theorem ahJ : (Tryz.prog.info? 98).map (fun i => (i.zero,i.size,i.bytes)) = some (some (.agg #[.int .i64 0,.int .i64 0,.int .i64 0,.slice none 0 0,.int .i64 0,.int .i64 0,.bool false,.nilFunc]),8,80) := by kernel_rfl
abbrev aoJ : List aw := [aG 0,aG 0,aG 0,.au 2 0 [],aG 0,aG 0,eA false,.v .nilFunc]
theorem X1 (H : bl) : cl H eD (.agg aoJ) (.agg #[.int .i64 0,.int .i64 0,.int .i64 0,.slice none 0 0,.int .i64 0,.int .i64 0,.bool false,.nilFunc]) := by
 have := cl.agg (E := eD) (zR H eD [.int .i64,.int .i64,.int .i64,.au 2,.int .i64,.int .i64,.bool,.nilFunc]) (Bf _)
 simpa [ej.ia,ej.val] using this
theorem X2 (w : World) : (zeroValue 98).run Tryz.prog w = .ok (.agg #[.int .i64 0,.int .i64 0,.int .i64 0,.slice none 0 0,.int .i64 0,.int .i64 0,.bool false,.nilFunc]) w := by
 obtain ⟨i,aq,bR,_⟩ := info_parts ahJ
 exact zu aq bR w
theorem TG (s : fa) {L : fO} (hp : Plain L.eG) : cq 44 [jz s L] (.bY [aG (fk s).1,aG (fk s).2.1,eA (fk s).2.2]) := by
 refine df Tryz.func44 amv rfl ?_
 have fg := gX hp
 cases s with
 | dp s =>
  show bK _ _ [.ds 98 (.agg (qV s L.eG))] _
  cases aZ : s.fin
  ·rw [show fk (.dp s) = (0,0,false) by unfold fk; simp only [aZ]; rfl]
   unfold bK AZ AV;delta ab aQ aa ay a3
   have ad := And.intro @fg @aZ
   refine ae fun bD aK b9 ck => ai fun ca aH => ?_;refine al ad ?_;refine aH _ (aK (some ([0],none)) _ (ae fun cg aP bx b8 => ae fun ch bI dd dU => ai fun cM b0 => ?_));refine al ad ?_;refine b0 _ (bI (some ([7],none)) _ (cj fun cG bp lA c5 dn => ae fun cI cz ey fp => ai fun dB c7 => ?_));refine aM 1 ad ?_;refine Or.inl ⟨_,Al Tryz.underlying98 rfl,?_⟩;refine al ad ?_;refine c7 _ (cz (some ([7,9,10],none)) _ (bU (ae fun bz cR h1 gQ => ai fun eK cK => ?_)));refine aS ad ?_;refine cK _ (cR (some ([5],none)) _ (cj fun fM cr rl h0 g6 => ae fun ga ff rk kx => ai fun gK ew => ?_));refine ag 2 ad ?_;refine al ad ?_;refine ew _ (ff (some ([5,13],none)) _ (bU ?_))
   refine cr _ (bp _ (aP (some ([],none)) _ (ae fun hc fx r3 mq => ai fun jf eJ => ?_)));refine al ad ?_;refine eJ _ (fx (some ([2,3,4],none)) _ ?_)
   exact cQ ad
  ·by_cases he : s.err = 0
   ·have d : (s.err != 0) = false := by simpa using he
    rw [show fk (.dp s) = (s.block,0,true) by unfold fk; simp only [aZ,he]; rfl]
    unfold bK AZ AV;delta ab aQ aa ay a3
    have ad := And.intro @fg (And.intro @aZ @d)
    refine ae fun bD aK b9 ck => ai fun ca aH => ?_;refine al ad ?_;refine aH _ (aK (some ([0],none)) _ (ae fun cg aP bx b8 => ae fun ch bI dd dU => ai fun cM b0 => ?_));refine al ad ?_;refine b0 _ (bI (some ([7],none)) _ (cj fun cG bp lA c5 dn => ae fun cI cz ey fp => ai fun dB c7 => ?_));refine aM 1 ad ?_;refine Or.inl ⟨_,Al Tryz.underlying98 rfl,?_⟩;refine al ad ?_;refine c7 _ (cz (some ([7,9,10],none)) _ (bU (ae fun bz cR h1 gQ => ai fun eK cK => ?_)));refine aS ad ?_;refine cK _ (cR (some ([5],none)) _ (cj fun fM cr rl h0 g6 => ae fun ga ff rk kx => ai fun gK ew => ?_));refine ag 2 ad ?_;refine al ad ?_;refine ew _ (ff (some ([5,13],none)) _ (bs ?_))
    refine ae fun hc fx r3 mq => ai fun jf eJ => ?_;refine ag 2 ad ?_;refine ag 1 ad ?_;refine al ad ?_;refine eJ _ (fx (some ([5,17],none)) _ (bs (ae fun kp fF r4 tW => ai fun n3 eF => ?_)));refine ag 2 ad ?_;refine al ad ?_;refine eF _ (fF (some ([2,3,4],none)) _ (h0 _ (c5 _ (bx _ ?_))))
    exact cQ ad
   ·have d : (s.err != 0) = true := by simpa using he
    rw [show fk (.dp s) = (0,s.err,true) by unfold fk; simp only [aZ,if_true]; rw [if_pos he]]
    unfold bK AZ AV;delta ab aQ aa ay a3
    have ad := And.intro @fg (And.intro @aZ @d)
    refine ae fun bD aK b9 ck => ai fun ca aH => ?_;refine al ad ?_;refine aH _ (aK (some ([0],none)) _ (ae fun cg aP bx b8 => ae fun ch bI dd dU => ai fun cM b0 => ?_));refine al ad ?_;refine b0 _ (bI (some ([7],none)) _ (cj fun cG bp lA c5 dn => ae fun cI cz ey fp => ai fun dB c7 => ?_));refine aM 1 ad ?_;refine Or.inl ⟨_,Al Tryz.underlying98 rfl,?_⟩;refine al ad ?_;refine c7 _ (cz (some ([7,9,10],none)) _ (bU (ae fun bz cR h1 gQ => ai fun eK cK => ?_)));refine aS ad ?_;refine cK _ (cR (some ([5],none)) _ (cj fun fM cr rl h0 g6 => ae fun ga ff rk kx => ai fun gK ew => ?_));refine ag 2 ad ?_;refine al ad ?_;refine ew _ (ff (some ([5,13],none)) _ (bs ?_))
    refine ae fun hc fx r3 mq => ai fun jf eJ => ?_;refine ag 2 ad ?_;refine ag 1 ad ?_;refine al ad ?_;refine eJ _ (fx (some ([5,17],none)) _ (bU (ae fun kp fF r4 tW => ?_)));refine gh [] (n := 3) fun n3 eF => ?_;refine gY ?_;refine cF 2 ad ?_;refine lh ad ?_;refine eF _ ?_;refine gZ ?_;refine al ad ?_;refine fF (some ([2,3,4],none)) _ (h0 _ (c5 _ (bx _ ?_)))
    exact cQ ad
 | ev s =>
  show bK _ _ [.ds 104 (.agg (rN s L.eG))] _
  cases aZ : s.fin
  ·rw [show fk (.ev s) = (0,0,false) by unfold fk; simp only [aZ]; rfl]
   unfold bK AZ AV;delta ab aQ aa ay a3
   have ad := And.intro @fg @aZ
   refine ae fun bD aK b9 ck => ai fun ca aH => ?_;refine al ad ?_;refine aH _ (aK (some ([0],none)) _ (ae fun cg aP bx b8 => ae fun ch bI dd dU => ai fun cM b0 => ?_));refine al ad ?_;refine b0 _ (bI (some ([7],none)) _ (cj fun cG bp lA c5 dn => ae fun cI cz ey fp => ai fun dB c7 => ?_));refine aM 1 ad ?_;refine Or.inl ⟨_,Rb Tryz.underlying98 rfl (by decide) X2 X1,?_⟩;refine al ad ?_;refine c7 _ (cz (some ([7,9,10],none)) _ (bs (ae fun bz cR h1 gQ => ai fun eK cK => ?_)));refine aM 1 ad ?_;refine Or.inl ⟨_,Al Tryz.underlying104 rfl,?_⟩;refine al ad ?_;refine cK _ (cR (some ([24,25],none)) _ (bU (ae fun fM cr h0 g6 => ai fun ga cD => ?_)));refine aS ad ?_;refine cD _ ?_
   refine cr (some ([6],none)) _ (ae fun gK dF nu ln => ai fun hc dq => ?_);refine aS ad ?_;refine dq _ (dF (some ([6,27],none)) _ (bs (bp _ (aP (some ([],none)) _ (ae fun jf gl Dc lo => ai fun kp gC => ?_)))));refine al ad ?_;refine gC _ (gl (some ([2,3,4],none)) _ ?_)
   exact cQ ad
  ·rw [show fk (.ev s) = ((s.block : Int),s.err,true) by unfold fk; simp only [aZ]; rfl]
   unfold bK AZ AV;delta ab aQ aa ay a3
   have ad := And.intro @fg @aZ
   refine ae fun bD aK b9 ck => ai fun ca aH => ?_;refine al ad ?_;refine aH _ (aK (some ([0],none)) _ (ae fun cg aP bx b8 => ae fun ch bI dd dU => ai fun cM b0 => ?_));refine al ad ?_;refine b0 _ (bI (some ([7],none)) _ (cj fun cG bp lA c5 dn => ae fun cI cz ey fp => ai fun dB c7 => ?_));refine aM 1 ad ?_;refine Or.inl ⟨_,Rb Tryz.underlying98 rfl (by decide) X2 X1,?_⟩;refine al ad ?_;refine c7 _ (cz (some ([7,9,10],none)) _ (bs (ae fun bz cR h1 gQ => ai fun eK cK => ?_)));refine aM 1 ad ?_;refine Or.inl ⟨_,Al Tryz.underlying104 rfl,?_⟩;refine al ad ?_;refine cK _ (cR (some ([24,25],none)) _ (bU (ae fun fM cr h0 g6 => ai fun ga cD => ?_)));refine aS ad ?_;refine cD _ ?_
   refine cr (some ([6],none)) _ (ae fun gK dF nu ln => ai fun hc dq => ?_);refine aS ad ?_;refine dq _ (dF (some ([6,27],none)) _ (bU (ae fun jf gl Dc lo => ?_)));refine gh [] (n := 5) fun kp gC => ?_;refine gY ?_;refine cF 2 ad ?_;refine cF 2 ad ?_;refine lh ad ?_;refine gC _ ?_;refine gZ ?_;refine al ad ?_;refine gl (some ([2,3,4],none)) _ (c5 _ (bx _ ?_))
   exact cQ ad
end Go.Proofs.YtkmbcjnaaokilaaGreatDoor
