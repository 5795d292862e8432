/-
  The shadow machine: slicing, make, append; all told rightly.
-/
import Derived.Test.YtkmbcjnaaokilaaGreatDoorMA
namespace Go.Proofs.YtkmbcjnaaokilaaGreatDoor
set_option linter.unusedSimpArgs false
set_option linter.unusedVariables false
open Go.RowKit Go.Maps

set_option maxRecDepth 100000 in
theorem UH {P : Program} (w : World) (t e : TypeId) (i : TypeInfo) (z : Value) (k : Nat) (aL : P.underlying t = some (.slice e)) (aq : P.info? e = some i) (bR : i.zero = some z) (az : i.size = k)
  (AF sa : IntKind) (n : Nat) (aqj : (n : Int) ≤ 9223372036854775807) (aI : n * i.bytes ≤ 140737488355328) :
  (Instr.makeSlice t (.int AF n) (.int sa n)).run P w = .ok (.slice (some ⟨w.heap.size,0,none⟩) n n) (w.alloc (.cells ((Array.range (n * k)).map (fun j => z.cells[j % z.cells.size]!)) e)) := by
 have wl : IntKind.i64.wrap (n : Int) = n := by rw [IntKind.wrap_i64]; omega
 have jQ : (i.bytes : Int) * n ≤ 140737488355328 := by rw [Int.mul_comm,← Int.natCast_mul]; omega
 have bG : ¬ ((n : Int) < 0) := by omega
 have fz : ¬ (281474976710656 < (i.bytes : Int) * n) := by omega
 have n5 : ¬ (140737488355328 < n * i.bytes) := by omega
 subst az
 by_cases a9 : n * i.size = 0
 ·simp [Instr.makeSlice,run_underlying aL,asInt,asIntOf,typeInfo,aq,sizeOf,wl,bG,fz,n5,a9,newRow,askRoom,roomBytes]
  rw [show Array.range 0 = (#[] : Array Nat) from by decide]; simp
 ·simp [Instr.makeSlice,run_underlying aL,asInt,asIntOf,typeInfo,aq,sizeOf,zeroValue,bR,wl,bG,fz,n5,a9,newRow,askRoom,roomBytes]

section
variable {o : Oper} {S : ak} {E : Env} {H : bl} {B : Nat} {w : World}

theorem eN.Tw {k : Nat} {e : List aw} {vs : List Value} (aA : dg H eD e vs) (aE : vs.length = k) (af : e.all aw.one = true) :
  ∀ (n : Nat) (xs : List Value),xs.length = n * k → (∀ i,i < n → (xs.drop (i * k)).take k = vs) → eN H k (List.replicate n e) xs
 | 0,xs,ar,_ => by simp at ar; subst ar; exact .nil
 | n + 1,xs,ar,h => by
  have ba := h 0 (by omega)
  simp at ba
  have aqU : xs.length = n * k + k := by rw [ar,Nat.add_mul]; omega
  have dW := eN.Tw aA aE af n (xs.drop k) (by simp; omega) (fun i aq => by
   have := h (i + 1) (by omega)
   rw [List.drop_drop]; rw [Nat.add_mul] at this
   rw [← this]; congr 2; omega)
  have e : xs = vs ++ xs.drop k := by rw [← ba,List.take_append_drop]
  rw [e,List.replicate_succ]
  exact .cons aA aE af dW

theorem X4 {k n : Nat} {zc : Array Value} {dE : List ej} (bR : zc.toList = dE.map ej.val) (az : zc.size = k) (fK : 0 < k) :
  eN H k (List.replicate n (dE.map ej.ia)) ((Array.range (n * k)).map (fun j => zc[j % zc.size]!)).toList := by
 refine eN.Tw (zR H eD dE) (by rw [← bR]; simpa using az) (Bf dE) n _ (by simp) (fun i aq => ?_)
 rw [← bR]
 have hlen := Nat.mul_le_mul_right k (show i + 1 ≤ n from aq)
 rw [Nat.add_mul,Nat.one_mul] at hlen
 apply List.ext_getElem
 ·simp; omega
 ·intro j af aj
  simp at af aj
  have : (i * k + j) % k = j := by rw [Nat.add_comm,Nat.add_mul_mod_self_right]; exact Nat.mod_eq_of_lt (by omega)
  simp [az,this,aj,getElem!_pos,az ▸ aj]

theorem ae3 {t e i z n m fq} {dE : List ej} (ax : o.op = .makeSlice t n n) (hu : Tryz.prog.underlying t = some (.slice e)) (aq : Tryz.prog.info? e = some i) (bR : i.zero = some z) (hO : z.cells.toList = dE.map ej.val) (hi : z.cells.size = i.size) (fK : 0 < i.size)
  (a9 : S.bg n = some (.v (.int fq m))) (ba : 0 ≤ m) (u6 : m ≤ 1000000) (aI : m.toNat * i.bytes ≤ 140737488355328) : Good o S E [n] (.au i.size 0 (List.replicate m.toNat (dE.map ej.ia))) := Cg fun B a w H af aj av => by
 have bf := av.get (by simp) a9
 generalize aT : a.eval n = q at bf
 cases bf
 obtain ⟨N,rfl⟩ := Int.eq_ofNat_of_zero_le ba
 simp only [Int.toNat_natCast] at aI ⊢
 obtain ⟨bJ,cf⟩ := UA (E := E) (e := e) (full := 0) af (X4 (n := N) hO hi fK) (by simp) (show N ≤ maxLen by unfold maxLen; omega)
 have da := UH (P := Tryz.prog) w t e i z i.size hu aq bR rfl fq fq N (by omega) aI
 exact ⟨.slice (some ⟨w.heap.size,0,none⟩) N N,_,_,by simp [execOp,ax,aT,da],bJ,cf⟩

theorem ae2 {t bd : TypeId} (ax : o.op = .makeMap t none) : Good o S E [] (.mp bd fun _ => none) := Cg fun B a w H af aj av => by
 refine ⟨.map (some w.heap.size),w.alloc (.map #[] 0),H.add w.heap.size (.map #[] 0),by simp [execOp,ax,run_makeMap],((Grow.refl af).alloc _).add (heap_alloc_new w _) (Nat.le_refl _),?_⟩
 exact .mp (bl.x4 _ _ _) h4.made (by omega) (fun i => by simp) (fun i s u h => by cases h)

theorem Bi.full {g n c : Nat} (h : Bi g n c) {es : List (List aw)} (aJ : g = 1 ∨ (g = 0 ∧ es = [])) (a9 : es.length = n := by rfl) : c = n := by
 rcases aJ with rfl | ⟨rfl,rfl⟩
 ·exact h.1 rfl
 ·simp at a9; subst a9; exact h.2 rfl rfl
theorem sj {k full es a n c} (ao : Sub H w) (h : cl H E (.au k full es) (.slice a n c)) :
  ∃ xs,eN H k es xs ∧ es.length = n ∧ n ≤ c ∧ c ≤ maxLen ∧ Bi full n c ∧ (a = none → c = 0) ∧ ∀ cm,a = some cm → ∀ j u,xs[j]? = some u → w.cell? (cm.add j) = some u := by
 cases h with
 | au af aj av RF aY bM bN =>
  refine ⟨_,af,aj,av,RF,aY,bM,fun cm e j u hu => ?_⟩
  subst e
  obtain ⟨b,o,cells,t,c0,a1,a7,ct⟩ := bN j u hu
  cases a1
  rw [Addr.add_lit]
  simp [World.cell?,ao _ _ a7,ct]

theorem Nk {P : Program} {k : Nat} (t ty e : TypeId) (i : TypeInfo) (z : Value) (aL : P.underlying t = some (.slice e)) (aq : P.info? e = some i) (bR : i.zero = some z) (hO : z.cells.size = i.size) (fK : 0 < i.size)
  {bS : Option Addr} {n c : Nat} {xs : List Value} (mB : xs.length = n * i.size) (e7 : ∀ u ∈ xs,u.oneCell' = true) (aB : c = n) (a5 : bS = none → c = 0) (ahx : ∀ cm,bS = some cm → ∀ j u,xs[j]? = some u → w.cell? (cm.add j) = some u)
  {cm : Addr} {m c2 : Nat} {ys : List Value} (s6 : ys.length = m * i.size) (rm : ∀ u ∈ ys,u.oneCell' = true) (Sy : ∀ j u,ys[j]? = some u → w.cell? (cm.add j) = some u) (hm : 0 < m) (dh : n + m ≤ maxLen) (dv : (n + m) * i.bytes ≤ 140737488355328) :
  ∃ hb w',(Builtin.append_ #[t,t] ty #[.slice bS n c,.slice (some cm) m c2]).run P w = .ok hb w' ∧ w'.ownsRow w.heap.size e i.size hb (n + m) (xs ++ ys) ∧ w.grownBy w' none := by
 cases bS with
 | none =>
  have pH := a5 rfl
  have vn : n = 0 := by omega
  subst vn; subst pH
  have Dl : xs = [] := List.eq_nil_of_length_eq_zero (by simpa using mB)
  subst Dl
  obtain ⟨hb,w',da,dI,dS,_⟩ := run_append_own (P := P) w w.heap.size t ty e i z i.size i.bytes aL aq bR rfl rfl hO fK (.slice none 0 0) 0 [] (World.ownsRow_nil w _ e _) cm m c2 ys s6 Sy rm dh dv (Nat.le_refl _)
  exact ⟨hb,w',da,dI,dS⟩
 | some b =>
  obtain ⟨hb,w',da,dI,dS⟩ := run_append_arg_grows (P := P) w t ty e i z i.size i.bytes aL aq bR rfl rfl hO fK b n c xs mB (ahx b rfl) cm m c2 ys s6 Sy (by omega) dh dv
  exact ⟨hb,w',da,dI,dS⟩

theorem aeK {t e i z x y xs ys k2 f2} (ax : o.op = .call ⟨.builtin .append,#[x,y],#[t,t]⟩) (aL : Tryz.prog.underlying t = some (.slice e)) (aq : Tryz.prog.info? e = some i) (bR : i.zero = some z) (hO : z.cells.size = i.size) (fK : 0 < i.size)
  {g1 : Nat} (ar : S.bg x = some (.au i.size g1 xs)) (oX : g1 = 1 ∨ (g1 = 0 ∧ xs = [])) (aV : S.bg y = some (.au k2 f2 ys)) (aH : k2 = i.size) (hm : xs = [] ∨ 0 < ys.length) (dh : xs.length + ys.length ≤ 140737488355328) (dv : (xs.length + ys.length) * i.bytes ≤ 140737488355328) : Good o S E [x,y] (.au i.size 0 (xs ++ ys)) := Cg fun B a w H af aj av => by
 subst aH
 have cC := av.get (by simp) ar
 have ik := av.get (by simp) aV
 generalize hN : a.eval x = jZ at cC
 generalize iR : a.eval y = hv at ik
 obtain ⟨bS,n,c,rfl⟩ : ∃ a n c,jZ = .slice a n c := by cases cC; exact ⟨_,_,_,rfl⟩
 obtain ⟨bH,m,c2,rfl⟩ : ∃ a n c,hv = .slice a n c := by cases ik; exact ⟨_,_,_,rfl⟩
 obtain ⟨us,eR,fi,fZ,_,o8,jE,gW⟩ := sj af cC
 obtain ⟨vs,bJ,cf,dA,_,fr,jY,l4⟩ := sj af ik
 subst fi; subst cf
 by_cases ua : 0 < ys.length
 case neg =>
  have he : xs = [] := hm.resolve_right ua
  have o3 : ys = [] := List.eq_nil_of_length_eq_zero (by omega)
  subst he; subst o3
  have aB := o8.full oX
  simp only [List.length_nil] at aB hN iR
  subst aB
  have da : (Builtin.append_ #[t,t] o.type #[.slice bS 0 0,.slice bH 0 c2]).run Tryz.prog w = .ok (.slice bS 0 0) w := by
   have aE : ∀ (x : Addr),(loadCells x 0).run Tryz.prog w = .ok #[] w := fun x => by simpa using run_loadCells_list (P := Tryz.prog) w x [] (by simp)
   cases bS <;> cases bH <;> simp [Builtin.append_,run_underlying aL,run_sizeOf aq,Builtin.lenOf,Builtin.firstCells,aE,storeCells]
  exact ⟨.slice bS 0 0,w,H,by simp [execOp,ax,resolve,hN,iR,invoke,builtin,da],Grow.refl af,.au .nil rfl (Nat.le_refl _) (Nat.zero_le _) ⟨fun _ => rfl,fun _ _ => rfl⟩ (fun _ => rfl) (fun j u hu => by simp at hu)⟩
 cases bH with
 | none => have := jY rfl; omega
 | some cm =>
  have kT : xs.length + ys.length ≤ maxLen := by unfold maxLen; omega
  obtain ⟨hb,w',da,dI,dS⟩ := Nk (P := Tryz.prog) (w := w) (k := i.size) t o.type e i z aL aq bR hO fK (c2 := c2) eR.length eR.one (o8.full oX) jE gW bJ.length bJ.one (l4 cm rfl) ua kT dv
  obtain ⟨aE,bj⟩ := dI
  rcases bj with ⟨_,ba⟩ | ⟨g,adq,cur,rfl,aI,aJ,CZ,RT,hi,xf⟩
  ·omega
  ·have KR : H g = none := af.none aI
   refine ⟨.slice (some ⟨g,0,none⟩) (xs.length + ys.length) adq,w',H.add g (.cells cur e (0,0)),?_,((Grow.refl af).grown dS (fun k e => by cases e)).add aJ aI,?_⟩
   ·simp [execOp,ax,resolve,hN,iR,invoke,builtin,da]
   ·refine .au ((eR.append bJ).mono (bl.x5 KR)) (by simp) CZ RT ⟨(fun h => (by cases h)),(fun _ h => (by omega))⟩ (fun h => by cases h) (fun j u hu => ⟨g,0,cur,e,(0,0),rfl,bl.x4 _ _ _,?_⟩)
    rw [← xf,List.getElem?_take] at hu
    split at hu
    ·simpa using hu
    ·cases hu

theorem GX {a : Act} {x : Operand} {n : Int} {xs : List Operand} (av : pj S E H a xs) (ar : x ∈ xs) (h : ((S.bg x).bind fun j => match j with | .v (.int _ n) => some n | _ => none) = some n) : ∃ fq,a.eval x = .int fq n := by
 obtain ⟨y,aV,h⟩ := Option.bind_eq_some_iff.1 h
 have bf := av.get ar aV
 cases y with
 | v q =>
  cases q with
  | int fq m => simp at h; subst h; generalize aT : a.eval x = q at bf; cases bf; exact ⟨fq,rfl⟩
  | _ => simp at h
 | _ => simp at h

theorem Rx {t e i x jD jR mx full es l h} (ax : o.op = .slice t x jD jR mx) (aL : Tryz.prog.underlying t = some (.slice e)) (aq : Tryz.prog.info? e = some i) (ar : S.bg x = some (.au i.size full es))
  (aE : S.sd 0 jD = some l)
  (cy : S.sd es.length jR = some h)
  (cd : 0 ≤ l) (c2 : l ≤ h) (eu : h ≤ es.length) {f2 : Nat}
  (hm : (mx = none ∧ f2 = xN full jD jR) ∨ ∃ jo,mx = some jo ∧ ((S.bg jo).bind fun j => match j with | .v (.int _ n) => some n | _ => none) = some h ∧ jR.isSome = true ∧ f2 = 1) :
  Good o S E (x :: (jD.toList ++ jR.toList ++ mx.toList)) (.au i.size f2 ((es.take h.toNat).drop l.toNat)) := lj fun B a w H af aj av => by
 have cC := av.get (by simp) ar
 generalize hN : a.eval x = jZ at cC
 cases cC with
 | au bL a9 aB RT aZ a5 eM =>
  rename_i uP n c xs
  subst a9
  obtain ⟨L,rfl⟩ := Int.eq_ofNat_of_zero_le cd
  obtain ⟨qM,rfl⟩ := Int.eq_ofNat_of_zero_le (show 0 ≤ h by omega)
  have ap1 : L ≤ qM := by omega
  have ap2 : qM ≤ es.length := by omega
  simp only [Int.toNat_natCast]
  -- alP aqf index
  obtain ⟨M,aqm,aqn,afo,aI⟩ : ∃ M,qM ≤ M ∧ M ≤ c ∧ Bi f2 (qM - L) (M - L) ∧
    (Instr.sliceBounds true es.length c (jD.map a.eval) (jR.map a.eval) (mx.map a.eval)).run Tryz.prog w = .ok (L,qM,M) w := by
   have yI : (jD = none ∧ L = 0) ∨ ∃ ol fq,jD = some ol ∧ a.eval ol = .int fq L := by
    cases jD with
    | none => simp [ak.sd] at aE; exact .inl ⟨rfl,by omega⟩
    | some ol => obtain ⟨fq,e⟩ := GX av (x := ol) (by simp) aE; exact .inr ⟨ol,fq,rfl,e⟩
   have cL : L ≤ qM := by omega
   have k2 : qM ≤ c := by omega
   rcases hm with ⟨rfl,rfl⟩ | ⟨jo,rfl,o0,ao,rfl⟩
   ·refine ⟨c,by omega,Nat.le_refl _,?_,?_⟩
    ·cases jR with
     | some He => exact ⟨fun h => by simp [xN] at h,fun h => by simp [xN] at h⟩
     | none =>
      simp [ak.sd] at cy
      obtain rfl : es.length = qM := by omega
      unfold xN
      simp only
      split
      ·rename_i aJ
       exact ⟨fun _ => by have := aZ.1 aJ; omega,fun h => by cases h⟩
      ·rcases yI with ⟨rfl,rfl⟩ | ⟨ol,AF,rfl,el⟩
       ·simpa using aZ
       ·exact ⟨fun h => (by cases h),fun h => (by cases h)⟩
    ·cases jR with
     | none =>
      simp [ak.sd] at cy
      obtain rfl : es.length = qM := by omega
      rcases yI with ⟨rfl,rfl⟩ | ⟨ol,AF,rfl,el⟩
      ·simp [Instr.sliceBounds]
      ·simp [Instr.sliceBounds,el,Instr.sliceBound,asIntOf,cL]
     | some He =>
      obtain ⟨fq,e⟩ := GX av (x := He) (by simp) cy
      rcases yI with ⟨rfl,rfl⟩ | ⟨ol,AF,rfl,el⟩
      ·simp [Instr.sliceBounds,e,Instr.sliceBound,asIntOf,k2]
      ·simp [Instr.sliceBounds,e,el,Instr.sliceBound,asIntOf,cL,k2]
   ·refine ⟨qM,Nat.le_refl _,by omega,⟨fun _ => rfl,fun h => by cases h⟩,?_⟩
    obtain ⟨fq,e⟩ := GX av (x := jo) (by simp) o0
    cases jR with
    | none => cases ao
    | some He =>
     obtain ⟨aq5,a7⟩ := GX av (x := He) (by simp) cy
     rcases yI with ⟨rfl,rfl⟩ | ⟨ol,AF,rfl,el⟩
     ·simp [Instr.sliceBounds,e,a7,Instr.sliceBound,asIntOf,k2]
     ·simp [Instr.sliceBounds,e,a7,el,Instr.sliceBound,asIntOf,cL,k2]
  refine ⟨.slice (if M = L then uP else uP.map (·.add (L * i.size))) (qM - L) (M - L),?_,?_⟩
  ·simp only [execOp,ax,hN,Instr.sliceAt,Sem.run_bind,run_underlying aL,Result.andThen_ok,Instr.slice,aI,run_sizeOf aq,Sem.run_pure]
  ·refine .au ((bL.take qM).drop L) (by simp; omega) (by omega) (by omega) afo (fun o1 => ?_) (fun j u hu => ?_)
   ·cases uP with
    | none => have := a5 rfl; omega
    | some cm => split at o1 <;> cases o1
   ·rw [List.getElem?_drop,List.getElem?_take] at hu
    split at hu
    ·rename_i bQ
     obtain ⟨b,o',cells,t',c0,a1,a7,ct⟩ := eM _ u hu
     subst a1
     have dj : M ≠ L := fun e => by
      subst e
      have : qM = M := by omega
      subst this
      omega
     exact ⟨b,o' + L * i.size,cells,t',c0,by rw [if_neg dj]; simp [Addr.add_lit],a7,by rw [Nat.add_assoc]; exact ct⟩
    ·cases hu
end

theorem Qs {o : Oper} {S : ak} {E : Env} {op : Op} {fj : b7} {k : aw → Prop} (ax : o.op = op) (hm : eW op fj) (h : cx fj S k) : ∃ s,k s ∧ Good o S E fj.cX s := by
 cases hm with
 | ah => obtain ⟨s,ao,az⟩ := b2 h; exact ⟨s,az,Rv (.inl ax) ao⟩
 | E9 => obtain ⟨s,ao,az⟩ := b2 h; exact ⟨s,az,Rv (.inr ax) ao⟩
 | SS af aj av =>
  obtain ⟨s,ao,h⟩ := b2 h
  obtain ⟨⟨cs,off⟩,a5,h⟩ := b2 h
  exact Rt ax af (.inl ⟨aj,_,av,rfl⟩) ao a5 h
 | SR af aj =>
  obtain ⟨s,ao,h⟩ := b2 h
  obtain ⟨⟨cs,off⟩,a5,h⟩ := b2 h
  exact Rt ax af (.inr ⟨aj,rfl⟩) ao a5 h
 | aU af aj av aY =>
  obtain ⟨s,ao,h⟩ := b2 h
  cases s with
  | ptr i idx o' => exact ⟨_,h,Rq ax af aj av aY ao (.inl ⟨_,_,_,rfl,rfl⟩)⟩
  | di e o' => exact ⟨_,h,Rq ax af aj av aY ao (.inr ⟨_,_,rfl,rfl⟩)⟩
  | _ => exact h.elim
 | QP af aj av aY bM =>
  obtain ⟨s,ao,h⟩ := b2 h
  cases s with
  | agg cs => exact Rr ax af aj aY (.inl ⟨bM,_,av,rfl⟩) ao h
  | _ => exact h.elim
 | QO af aj aY bM =>
  obtain ⟨s,ao,h⟩ := b2 h
  cases s with
  | agg cs => exact Rr ax af aj aY (.inr ⟨bM,rfl⟩) ao h
  | _ => exact h.elim
 | dD af aj av =>
  obtain ⟨s,ao,h⟩ := b2 h
  obtain ⟨j,aN,h⟩ := b2 h
  cases s with
  | au dG full es =>
   cases j with
   | v q =>
    cases q with
    | int fq n =>
     obtain ⟨rfl,ba,h⟩ := h
     obtain ⟨e,he,h⟩ := b2 h
     exact ⟨_,h,aeV ax af aj av ao aN ba he⟩
    | _ => exact h.elim
   | _ => exact h.elim
  | own gm =>
   cases j with
   | v q =>
    cases q with
    | int fq n =>
     simp only at h
     split at h
     ·rename_i hG dG es aJ
      obtain ⟨rfl,ba,aE,h⟩ := h
      exact ⟨_,h,aeW ax af aj ao aJ aN ba aE⟩
     ·rename_i hG cs aJ
      obtain ⟨tZ,ba,aE,h⟩ := h
      exact ⟨_,h,aeX ax af aj tZ ao aJ aN ba aE⟩
     ·exact h.elim
    | _ => exact h.elim
   | _ => exact h.elim
  | _ => exact h.elim
 | mV af aj =>
  obtain ⟨s,ao,h⟩ := b2 h
  obtain ⟨j,aN,h⟩ := b2 h
  cases s with
  | ptr i idx o' =>
   cases j with
   | v q =>
    cases q with
    | int fq n => obtain ⟨ba,aE,h⟩ := h; exact ⟨_,h,Rs ax af aj ao aN ba aE (.inl ⟨_,_,_,rfl,rfl⟩)⟩
    | _ => exact h.elim
   | _ => exact h.elim
  | di e o' =>
   cases j with
   | v q =>
    cases q with
    | int fq n => obtain ⟨ba,aE,h⟩ := h; exact ⟨_,h,Rs ax af aj ao aN ba aE (.inr ⟨_,_,rfl,rfl⟩)⟩
    | _ => exact h.elim
   | _ => exact h.elim
  | _ => exact h.elim
 | dO af aj av aY bM => obtain ⟨cs,aB,h⟩ := b2 h; exact ⟨_,h,aeM ax af aj av aY bM aB⟩
 | uV => exact h.elim
 | hE af aj av aY bM bN cJ => obtain ⟨cs,aB,_,h⟩ := b2 h; exact ⟨_,h,aeN ax af aj av aY bM bN cJ aB⟩
 | @k1 t e i x jD aq mx af aj =>
  obtain ⟨s,ao,h⟩ := b2 h
  cases s with
  | au dz full es =>
   obtain ⟨rfl,h⟩ := h
   obtain ⟨l,aE,h⟩ := b2 h
   obtain ⟨cy,R6,h⟩ := b2 h
   obtain ⟨cd,c2,eu,h⟩ := h
   cases mx with
   | none => exact ⟨_,h,Rx ax af aj ao aE R6 cd c2 eu (.inl ⟨rfl,rfl⟩)⟩
   | some jo =>
    obtain ⟨j,aN,h⟩ := b2 h
    cases j with
    | v q =>
     cases q with
     | int fq n =>
      obtain ⟨rfl,a7,h⟩ := h
      exact ⟨_,h,Rx ax af aj ao aE R6 cd c2 eu (.inr ⟨jo,rfl,by simp [aN],a7,rfl⟩)⟩
     | _ => exact h.elim
    | _ => exact h.elim
  | _ => exact h.elim
 | len af =>
  obtain ⟨s,ao,h⟩ := b2 h
  cases s with
  | au dz full es => exact ⟨_,h,Ke ax af ao (.inl ⟨_,_,_,rfl,rfl⟩)⟩
  | own i =>
   simp only at h
   split at h
   ·rename_i hG dG es aJ; exact ⟨_,h,Ke ax af ao (.inr (.inl ⟨_,_,_,_,rfl,aJ,rfl⟩))⟩
   ·rename_i hG cs aJ; exact ⟨_,h,Ke ax af ao (.inr (.inr ⟨_,_,_,rfl,aJ,rfl⟩))⟩
   ·exact h.elim
  | _ => exact h.elim
 | mW af aj av aY =>
  obtain ⟨s,ao,h⟩ := b2 h
  obtain ⟨j,aN,h⟩ := b2 h
  cases s with
  | mp iS f =>
   cases j with
   | v q =>
    cases q with
    | int fq n =>
     cases fq with
     | i64 => obtain ⟨rfl,bG,fz,h⟩ := h; exact ⟨_,h,aeY ax af aj av aY ao aN bG fz⟩
     | _ => exact h.elim
    | _ => exact h.elim
   | _ => exact h.elim
  | own gm =>
   cases j with
   | v q =>
    cases q with
    | int fq n =>
     cases fq with
     | i64 =>
      simp only at h
      split at h
      ·rename_i iS M f aJ
       obtain ⟨rfl,bG,fz,h⟩ := h
       exact ⟨_,h,aeZ ax af aj av aY ao aJ aN bG fz⟩
      ·exact h.elim
     | _ => exact h.elim
    | _ => exact h.elim
   | _ => exact h.elim
  | _ => exact h.elim
 | ext =>
  obtain ⟨s,ao,h⟩ := b2 h
  cases s with
  | bY cs => obtain ⟨r,aA,h⟩ := b2 h; exact ⟨_,h,aeS ax ao aA⟩
  | _ => exact h.elim
 | bin =>
  obtain ⟨s,ao,h⟩ := b2 h
  obtain ⟨j,aN,h⟩ := b2 h
  cases s with
  | v p =>
   cases j with
   | v q =>
    cases p with
    | int cL v7 =>
     cases q with
     | int k2 xT => obtain ⟨rfl,h⟩ := h; obtain ⟨r,aA,h⟩ := b2 h; exact ⟨_,h,aeL ax ao aN aA⟩
     | _ => exact h.elim
    | _ => exact h.elim
   | _ => cases p <;> exact h.elim
  | _ => exact h.elim
 | eqv =>
  obtain ⟨s,ao,h⟩ := b2 h
  obtain ⟨j,aN,b,aI,h⟩ := b2 h
  exact ⟨_,h,Rp (neg := false) ax ao aN aI⟩
 | Ms =>
  obtain ⟨s,ao,h⟩ := b2 h
  obtain ⟨j,aN,b,aI,h⟩ := b2 h
  exact ⟨_,h,Rp (neg := true) ax ao aN aI⟩
 | not =>
  obtain ⟨s,ao,h⟩ := b2 h
  cases s with
  | v q => cases q with
   | bool b => exact ⟨_,h,ae4 ax ao⟩
   | _ => exact h.elim
  | _ => exact h.elim
 | mf af aj =>
  obtain ⟨s,ao,h⟩ := b2 h
  cases s with
  | v q => cases q with
   | int fq n => exact ⟨_,h,aeR ax af aj ao⟩
   | _ => exact h.elim
  | _ => exact h.elim
 | call af aj av =>
  obtain ⟨l,aE,r,aA,h⟩ := b2 h
  exact ⟨_,h,aeO ax (n8 af aj av) aE aA⟩
 | gen =>
  obtain ⟨l,aE,r,aA,h⟩ := b2 h
  exact ⟨_,h,aeU ax aE aA⟩
 | kP =>
  obtain ⟨s,ao,h⟩ := b2 h
  obtain ⟨l,aE,h⟩ := b2 h
  cases s with
  | fn f first cap =>
   cases f with
   | func f => obtain ⟨bL,r,aA,h⟩ := h; exact ⟨_,h,aeQ ax ao bL aE aA⟩
   | method name =>
    cases first with
    | nil => exact h.elim
    | cons y first =>
     cases y with
     | ds t s => obtain ⟨f,hm,bL,r,aA,h⟩ := h; exact ⟨_,h,aeP ax ao hm bL aE aA⟩
     | _ => exact h.elim
   | _ => exact h.elim
  | _ => exact h.elim
 | kj =>
  obtain ⟨a,a5,h⟩ := b2 h
  obtain ⟨b,aI,h⟩ := b2 h
  exact ⟨_,h,ae0 ax a5 aI⟩
 | iC af aj => obtain ⟨s,ao,h⟩ := b2 h; exact ⟨_,h,ae1 ax af aj ao⟩
 | pick =>
  obtain ⟨s,ao,h⟩ := b2 h
  cases s with
  | v q => cases q with
   | bool b => obtain ⟨r,aA,h⟩ := b2 h; obtain ⟨af,aj⟩ := Uh aA; exact ⟨_,h,ae5 ax ao af aj⟩
   | _ => exact h.elim
  | _ => exact h.elim
 | max =>
  obtain ⟨s,ao,h⟩ := b2 h
  obtain ⟨j,aN,h⟩ := b2 h
  cases s with
  | v p =>
   cases j with
   | v q =>
    cases p with
    | int cL v7 =>
     cases q with
     | int k2 xT => obtain ⟨rfl,h⟩ := h; exact ⟨_,h,Ru (mx := true) ax ao aN⟩
     | _ => exact h.elim
    | _ => exact h.elim
   | _ => cases p <;> exact h.elim
  | _ => exact h.elim
 | min =>
  obtain ⟨s,ao,h⟩ := b2 h
  obtain ⟨j,aN,h⟩ := b2 h
  cases s with
  | v p =>
   cases j with
   | v q =>
    cases p with
    | int cL v7 =>
     cases q with
     | int k2 xT => obtain ⟨rfl,h⟩ := h; exact ⟨_,h,Ru (mx := false) ax ao aN⟩
     | _ => exact h.elim
    | _ => exact h.elim
   | _ => cases p <;> exact h.elim
  | _ => exact h.elim
 | lB =>
  obtain ⟨s,ao,h⟩ := b2 h
  cases s with
  | ptr i idx o' => exact ⟨_,h,F6 ax ao (.inl ⟨_,_,_,rfl⟩)⟩
  | di e o' => exact ⟨_,h,F6 ax ao (.inr (.inl ⟨_,_,rfl⟩))⟩
  | fn f a b => cases f with
   | func f => exact ⟨_,h,F6 ax ao (.inr (.inr (.inl ⟨_,_,_,rfl⟩)))⟩
   | _ => exact h.elim
  | ds t y => exact ⟨_,h,F6 ax ao (.inr (.inr (.inr ⟨_,_,rfl⟩)))⟩
  | _ => exact h.elim
 | mY af aj av aY bM bN =>
  obtain ⟨s,ao,h⟩ := b2 h
  cases s with
  | v q => cases q with
   | int fq m => obtain ⟨bS,bH,bP,h⟩ := h; exact ⟨_,h,ae3 ax af aj av aY bM bN ao bS bH bP⟩
   | _ => exact h.elim
  | _ => exact h.elim
 | o5 af aj => exact ⟨_,h,ae2 ax⟩
 | app af aj av aY bM =>
  obtain ⟨s,ao,h⟩ := b2 h
  obtain ⟨j,aN,h⟩ := b2 h
  cases s with
  | au cL full xs =>
   cases j with
   | au k2 f2 ys => obtain ⟨rfl,rfl,rL,fP,dh,dv,h⟩ := h; exact ⟨_,h,aeK ax af aj av aY bM ao rL aN rfl fP dh dv⟩
   | _ => exact h.elim
  | _ => exact h.elim
 | _ => exact h.elim

section
variable {N : Nat} {w0 w w' : World} {H0 H H' : bl} {S : ak} {E : Env} {a : Act}

theorem bC.sub (h : bC N w0 H0 S E a w H) : Sub H w := h.grow.sub
theorem bC.cX (h : bC N w0 H0 S E a w H) (xs : List Operand) : pj S E H a xs := fun x _ y aV => T9 h.sub.rW h.ob (fun t y _ aL => h.k4 t y aL) aV
theorem ad7 {a : Act} {d : Nat} {v : Value} (h : d < a.tmps.size) : (a.put (some d) v).eval (.tmp d) = v := by simp [Act.put,Act.eval,h]
theorem QF {a : Act} {d t : Nat} {v : Value} (h : d ≠ t) : (a.put (some d) v).eval (.tmp t) = a.eval (.tmp t) := by simp [Act.put,Act.eval,Array.getElem?_setIfInBounds_ne h]
theorem Um {a : Act} {d : Option Nat} {v : Value} : (a.put d v).tmps.size = a.tmps.size := by cases d <;> simp [Act.put]
theorem put_defers {a : Act} {d : Option Nat} {v : Value} : (a.put d v).defers = a.defers := by cases d <;> simp [Act.put]

theorem bC.put (h : bC N w0 H0 S E a w H) {d : Option Nat} {s : aw} {v : Value} (aA : cl H E s v) (a6 : ∀ t,d = some t → t < N) : bC N w0 H0 (S.b3 d s) E (a.put d v) w H := by
 cases d with
 | none => exact h
 | some d =>
  refine ⟨h.grow,fun t x ar => ?_,h.ob,h.ap,h.c0,by rw [Um]; exact h.ju,by rw [put_defers]; exact h.jO⟩
  simp only [ak.b3,ak.put,mR] at ar
  split at ar
  ·rename_i e; cases ar; subst e
   rw [ad7 (by rw [h.ju]; exact a6 _ rfl)]; exact aA
  ·rename_i e; rw [QF e]; exact h.k4 t x ar
theorem bC.grown (h : bC N w0 H0 S E a w H) (g : Grow w H w' H') : bC N w0 H0 S E a w' H' :=
 ⟨h.grow.trans g,fun t x ar => (h.k4 t x ar).mono (g.le h.sub) (fW.refl _),h.ob.grow g h.sub,h.ap,h.c0,h.ju,h.jO⟩
theorem sP {α : Type} {l : List (Nat × α)} {i j : Nat} {x : α} (h : an (ef l i) j = some x) : an l j = some x ∧ i ≠ j := by
 by_cases e : i = j
 ·subst e; rw [Re] at h; cases h
 ·rw [wV l e] at h; exact ⟨h,e⟩
theorem bC.skip (h : bC N w0 H0 S E a w H) {d : Nat} {v : Value} : bC N w0 H0 ⟨ef S.T d,S.O,S.n⟩ E (a.put (some d) v) w H := by
 refine ⟨h.grow,fun t x ar => ?_,h.ob,h.ap,h.c0,by rw [Um]; exact h.ju,by rw [put_defers]; exact h.jO⟩
 obtain ⟨ar,e⟩ := sP ar
 rw [QF e]; exact h.k4 t x ar
theorem bC.less (h : bC N w0 H0 S E a w H) {S' : ak} (eE : ∀ t x,an S'.T t = some x → an S.T t = some x) (dX : ∀ i o,an S'.O i = some o → an S.O i = some o) (a9 : S'.n = S.n) : bC N w0 H0 S' E a w H :=
 ⟨h.grow,fun t x ar => h.k4 t x (eE t x ar),fun i o ax => h.ob i o (dX i o ax),fun i j iN ⟨o,ax,aE⟩ ⟨o',fy,w7⟩ => h.ap i j iN ⟨o,dX _ _ ax,aE⟩ ⟨o',dX _ _ fy,w7⟩,fun i aq => h.c0 i (by rw [← a9]; exact aq),h.ju,h.jO⟩

def Env.set (E : Env) (i : Nat) (p : Value × Nat × Option Nat) : Env := fun j => if j = i then some p else E j
theorem Env.iU (E : Env) (i : Nat) (p : Value × Nat × Option Nat) : E.set i p i = some p := if_pos rfl
theorem Env.vV {E : Env} {i : Nat} (p : Value × Nat × Option Nat) (h : E i = none) : fW E (E.set i p) := fun j q aN => by
 unfold Env.set; rw [if_neg (fun e => by subst e; rw [h] at aN; cases aN)]; exact aN
theorem qP.env {B H E E' w i o} (h : qP B H E w i o) (g : fW E E') : qP B H E' w i o := by
 cases o with
 | box t cs => obtain ⟨b,vs,af,aj,av,aY,bM,bN⟩ := h; exact ⟨b,vs,g _ _ af,aj,av,aY,bM.mono (fun _ _ h => h) g,bN⟩
 | row e k es => obtain ⟨u,ob,xs,af,h⟩ := h; exact ⟨u,ob,xs,g _ _ af,h⟩
 | map bd N f => obtain ⟨b,o,F,af,h⟩ := h; exact ⟨b,o,F,g _ _ af,h⟩
 | iter f left hU cur => obtain ⟨r,ob,af,h⟩ := h; exact ⟨r,ob,g _ _ af,h⟩
 | gi x => obtain ⟨u,k,b,af,h⟩ := h; exact ⟨u,k,b,g _ _ af,h⟩
 | h2 e cs => obtain ⟨b,cap,cur,af,aj,av,aY,bM,bN,cJ⟩ := h; exact ⟨b,cap,cur,g _ _ af,aj,av,aY,bM,bN.mono (fun _ _ h => h) g,cJ⟩
 | cB J => obtain ⟨⟨p,hp⟩,af,aj⟩ := h; exact ⟨⟨p,g _ _ hp⟩,aj _ _ _ _ (hk.refl _) g af,aj⟩

theorem bC.new (h : bC N w0 H0 S E a w H) {o : bo} {p : Value × Nat × Option Nat} (ax : qP w0.heap.size H (E.set S.n p) w S.n o)
  (R2 : ∀ b,p.2.2 = some b → ∀ i,nx S i → ∀ u k,E i = some (u,k,some b) → False) : bC N w0 H0 (S.fT o) (E.set S.n p) a w H := by
 have aJ := Env.vV p (h.c0 S.n (Nat.le_refl _))
 have bQ : ∀ i o,an S.O i = some o → i ≠ S.n := fun i o ax e => by
  subst e
  have a9 := h.c0 S.n (Nat.le_refl _)
  have := h.ob _ _ ax
  cases o with
  | box t cs => obtain ⟨b,vs,af,_⟩ := this; rw [a9] at af; cases af
  | row e k es => obtain ⟨u,ob,xs,af,_⟩ := this; rw [a9] at af; cases af
  | map bd N f => obtain ⟨b,o,F,af,_⟩ := this; rw [a9] at af; cases af
  | iter f left hU cur => obtain ⟨r,ob,af,_⟩ := this; rw [a9] at af; cases af
  | gi x => obtain ⟨u,k,b,af,_⟩ := this; rw [a9] at af; cases af
  | h2 e cs => obtain ⟨b,cap,cur,af,_⟩ := this; rw [a9] at af; cases af
  | cB J => obtain ⟨⟨p,af⟩,_⟩ := this; rw [a9] at af; cases af
 have gB : ∀ i o',an (S.fT o).O i = some o' → (i = S.n ∧ o' = o) ∨ (i ≠ S.n ∧ an S.O i = some o') := fun i o' aq => by
  simp only [ak.fT,an] at aq
  split at aq
  ·rename_i e; cases aq; exact .inl ⟨e.symm,rfl⟩
  ·rename_i e; exact .inr ⟨fun e5 => e e5.symm,aq⟩
 refine ⟨h.grow,fun t x ar => (h.k4 t x ar).mono (fun _ _ h => h) aJ,fun i o' aq => ?_,?_,fun i aq => ?_,h.ju,h.jO⟩
 ·rcases gB i o' aq with ⟨rfl,rfl⟩ | ⟨_,aq⟩
  ·exact ax
  ·exact (h.ob i o' aq).env aJ
 ·rintro i j iN ⟨e2,vv,rb⟩ ⟨eQ,C9,kB⟩ b u k k5 dG a1 a7
  rcases gB i e2 vv with ⟨rfl,rfl⟩ | ⟨bG,g1⟩ <;> rcases gB j eQ C9 with ⟨rfl,rfl⟩ | ⟨fz,bW⟩
  ·exact iN rfl
  ·rw [Env.iU] at a1
   unfold Env.set at a7; rw [if_neg fz] at a7
   cases a1
   exact R2 b rfl j ⟨eQ,bW,kB⟩ _ _ a7
  ·rw [Env.iU] at a7
   unfold Env.set at a1; rw [if_neg bG] at a1
   cases a7
   exact R2 b rfl i ⟨e2,g1,rb⟩ _ _ a1
  ·unfold Env.set at a1 a7; rw [if_neg bG] at a1; rw [if_neg fz] at a7
   exact h.ap i j iN ⟨e2,g1,rb⟩ ⟨eQ,bW,kB⟩ b u k k5 dG a1 a7
 ·unfold Env.set
  simp only [ak.fT] at aq
  rw [if_neg (by omega)]
  exact h.c0 i (by omega)

theorem bC.xq (h : bC N w0 H0 S E a w H) {i b : Nat} (aE : nx S i) {u k} (bL : E i = some (u,k,some b)) : w0.heap.size ≤ b ∧ H b = none ∧ b < w.heap.size := by
 obtain ⟨o,ax,lr⟩ := aE
 have := h.ob _ _ ax
 cases o with
 | box t cs => obtain ⟨gb,vs,af,aj,av,aY,_⟩ := this; rw [bL] at af; cases af; exact ⟨aj,av,(Array.getElem?_eq_some_iff.1 aY).1⟩
 | row e dG es =>
  obtain ⟨k5,ob,xs,af,_,_,av⟩ := this
  rw [bL] at af; cases af
  rcases av with ⟨_,h,_⟩ | ⟨g,cap,cur,bS,bH,bP,a4,fs,_⟩
  ·cases h
  ·cases bS; exact ⟨bP,a4,(Array.getElem?_eq_some_iff.1 fs).1⟩
 | map bd N f => obtain ⟨gb,o,F,af,aj,av,aY,_⟩ := this; rw [bL] at af; cases af; exact ⟨aj,av,(Array.getElem?_eq_some_iff.1 aY).1⟩
 | iter f left hU cur => obtain ⟨r,ob,af,aj,av,aY,_⟩ := this; rw [bL] at af; cases af; exact ⟨aj,av,(Array.getElem?_eq_some_iff.1 aY).1⟩
 | gi x => cases lr
 | h2 e cs => obtain ⟨gb,cap,cur,af,aj,av,aY,_⟩ := this; rw [bL] at af; cases af; exact ⟨aj,av,(Array.getElem?_eq_some_iff.1 aY).1⟩
 | cB J => cases lr

theorem bC.aiM (h : bC N w0 H0 S E a w H) {t : TypeId} {cs : List aw} {vs : List Value} (aB : dg H E cs vs) (af : cs.all aw.one = true) {d : Option Nat} (a6 : ∀ t,d = some t → t < N) :
  ∃ E',bC N w0 H0 ((S.fT (.box t cs)).b3 d (.ptr S.n 0 0)) E' (a.put d (.pointer (some ⟨w.heap.size,0,none⟩))) (w.alloc (.cells vs.toArray t)) H := by
 have aJ : Grow w H (w.alloc (.cells vs.toArray t)) H := (Grow.refl h.sub).alloc _
 have aA := h.grown aJ
 let p : Value × Nat × Option Nat := (.pointer (some ⟨w.heap.size,0,none⟩),0,some w.heap.size)
 have a9 := h.c0 S.n (Nat.le_refl _)
 have bf : bC N w0 H0 (S.fT (.box t cs)) (E.set S.n p) a (w.alloc (.cells vs.toArray t)) H := by
  refine aA.new ⟨w.heap.size,vs,Env.iU _ _ _,h.grow.below.size,h.sub.none (Nat.le_refl _),heap_alloc_new w _,aB.mono (fun _ _ h => h) (Env.vV p a9),af⟩ ?_
  intro b aI i aE u k bL
  cases aI
  exact absurd (h.xq aE bL).2.2 (by omega)
 refine ⟨_,bf.put ?_ a6⟩
 have := cl.ptr (H := H) (E := E.set S.n p) (i := S.n) (idx := 0) (off := 0) (Env.iU E S.n p)
 simpa using this

theorem qP.e1 {B : Nat} {i b : Nat} {o : bo} (h : qP B H E w i o) (dj : o.live = true → ∀ u k,E i ≠ some (u,k,some b)) (ao : ∀ k,k < w.heap.size → k ≠ b → w'.heap[k]? = w.heap[k]?) : qP B H E w' i o := by
 cases o with
 | box t cs =>
  obtain ⟨gb,vs,af,aj,av,aY,bM,bN⟩ := h
  exact ⟨gb,vs,af,aj,av,(ao gb (Array.getElem?_eq_some_iff.1 aY).1 (fun e => by subst e; exact dj rfl _ _ af)).trans aY,bM,bN⟩
 | row e k es =>
  obtain ⟨u,ob,xs,af,az,aj,av⟩ := h
  refine ⟨u,ob,xs,af,az,aj,av.imp id ?_⟩
  rintro ⟨ku,cap,cur,bS,bH,bP,a4,fs,hD⟩
  subst bS
  exact ⟨ku,cap,cur,rfl,bH,bP,a4,(ao ku (Array.getElem?_eq_some_iff.1 fs).1 (fun e => by subst e; exact dj rfl _ _ af)).trans fs,hD⟩
 | map bd N f =>
  obtain ⟨gb,o,F,af,aj,av,aY,bM⟩ := h
  exact ⟨gb,o,F,af,aj,av,(ao gb (Array.getElem?_eq_some_iff.1 aY).1 (fun e => by subst e; exact dj rfl _ _ af)).trans aY,bM⟩
 | iter f left hU cur =>
  obtain ⟨r,ob,af,aj,av,aY,bM⟩ := h
  exact ⟨r,ob,af,aj,av,(ao r (Array.getElem?_eq_some_iff.1 aY).1 (fun e => by subst e; exact dj rfl _ _ af)).trans aY,bM⟩
 | gi x => exact h
 | h2 e cs =>
  obtain ⟨gb,cap,cur,af,aj,av,aY,bM⟩ := h
  exact ⟨gb,cap,cur,af,aj,av,(ao gb (Array.getElem?_eq_some_iff.1 aY).1 (fun e => by subst e; exact dj rfl _ _ af)).trans aY,bM⟩
 | cB J => exact h

theorem bC.p2 (h : bC N w0 H0 S E a w H) {i b : Nat} {o' : bo} {u : Value} {k : Nat} (aq : nx S i) (bL : E i = some (u,k,some b))
  (ao : ∀ k,k < w.heap.size → k ≠ b → w'.heap[k]? = w.heap[k]?) (hi : w.heap.size ≤ w'.heap.size) (vx : w'.os = w.os) (ahk : w'.tape = w.tape) (LD : w'.output = w.output)
  (fy : qP w0.heap.size H E w' i o') (w7 : o'.live = true) : bC N w0 H0 (S.eT i o') E a w' H := by
 obtain ⟨l1,l2,G2⟩ := h.xq aq bL
 have gB : ∀ j o,an (S.eT i o').O j = some o → (j = i ∧ o = o') ∨ (i ≠ j ∧ an S.O j = some o) := fun j o aN => by
  simp only [ak.eT,mR] at aN
  split at aN
  ·rename_i e; cases aN; exact .inl ⟨e.symm,rfl⟩
  ·rename_i e; exact .inr ⟨e,aN⟩
 refine ⟨⟨⟨vx.trans h.grow.below.os,ahk.trans h.grow.below.tape,LD.trans h.grow.below.output,Nat.le_trans h.grow.below.size hi,fun k az => ?_⟩,⟨fun k o az => ?_,h.grow.sub.rW⟩,h.grow.old⟩,h.k4,fun j o aN => ?_,?_,h.c0,h.ju,h.jO⟩
 ·exact (ao k (Nat.lt_of_lt_of_le az h.grow.below.size) (by omega)).trans (h.grow.below.block k az)
 ·have := h.sub.lt az
  exact (ao k this (fun e => by subst e; rw [l2] at az; cases az)).trans (h.sub k o az)
 ·rcases gB j o aN with ⟨rfl,rfl⟩ | ⟨e,aN⟩
  ·exact fy
  ·exact (h.ob j o aN).e1 (fun aE k5 dG e5 => h.ap i j e aq ⟨o,aN,aE⟩ b _ _ _ _ bL e5) ao
 ·rintro y6 vH aN ⟨e2,vv,rb⟩ ⟨eQ,C9,kB⟩ gb mG cL ha k2 a1 a7
  rcases gB y6 e2 vv with ⟨rfl,rfl⟩ | ⟨bG,g1⟩ <;> rcases gB vH eQ C9 with ⟨rfl,rfl⟩ | ⟨fz,bW⟩
  ·exact aN rfl
  ·exact h.ap _ _ aN aq ⟨eQ,bW,kB⟩ gb _ _ _ _ a1 a7
  ·exact h.ap _ _ aN ⟨e2,g1,rb⟩ aq gb _ _ _ _ a1 a7
  ·exact h.ap _ _ aN ⟨e2,g1,rb⟩ ⟨eQ,bW,kB⟩ gb _ _ _ _ a1 a7
end

section
variable {N : Nat} {w0 w w' : World} {H0 H H' : bl} {S : ak} {E : Env} {a : Act}

theorem bC.gi (h : bC N w0 H0 S E a w H) {i : Nat} {u : Value} {k : Nat} {ob : Option Nat} {x : aw} (aE : nx S i) (bL : E i = some (u,k,ob)) (ar : x.pure = true)
  (CB : ∀ e,x = .di e 0 → k = 0 ∧ ∃ fP,ob = some fP ∧ u = .pointer (some ⟨fP,0,none⟩))
  (aA : match ob with | none => cl H eD x u | some b => ∃ o,w.heap[b]? = some o ∧ cl (H.add b o) eD x u) : ∃ H',hk H H' ∧ bC N w0 H0 (S.eT i (.gi x)) E a w H' := by
 have gB : ∀ j o,an (S.eT i (.gi x)).O j = some o → (j = i ∧ o = .gi x) ∨ (i ≠ j ∧ an S.O j = some o) := fun j o aN => by
  simp only [ak.eT,mR] at aN
  split at aN
  ·rename_i e; cases aN; exact .inl ⟨e.symm,rfl⟩
  ·rename_i e; exact .inr ⟨e,aN⟩
 have pG : ∀ y6 vH,y6 ≠ vH → nx (S.eT i (.gi x)) y6 → nx (S.eT i (.gi x)) vH → ∀ b u k k5 dG,E y6 = some (u,k,some b) → E vH = some (k5,dG,some b) → False := by
  rintro y6 vH aN ⟨e2,vv,rb⟩ ⟨eQ,C9,kB⟩ b u k k5 dG a1 a7
  rcases gB y6 e2 vv with ⟨rfl,rfl⟩ | ⟨bG,g1⟩
  ·cases rb
  rcases gB vH eQ C9 with ⟨rfl,rfl⟩ | ⟨fz,bW⟩
  ·cases kB
  exact h.ap _ _ aN ⟨e2,g1,rb⟩ ⟨eQ,bW,kB⟩ b _ _ _ _ a1 a7
 cases ob with
 | none =>
  refine ⟨H,hk.refl _,h.grow,h.k4,fun j o aN => ?_,pG,h.c0,h.ju,h.jO⟩
  rcases gB j o aN with ⟨rfl,rfl⟩ | ⟨_,aN⟩
  ·exact ⟨u,k,none,bL,aA,ar,CB⟩
  ·exact h.ob j o aN
 | some b =>
  obtain ⟨o,ax,aA⟩ := aA
  obtain ⟨l1,l2,G2⟩ := h.xq aE bL
  have hle : hk H (H.add b o) := bl.x5 l2
  refine ⟨H.add b o,hle,h.grow.add ax l1,fun t y aV => (h.k4 t y aV).mono hle (fW.refl _),fun j o' aN => ?_,pG,h.c0,h.ju,h.jO⟩
  rcases gB j o' aN with ⟨rfl,rfl⟩ | ⟨dj,aN⟩
  ·exact ⟨u,k,some b,bL,aA,ar,CB⟩
  ·have dX := h.ob j o' aN
   have kh : o'.live = true → ∀ u k,E j ≠ some (u,k,some b) := fun lr k5 dG e5 => h.ap i j dj aE ⟨o',aN,lr⟩ b _ _ _ _ bL e5
   have CS : ∀ g,g ≠ b → H.add b o g = H g := fun g aJ => by unfold bl.add; rw [if_neg aJ]
   cases o' with
   | box t cs =>
    obtain ⟨gb,vs,af,aj,av,aY,bM,bN⟩ := dX
    exact ⟨gb,vs,af,aj,(CS gb (fun e => by subst e; exact kh rfl _ _ af)).trans av,aY,bM.mono hle (fW.refl _),bN⟩
   | row e dG es =>
    obtain ⟨k5,Hd,xs,af,az,aj,av⟩ := dX
    refine ⟨k5,Hd,xs,af,az,aj.mono hle,av.imp id ?_⟩
    rintro ⟨ku,cap,cur,bS,bH,bP,a4,fs⟩
    subst bS
    exact ⟨ku,cap,cur,rfl,bH,bP,(CS ku (fun e => by subst e; exact kh rfl _ _ af)).trans a4,fs⟩
   | map bd N f =>
    obtain ⟨gb,eQ,F,af,aj,av,aY,bM,bN,cJ,c9⟩ := dX
    exact ⟨gb,eQ,F,af,aj,(CS gb (fun e => by subst e; exact kh rfl _ _ af)).trans av,aY,bM,bN,cJ,fun j s u a b => (c9 j s u a b).mono hle (fW.refl _)⟩
   | iter f left hU cur =>
    obtain ⟨r,xx,af,aj,av,aY,bM,bN⟩ := dX
    exact ⟨r,xx,af,aj,(CS r (fun e => by subst e; exact kh rfl _ _ af)).trans av,aY,bM.le hle,fun j s e => (bN j s e).le hle⟩
   | gi y => obtain ⟨k5,dG,gb,af,aj,av,aY⟩ := dX; exact ⟨k5,dG,gb,af,aj.mono hle (fW.refl _),av,aY⟩
   | h2 e cs =>
    obtain ⟨gb,cap,cur,af,aj,av,aY,bM,bN,cJ⟩ := dX
    exact ⟨gb,cap,cur,af,aj,(CS gb (fun e => by subst e; exact kh rfl _ _ af)).trans av,aY,bM,bN.mono hle (fW.refl _),cJ⟩
   | cB J => exact ⟨dX.1,dX.2.2 _ _ _ _ hle (fW.refl _) dX.2.1,dX.2.2⟩

theorem bC.oi (h : bC N w0 H0 S E a w H) (i : Nat) : ∃ H',hk H H' ∧ bC N w0 H0 (S.oi i) E a w H' := by
 unfold ak.oi
 split
 ·rename_i e k es aJ
  obtain ⟨u,ob,xs,af,az,aj,av⟩ := h.ob _ _ aJ
  refine h.gi ⟨_,aJ,rfl⟩ af rfl (fun e he => by cases he) ?_
  rcases av with ⟨rfl,rfl,cm,rfl⟩ | ⟨g,cap,cur,rfl,rfl,bP,a4,fs,hD,k9,uN,fN,hn⟩
  ·cases aj
   exact .au .nil rfl (Nat.le_refl _) (Nat.zero_le _) ⟨fun _ => rfl,fun _ _ => rfl⟩ (fun _ => rfl) (fun j u hu => by simp at hu)
  ·refine ⟨_,fs,.au (aj.mono (bl.x5 a4)) rfl hD k9 ⟨(fun e => (by cases e)),fun _ h => uN (List.eq_nil_of_length_eq_zero h)⟩ (fun e => by cases e) (fun j u hu => ⟨g,0,cur,e,(0,0),rfl,bl.x4 _ _ _,?_⟩)⟩
   rw [← hn,List.getElem?_take] at hu
   split at hu
   ·simpa using hu
   ·cases hu
 ·rename_i bd M f aJ
  obtain ⟨b,o,F,af,aj,av,aY,bM,bN,cJ,c9⟩ := h.ob _ _ aJ
  refine h.gi ⟨_,aJ,rfl⟩ af rfl (fun e he => by cases he) ⟨o,aY,?_⟩
  exact .mp (bl.x4 _ _ _) bM bN cJ (fun j s u a b => (c9 j s u a b).mono (bl.x5 av) (fW.refl _))
 ·exact ⟨H,hk.refl _,h⟩
theorem bC.fv : ∀ (cs : List aw) {S : ak} {H : bl},bC N w0 H0 S E a w H → ∃ H',hk H H' ∧ bC N w0 H0 (S.fv cs) E a w H'
 | [],S,H,h => ⟨H,hk.refl _,h⟩
 | .own i :: l,S,H,h => by
  obtain ⟨H1,l1,af⟩ := h.oi i
  obtain ⟨kK,l2,aj⟩ := bC.fv l af
  exact ⟨kK,l1.trans l2,aj⟩
 | .v _ :: l,S,H,h => bC.fv l h
 | .agg _ :: l,S,H,h => bC.fv l h
 | .bY _ :: l,S,H,h => bC.fv l h
 | .au .. :: l,S,H,h => bC.fv l h
 | .mp .. :: l,S,H,h => bC.fv l h
 | .fn .. :: l,S,H,h => bC.fv l h
 | .ds .. :: l,S,H,h => bC.fv l h
 | .di .. :: l,S,H,h => bC.fv l h
 | .any :: l,S,H,h => bC.fv l h
 | .ptr .. :: l,S,H,h => bC.fv l h
theorem aer {S : ak} {i j : Nat} {t : TypeId} {cs : List aw} (h : an S.O j = some (.box t cs)) : an (S.oi i).O j = some (.box t cs) := by
 unfold ak.oi
 split
 ·rename_i aJ; simp only [ak.eT,mR]; rw [if_neg (fun e => by subst e; rw [h] at aJ; cases aJ)]; exact h
 ·rename_i aJ; simp only [ak.eT,mR]; rw [if_neg (fun e => by subst e; rw [h] at aJ; cases aJ)]; exact h
 ·exact h
theorem rU {j : Nat} {t : TypeId} {cs : List aw} : ∀ (l : List aw) {S : ak},an S.O j = some (.box t cs) → an (S.fv l).O j = some (.box t cs)
 | [],_,h => h
 | .own i :: l,S,h => rU l (aer h)
 | .v _ :: l,S,h => rU l h
 | .agg _ :: l,S,h => rU l h
 | .bY _ :: l,S,h => rU l h
 | .au .. :: l,S,h => rU l h
 | .mp .. :: l,S,h => rU l h
 | .fn .. :: l,S,h => rU l h
 | .ds .. :: l,S,h => rU l h
 | .di .. :: l,S,h => rU l h
 | .any :: l,S,h => rU l h
 | .ptr .. :: l,S,h => rU l h
theorem bC.yo (h : bC N w0 H0 S E a w H) (i : Nat) : ∃ H',hk H H' ∧ bC N w0 H0 (S.yo i) E a w H' := by
 unfold ak.yo
 split
 ·rename_i t cs aJ
  obtain ⟨H1,l1,af⟩ := h.fv cs
  have oX := rU cs aJ
  split
  ·rename_i ys aV
   obtain ⟨b,vs,a1,a7,ct,fb,iA,mi⟩ := af.ob _ _ oX
   obtain ⟨dI,dS,oG⟩ := I7 af.ob iA aV
   obtain ⟨kK,l2,aj⟩ := af.gi (x := .di ys 0) ⟨_,oX,rfl⟩ a1 rfl (fun e he => ⟨rfl,b,rfl,rfl⟩) ⟨_,fb,by
    have := cl.di (H := H1.add b (.cells vs.toArray t (0,0))) (E := eD) (off := 0) (b := b) (o := 0) (dI.mono (bl.x5 ct) (fW.refl _)) (oG mi) (fun j u hu => ⟨_,_,_,bl.x4 _ _ _,by simpa using hu⟩)
    simpa using this⟩
   exact ⟨kK,l1.trans l2,aj⟩
  ·exact ⟨H1,l1,af⟩
 ·exact ⟨H,hk.refl _,h⟩
theorem bC.jA (h : bC N w0 H0 S E a w H) (x : aw) : ∃ H',hk H H' ∧ bC N w0 H0 (S.jA x) E a w H' := by
 cases x with
 | own i => exact h.oi i
 | ptr i _ _ => exact h.yo i
 | agg cs => exact h.fv cs
 | _ => exact ⟨H,hk.refl _,h⟩
theorem bC.mQ : ∀ (l : List Operand) {S : ak} {H : bl},bC N w0 H0 S E a w H → ∃ H',hk H H' ∧ bC N w0 H0 (S.mQ l) E a w H'
 | [],S,H,h => ⟨H,hk.refl _,h⟩
 | x :: l,S,H,h => by
  unfold ak.mQ
  split
  ·rename_i s _
   obtain ⟨H1,l1,af⟩ := h.jA s
   obtain ⟨kK,l2,aj⟩ := bC.mQ l af
   exact ⟨kK,l1.trans l2,aj⟩
  ·exact bC.mQ l h

theorem eN.Tx {k : Nat} : ∀ (es : List (List aw)) (xs : List Value),xs.length = es.length * k →
  (∀ i e,es[i]? = some e → ∃ vs,vs.length = k ∧ dg H eD e vs ∧ e.all aw.one = true ∧ ∀ j u,vs[j]? = some u → xs[i * k + j]? = some u) → eN H k es xs
 | [],xs,aE,_ => by simp at aE; subst aE; exact .nil
 | e :: es,xs,aE,h => by
  simp only [List.length_cons,Nat.add_mul,Nat.one_mul] at aE
  obtain ⟨vs,af,aj,av,aY⟩ := h 0 e rfl
  have bj : xs.take k = vs := by
   apply List.ext_getElem?
   intro j
   rcases Nat.lt_or_ge j k with aN | aN
   ·have := aY j vs[j] (by simp)
    simp at this
    rw [List.getElem?_take,if_pos aN,this]; simp
   ·rw [List.getElem?_eq_none (by simp; omega),List.getElem?_eq_none (by omega)]
  have dW := eN.Tx (k := k) es (xs.drop k) (by simp [aE]) (fun i e5 he => by
   obtain ⟨l8,bS,bH,bP,a4⟩ := h (i + 1) e5 (by simpa using he)
   refine ⟨l8,bS,bH,bP,fun j u hu => ?_⟩
   have := a4 j u hu
   rw [List.getElem?_drop,← this]; congr 1; rw [Nat.add_mul]; omega)
  have fD : xs = vs ++ xs.drop k := by rw [← bj,List.take_append_drop]
  rw [fD]
  exact .cons aj af av dW
end

theorem get_eq {α : Type} {l : List α} {i j : Nat} (h : i = j) : l[i]? = l[j]? := by rw [h]

def Told (N : Nat) (w0 : World) (H0 : bl) (o : Oper) (K : ak → Prop) (a : Act) (w : World) : Prop :=
 o.wp Tryz.prog a w (fun dN w' => ∃ S' E' H',K S' ∧ bC N w0 H0 S' E' dN w' H') Bp

section
variable {N : Nat} {w0 w w' : World} {H0 H H' : bl} {S : ak} {E : Env} {a : Act} {o : Oper} {K : ak → Prop}

theorem ame (aO : bC N w0 H0 S E a w H) (a6 : ∀ t,o.dst = some t → t < N) {xs s} (aJ : Good o S E xs s) (az : K (S.b3 o.dst s)) : Told N w0 H0 o K a w := by
 refine Oper.Ep ?_ (aJ w0.heap.size a w H aO.sub aO.ob (aO.cX xs))
 rintro dN w' ⟨v,H',rfl,g,r⟩
 exact ⟨_,E,H',az,(aO.grown g).put r a6⟩

theorem Xu (aO : bC N w0 H0 S E a w H) (a6 : ∀ t,o.dst = some t → t < N) {t : TypeId} {cs : List aw} {vs : List Value} (aB : dg H E cs vs) (af : cs.all aw.one = true)
  (he : (execOp a.eval o).run Tryz.prog w = .ok (.value (.pointer (some ⟨w.heap.size,0,none⟩))) (w.alloc (.cells vs.toArray t))) (az : K ((S.fT (.box t cs)).b3 o.dst (.ptr S.n 0 0))) : Told N w0 H0 o K a w := by
 obtain ⟨E',e6⟩ := aO.aiM aB af a6
 unfold Told Oper.wp
 rw [he]
 exact ⟨_,E',H,az,e6⟩

theorem alS (aO : bC N w0 H0 S E a w H) (a6 : ∀ t,o.dst = some t → t < N) {t i z} {dE : List ej} (ax : o.op = .alloc t) (aq : Tryz.prog.info? t = some i) (bR : i.zero = some z) (hO : z.cells.toList = dE.map ej.val)
  (az : K ((S.fT (.box t (dE.map ej.ia))).b3 o.dst (.ptr S.n 0 0))) : Told N w0 H0 o K a w := by
 refine Xu aO a6 (zR H E dE) (Bf dE) ?_ az
 have e : (dE.map ej.val).toArray = z.cells := by rw [← hO]
 rw [e]
 simp [execOp,ax,Instr.alloc,zu aq bR,newVar,newRow]

theorem alV (aO : bC N w0 H0 S E a w H) (a6 : ∀ t,o.dst = some t → t < N) {t x s} (ax : o.op = .box t x) (ar : S.bg x = some s) (af : s.cells.all aw.one = true)
  (az : K ((S.fT (.box t s.cells)).b3 o.dst (.ptr S.n 0 0))) : Told N w0 H0 o K a w := by
 refine Xu aO a6 (z5 (aO.cX [x] x (by simp) s ar) af) af ?_ az
 simp [execOp,ax,Instr.box,newVar,newRow]

theorem H7 (he : (execOp a.eval o).run Tryz.prog w = .ok .skip w') (a6 : o.dst = none) {S' : ak} {E' : Env} {H' : bl} (dY : bC N w0 H0 S' E' a w' H') (az : K S') : Told N w0 H0 o K a w := by
 unfold Told Oper.wp
 rw [he,Oper.upon_skip,a6]
 exact ⟨S',E',H',az,dY⟩

theorem amb (aO : bC N w0 H0 S E a w H) (a6 : o.dst = none) {t gn x y i idx off v t' cs} (ax : o.op = .store t x y) (aq : Tryz.prog.info? t = some gn) (ar : S.bg x = some (.ptr i idx off)) (aV : S.bg y = some v)
  (aJ : an S.O i = some (.box t' cs)) (aE : v.cells.length = gn.size) (af : v.cells.all aw.one = true) (aI : off + gn.size ≤ cs.length)
  (az : K (S.eT i (.box t' (cs.take off ++ v.cells ++ cs.drop (off + gn.size))))) : Told N w0 H0 o K a w := by
 have cC := aO.cX [x] x (by simp) _ ar
 have ik := aO.cX [y] y (by simp) _ aV
 generalize hN : a.eval x = jZ at cC
 generalize iR : a.eval y = hv at ik
 cases cC with
 | ptr bL =>
  rename_i k5 dG b
  obtain ⟨gb,vs,a1,a7,ct,fb,iA,mi⟩ := aO.ob _ _ aJ
  rw [bL] at a1; cases a1
  have hC := z5 ik af
  have gP := hC.length
  have Sv := iA.length
  rw [aE] at gP
  simp only [Array.length_toList] at gP
  have w2 : j3 w b vs.toArray t' := fb
  have da := Nn (P := Tryz.prog) t b vs.toArray t' w2 hv off (by rw [aq]; simp [gP]) (by simp; omega) (fun u hu => hC.one af u hu)
  have hp : uL w b (vs.take off ++ hv.cells.toList ++ vs.drop (off + hv.cells.size)).toArray t' (w.setRow b (vs.take off ++ hv.cells.toList ++ vs.drop (off + hv.cells.size)).toArray) := Ht w2
  have kf := aO.p2 (o' := .box t' (cs.take off ++ v.cells ++ cs.drop (off + gn.size))) ⟨_,aJ,rfl⟩ bL (fun k _ az => hp.same k az) (by rw [hp.size]; exact Nat.le_refl _) hp.os hp.tape hp.output
   ⟨b,vs.take off ++ hv.cells.toList ++ vs.drop (off + hv.cells.size),bL,a7,ct,hp.box,((iA.take off).append hC).append (by rw [gP]; exact iA.drop _),I5 mi af⟩ rfl
  refine H7 ?_ a6 kf az
  simp only [List.toList_toArray] at da
  simp [execOp,ax,hN,iR,da]

theorem amd (aO : bC N w0 H0 S E a w H) (a6 : o.dst = none) {t gn x y i idx off v e cs} (ax : o.op = .store t x y) (aq : Tryz.prog.info? t = some gn) (ar : S.bg x = some (.ptr i idx off)) (aV : S.bg y = some v)
  (aJ : an S.O i = some (.h2 e cs)) (hi : gn.size = 1) (af : v.one = true) (aI : idx + off < cs.length)
  (az : K (S.eT i (.h2 e (cs.set (idx + off) v)))) : Told N w0 H0 o K a w := by
 have cC := aO.cX [x] x (by simp) _ ar
 have ik := aO.cX [y] y (by simp) _ aV
 generalize hN : a.eval x = jZ at cC
 generalize iR : a.eval y = hv at ik
 cases cC with
 | ptr bL =>
  rename_i k5 dG b
  obtain ⟨gb,cap,cur,a1,a7,ct,fb,iA,mi,qe⟩ := aO.ob _ _ aJ
  rw [bL] at a1; cases a1
  have vv := ik.Hm af
  have GA : hv.cells = #[hv] := by cases hv <;> simp_all [Value.cells,Value.oneCell']
  have w2 : j3 w b cur e := fb
  have da := Nn (P := Tryz.prog) t b cur e w2 hv (idx + off) (by rw [aq]; simp [GA,hi]) (by rw [GA]; simp; omega) (fun u hu => by rw [GA] at hu; simp at hu; subst hu; exact vv)
  rw [GA] at da
  have De : (cur.toList.take (idx + off) ++ [hv] ++ cur.toList.drop (idx + off + 1)) = cur.toList.set (idx + off) hv := by
   rw [List.set_eq_take_append_cons_drop,if_pos (by simp; omega)]; simp
  simp only [List.toList_toArray,List.size_toArray,List.length_cons,List.length_nil,Nat.zero_add,De] at da
  have hp : uL w b (cur.toList.set (idx + off) hv).toArray e (w.setRow b (cur.toList.set (idx + off) hv).toArray) := Ht w2
  have kf := aO.p2 (o' := .h2 e (cs.set (idx + off) v)) ⟨_,aJ,rfl⟩ bL (fun k _ az => hp.same k az) (by rw [hp.size]; exact Nat.le_refl _) hp.os hp.tape hp.output
   ⟨b,cap,(cur.toList.set (idx + off) hv).toArray,by rw [List.length_set]; exact bL,a7,ct,hp.box,by rw [List.length_set]; simpa using iA,by
    rw [List.length_set]
    simp only [List.toList_toArray]
    rw [List.take_set]
    exact mi.set ik _,by
    rw [List.all_eq_true] at qe ⊢
    intro z bR
    rcases List.mem_or_eq_of_mem_set bR with bR | rfl
    ·exact qe z bR
    ·exact af⟩ rfl
  refine H7 ?_ a6 kf az
  simp only [Nat.mul_one] at hN
  simp [execOp,ax,hN,iR,da]

theorem amc (aO : bC N w0 H0 S E a w H) (a6 : o.dst = none) {t gn x y i idx off v hb e dz es c} (ax : o.op = .store t x y) (aq : Tryz.prog.info? t = some gn) (ar : a.eval x = a.eval x) (cC : cl H E (.ptr i idx off) (a.eval x)) (ik : cl H E v (a.eval y)) (bj : S.arg v = some hb)
  (aJ : an S.O i = some (.row e dz es)) (aE : hb.cells.length = gn.size) (af : hb.cells.all aw.one = true) (hp : hb.cells.all aw.pure = true) (aB : es[idx]? = some c) (aI : off + gn.size ≤ c.length)
  (az : K (S.eT i (.row e dz (es.set idx (c.take off ++ hb.cells ++ c.drop (off + gn.size)))))) : Told N w0 H0 o K a w := by
 have q5 := Bz aO.ob ik bj
 generalize hN : a.eval x = jZ at cC
 generalize iR : a.eval y = hv at q5
 have hC := z5 q5 af
 have gP := hC.length
 rw [aE] at gP
 simp only [Array.length_toList] at gP
 cases cC with
 | ptr bL =>
  rename_i k5 dG g
  obtain ⟨u,ob,xs,a1,Gr,a7,ct⟩ := aO.ob _ _ aJ
  rw [bL] at a1; cases a1
  rcases ct with ⟨rfl,_⟩ | ⟨ku,cap,cur,bS,rfl,bP,a4,fs,hD,k9,uN,fN,hn⟩
  ·simp at aB
  cases bS
  have CH := (List.getElem?_eq_some_iff.1 aB).1
  obtain ⟨vs,cd,c2,eu,fR⟩ := a7.get aB
  have Sv := c2.length
  have hm : (idx + 1) * dz ≤ es.length * dz := Nat.mul_le_mul_right dz CH
  have yJ : es.length * dz ≤ cap * dz := Nat.mul_le_mul_right dz hD
  rw [Nat.add_mul,Nat.one_mul] at hm
  have w2 : j3 w g cur e := fs
  have da := Nn (P := Tryz.prog) t g cur e w2 hv (idx * dz + off) (by rw [aq]; simp [gP]) (by omega) (fun u hu => hC.one af u hu)
  obtain ⟨pv,Gi⟩ : ∃ pv,pv = (cur.toList.take (idx * dz + off) ++ hv.cells.toList ++ cur.toList.drop (idx * dz + off + hv.cells.size)) := ⟨_,rfl⟩
  rw [← Gi] at da
  have mz : uL w g pv.toArray e (w.setRow g pv.toArray) := Ht w2
  have hlen : pv.length = cur.size := by rw [Gi]; simp; omega
  have Gv : dg H eD (c.take off ++ hb.cells ++ c.drop (off + gn.size)) (vs.take off ++ hv.cells.toList ++ vs.drop (off + gn.size)) :=
   ((c2.take off).append (hC.pure eD hp)).append (c2.drop _)
  have kf := aO.p2 (o' := .row e dz (es.set idx (c.take off ++ hb.cells ++ c.drop (off + gn.size)))) ⟨_,aJ,rfl⟩ bL (fun k _ az => mz.same k az) (by rw [mz.size]; exact Nat.le_refl _) mz.os mz.tape mz.output
   ⟨_,some g,pv.take (es.length * dz),bL,Gr,eN.Tx _ _ (by rw [List.length_take,hlen,List.length_set,fN]; exact Nat.min_eq_left yJ) (fun j e5 vc => ?_),.inr ⟨g,cap,pv.toArray,rfl,by simp,bP,a4,mz.box,by simpa using hD,k9,fun e => uN (by simpa using e),by simp [hlen,fN],by simp⟩⟩ rfl
  ·refine H7 ?_ a6 kf az
   simp [execOp,ax,hN,iR,da]
  ·have yC : j < es.length := by have := (List.getElem?_eq_some_iff.1 vc).1; simpa using this
   have agw : (j + 1) * dz ≤ es.length * dz := Nat.mul_le_mul_right dz yC
   rw [Nat.add_mul,Nat.one_mul] at agw
   by_cases pJ : idx = j
   ·subst pJ
    rw [List.getElem?_set_self CH] at vc
    cases vc
    refine ⟨_,by simp; omega,Gv,I5 eu af,fun q XH aT => ?_⟩
    have GB := (List.getElem?_eq_some_iff.1 aT).1
    simp at GB
    rw [List.getElem?_take,if_pos (by omega),Gi]
    have hold : ∀ AR,AR < dz → cur.toList[idx * dz + AR]? = vs[AR]? := fun AR Sn => by
     have := fR AR vs[AR] (by simp)
     rw [← hn,List.getElem?_take,if_pos (by omega)] at this
     rw [this]; simp
    rcases Nat.lt_or_ge q off with e6 | e6
    ·rw [List.append_assoc,List.getElem?_append_left (by simp; omega),List.getElem?_take,if_pos (by omega),hold q (by omega)]
     rw [List.append_assoc,List.getElem?_append_left (by simp; omega),List.getElem?_take,if_pos e6] at aT
     exact aT
    rcases Nat.lt_or_ge q (off + gn.size) with aj | aj
    ·rw [List.append_assoc,List.getElem?_append_right (by simp; omega),List.getElem?_append_left (by simp; omega)]
     rw [List.append_assoc,List.getElem?_append_right (by simp; omega),List.getElem?_append_left (by simp; omega)] at aT
     rw [← aT]; exact get_eq (by simp; omega)
    ·rw [List.getElem?_append_right (by simp; omega),List.getElem?_drop]
     rw [List.getElem?_append_right (by simp; omega),List.getElem?_drop] at aT
     have fE : idx * dz + off + hv.cells.size + (idx * dz + q - (cur.toList.take (idx * dz + off) ++ hv.cells.toList).length) = idx * dz + q := by simp; omega
     rw [fE,hold q (by omega),← aT]
     exact get_eq (by simp; omega)
   ·rw [List.getElem?_set_ne pJ] at vc
    obtain ⟨l8,d1,d2,d3,d4⟩ := a7.get vc
    refine ⟨l8,d1,d2,d3,fun q XH aT => ?_⟩
    have GB := (List.getElem?_eq_some_iff.1 aT).1
    have RU := d4 q XH aT
    rw [← hn,List.getElem?_take,if_pos (by omega)] at RU
    rw [List.getElem?_take,if_pos (by omega),Gi,← RU]
    rcases Nat.lt_or_ge j idx with bQ | R5
    ·have := Nat.mul_le_mul_right dz (show j + 1 ≤ idx from bQ)
     rw [Nat.add_mul,Nat.one_mul] at this
     rw [List.append_assoc,List.getElem?_append_left (by simp; omega),List.getElem?_take,if_pos (by omega)]
    ·have := Nat.mul_le_mul_right dz (show idx + 1 ≤ j by omega)
     rw [Nat.add_mul,Nat.one_mul] at this
     rw [List.getElem?_append_right (by simp; omega),List.getElem?_drop]
     exact get_eq (by simp; omega)
end

section
variable {N : Nat} {w0 w w' : World} {H0 H H' : bl} {S : ak} {E : Env} {a : Act} {o : Oper} {K : ak → Prop}

theorem bC.by (h : bC N w0 H0 S E a w H) {row : Option Nat} (g : w.grownBy w' row) (qp : ∀ b,row = some b → w0.heap.size ≤ b ∧ H b = none ∧ ∀ j u k,nx S j → E j ≠ some (u,k,some b)) : bC N w0 H0 S E a w' H := by
 have az : ∀ k,k < w.heap.size → (∀ b,row = some b → k ≠ b) → w'.heap[k]? = w.heap[k]? := fun k az a9 => g.block k az (fun e => a9 k e.symm rfl)
 refine ⟨⟨⟨g.os.trans h.grow.below.os,g.tape.trans h.grow.below.tape,g.output.trans h.grow.below.output,Nat.le_trans h.grow.below.size g.size,fun k jn => ?_⟩,⟨fun k o jn => ?_,h.grow.sub.rW⟩,h.grow.old⟩,h.k4,fun j o aN => ?_,h.ap,h.c0,h.ju,h.jO⟩
 ·exact (az k (Nat.lt_of_lt_of_le jn h.grow.below.size) (fun b aI e => by have := (qp b aI).1; omega)).trans (h.grow.below.block k jn)
 ·exact (az k (h.sub.lt jn) (fun b aI e => by subst e; rw [(qp k aI).2.1] at jn; cases jn)).trans (h.sub k o jn)
 ·cases row with
  | none => exact (h.ob j o aN).e1 (b := w.heap.size) (fun aE u k e => absurd (h.xq ⟨o,aN,aE⟩ e).2.2 (by omega)) (fun k jn _ => az k jn (fun b aI => by cases aI))
  | some b => exact (h.ob j o aN).e1 (b := b) (fun aE u k => (qp b rfl).2.2 j u k ⟨o,aN,aE⟩) (fun k jn dj => az k jn (fun gb aI => by cases aI; exact dj))

theorem vX (aO : bC N w0 H0 S E a w H) (a6 : ∀ t,o.dst = some t → t < N) {ob : bo} {p : Value × Nat × Option Nat} {row : Option Nat} (he : (execOp a.eval o).run Tryz.prog w = .ok (.value p.1) w')
  (g : w.grownBy w' row) (qp : ∀ b,row = some b → w0.heap.size ≤ b ∧ H b = none ∧ ∀ j u k,nx S j → E j ≠ some (u,k,some b)) (ax : qP w0.heap.size H (E.set S.n p) w' S.n ob) (af : p.1.oneCell' = true)
  (aI : ∀ b,p.2.2 = some b → w.heap.size ≤ b ∨ row = some b) (az : K ((S.fT ob).b3 o.dst (.own S.n))) : Told N w0 H0 o K a w := by
 have e6 := aO.by g qp
 have dy := e6.new ax (fun b jQ i aE u k bL => by
  rcases aI b jQ with h | h
  ·exact absurd (aO.xq aE bL).2.2 (by omega)
  ·exact (qp b h).2.2 i u k aE bL)
 unfold Told Oper.wp
 rw [he]
 exact ⟨_,_,H,az,dy.put (.own (Env.iU _ _ p) af) a6⟩

theorem al7 (aO : bC N w0 H0 S E a w H) (a6 : ∀ t,o.dst = some t → t < N) {t e i z n m fq} {dE : List ej} (ax : o.op = .makeSlice t n n) (hu : Tryz.prog.underlying t = some (.slice e)) (aq : Tryz.prog.info? e = some i) (bR : i.zero = some z) (hO : z.cells.toList = dE.map ej.val) (hi : z.cells.size = i.size) (fK : 0 < i.size)
  (a9 : S.bg n = some (.v (.int fq m))) (ba : 0 ≤ m) (u6 : m ≤ 1000000) (aI : m.toNat * i.bytes ≤ 140737488355328) (az : K ((S.fT (.row e i.size (List.replicate m.toNat (dE.map ej.ia)))).b3 o.dst (.own S.n))) : Told N w0 H0 o K a w := by
 have bf := aO.cX [n] n (by simp) _ a9
 generalize aT : a.eval n = q at bf
 cases bf
 obtain ⟨M,rfl⟩ := Int.eq_ofNat_of_zero_le ba
 simp only [Int.toNat_natCast] at aI az
 have da := UH (P := Tryz.prog) w t e i z i.size hu aq bR rfl fq fq M (by omega) aI
 refine vX aO a6 (ob := .row e i.size (List.replicate M (dE.map ej.ia))) (p := (.slice (some ⟨w.heap.size,0,none⟩) M M,i.size,some w.heap.size)) (row := none) (w' := w.alloc (.cells ((Array.range (M * i.size)).map (fun j => z.cells[j % z.cells.size]!)) e)) (by simp [execOp,ax,aT,da]) ⟨rfl,rfl,rfl,by simp,fun k az _ => Below.heap_alloc w _ k az⟩ (fun b aI => by cases aI)
  ⟨_,some w.heap.size,_,Env.iU _ _ _,fK,X4 (n := M) hO hi fK,.inr ⟨w.heap.size,M,_,rfl,by simp,aO.grow.below.size,aO.sub.none (Nat.le_refl _),heap_alloc_new w _,by simp,by unfold maxLen; omega,fun e => (by simpa using e),by simp,by rw [List.length_replicate,List.take_of_length_le (by simp)]⟩⟩ rfl (fun b aI => by cases aI; exact .inl (Nat.le_refl _)) az

theorem alU (aO : bC N w0 H0 S E a w H) (a6 : ∀ t,o.dst = some t → t < N) {t e i z parts xs es} (ax : o.op = .buildSlice t xs.length parts) (hu : Tryz.prog.underlying t = some (.slice e)) (aq : Tryz.prog.info? e = some i) (bR : i.zero = some z) (hO : z.cells.size = i.size) (fK : 0 < i.size)
  (hp : parts.toList = idxs 0 xs) (aE : xs.length * i.size ≤ 16777216) (he : S.elems i.size xs = some es) (az : K ((S.fT (.row e i.size es)).b3 o.dst (.own S.n))) : Told N w0 H0 o K a w := by
 obtain ⟨out,da,bf,a9⟩ := ak3 ax hu aq bR hO fK hp aE he aO.ob (aO.cX xs)
 have hi : out.size = xs.length * i.size := by have := bf.length; rw [a9] at this; simpa using this
 have ar : xs.length ≤ 16777216 := by have := Nat.le_mul_of_pos_right xs.length fK; omega
 refine vX aO a6 (ob := .row e i.size es) (p := (.slice (some ⟨w.heap.size,0,none⟩) xs.length xs.length,i.size,some w.heap.size)) (row := none) (w' := w.alloc (.cells out e)) da ⟨rfl,rfl,rfl,by simp,fun k az _ => Below.heap_alloc w _ k az⟩ (fun b aI => by cases aI)
  ⟨_,some w.heap.size,out.toList,Env.iU _ _ _,fK,bf,.inr ⟨w.heap.size,xs.length,out,rfl,by rw [a9],aO.grow.below.size,aO.sub.none (Nat.le_refl _),heap_alloc_new w _,by omega,by unfold maxLen; omega,fun fE => by rw [fE] at a9; simpa using a9.symm,hi,by rw [a9,List.take_of_length_le (by simp [hi])]⟩⟩ rfl (fun b aI => by cases aI; exact .inl (Nat.le_refl _)) az

theorem al6 (aO : bC N w0 H0 S E a w H) (a6 : ∀ t,o.dst = some t → t < N) {t bd : TypeId} (ax : o.op = .makeMap t none) (az : K ((S.fT (.map bd 0 fun _ => none)).b3 o.dst (.own S.n))) : Told N w0 H0 o K a w :=
 vX aO a6 (ob := .map bd 0 fun _ => none) (p := (.map (some w.heap.size),0,some w.heap.size)) (row := none) (w' := w.alloc (.map #[] 0)) (by simp [execOp,ax,run_makeMap]) ⟨rfl,rfl,rfl,by simp,fun k az _ => Below.heap_alloc w _ k az⟩ (fun b aI => by cases aI)
  ⟨_,.map #[] 0,fun _ => none,Env.iU _ _ _,aO.grow.below.size,aO.sub.none (Nat.le_refl _),heap_alloc_new w _,h4.made,by omega,fun j => by simp,fun j s u h => by cases h⟩ rfl (fun b aI => by cases aI; exact .inl (Nat.le_refl _)) az

theorem DP {B : Nat} {e : TypeId} {k n : Nat} {v : Value} {xs : List Value} {es : List (List aw)} (h : w.ownsRow B e k v n xs) (aA : eN H k es xs) (a9 : es.length = n) (fK : 0 < n) :
  ∃ g cap cur,v = .slice (some ⟨g,0,none⟩) es.length cap ∧ B ≤ g ∧ w.heap[g]? = some (.cells cur e (0,0)) ∧ es.length ≤ cap ∧ cap ≤ maxLen ∧ cur.size = cap * k ∧ cur.toList.take (es.length * k) = xs := by
 subst a9
 rcases h.2 with ⟨_,ba⟩ | ⟨g,cap,cur,af,aj,av,aY,bM,bN,cJ⟩
 ·omega
 ·exact ⟨g,cap,cur,af,aj,av,aY,bM,bN,cJ⟩

theorem Xt (aO : bC N w0 H0 S E a w H) (a6 : ∀ t,o.dst = some t → t < N) {t e i z x y es ys k2 f2} (ax : o.op = .call ⟨.builtin .append,#[x,y],#[t,t]⟩) (aL : Tryz.prog.underlying t = some (.slice e)) (aq : Tryz.prog.info? e = some i) (bR : i.zero = some z) (hO : z.cells.size = i.size) (fK : 0 < i.size)
  {g1 : Nat} (cC : cl H E (.au i.size g1 es) (a.eval x)) (oX : g1 = 1 ∨ (g1 = 0 ∧ es = [])) (aV : S.bg y = some (.au k2 f2 ys)) (aH : k2 = i.size) (hm : es = [] ∨ 0 < ys.length) (dh : es.length + ys.length ≤ 140737488355328) (dv : (es.length + ys.length) * i.bytes ≤ 140737488355328)
  (az : K ((S.fT (.row e i.size (es ++ ys))).b3 o.dst (.own S.n))) : Told N w0 H0 o K a w := by
 subst aH
 have ik := aO.cX [y] y (by simp) _ aV
 generalize hN : a.eval x = jZ at cC
 generalize iR : a.eval y = hv at ik
 obtain ⟨bS,n,c,rfl⟩ : ∃ a n c,jZ = .slice a n c := by cases cC; exact ⟨_,_,_,rfl⟩
 obtain ⟨bH,m,c2,rfl⟩ : ∃ a n c,hv = .slice a n c := by cases ik; exact ⟨_,_,_,rfl⟩
 obtain ⟨us,eR,fi,fZ,_,o8,jE,gW⟩ := sj aO.sub cC
 obtain ⟨vs,bJ,cf,dA,_,fr,jY,l4⟩ := sj aO.sub ik
 subst fi; subst cf
 by_cases ba : 0 < ys.length
 ·cases bH with
  | none => have := jY rfl; omega
  | some cm =>
   have kT : es.length + ys.length ≤ maxLen := by unfold maxLen; omega
   obtain ⟨hb,w',da,dI,dS⟩ := Nk (P := Tryz.prog) (w := w) (k := i.size) t o.type e i z aL aq bR hO fK (c2 := c2) eR.length eR.one (o8.full oX) jE gW bJ.length bJ.one (l4 cm rfl) ba kT dv
   obtain ⟨g,cap,cur,rfl,s2,tt,tu,tv,ur,tw⟩ := DP dI (eR.append bJ) (by simp) (by omega)
   refine vX aO a6 (ob := .row e i.size (es ++ ys)) (p := (.slice (some ⟨g,0,none⟩) (es ++ ys).length cap,i.size,some g)) (row := none) (w' := w') (by simp [execOp,ax,resolve,hN,iR,invoke,builtin,da]) dS (fun b aI => by cases aI)
    ⟨_,some g,_,Env.iU _ _ _,fK,eR.append bJ,.inr ⟨g,cap,cur,rfl,rfl,Nat.le_trans aO.grow.below.size s2,aO.sub.none s2,tt,tu,tv,fun e => absurd (List.append_eq_nil_iff.1 e).2 (fun e => by simp [e] at ba),ur,tw⟩⟩ rfl (fun b aI => by cases aI; exact .inl s2) az
 ·have he : es = [] := hm.resolve_right ba
  have o3 : ys = [] := List.eq_nil_of_length_eq_zero (by omega)
  subst he; subst o3
  have aB := o8.full oX
  simp only [List.length_nil] at aB hN iR
  subst aB
  have da : (Builtin.append_ #[t,t] o.type #[.slice bS 0 0,.slice bH 0 c2]).run Tryz.prog w = .ok (.slice bS 0 0) w := by
   have aE : ∀ (x : Addr),(loadCells x 0).run Tryz.prog w = .ok #[] w := fun x => by simpa using run_loadCells_list (P := Tryz.prog) w x [] (by simp)
   cases bS <;> cases bH <;> simp [Builtin.append_,run_underlying aL,run_sizeOf aq,Builtin.lenOf,Builtin.firstCells,aE,storeCells]
  refine vX aO a6 (ob := .row e i.size []) (p := (.slice bS 0 0,i.size,none)) (row := none) (w' := w) (by simp [execOp,ax,resolve,hN,iR,invoke,builtin,da]) ⟨rfl,rfl,rfl,Nat.le_refl _,fun k az _ => rfl⟩ (fun b aI => by cases aI)
   ⟨_,none,[],Env.iU _ _ _,fK,.nil,.inl ⟨rfl,rfl,bS,rfl⟩⟩ rfl (fun b aI => by cases aI) (by simpa using az)

theorem J4 {α : Type} {l : List (Nat × α)} {i j : Nat} {x : α} (h : an (ef l i) j = some x) : an l j = some x ∧ i ≠ j := sP h

theorem alT (aO : bC N w0 H0 S E a w H) (a6 : ∀ t,o.dst = some t → t < N) {t e i z x y gm es ys k2 f2} (ax : o.op = .call ⟨.builtin .append,#[x,y],#[t,t]⟩) (aL : Tryz.prog.underlying t = some (.slice e)) (aq : Tryz.prog.info? e = some i) (bR : i.zero = some z) (hO : z.cells.size = i.size) (fK : 0 < i.size)
  (ar : S.bg x = some (.own gm)) (aJ : an S.O gm = some (.row e i.size es)) (aV : S.bg y = some (.au k2 f2 ys)) (aH : k2 = i.size) (dh : es.length + ys.length ≤ 140737488355328) (dv : (es.length + ys.length) * i.bytes ≤ 140737488355328)
  (az : K ((ak.fT ⟨S.T,ef S.O gm,S.n⟩ (.row e i.size (es ++ ys))).b3 o.dst (.own S.n))) : Told N w0 H0 o K a w := by
 have cC := aO.cX [x] x (by simp) _ ar
 have fS : bC N w0 H0 ⟨S.T,ef S.O gm,S.n⟩ E a w H := aO.less (fun _ _ h => h) (fun i o h => (J4 h).1) rfl
 obtain ⟨u,ob,xs,a1,Gr,a7,ct⟩ := aO.ob _ _ aJ
 have mn : a.eval x = u := by
  generalize a.eval x = jZ at cC
  cases cC with
  | own bL _ => rw [bL] at a1; cases a1; rfl
 rcases ct with ⟨rfl,rfl,cm,rfl⟩ | ⟨g,cap,cur,rfl,rfl,bP,a4,fs,hD,k9,uN,fN,hn⟩
 ·refine Xt (es := []) (g1 := 1) fS a6 ax aL aq bR hO fK ?_ (.inl rfl) (S := ⟨S.T,ef S.O gm,S.n⟩) (y := y) (ys := ys) (k2 := k2) (f2 := f2) ?_ aH (.inl rfl) dh dv az
  ·rw [mn]; exact .au .nil rfl (Nat.le_refl _) (Nat.zero_le _) ⟨fun _ => rfl,fun _ _ => rfl⟩ (fun _ => rfl) (fun j u hu => by simp at hu)
  ·revert aV
   cases y with
   | tmp ty =>
    simp only [ak.bg,Option.map_eq_some_iff]
    rintro ⟨l5,af,aj⟩
    refine ⟨l5,af,?_⟩
    revert aj
    cases l5 <;> simp only [ak.res] <;> intro aj
    case own j =>
     split at aj
     ·rename_i arJ aN
      subst aj
      by_cases pJ : gm = j
      ·subst pJ; rw [aJ] at aN; cases aN
      ·rw [wV _ pJ,aN]
     ·cases aj
    case ptr j idx off => split at aj <;> cases aj
    all_goals exact aj
   | const v => intro h; exact h
   | func f => intro h; exact h
   | global g => intro h; exact h
 ·subst aH
  have ik := aO.cX [y] y (by simp) _ aV
  generalize iR : a.eval y = hv at ik
  obtain ⟨bH,m,c2,rfl⟩ : ∃ a n c,hv = .slice a n c := by cases ik; exact ⟨_,_,_,rfl⟩
  obtain ⟨vs,bJ,cf,dA,_,fr,jY,l4⟩ := sj aO.sub ik
  subst cf
  have jc : ∀ j u k,nx (⟨S.T,ef S.O gm,S.n⟩ : ak) j → E j ≠ some (u,k,some g) := by
   rintro j u k ⟨o',aN,aE⟩ he
   obtain ⟨aN,dj⟩ := J4 aN
   exact aO.ap gm j dj ⟨_,aJ,rfl⟩ ⟨o',aN,aE⟩ g _ _ _ _ a1 he
  have kT : es.length + ys.length ≤ maxLen := by unfold maxLen; omega
  have r5 := a7.append bJ
  have mB := a7.length
  have s6 := bJ.length
  have a9 : ∀ hm : 0 < es.length + ys.length,∀ (hb : Value) (w' : World) (row : Option Nat),(Builtin.append_ #[t,t] o.type #[.slice (some ⟨g,0,none⟩) es.length cap,.slice bH ys.length c2]).run Tryz.prog w = .ok hb w' → w.grownBy w' row → (row = none ∨ row = some g) →
    (∃ ku tM pv,hb = .slice (some ⟨ku,0,none⟩) (es ++ ys).length tM ∧ w0.heap.size ≤ ku ∧ H ku = none ∧ (w.heap.size ≤ ku ∨ row = some ku) ∧ w'.heap[ku]? = some (.cells pv e (0,0)) ∧ (es ++ ys).length ≤ tM ∧ tM ≤ maxLen ∧ (es ++ ys = [] → tM = 0) ∧ pv.size = tM * i.size ∧ pv.toList.take ((es ++ ys).length * i.size) = xs ++ vs) → Told N w0 H0 o K a w := by
   rintro _ hb w' row da J5 qp ⟨ku,tM,pv,rfl,s2,ak7,ak8,tt,tu,tv,ak9,ur,tw⟩
   refine vX fS a6 (ob := .row e i.size (es ++ ys)) (p := (.slice (some ⟨ku,0,none⟩) (es ++ ys).length tM,i.size,some ku)) (row := row) (w' := w') (by simp [execOp,ax,resolve,mn,iR,invoke,builtin,da]) J5 (fun b aI => ?_)
    ⟨_,some ku,_,Env.iU _ _ _,fK,r5,.inr ⟨ku,tM,pv,rfl,rfl,s2,ak7,tt,tu,tv,ak9,ur,tw⟩⟩ rfl (fun b aI => by cases aI; exact ak8) az
   rcases qp with rfl | rfl
   ·cases aI
   ·cases aI; exact ⟨bP,a4,jc⟩
  have hlen : (es ++ ys).length = es.length + ys.length := by simp
  by_cases ba : 0 < ys.length
  ·cases bH with
   | none => have := jY rfl; omega
   | some cm =>
    by_cases Sp : es.length + ys.length ≤ cap
    ·have KM : es.length * i.size + vs.length ≤ cur.size := by rw [s6,fN,← Nat.add_mul]; exact Nat.mul_le_mul_right _ Sp
     have aA := run_append_room (P := Tryz.prog) w t o.type e i aL aq g es.length cap cur fs cm ys.length c2 vs s6 (l4 cm rfl) bJ.one Sp KM
     refine a9 (by omega) _ _ (some g) aA ⟨rfl,rfl,rfl,by simp [World.setRow],fun k _ az => setRow_other w g k _ (fun e => az (by rw [e]))⟩ (.inr rfl) ⟨g,cap,_,by rw [hlen],bP,a4,.inr rfl,setRow_heap w g cur _ e _ fs,by omega,k9,fun e => absurd (List.append_eq_nil_iff.1 e).2 (fun e => by simp [e] at ba),?_,?_⟩
     ·simp only [List.size_toArray,List.length_append,List.length_take,List.length_drop,Array.length_toList]; omega
     ·rw [hn,hlen]
      have : (es.length + ys.length) * i.size = (xs ++ vs).length := by simp [mB,s6,Nat.add_mul]
      rw [this]; exact List.take_left
    ·obtain ⟨hb,w',da,dI,dS⟩ := run_append_arg_grows (P := Tryz.prog) w t o.type e i z i.size i.bytes aL aq bR rfl rfl hO fK ⟨g,0,none⟩ es.length cap xs mB (fun j u hu => by
      rw [Addr.add_lit,← hn,List.getElem?_take] at *
      split at hu
      ·simp [World.cell?,fs]; simpa using hu
      ·cases hu) cm ys.length c2 vs s6 (l4 cm rfl) (by omega) kT dv
     obtain ⟨ku,tM,pv,rfl,s2,tt,tu,tv,ur,tw⟩ := DP dI r5 (by simp) (by omega)
     exact a9 (by omega) _ _ none da dS (.inl rfl) ⟨ku,tM,pv,rfl,Nat.le_trans aO.grow.below.size s2,aO.sub.none s2,.inl s2,tt,tu,tv,fun e => absurd (List.append_eq_nil_iff.1 e).2 (fun e => by simp [e] at ba),ur,tw⟩
  ·have o3 : ys = [] := List.eq_nil_of_length_eq_zero (by omega)
   subst o3
   have Di : vs = [] := List.eq_nil_of_length_eq_zero (by simpa using s6)
   subst Di
   simp only [List.length_nil] at iR
   have da : (Builtin.append_ #[t,t] o.type #[.slice (some ⟨g,0,none⟩) es.length cap,.slice bH 0 c2]).run Tryz.prog w = .ok (.slice (some ⟨g,0,none⟩) es.length cap) w := by
    have aE : ∀ (x : Addr),(loadCells x 0).run Tryz.prog w = .ok #[] w := fun x => by simpa using run_loadCells_list (P := Tryz.prog) w x [] (by simp)
    cases bH <;> simp [Builtin.append_,run_underlying aL,run_sizeOf aq,Builtin.lenOf,Builtin.firstCells,aE,storeCells,hD]
   refine vX fS a6 (ob := .row e i.size (es ++ [])) (p := (.slice (some ⟨g,0,none⟩) es.length cap,i.size,some g)) (row := some g) (w' := w) (by simp [execOp,ax,resolve,mn,iR,invoke,builtin,da]) ⟨rfl,rfl,rfl,Nat.le_refl _,fun k az _ => rfl⟩ (fun b aI => by cases aI; exact ⟨bP,a4,jc⟩)
    ⟨_,some g,_,Env.iU _ _ _,fK,r5,.inr ⟨g,cap,cur,rfl,by simp,bP,a4,fs,by simpa using hD,k9,fun e => uN (by simpa using e),fN,by simpa using hn⟩⟩ rfl (fun b aI => by cases aI; exact .inr rfl) az

theorem ak4 {P : Program} (BN qD ty elem : TypeId) (i : TypeInfo) (hu : P.underlying BN = some (.slice elem)) (aq : P.info? elem = some i) (g Jz Jy : Nat) (src : Option Addr) (AY NP : Nat) (cur : Array Value) (t : TypeId) (cs : List Value)
  (aJ : w.heap[g]? = some (.cells cur t (0,0))) (a9 : cs.length = Nat.min AY Jz * i.size) (ahc : src = none → AY = 0)
  (GK : ∀ a,src = some a → ∀ j v,cs[j]? = some v → w.cell? (a.add j) = some v) (KM : cs.length ≤ cur.size) (af : ∀ v ∈ cs,v.oneCell' = true) :
  (Builtin.copy_ #[BN,qD] ty #[.slice (some ⟨g,0,none⟩) Jz Jy,.slice src AY NP]).run P w = .ok (goInt (Nat.min AY Jz : Nat)) (w.setRow g (cs ++ cur.toList.drop cs.length).toArray) := by
 have iB := run_storeCells_at P g 0 t cs 0 cur w aJ (by simpa using KM) af
 simp only [Nat.zero_add,List.take_zero,List.nil_append] at iB
 cases src with
 | none =>
  have := ahc rfl
  subst this
  simp at a9
  subst a9
  simp only [List.nil_append,List.length_nil,List.drop_zero] at iB ⊢
  simp [Builtin.copy_,run_underlying hu,Builtin.lenOf,Builtin.firstCells,run_sizeOf aq,iB]
 | some a =>
  have aE := run_loadCells_list (P := P) w a cs (GK a rfl)
  rw [a9] at aE
  simp [Builtin.copy_,run_underlying hu,Builtin.lenOf,Builtin.firstCells,run_sizeOf aq,aE,iB]

theorem ak5 {P : Program} (BN qD ty elem : TypeId) (i : TypeInfo) (hu : P.underlying BN = some (.slice elem)) (aq : P.info? elem = some i) (d : Option Addr) (Jy : Nat) (src : Option Addr) (AY NP : Nat) :
  (Builtin.copy_ #[BN,qD] ty #[.slice d 0 Jy,.slice src AY NP]).run P w = .ok (goInt 0) w := by
 have aE : ∀ (x : Addr),(loadCells x 0).run P w = .ok #[] w := fun x => by simpa using run_loadCells_list (P := P) w x [] (by simp)
 cases d <;> cases src <;> simp [Builtin.copy_,run_underlying hu,Builtin.lenOf,Builtin.firstCells,run_sizeOf aq,aE,storeCells]

theorem sm {v : Value} (he : (execOp a.eval o).run Tryz.prog w = .ok (.value v) w') (a6 : ∀ t,o.dst = some t → t < N) {S' : ak} {E' : Env} {H' : bl} (dY : bC N w0 H0 S' E' a w' H') {s : aw} (aA : cl H' E' s v) (az : K (S'.b3 o.dst s)) : Told N w0 H0 o K a w := by
 unfold Told Oper.wp
 rw [he]
 exact ⟨_,E',H',az,dY.put aA a6⟩

theorem alY (aO : bC N w0 H0 S E a w H) (a6 : ∀ t,o.dst = some t → t < N) {t e i x y t2 gm hG es ys k2 f2} (ax : o.op = .call ⟨.builtin .copy,#[x,y],#[t,t2]⟩) (aL : Tryz.prog.underlying t = some (.slice e)) (aq : Tryz.prog.info? e = some i)
  (ar : S.bg x = some (.own gm)) (aJ : an S.O gm = some (.row hG i.size es)) (aV : S.bg y = some (.au k2 f2 ys)) (aH : k2 = i.size)
  (az : K ((S.eT gm (.row hG i.size (ys.take es.length ++ es.drop ys.length))).b3 o.dst (.v (.int .i64 (min ys.length es.length : Nat))))) : Told N w0 H0 o K a w := by
 subst aH
 have cC := aO.cX [x] x (by simp) _ ar
 have ik := aO.cX [y] y (by simp) _ aV
 obtain ⟨u,ob,xs,a1,Gr,a7,ct⟩ := aO.ob _ _ aJ
 have mn : a.eval x = u := by
  generalize a.eval x = jZ at cC
  cases cC with
  | own bL _ => rw [bL] at a1; cases a1; rfl
 generalize iR : a.eval y = hv at ik
 obtain ⟨bH,m,c2,rfl⟩ : ∃ a n c,hv = .slice a n c := by cases ik; exact ⟨_,_,_,rfl⟩
 obtain ⟨vs,bJ,cf,dA,_,fr,jY,l4⟩ := sj aO.sub ik
 subst cf
 have Li : Nat.min ys.length es.length = min ys.length es.length := rfl
 rcases ct with ⟨rfl,rfl,cm,rfl⟩ | ⟨g,cap,cur,rfl,rfl,bP,a4,fs,hD,k9,uN,fN,hn⟩
 ·have da := ak5 (P := Tryz.prog) (w := w) t t2 o.type e i aL aq cm 0 bH ys.length c2
  have aT : (S.eT gm (.row hG i.size (ys.take 0 ++ ([] : List (List aw)).drop ys.length))) = S.eT gm (.row hG i.size []) := by simp
  simp only [List.length_nil] at az
  rw [aT] at az
  have dY : bC N w0 H0 (S.eT gm (.row hG i.size [])) E a w H := aO.less (S' := S.eT gm (.row hG i.size [])) (fun _ _ h => h) (fun j o' aN => by
   simp only [ak.eT,mR] at aN
   split at aN
   ·rename_i e; cases aN; subst e; exact aJ
   ·exact aN) rfl
  exact sm (v := .int .i64 0) (w' := w) (by simp [execOp,ax,resolve,mn,iR,invoke,builtin,da,goInt]) a6 dY (.v rfl) (by simpa using az)
 ·have mB := a7.length
  have s6 := bJ.length
  have af : (vs.take (min ys.length es.length * i.size)).length = min ys.length es.length * i.size := by
   rw [List.length_take,s6]; exact Nat.min_eq_left (Nat.mul_le_mul_right _ (Nat.min_le_left _ _))
  have Lh : min ys.length es.length * i.size ≤ es.length * i.size := Nat.mul_le_mul_right _ (Nat.min_le_right _ _)
  have yJ : es.length * i.size ≤ cap * i.size := Nat.mul_le_mul_right _ hD
  have da := ak4 (P := Tryz.prog) (w := w) t t2 o.type e i aL aq g es.length cap bH ys.length c2 cur hG (vs.take (min ys.length es.length * i.size)) fs af (fun h => by have := jY h; omega)
   (fun cm cy j v bj => l4 cm cy j v (by rw [List.getElem?_take] at bj; split at bj; exact bj; cases bj)) (by omega) (fun v bj => bJ.one v (List.mem_of_mem_take bj))
  rw [af] at da
  have hp : uL w g (vs.take (min ys.length es.length * i.size) ++ cur.toList.drop (min ys.length es.length * i.size)).toArray hG (w.setRow g (vs.take (min ys.length es.length * i.size) ++ cur.toList.drop (min ys.length es.length * i.size)).toArray) := Ht fs
  have hlen : (ys.take es.length ++ es.drop ys.length).length = es.length := by simp; omega
  have GM : ys.take es.length = ys.take (min ys.length es.length) := by
   rcases Nat.le_total ys.length es.length with h | h
   ·rw [Nat.min_eq_left h,List.take_of_length_le h,List.take_of_length_le (Nat.le_refl _)]
   ·rw [Nat.min_eq_right h]
  have KF : es.drop ys.length = es.drop (min ys.length es.length) := by
   rcases Nat.le_total ys.length es.length with h | h
   ·rw [Nat.min_eq_left h]
   ·rw [Nat.min_eq_right h,List.drop_of_length_le h,List.drop_of_length_le (Nat.le_refl _)]
  have r5 : eN H i.size (ys.take es.length ++ es.drop ys.length) (vs.take (min ys.length es.length * i.size) ++ xs.drop (min ys.length es.length * i.size)) := by
   rw [GM,KF]; exact (bJ.take _).append (a7.drop _)
  have kf := aO.p2 (o' := .row hG i.size (ys.take es.length ++ es.drop ys.length)) ⟨_,aJ,rfl⟩ a1 (fun k _ az => hp.same k az) (by rw [hp.size]; exact Nat.le_refl _) hp.os hp.tape hp.output
   ⟨_,some g,_,a1,Gr,r5,.inr ⟨g,cap,_,rfl,by rw [hlen],bP,a4,hp.box,by rw [hlen]; exact hD,k9,fun e => uN (List.eq_nil_of_length_eq_zero (by rw [← hlen,e]; rfl)),?_,?_⟩⟩ rfl
  ·rw [Li] at da
   exact sm (v := goInt (min ys.length es.length : Nat)) (w' := (w.setRow g (vs.take (min ys.length es.length * i.size) ++ cur.toList.drop (min ys.length es.length * i.size)).toArray)) (by simp only [execOp,ax,resolve,mn,iR,invoke,builtin,Sem.run_bind,Sem.run_pure,Result.andThen_ok,List.map_toArray,List.map_cons,List.map_nil,da]) a6 kf (.v rfl) az
  ·simp only [List.size_toArray,List.length_append,af,List.length_drop,Array.length_toList]; omega
  ·rw [hlen,List.toList_toArray,List.take_append,af,List.take_of_length_le (by rw [af]; exact Lh),← hn,List.drop_take]

theorem Xx (aO : bC N w0 H0 S E a w H) (a6 : o.dst = none) {t bd e m key x gm M f n v} (ax : o.op = .mapUpdate t m key x) (aL : Tryz.prog.underlying t = some (.map bd e)) (ow : Tryz.prog.underlying bd = some (.int .i64))
  (hm : S.bg m = some (.own gm)) (nq : S.bg key = some (.v (.int .i64 n))) (ar : (S.bg x).bind S.mM = some v) (aJ : an S.O gm = some (.map bd M f)) (bA : M < 1000000) (bG : -9223372036854775808 ≤ n) (fz : n ≤ 9223372036854775807)
  {rE : Nat} (Ao : rE = M + 1 ∨ (rE ≤ 1000000 ∧ ∀ j,(if j = n then some v else f j) ≠ none → 0 ≤ j ∧ j < (rE : Int))) (az : K (S.eT gm (.map bd rE fun j => if j = n then some v else f j))) : Told N w0 H0 o K a w := by
 have wX := aO.cX [m] m (by simp) _ hm
 have wW := aO.cX [key] key (by simp) _ nq
 obtain ⟨y,aV,bj⟩ := Option.bind_eq_some_iff.1 ar
 obtain ⟨q5,_,_⟩ := E7 aO.ob (aO.cX [x] x (by simp) _ aV) bj
 obtain ⟨b,zi,F,a1,a7,ct,fb,iA,mi,qe,oc⟩ := aO.ob _ _ aJ
 have mn : a.eval m = .map (some b) := by
  generalize a.eval m = jZ at wX
  cases wX with
  | own bL _ => rw [bL] at a1; cases a1; rfl
 have Cn : a.eval key = .int .i64 n := by
  generalize a.eval key = jZ at wW
  cases wW; rfl
 obtain ⟨w',o',da,zo,dI,dS⟩ := iA.update fb ow aL (by unfold maxLen; omega) bG fz (a.eval x)
 refine H7 (w' := w') (by simp [execOp,ax,mn,Cn,da]) a6 (aO.p2 (o' := .map bd rE fun j => if j = n then some v else f j) ⟨_,aJ,rfl⟩ a1 (fun k az dj => dS.block k az (fun e => dj (Option.some.inj e))) dS.size dS.os dS.tape dS.output
  ⟨b,o',_,a1,a7,ct,zo,(by
   rcases Ao with rfl | ⟨_,Ao⟩
   ·exact dI
   ·exact dI.tight ow rE (fun j aN => Ao j (fun e => by
     have : p2 F n (some (a.eval x)) j = none := by
      unfold p2
      split at e
      ·cases e
      ·rename_i dj; rw [if_neg dj]; exact (qe j).1 e
     rw [this] at aN; cases aN))),(by rcases Ao with rfl | h; omega; exact h.1),fun j => ?_,fun j s u ao hu => ?_⟩ rfl) az
 ·unfold p2; by_cases aN : j = n <;> simp [aN,qe]
 ·unfold p2 at hu
  simp only at ao
  split at ao
  ·rename_i aN; cases ao; rw [if_pos aN] at hu; cases hu; exact q5
  ·rename_i aN; rw [if_neg aN] at hu; exact oc j s u ao hu

theorem ama (aO : bC N w0 H0 S E a w H) (a6 : ∀ t,o.dst = some t → t < N) {f args hQ l e k es} (ax : o.op = .call ⟨.value (.func f),args,hQ⟩) (bL : Enters f) (aE : S.args args.toList = some l) (aA : uJ f l e k es)
  (az : K ((S.fT (.row e k es)).b3 o.dst (.own S.n))) : Told N w0 H0 o K a w := by
 have br := uQ aO.ob (aO.cX args.toList) aE
 have aB := aA w H _ aO.sub br
 have he : (execOp a.eval o).run Tryz.prog w = .ok (.enter f (args.toList.map a.eval).toArray) w := by
  have := bL (args.map a.eval) w
  rw [AI]
  simp [execOp,ax,resolve,Act.eval,Deferred.ofValue,invoke]
  exact this
 unfold Told Oper.wp
 rw [he,Oper.upon_enter]
 refine Calls.mono aB fun e5 w' aT => ?_
 obtain ⟨v,xs,rfl,aJ,fK,jc,bf,yT⟩ := aT
 have dY := aO.grown aJ
 have fresh : ∀ b,w.heap.size ≤ b → ∀ i,nx S i → ∀ u k,E i = some (u,k,some b) → False := fun b aI i aE u k bL => by
  have := (aO.xq aE bL).2.2
  omega
 by_cases ba : es = []
 ·subst ba
  obtain ⟨cm,rfl⟩ := yT rfl
  have dy := dY.new (o := .row e k []) (p := (.slice cm 0 0,k,none)) ⟨_,none,[],Env.iU _ _ _,fK,.nil,.inl ⟨rfl,rfl,cm,rfl⟩⟩ (fun b aI => by cases aI)
  exact ⟨_,_,H,az,dy.put (.own (Env.iU _ _ _) rfl) a6⟩
 ·have hp : 0 < es.length := by cases es with | nil => exact absurd rfl ba | cons => simp
  obtain ⟨g,cap,cur,rfl,s2,tt,tu,tv,ur,tw⟩ := DP jc bf rfl hp
  have dy := dY.new (o := .row e k es) (p := (.slice (some ⟨g,0,none⟩) es.length cap,k,some g)) ⟨_,some g,xs,Env.iU _ _ _,fK,bf,.inr ⟨g,cap,cur,rfl,rfl,Nat.le_trans aO.grow.below.size s2,aO.sub.none s2,tt,tu,tv,fun e => absurd e ba,ur,tw⟩⟩
   (fun b aI => by cases aI; exact fresh g s2)
  exact ⟨_,_,H,az,dy.put (.own (Env.iU _ _ _) rfl) a6⟩

theorem al5 (aO : bC N w0 H0 S E a w H) (a6 : ∀ t,o.dst = some t → t < N) {f args hQ l bd M g} (ax : o.op = .call ⟨.value (.func f),args,hQ⟩) (bL : Enters f) (aE : S.args args.toList = some l) (aA : Br f l bd M g)
  (az : K ((S.fT (.map bd M g)).b3 o.dst (.own S.n))) (aH : (∀ i,g i = none) → K (S.b3 o.dst (.v (.map none)))) : Told N w0 H0 o K a w := by
 have br := uQ aO.ob (aO.cX args.toList) aE
 have aB := aA w H _ aO.sub br
 have he : (execOp a.eval o).run Tryz.prog w = .ok (.enter f (args.toList.map a.eval).toArray) w := by
  have := bL (args.map a.eval) w
  rw [AI]
  simp [execOp,ax,resolve,Act.eval,Deferred.ofValue,invoke]
  exact this
 unfold Told Oper.wp
 rw [he,Oper.upon_enter]
 refine Calls.mono aB fun e5 w' aT => ?_
 obtain ⟨v,rfl,aJ,h⟩ := aT
 have dY := aO.grown aJ
 have fresh : ∀ b,w.heap.size ≤ b → ∀ i,nx S i → ∀ u k,E i = some (u,k,some b) → False := fun b aI i aE u k bL => by
  have := (aO.xq aE bL).2.2
  omega
 rcases h with ⟨rfl,ba⟩ | ⟨b,ob,F,rfl,af,aj,av,aY,bM,bN⟩
 ·exact ⟨_,_,H,aH ba,dY.put (.v rfl) a6⟩
 ·have dy := dY.new (o := .map bd M g) (p := (.map (some b),0,some b)) ⟨b,ob,F,Env.iU _ _ _,Nat.le_trans aO.grow.below.size af,aO.sub.none af,aj,av,aY,bM,bN⟩ (fun gb aI => by cases aI; exact fresh b af)
  exact ⟨_,_,H,az,dy.put (.own (Env.iU _ _ _) rfl) a6⟩

theorem Hn (aO : bC N w0 H0 S E a w H) : ∀ {xs : List Operand} {l : List aw},S.k0 xs = some l → dg H E l (xs.map a.eval)
 | [],l,h => by simp only [ak.k0,Option.some.injEq] at h; subst h; exact .nil
 | x :: xs,l,h => by
  simp only [ak.k0,Option.bind_eq_some_iff,Option.map_eq_some_iff] at h
  obtain ⟨y,aV,vI,aE,rfl⟩ := h
  exact .cons (aO.cX [x] x (by simp) _ aV) (Hn aO aE)
theorem alW (aO : bC N w0 H0 S E a w H) (a6 : ∀ t,o.dst = some t → t < N) {f args hQ l P} (ax : o.op = .call ⟨.value (.func f),args,hQ⟩) (bL : Enters f) (aE : S.k0 args.toList = some l) (aA : gg f l S.O S.n P)
  (az : ∀ J r O' bO,P J r O' bO → K (ak.b3 ⟨S.T,ef O' S.n,bO⟩ o.dst r)) : Told N w0 H0 o K a w := by
 have br := Hn aO aE
 have q7 := aO.c0 _ (Nat.le_refl _)
 have hle := Env.vV (E := E) (i := S.n) (undef,0,none) q7
 have Cq : bC N w0 H0 ⟨[],(S.n,.cB fun H E => ∀ t x,an S.T t = some x → cl H E x (a.eval (.tmp t))) :: S.O,S.n + 1⟩ (E.set S.n (undef,0,none)) a w H := by
  have := aO.new (o := .cB fun H E => ∀ t x,an S.T t = some x → cl H E x (a.eval (.tmp t))) (p := (undef,0,none))
   ⟨⟨_,Env.iU _ _ _⟩,fun t x ar => (aO.k4 t x ar).mono (fun _ _ h => h) hle,fun H1 kK hy qJ g1 bW gO t x ar => (gO t x ar).mono g1 bW⟩ (fun b aI => by cases aI)
  exact this.less (S' := ⟨[],(S.n,.cB fun H E => ∀ t x,an S.T t = some x → cl H E x (a.eval (.tmp t))) :: S.O,S.n + 1⟩) (fun t x ar => by cases ar) (fun _ _ h => h) rfl
 have aB := aA _ N w0 H0 _ a w H _ Cq (br.mono (fun _ _ h => h) hle)
 have he : (execOp a.eval o).run Tryz.prog w = .ok (.enter f (args.toList.map a.eval).toArray) w := by
  have := bL (args.map a.eval) w
  rw [AI]
  simp [execOp,ax,resolve,Act.eval,Deferred.ofValue,invoke]
  exact this
 unfold Told Oper.wp
 rw [he,Oper.upon_enter]
 refine Calls.mono aB fun e5 w' aT => ?_
 obtain ⟨v,r,O',bO,E',H',rfl,cb,aJ,dY,bf⟩ := aT
 have gO := (dY.ob S.n _ aJ).2.1
 have hH : bC N w0 H0 ⟨S.T,ef O' S.n,bO⟩ E' a w' H' :=
  ⟨dY.grow,gO,fun i o ax => dY.ob i o (sP ax).1,fun i j iN ⟨e2,af,l1⟩ ⟨eQ,aj,l2⟩ => dY.ap i j iN ⟨e2,(sP af).1,l1⟩ ⟨eQ,(sP aj).1,l2⟩,dY.c0,dY.ju,dY.jO⟩
 exact ⟨_,E',H',az _ r O' bO cb,hH.put bf a6⟩

theorem alX (aO : bC N w0 H0 S E a w H) (a6 : ∀ t,o.dst = some t → t < N) {x args hQ s l0 f l P} (ax : o.op = .call ⟨.value x,args,hQ⟩) (ar : S.bg x = some s) (aE : S.k0 args.toList = some l0) (aB : callee s l0 f l) (aA : gg f l S.O S.n P)
  (az : ∀ J r O' bO,P J r O' bO → K (ak.b3 ⟨S.T,ef O' S.n,bO⟩ o.dst r)) : Told N w0 H0 o K a w := by
 have br := Hn aO aE
 have cC := aO.cX [x] x (by simp) _ ar
 have q7 := aO.c0 _ (Nat.le_refl _)
 have hle := Env.vV (E := E) (i := S.n) (undef,0,none) q7
 have Cq : bC N w0 H0 ⟨[],(S.n,.cB fun H E => ∀ t x,an S.T t = some x → cl H E x (a.eval (.tmp t))) :: S.O,S.n + 1⟩ (E.set S.n (undef,0,none)) a w H := by
  have := aO.new (o := .cB fun H E => ∀ t x,an S.T t = some x → cl H E x (a.eval (.tmp t))) (p := (undef,0,none))
   ⟨⟨_,Env.iU _ _ _⟩,fun t x ar => (aO.k4 t x ar).mono (fun _ _ h => h) hle,fun H1 kK hy qJ g1 bW gO t x ar => (gO t x ar).mono g1 bW⟩ (fun b aI => by cases aI)
  exact this.less (S' := ⟨[],(S.n,.cB fun H E => ∀ t x,an S.T t = some x → cl H E x (a.eval (.tmp t))) :: S.O,S.n + 1⟩) (fun t x ar => by cases ar) (fun _ _ h => h) rfl
 obtain ⟨us,kf,he⟩ : ∃ us : List Value,dg H E l us ∧ (execOp a.eval o).run Tryz.prog w = .ok (.enter f us.toArray) w := by
  rcases aB with ⟨first,cap,rfl,bL,rfl⟩ | ⟨name,t,l5,first,cap,rfl,bA,bL,rfl⟩
  ·generalize aT : a.eval x = q at cC
   cases cC with
   | fn f1 f2 =>
    rename_i vs us
    refine ⟨(vs ++ args.toList.map a.eval) ++ us,((f1.mono (fun _ _ h => h) (mb E)).append br).append (f2.mono (fun _ _ h => h) (mb E)),?_⟩
    have := bL ((vs ++ args.toList.map a.eval) ++ us).toArray w
    have a7 : ((vs ++ args.toList.map a.eval) ++ us).toArray = vs.toArray ++ args.map a.eval ++ us.toArray := by apply Array.ext'; simp
    rw [a7] at this ⊢
    simp only [execOp,ax,resolve,aT,Deferred.ofValue,invoke,Sem.run_bind,Sem.run_pure,Result.andThen_ok]
    exact this
  ·generalize aT : a.eval x = q at cC
   cases cC with
   | fn f1 f2 =>
    rename_i vs us
    cases f1 with
    | cons aq f1 =>
     rename_i u vs
     cases aq with
     | ds aq =>
      rename_i u
      refine ⟨u :: (vs ++ args.toList.map a.eval),.cons (aq.mono (fun _ _ h => h) (mb E)) ((f1.mono (fun _ _ h => h) (mb E)).append br),?_⟩
      have := bL (u :: (vs ++ args.toList.map a.eval)).toArray w
      have ua := bA u w
      have a7 : (u :: (vs ++ args.toList.map a.eval)).toArray = #[u] ++ (vs.toArray ++ args.map a.eval) := by apply Array.ext'; simp
      have ct : (((Value.iface t u :: vs).toArray ++ args.map a.eval).extract 1 ((Value.iface t u :: vs).toArray ++ args.map a.eval).size) = vs.toArray ++ args.map a.eval := by
       apply Array.ext'; simp
       rw [List.take_of_length_le (by omega),List.take_of_length_le (by simp)]
      have fb : ((Value.iface t u :: vs).toArray ++ args.map a.eval)[0]? = some (Value.iface t u) := by rw [Array.getElem?_append_left (by simp)]; rfl
      rw [a7] at this ⊢
      simp only [execOp,ax,resolve,aT,Deferred.ofValue,invoke,Sem.run_bind,Sem.run_pure,Result.andThen_ok,fb,callMethod,ct,run_program,ua]
      exact this
 have aB := aA _ N w0 H0 _ a w H _ Cq (kf.mono (fun _ _ h => h) hle)
 unfold Told Oper.wp
 rw [he,Oper.upon_enter]
 refine Calls.mono aB fun e5 w' aT => ?_
 obtain ⟨v,r,O',bO,E',H',rfl,cb,aJ,dY,bf⟩ := aT
 have gO := (dY.ob S.n _ aJ).2.1
 have hH : bC N w0 H0 ⟨S.T,ef O' S.n,bO⟩ E' a w' H' :=
  ⟨dY.grow,gO,fun i o ax => dY.ob i o (sP ax).1,fun i j iN ⟨e2,af,l1⟩ ⟨eQ,aj,l2⟩ => dY.ap i j iN ⟨e2,(sP af).1,l1⟩ ⟨eQ,(sP aj).1,l2⟩,dY.c0,dY.ju,dY.jO⟩
 exact ⟨_,E',H',az _ r O' bO cb,hH.put bf a6⟩

theorem al2 (aO : bC N w0 H0 S E a w H) (a6 : ∀ t,o.dst = some t → t < N) {x name args hQ t l5 l0 f P} (ax : o.op = .call ⟨.invoke x name,args,hQ⟩) (ar : S.bg x = some (.ds t l5)) (aE : S.k0 args.toList = some l0) (bA : sy t name f) (Km : Enters f) (aA : gg f (l5 :: l0) S.O S.n P)
  (az : ∀ J r O' bO,P J r O' bO → K (ak.b3 ⟨S.T,ef O' S.n,bO⟩ o.dst r)) : Told N w0 H0 o K a w := by
 have br := Hn aO aE
 have cC := aO.cX [x] x (by simp) _ ar
 have q7 := aO.c0 _ (Nat.le_refl _)
 have hle := Env.vV (E := E) (i := S.n) (undef,0,none) q7
 have Cq : bC N w0 H0 ⟨[],(S.n,.cB fun H E => ∀ t x,an S.T t = some x → cl H E x (a.eval (.tmp t))) :: S.O,S.n + 1⟩ (E.set S.n (undef,0,none)) a w H := by
  have := aO.new (o := .cB fun H E => ∀ t x,an S.T t = some x → cl H E x (a.eval (.tmp t))) (p := (undef,0,none))
   ⟨⟨_,Env.iU _ _ _⟩,fun t x ar => (aO.k4 t x ar).mono (fun _ _ h => h) hle,fun H1 kK hy qJ g1 bW gO t x ar => (gO t x ar).mono g1 bW⟩ (fun b aI => by cases aI)
  exact this.less (S' := ⟨[],(S.n,.cB fun H E => ∀ t x,an S.T t = some x → cl H E x (a.eval (.tmp t))) :: S.O,S.n + 1⟩) (fun t x ar => by cases ar) (fun _ _ h => h) rfl
 obtain ⟨us,kf,he⟩ : ∃ us : List Value,dg H E (l5 :: l0) us ∧ (execOp a.eval o).run Tryz.prog w = .ok (.enter f us.toArray) w := by
  generalize aT : a.eval x = q at cC
  cases cC with
  | ds aq =>
   rename_i u
   refine ⟨u :: args.toList.map a.eval,.cons (aq.mono (fun _ _ h => h) (mb E)) br,?_⟩
   have := Km (u :: args.toList.map a.eval).toArray w
   have ua := bA u w
   have a7 : (u :: args.toList.map a.eval).toArray = #[u] ++ args.map a.eval := by apply Array.ext'; simp
   have ct : ((#[Value.iface t u] ++ args.map a.eval).extract 1 (#[Value.iface t u] ++ args.map a.eval).size) = args.map a.eval := by
    apply Array.ext'; simp
    rw [List.take_of_length_le (by simp)]
   have fb : (#[Value.iface t u] ++ args.map a.eval)[0]? = some (Value.iface t u) := by rw [Array.getElem?_append_left (by simp)]; rfl
   rw [a7] at this ⊢
   simp only [execOp,ax,resolve,aT,invoke,Sem.run_bind,Sem.run_pure,Result.andThen_ok,fb,callMethod,ct,run_program,ua]
   exact this
 have aB := aA _ N w0 H0 _ a w H _ Cq (kf.mono (fun _ _ h => h) hle)
 unfold Told Oper.wp
 rw [he,Oper.upon_enter]
 refine Calls.mono aB fun e5 w' aT => ?_
 obtain ⟨v,r,O',bO,E',H',rfl,cb,aJ,dY,bf⟩ := aT
 have gO := (dY.ob S.n _ aJ).2.1
 have hH : bC N w0 H0 ⟨S.T,ef O' S.n,bO⟩ E' a w' H' :=
  ⟨dY.grow,gO,fun i o ax => dY.ob i o (sP ax).1,fun i j iN ⟨e2,af,l1⟩ ⟨eQ,aj,l2⟩ => dY.ap i j iN ⟨e2,(sP af).1,l1⟩ ⟨eQ,(sP aj).1,l2⟩,dY.c0,dY.ju,dY.jO⟩
 exact ⟨_,E',H',az _ r O' bO cb,hH.put bf a6⟩

theorem Xv (aO : bC N w0 H0 S E a w H) (a6 : ∀ t,o.dst = some t → t < N) {t x y t2 i bd iS e M f} {neg : Bool} (ax : o.op = .binOp (if neg then .neq else .eql) t x y t2) (hu : Tryz.prog.underlying t = some (.map iS e))
  (ar : S.bg x = some (.own i)) (aV : S.bg y = some (.v (.map none))) (aJ : an S.O i = some (.map bd M f)) (az : K (S.b3 o.dst (.v (.bool neg)))) : Told N w0 H0 o K a w := by
 have cC := aO.cX [x] x (by simp) _ ar
 have ik := aO.cX [y] y (by simp) _ aV
 obtain ⟨b,zi,F,a1,_⟩ := aO.ob _ _ aJ
 have mn : a.eval x = .map (some b) := by
  generalize a.eval x = jZ at cC
  cases cC with
  | own bL _ => rw [bL] at a1; cases a1; rfl
 have RM : a.eval y = .map none := by
  generalize a.eval y = hv at ik
  cases ik; rfl
 have aT := run_eql_map_nil_sl (P := Tryz.prog) w t iS e (some b) hu
 refine sm (v := .bool neg) (w' := w) ?_ a6 aO (.v rfl) az
 cases neg
 ·simp [execOp,ax,mn,RM,eqGuard,aT]
 ·simp only [binOp,Sem.run_bind] at aT
  cases aA : Sem.run Tryz.prog (Op.equal t (.map (some b)) (.map none)) w with
  | ok v fB =>
   rw [aA] at aT
   simp at aT
   obtain ⟨rfl,rfl⟩ := aT
   simp [execOp,ax,mn,RM,eqGuard,binOp,aA]
  | halt x fB => rw [aA] at aT; simp at aT

theorem alZ (aO : bC N w0 H0 S E a w H) (a6 : ∀ t,o.dst = some t → t < N) {t bd e m key gm M f n} (ax : o.op = .call ⟨.builtin .delete,#[m,key],#[t,bd]⟩) (aL : Tryz.prog.underlying t = some (.map bd e)) (ow : Tryz.prog.underlying bd = some (.int .i64))
  (hm : S.bg m = some (.own gm)) (nq : S.bg key = some (.v (.int .i64 n))) (aJ : an S.O gm = some (.map bd M f)) (bG : -9223372036854775808 ≤ n) (fz : n ≤ 9223372036854775807)
  (az : K ((S.eT gm (.map bd M fun j => if j = n then none else f j)).b3 o.dst (.bY []))) : Told N w0 H0 o K a w := by
 have wX := aO.cX [m] m (by simp) _ hm
 have wW := aO.cX [key] key (by simp) _ nq
 obtain ⟨b,zi,F,a1,a7,ct,fb,iA,mi,qe,oc⟩ := aO.ob _ _ aJ
 have mn : a.eval m = .map (some b) := by
  generalize a.eval m = jZ at wX
  cases wX with
  | own bL _ => rw [bL] at a1; cases a1; rfl
 have Cn : a.eval key = .int .i64 n := by
  generalize a.eval key = jZ at wW
  cases wW; rfl
 obtain ⟨D,jc,aZ⟩ := iA.owns fb
 have sZ := int_keyed (P := Tryz.prog) ow
 obtain ⟨w',da,dI,dS⟩ := jc.drop sZ aL (keyOf_int_mk (P := Tryz.prog) ow (Bd bG fz)) o.type
 obtain ⟨o',oG,o9⟩ := h4.Ty (f := fun j => if j = n then Option.none else F j) dI (fun j => by
  by_cases e : j = n
  ·subst e; rw [if_pos rfl,atKey_del_same]
  ·rw [if_neg e,atKey_del_other (by intro h; exact e (by cases h; rfl)),aZ j])
 obtain ⟨aqb,cd,Qp,c2,bJ,rfl⟩ := dS
 have r0 : ∀ k,k < w.heap.size → k ≠ b → (ChangeMaps.setBlock w b (.map Qp c2)).heap[k]? = w.heap[k]? := fun k az dj => by
  simp [ChangeMaps.setBlock,Array.getElem?_setIfInBounds_ne (Ne.symm dj)]
 have kf := aO.p2 (w' := ChangeMaps.setBlock w b (.map Qp c2)) (o' := .map bd M fun j => if j = n then none else f j) ⟨_,aJ,rfl⟩ a1 r0 (by simp [ChangeMaps.setBlock]) rfl rfl rfl
  ⟨b,o',_,a1,a7,ct,oG,o9,mi,fun j => ?_,fun j s u ao hu => ?_⟩ rfl
 ·exact sm (v := .tuple #[]) (by simp [execOp,ax,resolve,mn,Cn,invoke,builtin,da]) a6 kf (.bY .nil) az
 ·by_cases aN : j = n <;> simp [aN,qe]
 ·simp only at ao hu
  split at ao
  ·cases ao
  ·rename_i aN; rw [if_neg aN] at hu; exact oc j s u ao hu

theorem al0 (aO : bC N w0 H0 S E a w H) (a6 : ∀ t,o.dst = some t → t < N) {t bd e m key n} (ax : o.op = .call ⟨.builtin .delete,#[m,key],#[t,bd]⟩) (aL : Tryz.prog.underlying t = some (.map bd e)) (ow : Tryz.prog.underlying bd = some (.int .i64))
  (hm : S.bg m = some (.v (.map none))) (nq : S.bg key = some (.v (.int .i64 n))) (bG : -9223372036854775808 ≤ n) (fz : n ≤ 9223372036854775807)
  (az : K (S.b3 o.dst (.bY []))) : Told N w0 H0 o K a w := by
 have wX := aO.cX [m] m (by simp) _ hm
 have wW := aO.cX [key] key (by simp) _ nq
 have mn : a.eval m = .map none := by
  generalize a.eval m = jZ at wX
  cases wX; rfl
 have Cn : a.eval key = .int .i64 n := by
  generalize a.eval key = jZ at wW
  cases wW; rfl
 have da : (Builtin.delete_ #[t,bd] o.type #[.map none,.int .i64 n]).run Tryz.prog w = .ok (.tuple #[]) w := by
  have aB := fun b => (int_keyed (P := Tryz.prog) ow).check w b (keyOf_int_mk (P := Tryz.prog) ow (Bd bG fz))
  simp [Builtin.delete_,run_underlying aL,aB]
 exact sm (v := .tuple #[]) (w' := w) (by simp [execOp,ax,resolve,mn,Cn,invoke,builtin,da]) a6 aO (.bY .nil) az
end

theorem Ur {Bn : Type} {P : Program} {k : TypeId} {R : Value → Option (DataW Bn × List MemPlace)} {w w' : World} {b r n : Nat} {D : DataW Bn} {left : Lit → Bool} {hU : Nat} (h : w.ranges P k R b r n D left hU)
  (aI : w'.heap[b]? = w.heap[b]?) (aA : w'.heap[r]? = w.heap[r]?) : w'.ranges P k R b r n D left hU := by
 obtain ⟨es,clock,since,seen,de,af,aj,av,aY,bM,bN⟩ := h
 exact ⟨es,clock,since,seen,de,aI.trans af,aj,av,aY,aA.trans bM,bN⟩
theorem Us {Bn : Type} {P : Program} {k : TypeId} {R : Value → Option (DataW Bn × List MemPlace)} {w : World} {b r n : Nat} {D : DataW Bn} {left : Lit → Bool} {hU : Nat} (h : w.ranges P k R b r n D left hU) :
  ∃ ob,w.heap[r]? = some ob := by
 obtain ⟨es,clock,since,seen,de,af,aj,av,aY,bM,bN⟩ := h
 exact ⟨_,bM⟩

theorem sq.get {D : DataW Value} {F : Int → Option Value} (a6 : sq D F) {x : Int} {v : Value} (eM : ∀ aoK,D.atKey (.int .i64 x) aoK = .held v) : F x = some v := by
 obtain ⟨es,rfl,vA,hm⟩ := a6
 have pG := apart_of_rising vA
 have cy := Maps.has_true_of_atKey eM
 obtain ⟨p,hp,yZ⟩ := List.any_eq_true.1 (show es.any (fun p => p.1.sameKey (.int .i64 x)) = true from cy)
 have a1 : p.1 = .int .i64 x := WideAt.sameKey_eq yZ
 obtain ⟨k,u,rfl,az⟩ := (hm p).1 hp
 cases a1
 have a7 := eM .nil
 rw [WideAt.atKey_mem (k := .int .i64 x) (d := .held u) .nil (by simp [WideAt.IsKeyLit]) pG hp] at a7
 simp only [DataW.held.injEq] at a7
 subst a7
 exact az
theorem sq.has {D : DataW Value} {F : Int → Option Value} (a6 : sq D F) (x : Int) : Maps.has D (.int .i64 x) = (F x).isSome := by
 obtain ⟨es,rfl,vA,hm⟩ := a6
 cases bu : F x with
 | some v =>
  have hp := (hm (.int .i64 x,.held v)).2 ⟨x,v,rfl,bu⟩
  show es.any (fun p => p.1.sameKey (.int .i64 x)) = true
  exact List.any_eq_true.2 ⟨_,hp,by simp [Lit.sameKey]⟩
 | none =>
  cases cy : Maps.has (.map es) (.int .i64 x) with
  | false => rfl
  | true =>
   obtain ⟨p,hp,yZ⟩ := List.any_eq_true.1 (show es.any (fun p => p.1.sameKey (.int .i64 x)) = true from cy)
   have a1 : p.1 = .int .i64 x := WideAt.sameKey_eq yZ
   obtain ⟨k,u,rfl,az⟩ := (hm p).1 hp
   cases a1
   rw [bu] at az; cases az

theorem Nm {P : Program} {w : World} {r : Nat} {x s c} {uw : Array Nat} (h : w.heap[r]? = some (.mapIter x s uw c)) : (getObj r).run P w = .ok (.mapIter x s uw c) w := by
 simp [getObj,Sem.run,h]
theorem UI {P : Program} {w : World} {r : Nat} {es c} (h : w.heap[r]? = some (.map es c)) : (getObj r).run P w = .ok (.map es c) w := by
 simp [getObj,Sem.run,h]
theorem wf_i64 {j : Int} (h : (Lit.int .i64 j).wf = true) : -9223372036854775808 ≤ j ∧ j ≤ 9223372036854775807 := by
 simp [Lit.wf] at h
 exact ⟨h.1,h.2⟩
theorem adX {P : Program} {w w' : World} {r b : Nat} {ob jo : Obj} {v : Value} (h : w.heap[r]? = some ob) (aI : w.heap[b]? = some jo) (e6 : w'.heap[r]? = some ob) (jQ : w'.heap[b]? = some jo)
  (my : ∃ s uw c,ob = .mapIter (some b) s uw c) (LC : ∃ es c,jo = .map es c) (bj : (Instr.entry (.pointer (some ⟨r,0,none⟩))).run P w = .ok v w) : (Instr.entry (.pointer (some ⟨r,0,none⟩))).run P w' = .ok v w' := by
 obtain ⟨s,uw,c,rfl⟩ := my
 obtain ⟨es,Fs,rfl⟩ := LC
 simp only [Instr.entry,Sem.run_bind,Nm h,Nm e6,Result.andThen_ok] at bj ⊢
 cases Sq : uw.back? with
 | none => rw [Sq] at bj; simp at bj
 | some st =>
  rw [Sq] at bj
  simp only [Sem.run_bind,UI aI,UI jQ,Result.andThen_ok] at bj ⊢
  split at bj
  ·simp at bj
  ·rename_i aB
   rw [if_neg aB]
   cases aZ : Array.find? (fun x => x.born == st) es with
   | none => rw [aZ] at bj; simp at bj
   | some e => rw [aZ] at bj; simp at bj ⊢; exact bj

theorem h4.empty {bd : TypeId} {o : Obj} {n : Nat} {f : Int → Option Value} (h : h4 bd o n f) (az : Tryz.prog.underlying bd = some (.int .i64)) : ∃ es clock,o = .map es clock ∧ (es.size = 0 ↔ ∀ i,f i = none) := by
 obtain ⟨D,⟨es,clock,rfl,F,_,ja⟩,aZ⟩ := h
 refine ⟨es,clock,rfl,fun ba i => ?_,fun a9 => ?_⟩
 ·obtain rfl : es = #[] := by simpa using ba
  have af := aZ i
  rw [ja] at af
  have aj : (DataW.map ((([] : List MapEntry).map (Go.WideElems.rg Tryz.prog bd jx)).foldr DataW.insert []) : DataW Value).atKey (.int .i64 i) .nil = .nil := WideAt.atKey_none _ (by simp)
  cases e : f i with
  | none => rfl
  | some v => rw [e] at af; rw [show (#[] : Array MapEntry).toList = [] from rfl,aj] at af; cases af
 ·refine Classical.byContradiction fun ba => ?_
  have K := int_keyed (P := Tryz.prog) az
  obtain ⟨fD,hm⟩ : ∃ fD,fD ∈ es.toList := ⟨es[0]'(by omega),by simp⟩
  obtain ⟨gU,o3⟩ := F.reads fD hm
  have nq := Go.WideElems.rd_key o3
  obtain ⟨z,bR,LU⟩ := Go.WideElems.rd_val o3
  have eM := (Go.WideShapes.atKey_sorted (es.toList.map (Go.WideElems.rg Tryz.prog bd jx)) (Maps.fit_rising K F) gU.1 (K.key nq)).2 (Go.WideElems.rg Tryz.prog bd jx fD) (List.mem_map.2 ⟨fD,hm,rfl⟩) (by rw [Go.WideElems.rg_of o3]) .nil
  rw [Go.WideElems.rg_of o3,← ja] at eM
  have sZ : ∃ a,gU.1 = .int .i64 a := by
   have h := nq
   unfold keyOf at h
   cases aT : fD.key <;> rw [aT] at h <;> simp [az,mapKey] at h
   rename_i uj a
   cases uj <;> simp at h
   exact ⟨a,h.2.symm⟩
  obtain ⟨a,a5⟩ := sZ
  rw [a5,aZ a,a9 a] at eM
  simp only [jx,Option.some.injEq] at bR
  rw [LU,← bR] at eM
  cases eM

theorem h4.count {bd : TypeId} {o : Obj} {n : Nat} {f : Int → Option Value} (h : h4 bd o n f) (az : Tryz.prog.underlying bd = some (.int .i64)) : ∃ es clock,o = .map es clock ∧ ∃ l : List Int,l.Nodup ∧ l.length = es.size ∧ ∀ j,f j ≠ none ↔ j ∈ l := by
 obtain ⟨D,⟨es,clock,rfl,F,_,ja⟩,aZ⟩ := h
 refine ⟨es,clock,rfl,?_⟩
 have K := int_keyed (P := Tryz.prog) az
 have vA := Maps.fit_rising K F
 have Cx : ∀ p ∈ es.toList.map (Go.WideElems.rg Tryz.prog bd jx),(∃ a,p.1 = .int .i64 a) ∧ ∃ v,p.2 = .held v := fun p hp => by
  obtain ⟨fD,hm,rfl⟩ := List.mem_map.1 hp
  obtain ⟨gU,o3⟩ := F.reads fD hm
  have nq := Go.WideElems.rd_key o3
  obtain ⟨z,bR,LU⟩ := Go.WideElems.rd_val o3
  rw [Go.WideElems.rg_of o3]
  refine ⟨?_,?_⟩
  ·have h := nq
   unfold keyOf at h
   cases aT : fD.key <;> rw [aT] at h <;> simp [az,mapKey] at h
   rename_i uj a
   cases uj <;> simp at h
   exact ⟨a,h.2.symm⟩
  ·simp only [jx,Option.some.injEq] at bR
   rw [LU,← bR]
   exact ⟨_,rfl⟩
 have pG := Go.WideShapes.apart_of_rising _ vA
 have eM := fun k jn => Go.WideShapes.atKey_sorted _ vA k jn
 rw [← ja] at eM
 have hlen : (es.toList.map (Go.WideElems.rg Tryz.prog bd jx)).length = es.size := by simp
 generalize es.toList.map (Go.WideElems.rg Tryz.prog bd jx) = L at *
 have aE : ∃ l : List Int,L.map Prod.fst = l.map (fun a => (.int .i64 a : Lit)) := by
  clear pG eM hlen vA ja
  induction L with
  | nil => exact ⟨[],rfl⟩
  | cons p L dW =>
   obtain ⟨l,aE⟩ := dW fun q aT => Cx q (List.mem_cons_of_mem _ aT)
   obtain ⟨a,a5⟩ := (Cx p (List.mem_cons_self ..)).1
   exact ⟨a :: l,by rw [List.map_cons,List.map_cons,aE,a5]⟩
 obtain ⟨l,aE⟩ := aE
 have Gu : ∀ j : Int,WideAt.IsKeyLit (.int .i64 j : Lit) := fun j => trivial
 refine ⟨l,?_,?_,fun j => ⟨fun aN => ?_,fun aN => ?_⟩⟩
 ·have af : (L.map Prod.fst).Pairwise (· ≠ ·) := List.pairwise_map.2 pG
  rw [aE] at af
  exact (List.pairwise_map.1 af).imp fun h e => h (by rw [e])
 ·rw [← hlen,← List.length_map (f := Prod.fst),aE,List.length_map]
 ·refine Classical.byContradiction fun kh => aN ?_
  have af := (eM (.int .i64 j) (Gu j)).1 (fun p hp e => kh (by
   have aj : p.1 ∈ L.map Prod.fst := List.mem_map.2 ⟨p,hp,rfl⟩
   rw [aE,e] at aj
   obtain ⟨a,a5,a7⟩ := List.mem_map.1 aj
   cases a7
   exact a5)) .nil
  have av := aZ j
  rw [af] at av
  cases e : f j with
  | none => rfl
  | some v => rw [e] at av; cases av
 ·have aj : (.int .i64 j : Lit) ∈ L.map Prod.fst := by rw [aE]; exact List.mem_map.2 ⟨j,aN,rfl⟩
  obtain ⟨p,hp,e⟩ := List.mem_map.1 aj
  have af := (eM (.int .i64 j) (Gu j)).2 p hp e .nil
  obtain ⟨v,bj⟩ := (Cx p hp).2
  have av := aZ j
  rw [af,bj] at av
  intro aY
  rw [aY] at av
  cases av
section
variable {N : Nat} {w0 w w' : World} {H0 H H' : bl} {S : ak} {E : Env} {a : Act} {o : Oper} {K : ak → Prop}

theorem al3 (aO : bC N w0 H0 S E a w H) (a6 : ∀ t,o.dst = some t → t < N) {t bd e x iS f} (ax : o.op = .call ⟨.builtin .len,#[x],#[t]⟩) (aL : Tryz.prog.underlying t = some (.map bd e)) (ow : Tryz.prog.underlying bd = some (.int .i64)) (ar : S.bg x = some (.mp iS f))
  (bX : (∀ i,f i = none) → K (S.b3 o.dst (.v (.int .i64 0)))) (cL : ∀ n : Nat,0 < n → (∃ i,f i ≠ none) → K (S.b3 o.dst (.v (.int .i64 n)))) (sZ : Tryz.prog.underlying iS = some (.int .i64)) : Told N w0 H0 o K a w := by
 have cC := aO.cX [x] x (by simp) _ ar
 generalize aT : a.eval x = q at cC
 cases cC with
 | nA ba =>
  exact sm (S' := S) (E' := E) (H' := H) (v := .int .i64 0) (w' := w) (s := .v (.int .i64 0)) (by simp [execOp,ax,resolve,aT,invoke,builtin,Maps.len_nil aL]) a6 aO (.v rfl) (bX ba)
 | @mp _ _ _ b jo M F aI hm dy aq aA =>
  obtain ⟨es,clock,rfl,kg⟩ := hm.empty sZ
  have hw := aO.sub b _ aI
  have da : (Builtin.len_ #[t] o.type #[.map (some b)]).run Tryz.prog w = .ok (.int .i64 es.size) w := by
   simp [Builtin.len_,run_underlying aL,MapKept.run_getObj_map hw,goInt,Result.andThen]
  refine sm (S' := S) (E' := E) (H' := H) (v := .int .i64 es.size) (w' := w) (s := .v (.int .i64 es.size)) (by simp [execOp,ax,resolve,aT,invoke,builtin,da]) a6 aO (.v rfl) ?_
  by_cases ba : es.size = 0
  ·rw [ba]; exact bX fun i => (aq i).2 (kg.1 ba i)
  ·refine cL _ (by omega) ?_
   refine Classical.byContradiction fun a9 => ba (kg.2 fun i => ?_)
   exact (aq i).1 (Classical.byContradiction fun dj => a9 ⟨i,dj⟩)

theorem al4 (aO : bC N w0 H0 S E a w H) (a6 : ∀ t,o.dst = some t → t < N) {t bd e x i iS M f} (ax : o.op = .call ⟨.builtin .len,#[x],#[t]⟩) (aL : Tryz.prog.underlying t = some (.map bd e)) (ar : S.bg x = some (.own i)) (aJ : an S.O i = some (.map iS M f))
  (cL : ∀ n : Nat,(∃ l : List Int,l.Nodup ∧ l.length = n ∧ ∀ j,f j ≠ none ↔ j ∈ l) → K (S.b3 o.dst (.v (.int .i64 n)))) (sZ : Tryz.prog.underlying iS = some (.int .i64)) : Told N w0 H0 o K a w := by
 have cC := aO.cX [x] x (by simp) _ ar
 obtain ⟨b,jo,F,bL,_,_,hw,hm,_,aq,_⟩ := aO.ob i _ aJ
 generalize aT : a.eval x = q at cC
 cases cC with
 | own af _ =>
  rw [bL] at af
  cases af
  obtain ⟨es,clock,rfl,l,l1,l2,G2⟩ := hm.count sZ
  have da : (Builtin.len_ #[t] o.type #[.map (some b)]).run Tryz.prog w = .ok (.int .i64 es.size) w := by
   simp [Builtin.len_,run_underlying aL,MapKept.run_getObj_map hw,goInt,Result.andThen]
  refine sm (S' := S) (E' := E) (H' := H) (v := .int .i64 es.size) (w' := w) (s := .v (.int .i64 es.size)) (by simp [execOp,ax,resolve,aT,invoke,builtin,da]) a6 aO (.v rfl) (cL _ ⟨l,l1,l2,fun j => ?_⟩)
  rw [← G2 j]
  exact not_congr (aq j)
theorem al9 (aO : bC N w0 H0 S E a w H) (a6 : ∀ t,o.dst = some t → t < N) {t bd e x f} (ax : o.op = .range t x) (aL : Tryz.prog.underlying t = some (.map bd e)) (ow : Tryz.prog.underlying bd = some (.int .i64)) (ar : S.bg x = some (.mp bd f))
  (az : ∀ hU,K ((S.fT (.iter f (fun i => (f i).isSome) hU none)).b3 o.dst (.own S.n))) : Told N w0 H0 o K a w := by
 have cC := aO.cX [x] x (by simp) _ ar
 generalize aT : a.eval x = q at cC
 cases cC with
 | nA ba =>
  have da := run_range_nilMap (P := Tryz.prog) w t bd e aL
  refine vX aO a6 (ob := .iter f (fun i => (f i).isSome) 0 none) (p := (.pointer (some ⟨w.heap.size,0,none⟩),0,some w.heap.size)) (row := none) (w' := w.alloc (.mapIter none 0 #[] 0)) (by simp [execOp,ax,aT,da]) ⟨rfl,rfl,rfl,by simp,fun k az _ => Below.heap_alloc w _ k az⟩ (fun b aI => by cases aI)
   ⟨w.heap.size,_,Env.iU _ _ _,aO.grow.below.size,aO.sub.none (Nat.le_refl _),heap_alloc_new w _,.inl ⟨_,_,_,rfl,fun j => by simp [ba]⟩,fun j s e => by cases e⟩ rfl (fun b aI => by cases aI; exact .inl (Nat.le_refl _)) (az 0)
 | @mp _ _ _ b jo M F aI hm dy aq aA =>
  obtain ⟨D,jc,Cu⟩ := hm.jO (aO.sub b jo aI) ow
  obtain ⟨w',da,vz,aJ,hi⟩ := jc.range (int_keyed (P := Tryz.prog) ow) aL
  obtain ⟨ob,my⟩ := Us vz
  have r0 : b < w.heap.size := aO.sub.lt aI
  have jQ : w'.heap[b]? = some jo := (aJ.block b r0 (by simp)).trans (aO.sub b jo aI)
  refine vX aO a6 (ob := .iter f (fun i => (f i).isSome) (size D) none) (p := (.pointer (some ⟨w.heap.size,0,none⟩),0,some w.heap.size)) (row := none) (w' := w') (by simp [execOp,ax,aT,da]) aJ (fun b aI => by cases aI)
   ⟨w.heap.size,ob,Env.iU _ _ _,aO.grow.below.size,aO.sub.none (Nat.le_refl _),my,.inr ⟨b,jo,bd,M,D,_,F,aI,ow,fun cn bJ cf => Ur vz (bJ.trans jQ.symm) (cf.trans my.symm),Cu,aq,aA,fun j => ?_⟩,fun j s e => by cases e⟩ rfl (fun b aI => by cases aI; exact .inl (Nat.le_refl _)) (az _)
  rw [Cu.has]
  have := aq j
  cases af : f j <;> cases aj : F j <;> simp_all

theorem al8 (aO : bC N w0 H0 S E a w H) (a6 : ∀ t,o.dst = some t → t < N) {x gm f left hU cur} (ax : o.op = .next x false) (ar : S.bg x = some (.own gm)) (aJ : an S.O gm = some (.iter f left hU cur))
  (tZ : (∀ j,left j = false) → K (S.b3 o.dst (.bY [.v (.bool false)])))
  (aH : ∀ j s uW,left j = true → f j = some s → -9223372036854775808 ≤ j → j ≤ 9223372036854775807 → uW < hU → K ((S.eT gm (.iter f (fun z => left z && z != j) uW (some (j,s)))).b3 o.dst (.bY [.v (.bool true),.v (.int .i64 j),s]))) : Told N w0 H0 o K a w := by
 have cC := aO.cX [x] x (by simp) _ ar
 obtain ⟨r,ob,a1,a7,ct,fb,iA,mi⟩ := aO.ob _ _ aJ
 have mn : a.eval x = .pointer (some ⟨r,0,none⟩) := by
  generalize a.eval x = jZ at cC
  cases cC with
  | own bL _ => rw [bL] at a1; cases a1; rfl
 rcases iA with ⟨eR,fi,fZ,rfl,ba⟩ | ⟨b,jo,bd,M,D,AH,F,af,ow,ec,Cu,aq,aA,aE⟩
 ·have da : (Instr.next (.pointer (some ⟨r,0,none⟩)) false o.type).run Tryz.prog w = .ok (.tuple #[.bool false]) w := by
   simp [Instr.next,Nm fb]
  exact sm (v := .tuple #[.bool false]) (w' := w) (by simp [execOp,ax,mn,da]) a6 aO (.bY (.cons (.v rfl) .nil)) (tZ ba)
 ·have vz := ec w (aO.sub b jo af) fb
  rcases vz.next (int_keyed (P := Tryz.prog) ow) o.type with ⟨_,yH,da⟩ | ⟨key,v,AF,y,w',Qb,bJ,cf,dA,fr,da,GG,jY,l4,ari,Cx⟩
  ·exact sm (v := .tuple #[.bool false]) (w' := w) (by simp [execOp,ax,mn,da]) a6 aO (.bY (.cons (.v rfl) .nil)) (tZ fun j => (aE j).symm.trans (yH _))
  ·obtain ⟨j,rfl,rfl,Sw⟩ := Maps.keyOf_int_inv ow bJ
   simp only [jx,Option.some.injEq] at dA
   subst dA
   have bu := Cu.get fr
   cases KN : f j with
   | none => rw [(aq j).1 KN] at bu; cases bu
   | some s =>
    have r5 := aA j s v KN bu
    obtain ⟨Hd,Gy⟩ := Us GG
    have afF : b ≠ r := fun e => by subst e; rw [ct] at af; cases af
    have r0 : b < w.heap.size := aO.sub.lt af
    have jQ : w'.heap[b]? = some jo := (l4.block b r0 (by simpa using afF)).trans (aO.sub b jo af)
    have KX : ∃ s uw c,Hd = .mapIter (some b) s uw c := by
     obtain ⟨es,clock,since,seen,de,_,_,_,_,u4,_⟩ := GG
     rw [Gy] at u4; cases u4; exact ⟨_,_,_,rfl⟩
    have LC : ∃ es c,jo = .map es c := by
     obtain ⟨es,clock,since,seen,de,g1,_⟩ := GG
     rw [jQ] at g1; cases g1; exact ⟨_,_,rfl⟩
    have kf := aO.p2 (o' := .iter f (fun z => left z && z != j) Qb (some (j,s))) ⟨_,aJ,rfl⟩ a1 (fun k az dj => l4.block k az (fun e => dj (Option.some.inj e))) l4.size l4.os l4.tape l4.output
     ⟨r,Hd,a1,a7,ct,Gy,.inr ⟨b,jo,bd,M,D,_,F,af,ow,fun cn g1 bW => Ur GG (g1.trans jQ.symm) (bW.trans Gy.symm),Cu,aq,aA,fun z => ?_⟩,fun AD dH e => ?_⟩ rfl
    ·exact sm (v := .tuple #[.bool true,.int .i64 j,v]) (by simp [execOp,ax,mn,da]) a6 kf (.bY (.cons (.v rfl) (.cons (.v rfl) (.cons (r5.mono (fun _ _ h => h) (mb _)) .nil)))) (aH j s Qb ((aE j).symm.trans cf) KN (wf_i64 Sw).1 (wf_i64 Sw).2 jY)
    ·show (AH (.int .i64 z) && !(Lit.int .i64 z).sameKey (.int .i64 j)) = (left z && z != j)
     rw [aE z]
     by_cases e : z = j <;> simp [Lit.sameKey,bne,e]
    ·cases e
     exact ⟨v,fun cn g1 bW => adX Gy jQ bW (g1 b jo af) KX LC Cx,r5⟩

theorem al1 (aO : bC N w0 H0 S E a w H) (a6 : ∀ t,o.dst = some t → t < N) {x gm f left hU j s} (ax : o.op = .entry x) (ar : S.bg x = some (.own gm)) (aJ : an S.O gm = some (.iter f left hU (some (j,s))))
  (az : K (S.b3 o.dst (.bY [.v (.int .i64 j),s]))) : Told N w0 H0 o K a w := by
 have cC := aO.cX [x] x (by simp) _ ar
 obtain ⟨r,ob,a1,a7,ct,fb,iA,mi⟩ := aO.ob _ _ aJ
 have mn : a.eval x = .pointer (some ⟨r,0,none⟩) := by
  generalize a.eval x = jZ at cC
  cases cC with
  | own bL _ => rw [bL] at a1; cases a1; rfl
 obtain ⟨v,af,aj⟩ := mi j s rfl
 have da := af w aO.sub fb
 exact sm (v := .tuple #[.int .i64 j,v]) (w' := w) (by simp [execOp,ax,mn,da]) a6 aO (.bY (.cons (.v rfl) (.cons (aj.mono (fun _ _ h => h) (mb _)) .nil))) az
theorem Mv {H : bl} {E : Env} {x : aw} {u : Value} (h : xv x = true) (aA : cl H E x u) : ∃ a,u = .slice a 0 0 ∧ ∀ k,cl H eD (.au k 0 []) u := by
 have az : ∀ a k,cl H eD (.au k 0 []) (.slice a 0 0) := fun a k => .au .nil rfl (Nat.le_refl _) (Nat.zero_le _) ⟨fun _ => rfl,fun _ _ => rfl⟩ (fun _ => rfl) (fun j u hu => by simp at hu)
 unfold xv at h
 split at h
 ·cases aA; exact ⟨_,rfl,az _⟩
 ·cases aA with
  | au af aj av aY bM bN cJ =>
   simp only [List.length_nil] at aj
   subst aj
   have := bM.2 rfl rfl
   subst this
   exact ⟨_,rfl,az _⟩
 ·cases h
theorem bC.cast (h : bC N w0 H0 S E a w H) (c : rC) : ∃ E',bC N w0 H0 (S.cast c) E' a w H := by
 have row : ∀ (e : TypeId) (k : Nat) (u : Value),0 < k → (∃ a,u = .slice a 0 0) → ∃ E',fW E E' ∧ E' S.n = some (u,k,none) ∧ bC N w0 H0 (S.fT (.row e k [])) E' a w H := fun e k u az hu =>
  ⟨E.set S.n (u,k,none),Env.vV _ (h.c0 _ (Nat.le_refl _)),Env.iU _ _ _,h.new (p := (u,k,none)) ⟨u,none,[],Env.iU _ _ _,az,.nil,.inl ⟨rfl,rfl,hu⟩⟩ (fun b aI => by cases aI)⟩
 have zm : ∀ {bT : ak} {hy : Env} {t : Nat} {x : aw},bC N w0 H0 bT hy a w H → cl H hy x (a.eval (.tmp t)) → bC N w0 H0 (bT.put t x) hy a w H := fun {bT hy t x} af ar =>
  ⟨af.grow,fun t' y aV => by
   simp only [ak.put,mR] at aV
   split at aV
   ·rename_i e; cases aV; subst e; exact ar
   ·exact af.k4 t' y aV,af.ob,af.ap,af.c0,af.ju,af.jO⟩
 have mE : ∀ {bT : ak} {hy : Env} {i c : Nat} {iY : TypeId} {cs : List aw} {y : aw},bC N w0 H0 bT hy a w H → an bT.O i = some (.box iY cs) → y.one = true → (∀ vs b,hy i = some (.pointer (some ⟨b,0,none⟩),0,some b) → w.heap[b]? = some (.cells vs.toArray iY (0,0)) → dg H hy cs vs → dg H hy (cs.set c y) vs) → bC N w0 H0 (bT.eT i (.box iY (cs.set c y))) hy a w H := fun {bT hy i c iY cs y} af aJ aV aA => by
  have gB : ∀ j o,an (bT.eT i (.box iY (cs.set c y))).O j = some o → (j = i ∧ o = .box iY (cs.set c y)) ∨ (i ≠ j ∧ an bT.O j = some o) := fun j o aN => by
   simp only [ak.eT,mR] at aN
   split at aN
   ·rename_i e; cases aN; exact .inl ⟨e.symm,rfl⟩
   ·rename_i e; exact .inr ⟨e,aN⟩
  have lr : ∀ j,nx (bT.eT i (.box iY (cs.set c y))) j → nx bT j := by
   rintro j ⟨o,ax,aE⟩
   rcases gB j o ax with ⟨rfl,rfl⟩ | ⟨_,aN⟩
   ·exact ⟨_,aJ,rfl⟩
   ·exact ⟨o,aN,aE⟩
  refine ⟨af.grow,af.k4,fun j o aN => ?_,fun jC AD iN aq aN => af.ap jC AD iN (lr _ aq) (lr _ aN),af.c0,af.ju,af.jO⟩
  rcases gB j o aN with ⟨rfl,rfl⟩ | ⟨_,aN⟩
  ·obtain ⟨b,vs,a1,a7,ct,fb,iA,mi⟩ := af.ob _ _ aJ
   refine ⟨b,vs,a1,a7,ct,fb,aA vs b a1 fb iA,?_⟩
   rw [List.all_eq_true] at mi ⊢
   intro z bR
   rcases List.mem_or_eq_of_mem_set bR with bR | rfl
   ·exact mi z bR
   ·exact aV
  ·exact af.ob j o aN
 have Ol : ∀ {hy : Env} {cs : List aw} {vs : List Value} {c : Nat} {y : aw},dg H hy cs vs → (∀ u,vs[c]? = some u → cl H hy y u) → dg H hy (cs.set c y) vs := by
  intro hy cs
  induction cs with
  | nil => intro vs c y h _; simpa using h
  | cons z cs dW =>
   intro vs c y h aV
   cases h with
   | cons h t =>
    cases c with
    | zero => exact .cons (aV _ rfl) t
    | succ c => exact .cons h (dW t (fun u hu => aV u (by simpa using hu)))
 cases c with
 | slot t e k =>
  simp only [ak.cast]
  split
  ·rename_i x ar
   split
   ·rename_i aB
    simp only [Bool.and_eq_true,decide_eq_true_eq] at aB
    obtain ⟨a0,a5,az⟩ := Mv aB.1 (h.k4 t x ar)
    cases e with
    | none => exact ⟨E,zm h ((az k).mono (fun _ _ h => h) (mb E))⟩
    | some e =>
     obtain ⟨E',hle,bL,aO⟩ := row e k _ aB.2 ⟨a0,a5⟩
     exact ⟨E',zm aO (.own bL (by rw [a5]; rfl))⟩
   ·exact ⟨E,h⟩
  ·exact ⟨E,h⟩
 | cell i c e k =>
  simp only [ak.cast]
  split
  ·rename_i iY cs aJ
   split
   ·rename_i x ar
    split
    ·rename_i aB
     simp only [Bool.and_eq_true,decide_eq_true_eq] at aB
     obtain ⟨b,vs,a1,a7,ct,fb,iA,mi⟩ := h.ob _ _ aJ
     obtain ⟨u,hu,Dd⟩ := iA.get ar
     obtain ⟨a0,a5,az⟩ := Mv aB.1 Dd
     cases e with
     | none =>
      refine ⟨E,mE h aJ rfl (fun l8 gb _ _ bj => Ol bj fun k5 ue => ?_)⟩
      obtain ⟨ha,uf,Az⟩ := bj.get ar
      rw [ue] at uf; cases uf
      obtain ⟨_,_,jn⟩ := Mv aB.1 Az
      exact (jn k).mono (fun _ _ h => h) (mb E)
     | some e =>
      obtain ⟨E',hle,bL,aO⟩ := row e k u aB.2 ⟨a0,a5⟩
      have kz : i ≠ S.n := fun e5 => by rw [e5,h.c0 _ (Nat.le_refl _)] at a1; cases a1
      have sV : an (S.fT (.row e k [])).O i = some (.box iY cs) := by
       simp only [ak.fT,an]
       rw [if_neg (fun e5 => kz e5.symm)]; exact aJ
      refine ⟨E',mE aO sV rfl (fun l8 gb f1 f2 bj => Ol bj fun k5 ue => ?_)⟩
      have := hle _ _ a1
      rw [f1] at this
      simp only [Option.some.injEq,Prod.mk.injEq] at this
      obtain ⟨_,_,rfl⟩ := this
      rw [f2] at fb
      simp only [Option.some.injEq,Obj.cells.injEq] at fb
      have qe : l8 = vs := by have := fb.1; simpa using congrArg Array.toList this
      subst qe
      rw [hu] at ue; cases ue
      exact .own bL (by rw [a5]; rfl)
    ·exact ⟨E,h⟩
   ·exact ⟨E,h⟩
  ·exact ⟨E,h⟩
 | any t =>
  simp only [ak.cast]
  split
  ·rename_i x ar
   split
   ·rename_i af
    exact ⟨E,zm h (.any ((h.k4 t x ar).Hm af))⟩
   ·exact ⟨E,h⟩
  ·exact ⟨E,h⟩
 | PR t c =>
  simp only [ak.cast]
  split
  ·rename_i cs ar
   have aA := h.k4 t _ ar
   generalize aT : a.eval (.tmp t) = q at aA
   cases aA with
   | agg fS af =>
    refine ⟨E,zm h (aT ▸ .agg (Ol fS fun u hu => ?_) ?_)⟩
    ·exact .any (fS.one af u (List.mem_of_getElem? hu))
    ·rw [List.all_eq_true] at af ⊢
     intro z bR
     rcases List.mem_or_eq_of_mem_set bR with bR | rfl
     ·exact af z bR
     ·rfl
  ·exact ⟨E,h⟩
 | h2 i =>
  simp only [ak.cast]
  split
  ·rename_i e c es aJ
   obtain ⟨u,ob,xs,a1,az,a7,ct⟩ := h.ob _ _ aJ
   rcases ct with ⟨ba,_⟩ | ⟨g,cap,cur,rfl,rfl,bP,a4,fs,hD,k9,uN,fN,hn⟩
   ·cases ba
   ·have ni : ∀ {es : List (List aw)} {xs : List Value},eN H 1 es xs → dg H E es.flatten xs ∧ es.flatten.length = es.length ∧ es.flatten.all aw.one = true := by
     intro es
     induction es with
     | nil => intro xs h; cases h; exact ⟨.nil,rfl,rfl⟩
     | cons c es dW =>
      intro xs h
      cases h with
      | cons dI dS oG o9 =>
       obtain ⟨i1,i2,i3⟩ := dW o9
       refine ⟨by rw [List.flatten_cons]; exact (dI.mono (fun _ _ h => h) (mb _)).append i1,?_,?_⟩
       ·have := dI.length
        rw [List.flatten_cons,List.length_append,i2,this,dS,List.length_cons,Nat.add_comm]
       ·rw [List.flatten_cons,List.all_append,oG,i3]; rfl
    obtain ⟨f1,f2,f3⟩ := ni a7
    have gB : ∀ j o,an (S.eT i (.h2 e (c :: es).flatten)).O j = some o → (j = i ∧ o = .h2 e (c :: es).flatten) ∨ (i ≠ j ∧ an S.O j = some o) := fun j o aN => by
     simp only [ak.eT,mR] at aN
     split at aN
     ·rename_i e; cases aN; exact .inl ⟨e.symm,rfl⟩
     ·rename_i e; exact .inr ⟨e,aN⟩
    have lr : ∀ j,nx (S.eT i (.h2 e (c :: es).flatten)) j → nx S j := by
     rintro j ⟨o,ax,aE⟩
     rcases gB j o ax with ⟨rfl,rfl⟩ | ⟨_,aN⟩
     ·exact ⟨_,aJ,rfl⟩
     ·exact ⟨o,aN,aE⟩
    refine ⟨E,h.grow,h.k4,fun j o aN => ?_,fun jC AD iN aq aN => h.ap jC AD iN (lr _ aq) (lr _ aN),h.c0,h.ju,h.jO⟩
    rcases gB j o aN with ⟨rfl,rfl⟩ | ⟨_,aN⟩
    ·refine ⟨g,cap,cur,by rw [f2]; exact a1,bP,a4,fs,by rw [f2,fN]; omega,?_,f3⟩
     rw [f2]
     have : (c :: es).length * 1 = (c :: es).length := Nat.mul_one _
     rw [this] at hn
     rw [hn]; exact f1
    ·exact h.ob j o aN
  ·exact ⟨E,h⟩

theorem bC.gM : ∀ (l : List rC) {S : ak} {E : Env},bC N w0 H0 S E a w H → ∃ E',bC N w0 H0 (S.gM l) E' a w H
 | [],_,E,h => ⟨E,h⟩
 | c :: l,_,_,h => by
  obtain ⟨hy,af⟩ := h.cast c
  exact bC.gM l af

end

section
variable {N : Nat} {w0 w w' : World} {H0 H H' : bl} {S : ak} {E : Env} {a : Act} {o : Oper} {K : ak → Prop}

theorem bC.bg (aO : bC N w0 H0 S E a w H) {x : Operand} {s : aw} (h : S.bg x = some s) : cl H E s (a.eval x) := aO.cX [x] x (by simp) s h

theorem Xw (aO : bC N w0 H0 S E a w H) (a6 : ∀ t,o.dst = some t → t < N) {op fj} (ax : o.op = op) (hm : eW op fj) (h : cx fj S fun s => K (S.b3 o.dst s)) : Told N w0 H0 o K a w := by
 obtain ⟨s,az,aJ⟩ := Qs (E := E) ax hm h
 exact ame aO a6 aJ az

theorem QD (nf : bC N w0 H0 S E a w H) (a6 : ∀ t,o.dst = some t → t < N) {op fj} (ax : o.op = op) (hm : eW op fj) (h : fJ o.dst fj S K) : Told N w0 H0 o K a w := by
 obtain ⟨H1,_,aO⟩ := nf.mQ fj.fL
 have br : cx fj (S.mQ fj.fL) (fun s => K ((S.mQ fj.fL).b3 o.dst s)) → Told N w0 H0 o K a w := fun h => Xw aO a6 ax hm h
 cases hm with
 | cw af aj av => exact alS aO a6 ax af aj av h
 | box =>
  obtain ⟨s,ao,af,h⟩ := b2 h
  exact alV aO a6 ax ao af h
 | st af =>
  obtain ⟨kS,h⟩ := h
  obtain ⟨s,ao,h⟩ := b2 h
  obtain ⟨v,bj,h⟩ := b2 h
  cases s with
  | ptr i idx off =>
   simp only at h
   split at h
   ·rename_i t cs aJ
    obtain ⟨bS,bH,bP,h⟩ := h
    exact amb aO kS ax af ao bj aJ bS bH bP h
   ·obtain ⟨hb,y0,h⟩ := b2 h
    obtain ⟨bS,bH,bP,h⟩ := h
    have cC := aO.bg ao
    have ik := aO.bg bj
    obtain ⟨kK,l2,hH⟩ := aO.jA v
    split at h
    ·rename_i e dz es aJ
     obtain ⟨c,aB,a4,h⟩ := b2 h
     exact amc hH kS ax af rfl (cC.mono l2 (fW.refl _)) (ik.mono l2 (fW.refl _)) y0 aJ bS bH bP aB a4 h
    ·exact h.elim
   ·rename_i e cs aJ
    obtain ⟨bS,bH,bP,h⟩ := h
    exact amd aO kS ax af ao bj aJ bS bH bP h
   ·exact h.elim
  | _ => exact h.elim
 | uV af aj av aY bM bN cJ => obtain ⟨es,he,_,h⟩ := b2 h; exact alU aO a6 ax af aj av aY bM bN cJ he h
 | mY af aj av aY bM bN =>
  obtain ⟨s,ao,h⟩ := b2 h
  cases s with
  | v q => cases q with
   | int fq m => obtain ⟨bS,bH,bP,h⟩ := h; exact al7 aO a6 ax af aj av aY bM bN ao bS bH bP h
   | _ => exact h.elim
  | _ => exact h.elim
 | o5 af aj => exact al6 aO a6 ax h
 | app af aj av aY bM =>
  obtain ⟨s,ao,h⟩ := b2 h
  obtain ⟨j,aN,h⟩ := b2 h
  cases s with
  | au cL full xs =>
   cases j with
   | au k2 f2 ys => obtain ⟨rfl,rfl,rL,fP,dh,dv,h⟩ := h; exact Xt aO a6 ax af aj av aY bM (aO.bg ao) rL aN rfl fP dh dv h
   | _ => exact h.elim
  | own i =>
   cases j with
   | au k2 f2 ys =>
    simp only at h
    split at h
    ·rename_i e5 cL es aJ
     obtain ⟨rfl,rfl,rfl,dh,dv,h⟩ := h
     exact alT aO a6 ax af aj av aY bM ao aJ aN rfl dh dv h
    ·exact h.elim
   | _ => exact h.elim
  | _ => exact h.elim
 | rO af aj =>
  obtain ⟨s,ao,h⟩ := b2 h
  obtain ⟨j,aN,h⟩ := b2 h
  cases s with
  | own i =>
   cases j with
   | au k2 f2 ys =>
    simp only at h
    split at h
    ·rename_i e5 cL es aJ
     obtain ⟨rfl,rfl,h⟩ := h
     exact alY aO a6 ax af aj ao aJ aN rfl h
    ·exact h.elim
   | _ => exact h.elim
  | _ => exact h.elim
 | qv af aj =>
  obtain ⟨kS,h⟩ := h
  obtain ⟨s,ao,h⟩ := b2 h
  obtain ⟨j,aN,h⟩ := b2 h
  obtain ⟨v,bj,h⟩ := b2 h
  cases s with
  | own i =>
   cases j with
   | v q =>
    cases q with
    | int fq n =>
     cases fq with
     | i64 =>
      simp only at h
      split at h
      ·rename_i iS M f aJ
       obtain ⟨rfl,dh,dv,gL,h⟩ := h
       rcases h with h | ⟨rE,Ao,h⟩
       ·exact Xx aO kS ax af aj ao aN bj aJ dh dv gL (.inl rfl) h
       ·exact Xx aO kS ax af aj ao aN bj aJ dh dv gL (.inr Ao) h
      ·exact h.elim
     | _ => exact h.elim
    | _ => exact h.elim
   | _ => exact h.elim
  | _ => exact h.elim
 | te af aj =>
  obtain ⟨s,ao,h⟩ := b2 h
  cases s with
  | mp iS f => obtain ⟨sZ,bX,cL⟩ := h; exact al3 aO a6 ax af aj ao bX cL (by rw [sZ]; exact aj)
  | own i =>
   simp only at h
   split at h
   ·rename_i iS M f aJ
    obtain ⟨sZ,cL⟩ := h
    exact al4 aO a6 ax af ao aJ cL (by rw [sZ]; exact aj)
   ·exact h.elim
  | _ => exact h.elim
 | call af aj av =>
  have go : ∀ {S : ak} {E : Env} {H : bl},bC N w0 H0 S E a w H → FL _ _ S o.dst K → Told N w0 H0 o K a w := fun aO h => by
   rcases h with h | h
   ·exact Xw aO a6 ax (.call af aj av) h
   ·obtain ⟨l,aE,h⟩ := b2 h
    rcases h with ⟨e,k,es,aA,az⟩ | ⟨bd,M,g,aA,az,aH⟩
    ·exact ama aO a6 ax (n8 af aj av) aE aA az
    ·exact al5 aO a6 ax (n8 af aj av) aE aA az aH
  rcases h with h | ⟨cs,h⟩ | ⟨l,P,aE,aA,az⟩
  ·exact go aO h
  ·obtain ⟨qJ,hH⟩ := nf.gM cs
   obtain ⟨kK,_,yv⟩ := hH.mQ _
   exact go yv h
  ·exact alW nf a6 ax (n8 af aj av) aE aA az
 | @kP t args hQ =>
  rcases h with h | ⟨s,l0,f,l,P,ar,aE,aB,aA,az⟩
  ·exact br h
  ·exact alX nf a6 ax ar aE aB aA az
 | gen =>
  rcases h with h | ⟨x,name,args,hQ,t,l5,l0,f,P,rfl,rfl,ar,aE,bA,Km,aA,az⟩
  ·exact br h
  ·exact al2 nf a6 ax ar aE bA Km aA az
 | @eqv t x y t2 =>
  rcases h with h | h
  ·exact br h
  ·obtain ⟨s,ao,h⟩ := b2 h
   obtain ⟨j,aN,h⟩ := b2 h
   cases s with
   | own i =>
    cases j with
    | v q =>
     cases q with
     | map p =>
      cases p with
      | none =>
       simp only at h
       split at h
       ·rename_i bd M f aJ
        obtain ⟨⟨iS,e,hu⟩,h⟩ := h
        exact Xv (neg := false) aO a6 ax hu ao aN aJ h
       ·exact h.elim
      | _ => exact h.elim
     | _ => exact h.elim
    | _ => exact h.elim
   | _ => exact h.elim
 | @Ms t x y t2 =>
  rcases h with h | h
  ·exact br h
  ·obtain ⟨s,ao,h⟩ := b2 h
   obtain ⟨j,aN,h⟩ := b2 h
   cases s with
   | own i =>
    cases j with
    | v q =>
     cases q with
     | map p =>
      cases p with
      | none =>
       simp only at h
       split at h
       ·rename_i bd M f aJ
        obtain ⟨⟨iS,e,hu⟩,h⟩ := h
        exact Xv (neg := true) aO a6 ax hu ao aN aJ h
       ·exact h.elim
      | _ => exact h.elim
     | _ => exact h.elim
    | _ => exact h.elim
   | _ => exact h.elim
 | del af aj =>
  obtain ⟨s,ao,h⟩ := b2 h
  obtain ⟨j,aN,h⟩ := b2 h
  cases s with
  | own i =>
   cases j with
   | v q =>
    cases q with
    | int fq n =>
     cases fq with
     | i64 =>
      simp only at h
      split at h
      ·rename_i iS M f aJ
       obtain ⟨rfl,dv,gL,h⟩ := h
       exact alZ aO a6 ax af aj ao aN aJ dv gL h
      ·exact h.elim
     | _ => exact h.elim
    | _ => exact h.elim
   | _ => exact h.elim
  | v p =>
   cases p with
   | map pm =>
    cases pm with
    | none =>
     cases j with
     | v q =>
      cases q with
      | int fq n =>
       cases fq with
       | i64 => obtain ⟨dv,gL,h⟩ := h; exact al0 aO a6 ax af aj ao aN dv gL h
       | _ => exact h.elim
      | _ => exact h.elim
     | _ => exact h.elim
    | some b => cases j with
     | v q => cases q with
      | int fq n => cases fq <;> exact h.elim
      | _ => exact h.elim
     | _ => exact h.elim
   | _ => cases j with
    | v q => cases q with
     | int fq n => cases fq <;> exact h.elim
     | _ => exact h.elim
    | _ => exact h.elim
  | _ => exact h.elim
 | kl af aj =>
  obtain ⟨s,ao,h⟩ := b2 h
  cases s with
  | mp iS f => obtain ⟨rfl,h⟩ := h; exact al9 aO a6 ax af aj ao h
  | _ => exact h.elim
 | o7 =>
  obtain ⟨s,ao,h⟩ := b2 h
  cases s with
  | own i =>
   simp only at h
   split at h
   ·rename_i f left hU cur aJ
    exact al8 aO a6 ax ao aJ h.1 h.2
   ·exact h.elim
  | _ => exact h.elim
 | rS =>
  obtain ⟨s,ao,h⟩ := b2 h
  cases s with
  | own i =>
   simp only at h
   split at h
   ·rename_i f left hU j s aJ
    exact al1 aO a6 ax ao aJ h
   ·exact h.elim
  | _ => exact h.elim
 | _ => exact br h
end

def Pn (ops : Array Oper) (o : Oper) : Option (Nat × Bool) → Prop
 | none => o.guard = none
 | some (t,b) => ∃ j hP,o.guard = some (j,b) ∧ ops[j]? = some hP ∧ hP.dst = some t
structure Bl (N : Nat) (ops : Array Oper) (o : Oper) (g : cA) : Prop where
 d : g.d = o.dst
 op : eW o.op g.op
 lt : ∀ t,o.dst = some t → t < N
 gj : Pn ops o g.g
inductive kn (N : Nat) (ops : Array Oper) : List Oper → List cA → Prop
 | nil : kn N ops [] []
 | cons {o g l cu} : Bl N ops o g → kn N ops l cu → kn N ops (o :: l) (g :: cu)

def End (N : Nat) (w0 : World) (H0 : bl) (K : ak → Prop) (a : Act) (w : World) : Prop := ∃ S' E' H',K S' ∧ bC N w0 H0 S' E' a w H'

section
variable {N : Nat} {w0 w w' : World} {H0 H H' : bl} {S : ak} {E : Env} {a : Act} {o : Oper} {K : ak → Prop} {ops : Array Oper} {Q : Exit → Act → World → Prop}

theorem BR {j : Nat} {hP : Oper} {t : Nat} (aN : ops[j]? = some hP) (a6 : hP.dst = some t) : mh ops a j = a.eval (.tmp t) := by simp [mh,aN,a6]

theorem Fi {t : Nat} {ez : Bool} (bf : cl H E (.v (.bool ez)) (a.eval (.tmp t))) : a.eval (.tmp t) = .bool ez := by
 generalize a.eval (.tmp t) = q at bf
 cases bf; rfl

theorem bC.mg (h : bC N w0 H0 S E a w H) {d : Option Nat} {v : Value} : bC N w0 H0 (S.mg d) E (a.put d v) w H := by
 cases d with
 | none => exact h
 | some d => exact h.skip

theorem OY {j : Nat} {hP : Oper} {t : Nat} {b : Bool} (g1 : o.guard = some (j,b)) (bW : ops[j]? = some hP) (gH : hP.dst = some t) (bj : a.eval (.tmp t) = undef) : Region.wanted o (yielded ops a.tmps) = false := by
 unfold Region.wanted
 rw [g1]
 simp only [yielded,bW,gH,Option.bind_some]
 cases h : a.tmps[t]? with
 | none => rfl
 | some v =>
  have : v = undef := by simpa [Act.eval,h] using bj
  subst this
  rfl

theorem B1 {l2 : List Oper} : ∀ {l : List Oper} {cu : List cA} {S : ak} {E : Env} {a : Act} {w : World} {H : bl} {K : ak → Prop},kn N ops l cu → ig cu S K → bC N w0 H0 S E a w H → (∀ a w,End N w0 H0 K a w → wpList Tryz.prog ops Q l2 a w) → wpList Tryz.prog ops Q (l ++ l2) a w
 | _,_,_,_,_,_,_,_,.nil,h,aO,kv => kv _ _ ⟨_,_,_,h,aO⟩
 | o :: l,g :: cu,S,E,a,w,H,K,.cons aJ aL,h,aO,kv => by
  have run : ∀ {p6 : ak → Prop},fJ o.dst g.op S p6 → (∀ S',p6 S' → ig cu S' K) → o.wp Tryz.prog a w (wpList Tryz.prog ops Q (l ++ l2)) Q := fun az Kn => by
   refine Oper.Ep ?_ (QD aO aJ.lt rfl aJ.op az)
   rintro dN w' ⟨S',E',H',jn,dY⟩
   exact B1 aL (Kn _ jn) dY kv
  rw [List.cons_append]
  unfold wpList
  simp only [ig,kd] at h
  have ky := aJ.gj
  split at h
  ·rename_i a9
   rw [a9] at ky
   rw [if_pos (Bc ky)]
   rw [aJ.d] at h
   exact .inl (run h fun _ h => h)
  ·rename_i t b a9
   rw [a9] at ky
   obtain ⟨j,hP,g1,bW,gH⟩ := ky
   obtain ⟨s,ao,h⟩ := b2 h
   have bf := aO.bg ao
   cases s with
   | v q =>
    cases q with
    | bool ez =>
     have bj : mh ops a j = .bool ez := (BR bW gH).trans (Fi bf)
     rw [Ek g1 bj]
     rw [aJ.d] at h
     by_cases aI : ez = b
     ·rw [if_pos (by simp [aI])]
      exact .inl (run (h.1 aI) fun _ h => h)
     ·rw [if_neg (by simp [aI])]
      have jQ : ez = !b := by cases ez <;> cases b <;> simp_all
      exact B1 aL (h.2 jQ) (aO.put (v := undef) (.bY .nil) aJ.lt) kv
    | _ => exact h.elim
   | bY cs =>
    cases cs with
    | nil =>
     have bj : a.eval (.tmp t) = undef := by
      generalize a.eval (.tmp t) = q at bf
      cases bf with
      | bY h => cases h; rfl
     rw [OY g1 bW gH bj,if_neg (by simp)]
     rw [aJ.d] at h
     exact B1 aL h (aO.put (v := undef) (.bY .nil) aJ.lt) kv
    | cons _ _ => exact h.elim
   | _ => exact h.elim

theorem QB {l : List Oper} {cu : List cA} {S : ak} {E : Env} {a : Act} {w : World} {H : bl} {K : ak → Prop} (aJ : kn N ops l cu) (h : ig cu S K) (aO : bC N w0 H0 S E a w H) (kv : ∀ a w,End N w0 H0 K a w → Q .normal a w) : wpList Tryz.prog ops Q l a w := by
 have := B1 (l2 := []) aJ h aO (Q := Q) kv
 rwa [List.append_nil] at this

def xM (E : Env) (s : aw) : Rel := fun v _ H => cl H E s v
theorem SO (E : Env) (s : aw) : wh (xM E s) := fun _ _ _ _ _ h g ao => h.mono (g.le ao) (fW.refl _)
def Jn (E : Env) (B : Nat) (t : TypeId) (cs : List aw) : Rel := fun v w H => ∃ b vs,v = .pointer (some ⟨b,0,none⟩) ∧ B ≤ b ∧ H b = none ∧ w.heap[b]? = some (.cells vs.toArray t (0,0)) ∧ dg H E cs vs
theorem ah7 (E : Env) (B : Nat) (t : TypeId) (cs : List aw) : wh (Jn E B t cs) := fun v w H w' H' ⟨b,vs,af,aj,av,aY,bM⟩ g ao => by
 have bQ := (Array.getElem?_eq_some_iff.1 aY).1
 exact ⟨b,vs,af,aj,(g.old b bQ).trans av,(g.below.block b bQ).trans aY,bM.mono (g.le ao) (fW.refl _)⟩

def D0 (E : Env) (B : Nat) (e : TypeId) (k : Nat) (es : List (List aw)) : Rel := fun v w H => ∃ ob xs,0 < k ∧ eN H k es xs ∧ ((es = [] ∧ ob = none ∧ ∃ a,v = .slice a 0 0) ∨
 ∃ g cap cur,ob = some g ∧ v = .slice (some ⟨g,0,none⟩) es.length cap ∧ B ≤ g ∧ H g = none ∧ w.heap[g]? = some (.cells cur e (0,0)) ∧ es.length ≤ cap ∧ cap ≤ maxLen ∧ (es = [] → cap = 0) ∧ cur.size = cap * k ∧ cur.toList.take (es.length * k) = xs)
theorem ah9 (E : Env) (B : Nat) (e : TypeId) (k : Nat) (es : List (List aw)) : wh (D0 E B e k es) := fun v w H w' H' ⟨ob,xs,az,aj,av⟩ g ao => by
 refine ⟨ob,xs,az,aj.mono (g.le ao),av.imp id ?_⟩
 rintro ⟨ku,cap,cur,bS,bH,bP,a4,fs,hD⟩
 have bQ := (Array.getElem?_eq_some_iff.1 fs).1
 exact ⟨ku,cap,cur,bS,bH,bP,(g.old _ bQ).trans a4,(g.below.block _ bQ).trans fs,hD⟩

def Ox (ops : Array Oper) (n : Nat) (o : Oper) (t : Nat) : Bool := tj ops n t || (List.range n).any fun i => waits o i && ((ops[i]?).bind (·.dst) == some t)
def MS (ops : Array Oper) (n : Nat) (o : Oper) : Operand → Bool
 | .tmp t => Ox ops n o t
 | _ => true
def F0 (ops : Array Oper) (n : Nat) (cu : List cA) : Bool :=
 (List.range n).all fun i => match ops[i]?,cu[i]? with
  | some o,some g => g.op.cX.all (MS ops n o) && (match g.g with | none => true | some (t,_) => (match o.guard with | some (j,_) => waits o j && decide (j < n) | none => false) && Ox ops n o t)
  | _,_ => false
def b7.b4 : b7 → Bool
 | .ah _ | .ext _ _ | .lB _ => true
 | _ => false
def FT (eZ : List Nat) (cu : List cA) : Bool := eZ.all fun i => match cu[i]? with
 | some g => g.op.b4
 | none => false

def I0 (ops : Array Oper) (n : Nat) (Γ : List Rel) (S0 : ak) (E : Env) (t : Nat) (x : aw) : Prop :=
 (tj ops n t = true ∧ an S0.T t = some x) ∨ (∃ i o,i < Γ.length ∧ ops[i]? = some o ∧ o.dst = some t ∧ Γ[i]? = some (xM E x)) ∨ (∃ i o,Γ.length ≤ i ∧ i < n ∧ ops[i]? = some o ∧ o.dst = some t)
def x1 (ops : Array Oper) (n : Nat) (Γ : List Rel) (S0 S : ak) (E : Env) : Prop :=
 S.O = S0.O ∧ ∀ t x,an S.T t = some x → I0 ops n Γ S0 E t x

theorem Tr {n t i : Nat} {o : Oper} (h : tj ops n t = true) (aq : i < n) (ax : ops[i]? = some o) : o.dst ≠ some t := by
 unfold tj at h
 rw [List.all_eq_true] at h
 have hm : o ∈ ops.toList.take n := by
  rw [List.mem_iff_getElem?]
  exact ⟨i,by rw [List.getElem?_take,if_pos aq]; simpa using ax⟩
 simpa using h o hm

variable {n : Nat} {eZ : List Nat} {a0 : Act} {hB : World} {h3 : bl} {Γ : List Rel} {S0 : ak}

theorem Xe (aZ : Eu ops n eZ) (aO : bC N w0 H0 S0 E a0 hB h3) (lz : x1 ops n Γ S0 S E) (hlen : Γ.length < n) (fm : ops[Γ.length]? = some o) (hw : Grow hB h3 w H) (hp : rG ops Γ o a w H) (ax : qQ ops n a0 a)
  {x : Operand} (ar : MS ops n o x = true) : ∀ y,S.bg x = some y → cl H E y (a.eval x) := fun y aV => by
 have dX : nN w0.heap.size S E w H := fun i o' aq => by rw [lz.1] at aq; exact (aO.ob i o' aq).grow hw aO.sub
 refine T9 hw.sub.rW dX (fun t z aL bR => ?_) aV
 subst aL
 simp only [MS,Ox,Bool.or_eq_true,List.any_eq_true,List.mem_range,Bool.and_eq_true,beq_iff_eq] at ar
 rcases lz.2 t z bR with ⟨af,aj⟩ | ⟨i,kG,af,aj,av,aY⟩ | ⟨i,kG,af,aj,av,aY⟩
 ·rw [ai6 ax af]; exact (aO.k4 t z aj).mono (hw.le aO.sub) (fW.refl _)
 ·rcases ar with ar | ⟨jC,jR,e7,GU⟩
  ·exact absurd av (Tr ar (by omega) aj)
  ·have Gp : jC = i := Decidable.byContradiction fun dj => aZ.dst jC i jR (by omega) dj t GU (by rw [aj]; simpa using av)
   subst Gp
   have := hp jC _ e7 aY
   rw [BR aj av] at this
   exact this
 ·rcases ar with ar | ⟨jC,jR,e7,GU⟩
  ·exact absurd aY (Tr ar aj av)
  ·have Gp : jC = i := Decidable.byContradiction fun dj => aZ.dst jC i jR aj dj t GU (by rw [av]; simpa using aY)
   subst Gp
   obtain ⟨e,he,aI,aqN⟩ := tz e7
   have := aZ.py _ _ fm e he aI
   omega
end

section
variable {N : Nat} {w0 w w' : World} {H0 H H' : bl} {S : ak} {E : Env} {a : Act} {o : Oper} {K : ak → Prop} {ops : Array Oper} {Q : Exit → Act → World → Prop}
variable {n : Nat} {eZ : List Nat} {a0 : Act} {hB : World} {h3 : bl} {Γ : List Rel} {S0 F : ak} {cH : List TypeId}

theorem QQ {op : Op} {fj : b7} {k : aw → Prop} (ax : o.op = op) (hm : eW op fj) (ni : fj.b4 = true) (h : cx fj S k) :
  ∃ s,k s ∧ ∀ (a : Act) (H : bl),pj S E H a fj.cX → ∃ v,(∀ w',(execOp a.eval o).run Tryz.prog w' = .ok (.value v) w') ∧ cl H E s v := by
 cases hm with
 | ah => obtain ⟨s,ao,az⟩ := b2 h; exact ⟨s,az,fun a H av => ⟨a.eval _,fun w' => by simp [execOp,ax],av.get (by simp [b7.cX]) ao⟩⟩
 | E9 => obtain ⟨s,ao,az⟩ := b2 h; exact ⟨s,az,fun a H av => ⟨a.eval _,fun w' => by simp [execOp,ax],av.get (by simp [b7.cX]) ao⟩⟩
 | @ext x i =>
  obtain ⟨s,ao,h⟩ := b2 h
  cases s with
  | bY cs =>
   obtain ⟨r,aA,h⟩ := b2 h
   refine ⟨r,h,fun a H av => ?_⟩
   have bf := av.get (by simp [b7.cX]) ao
   generalize aT : a.eval x = q at bf
   cases bf with
   | bY fS =>
    obtain ⟨u,hu,aA⟩ := fS.get aA
    exact ⟨u,fun w' => by simp [execOp,ax,aT,Instr.extract,hu],aA⟩
  | _ => exact h.elim
 | @lB x =>
  obtain ⟨s,ao,h⟩ := b2 h
  have run : ((∃ i idx o,s = .ptr i idx o) ∨ (∃ e o,s = .di e o) ∨ (∃ f a b,s = .fn (.func f) a b) ∨ ∃ t y,s = .ds t y) → ∀ (a : Act) (H : bl),pj S E H a (b7.lB x).cX → ∃ v,(∀ w',(execOp a.eval o).run Tryz.prog w' = .ok (.value v) w') ∧ cl H E s v := fun aB a H av => by
   have bf := av.get (by simp [b7.cX]) ao
   refine ⟨a.eval x,fun w' => ?_,bf⟩
   generalize aT : a.eval x = q at bf
   rcases aB with ⟨i,idx,o',rfl⟩ | ⟨e,o',rfl⟩ | ⟨f,b,c,rfl⟩ | ⟨t,y,rfl⟩ <;> cases bf <;> simp [execOp,ax,aT]
  cases s with
  | ptr i idx o' => exact ⟨_,h,run (.inl ⟨_,_,_,rfl⟩)⟩
  | di e o' => exact ⟨_,h,run (.inr (.inl ⟨_,_,rfl⟩))⟩
  | fn f a b => cases f with
   | func f => exact ⟨_,h,run (.inr (.inr (.inl ⟨_,_,_,rfl⟩)))⟩
   | _ => exact h.elim
  | ds t y => exact ⟨_,h,run (.inr (.inr (.inr ⟨_,_,rfl⟩)))⟩
  | _ => exact h.elim
 | _ => cases ni

def Bk (N : Nat) (w0 : World) (H0 : bl) (ops : Array Oper) (Q : Exit → Act → World → Prop) (n : Nat) (a0 : Act) (hB : World) (h3 : bl) (E : Env) (Γ : List Rel) (F : ak) : Prop :=
 ∀ W H,Grow hB h3 W H → ∀ Ho E1,(∀ dN E',fW E E' → bC N w0 H0 F E' dN W H → xX Tryz.prog ops Q n W H Ho E1 dN) → xX Tryz.prog ops Q n W H (ops.toList.take Γ.length ++ Ho) (Γ ++ E1) a0
def qO (S0 F : ak) (cH : List TypeId) : Prop := ∀ i o,an F.O i = some o → an S0.O i = some o ∨ ∃ t,t ∈ cH ∧ ((∃ cs,o = .box t cs) ∨ ∃ k es,o = .row t k es)

theorem FR (h : Bk N w0 H0 ops Q n a0 hB h3 E Γ F) (ax : ops[Γ.length]? = some o) {R : Rel} {lH : ak}
  (xd : ∀ W H dN E' v,Grow hB h3 W H → fW E E' → bC N w0 H0 F E' dN W H → R v W H → ∃ uF,fW E uF ∧ bC N w0 H0 lH uF (dN.put o.dst v) W H) : Bk N w0 H0 ops Q n a0 hB h3 E (Γ ++ [R]) lH := by
 intro W H aJ Ho E1 az
 have e : ops.toList.take (Γ ++ [R]).length = ops.toList.take Γ.length ++ [o] := by
  rw [List.length_append,List.length_singleton,List.take_add_one]
  simp [ax]
 rw [e,List.append_assoc,List.append_assoc]
 refine h W H aJ _ _ (fun dN E' bL aO => ?_)
 intro v bj
 obtain ⟨uF,afj,afs⟩ := xd W H dN E' v aJ bL aO bj
 exact az _ _ afj afs

theorem Xf (lz : x1 ops n Γ S0 S E) (ax : ops[Γ.length]? = some o) (s : aw) : x1 ops n (Γ ++ [xM E s]) S0 (S.b3 o.dst s) E := by
 refine ⟨by cases o.dst <;> exact lz.1,fun t x ar => ?_⟩
 have hlen : (Γ ++ [xM E s]).length = Γ.length + 1 := by simp
 have old : an S.T t = some x → o.dst ≠ some t → I0 ops n (Γ ++ [xM E s]) S0 E t x := fun ar dj => by
  rcases lz.2 t x ar with h | ⟨i,kG,af,aj,av,aY⟩ | ⟨i,kG,af,aj,av,aY⟩
  ·exact Or.inl h
  ·exact Or.inr (.inl ⟨i,kG,by omega,aj,av,by rw [List.getElem?_append_left af]; exact aY⟩)
  ·refine Or.inr (.inr ⟨i,kG,?_,aj,av,aY⟩)
   rw [hlen]
   rcases Nat.lt_or_ge Γ.length i with h | h
   ·omega
   ·obtain rfl : i = Γ.length := by omega
    rw [ax] at av; cases av
    exact absurd aY dj
 cases a6 : o.dst with
 | none => rw [a6] at ar old; exact old ar (by simp)
 | some d =>
  rw [a6] at ar old
  simp only [ak.b3,ak.put,mR] at ar
  split at ar
  ·rename_i e; cases ar; subst e
   exact .inr (.inl ⟨Γ.length,o,by omega,ax,a6,by simp⟩)
  ·rename_i e; exact old ar (fun h => e (Option.some.inj h))
theorem Ov (lz : x1 ops n Γ S0 S E) (ax : ops[Γ.length]? = some o) (R : Rel) : x1 ops n (Γ ++ [R]) S0 (S.mg o.dst) E := by
 refine ⟨by cases o.dst <;> exact lz.1,fun t x ar => ?_⟩
 have hlen : (Γ ++ [R]).length = Γ.length + 1 := by simp
 have old : an S.T t = some x → o.dst ≠ some t → I0 ops n (Γ ++ [R]) S0 E t x := fun ar dj => by
  rcases lz.2 t x ar with h | ⟨i,kG,af,aj,av,aY⟩ | ⟨i,kG,af,aj,av,aY⟩
  ·exact Or.inl h
  ·exact Or.inr (.inl ⟨i,kG,by omega,aj,av,by rw [List.getElem?_append_left af]; exact aY⟩)
  ·refine Or.inr (.inr ⟨i,kG,?_,aj,av,aY⟩)
   rw [hlen]
   rcases Nat.lt_or_ge Γ.length i with h | h
   ·omega
   ·obtain rfl : i = Γ.length := by omega
    rw [ax] at av; cases av
    exact absurd aY dj
 cases a6 : o.dst with
 | none => rw [a6] at ar old; exact old ar (by simp)
 | some d =>
  rw [a6] at ar old
  obtain ⟨ar,dj⟩ := J4 ar
  exact old ar (fun h => dj (Option.some.inj h))

theorem Tk (aO : bC N w0 H0 S0 E a0 hB h3) (dy : qO S0 F cH) {t : TypeId} (mU : cH.contains t = false) {W : World} {dN : Act} {E' : Env} {b : Nat} {cs : Array Value} {i : Nat} {o : bo} {u : Value} {k : Nat} (bL : fW E E')
  (bu : bC N w0 H0 F E' dN W H) (ax : an F.O i = some o) (aE : o.live = true) (he : E' i = some (u,k,some b)) (aj : hB.heap.size ≤ b) (aY : W.heap[b]? = some (.cells cs t (0,0))) : False := by
 have aL : ∀ t',t' ∈ cH → t ≠ t' := fun t' xe e => by
  subst e
  have : cH.contains t = true := by simpa using xe
  rw [mU] at this; cases this
 rcases dy i o ax with aq | ⟨t',xe,⟨cs',rfl⟩ | ⟨dG,FK,rfl⟩⟩
 ·-- a part alO arC there before alP region
  have my := aO.ob i o aq
  have afk : ∃ q,E i = some q := by
   cases o with
   | box t cs => obtain ⟨b,vs,af,_⟩ := my; exact ⟨_,af⟩
   | row e k es => obtain ⟨u,ob,xs,af,_⟩ := my; exact ⟨_,af⟩
   | map bd N f => obtain ⟨b,o,F,af,_⟩ := my; exact ⟨_,af⟩
   | iter f left hU cur => obtain ⟨r,ob,af,_⟩ := my; exact ⟨_,af⟩
   | gi x => obtain ⟨u,k,b,af,_⟩ := my; exact ⟨_,af⟩
   | h2 e cs => obtain ⟨b,cap,cur,af,_⟩ := my; exact ⟨_,af⟩
   | cB J => exact my.1
  obtain ⟨q,aT⟩ := afk
  have := bL i q aT
  rw [he] at this; cases this
  have := (aO.xq ⟨o,aq,aE⟩ aT).2.2
  omega
 ·obtain ⟨dv,arA,a1,_,_,fb,_⟩ := bu.ob i _ ax
  rw [he] at a1; cases a1
  rw [aY] at fb
  simp only [Option.some.injEq,Obj.cells.injEq] at fb
  exact aL t' xe fb.2.1
 ·obtain ⟨ha,xx,arG,a1,_,_,ct⟩ := bu.ob i _ ax
  rw [he] at a1; cases a1
  rcases ct with ⟨_,e,_⟩ | ⟨g,cap,cur,e,_,_,_,fb,_⟩
  ·cases e
  ·cases e
   rw [aY] at fb
   simp only [Option.some.injEq,Obj.cells.injEq] at fb
   exact aL t' xe fb.2.1
theorem aed (aO : bC N w0 H0 S0 E a0 hB h3) (dy : qO S0 F cH) {e : TypeId} {k : Nat} {es : List (List aw)} (mU : cH.contains e = false) {d : Option Nat} (a6 : ∀ t,d = some t → t < N) {W : World} {dN : Act} {E' : Env} {v : Value} (bL : fW E E')
  (bu : bC N w0 H0 F E' dN W H) (bj : D0 E hB.heap.size e k es v W H) : ∃ uF,fW E uF ∧ bC N w0 H0 ((F.fT (.row e k es)).b3 d (.own F.n)) uF (dN.put d v) W H := by
 obtain ⟨ob,xs,az,aj,av⟩ := bj
 have a9 := bu.c0 F.n (Nat.le_refl _)
 let p : Value × Nat × Option Nat := (v,k,ob)
 have hle := Env.vV p a9
 have s5 : v.oneCell' = true := by rcases av with ⟨_,_,a,rfl⟩ | ⟨g,cap,cur,_,rfl,_⟩ <;> rfl
 have bf := bu.new (o := .row e k es) (p := p) ⟨v,ob,xs,Env.iU _ _ _,az,aj,av.imp id (by rintro ⟨g,cap,cur,bS,bH,bP,a4⟩; exact ⟨g,cap,cur,bS,bH,Nat.le_trans aO.grow.below.size bP,a4⟩)⟩ (by
  rintro gb jQ i ⟨o,ax,aE⟩ u dG he
  rcases av with ⟨_,fD,_⟩ | ⟨g,cap,cur,bS,_,bP,_,fs,_⟩
  ·have iL : ob = some gb := jQ
   rw [fD] at iL; cases iL
  ·have iL : ob = some gb := jQ
   rw [bS] at iL; cases iL
   exact Tk aO dy mU bL bu ax aE he bP fs)
 refine ⟨E'.set F.n p,fun i q aT => hle i q (bL i q aT),bf.put ?_ a6⟩
 exact .own (Env.iU E' F.n p) s5

theorem aec (aO : bC N w0 H0 S0 E a0 hB h3) (dy : qO S0 F cH) {t : TypeId} {cs : List aw} (mU : cH.contains t = false) (af : cs.all aw.one = true) {d : Option Nat} (a6 : ∀ t,d = some t → t < N) {W : World} {dN : Act} {E' : Env} {v : Value} (bL : fW E E')
  (bu : bC N w0 H0 F E' dN W H) (bj : Jn E hB.heap.size t cs v W H) : ∃ uF,fW E uF ∧ bC N w0 H0 ((F.fT (.box t cs)).b3 d (.ptr F.n 0 0)) uF (dN.put d v) W H := by
 obtain ⟨b,vs,rfl,aj,av,aY,bM⟩ := bj
 have a9 := bu.c0 F.n (Nat.le_refl _)
 let p : Value × Nat × Option Nat := (.pointer (some ⟨b,0,none⟩),0,some b)
 have hle := Env.vV p a9
 have bf := bu.new (o := .box t cs) (p := p) ⟨b,vs,Env.iU _ _ _,Nat.le_trans aO.grow.below.size aj,av,aY,bM.mono (fun _ _ h => h) (fun i q aT => hle i q (bL i q aT)),af⟩ (by
  rintro gb jQ i ⟨o,ax,aE⟩ u k he
  cases jQ
  refine Tk aO dy mU bL bu ax aE he aj aY
)
 refine ⟨E'.set F.n p,fun i q aT => hle i q (bL i q aT),bf.put ?_ a6⟩
 have := cl.ptr (H := H) (E := E'.set F.n p) (i := F.n) (idx := 0) (off := 0) (Env.iU E' F.n p)
 simpa using this

theorem aiN (dy : qO S0 F cH) {t : TypeId} {cs : List aw} {d : Option Nat} {x : aw} : qO S0 ((F.fT (.box t cs)).b3 d x) (t :: cH) := by
 intro i o ax
 have fy : an (F.fT (.box t cs)).O i = some o := by cases d <;> exact ax
 simp only [ak.fT,an] at fy
 split at fy
 ·cases fy; exact .inr ⟨t,by simp,.inl ⟨cs,rfl⟩⟩
 ·rcases dy i o fy with h | ⟨t',af,aj⟩
  ·exact .inl h
  ·exact .inr ⟨t',by simp [af],aj⟩
theorem aiP (dy : qO S0 F cH) {e : TypeId} {k : Nat} {es : List (List aw)} {d : Option Nat} {x : aw} : qO S0 ((F.fT (.row e k es)).b3 d x) (e :: cH) := by
 intro i o ax
 have fy : an (F.fT (.row e k es)).O i = some o := by cases d <;> exact ax
 simp only [ak.fT,an] at fy
 split at fy
 ·cases fy; exact .inr ⟨e,by simp,.inr ⟨k,es,rfl⟩⟩
 ·rcases dy i o fy with h | ⟨t',af,aj⟩
  ·exact .inl h
  ·exact .inr ⟨t',by simp [af],aj⟩
theorem Tj (dy : qO S0 F cH) {d : Option Nat} {x : aw} : qO S0 (F.b3 d x) cH := fun i o ax => dy i o (by cases d <;> exact ax)
theorem aiO (dy : qO S0 F cH) {d : Option Nat} : qO S0 (F.mg d) cH := fun i o ax => dy i o (by cases d <;> exact ax)

theorem aeq {t e : TypeId} {i : TypeInfo} {z : Value} {x y : Operand} {ys : List (List aw)} {k2 f2 : Nat} {a : Act} (ax : o.op = .call ⟨.builtin .append,#[x,y],#[t,t]⟩) (aL : Tryz.prog.underlying t = some (.slice e)) (aq : Tryz.prog.info? e = some i) (bR : i.zero = some z) (hO : z.cells.size = i.size) (fK : 0 < i.size)
  (ao : Sub H w) (cC : cl H E (.au i.size 0 []) (a.eval x)) (ik : cl H E (.au k2 f2 ys) (a.eval y)) (aH : k2 = i.size) (dh : ys.length ≤ 140737488355328) (dv : ys.length * i.bytes ≤ 140737488355328) :
  ∃ v w',(execOp a.eval o).run Tryz.prog w = .ok (.value v) w' ∧ Grow w H w' H ∧ ∀ E' B,B ≤ w.heap.size → D0 E' B e i.size ys v w' H := by
 subst aH
 generalize hN : a.eval x = jZ at cC
 generalize iR : a.eval y = hv at ik
 obtain ⟨bS,n,c,rfl⟩ : ∃ a n c,jZ = .slice a n c := by cases cC; exact ⟨_,_,_,rfl⟩
 obtain ⟨bH,m,c2,rfl⟩ : ∃ a n c,hv = .slice a n c := by cases ik; exact ⟨_,_,_,rfl⟩
 obtain ⟨us,eR,fi,fZ,_,o8,jE,gW⟩ := sj ao cC
 obtain ⟨vs,bJ,cf,dA,_,fr,jY,l4⟩ := sj ao ik
 subst fi; subst cf
 by_cases ba : 0 < ys.length
 ·cases bH with
  | none => have := jY rfl; omega
  | some cm =>
   have kT : ([] : List (List aw)).length + ys.length ≤ maxLen := by unfold maxLen; simp; omega
   obtain ⟨hb,w',da,dI,dS⟩ := Nk (P := Tryz.prog) (w := w) (k := i.size) t o.type e i z aL aq bR hO fK (c2 := c2) eR.length eR.one (o8.full (.inr ⟨rfl,rfl⟩)) jE gW bJ.length bJ.one (l4 cm rfl) ba kT (by simpa using dv)
   cases eR
   simp only [List.length_nil] at da hN
   obtain ⟨g,cap,cur,rfl,s2,tt,tu,tv,ur,tw⟩ := DP (n := ys.length) (es := ys) (by simpa using dI) bJ rfl ba
   exact ⟨_,w',by simp [execOp,ax,resolve,hN,iR,invoke,builtin,da],(Grow.refl ao).grown dS (fun k e => by cases e),fun E' B fw => ⟨some g,vs,fK,bJ,.inr ⟨g,cap,cur,rfl,rfl,Nat.le_trans fw s2,ao.none s2,tt,tu,tv,fun e => absurd e (fun e => by simp [e] at ba),ur,tw⟩⟩⟩
 ·have o3 : ys = [] := List.eq_nil_of_length_eq_zero (by omega)
  subst o3
  have aB := o8.full (.inr ⟨rfl,rfl⟩)
  simp only [List.length_nil] at aB hN iR
  subst aB
  have da : (Builtin.append_ #[t,t] o.type #[.slice bS 0 0,.slice bH 0 c2]).run Tryz.prog w = .ok (.slice bS 0 0) w := by
   have aE : ∀ (x : Addr),(loadCells x 0).run Tryz.prog w = .ok #[] w := fun x => by simpa using run_loadCells_list (P := Tryz.prog) w x [] (by simp)
   cases bS <;> cases bH <;> simp [Builtin.append_,run_underlying aL,run_sizeOf aq,Builtin.lenOf,Builtin.firstCells,aE,storeCells]
  exact ⟨.slice bS 0 0,w,by simp [execOp,ax,resolve,hN,iR,invoke,builtin,da],Grow.refl ao,fun E' B fw => ⟨none,[],fK,.nil,.inl ⟨rfl,rfl,bS,rfl⟩⟩⟩

theorem Qw {glA : List cA} (aZ : Eu ops n eZ) (aO : bC N w0 H0 S0 E a0 hB h3) (R3 : F0 ops n glA = true) (Gm : FT eZ glA = true) :
  ∀ (l : List Oper) (cu : List cA) (Γ : List Rel) (S F : ak) (cH : List TypeId),kn N ops l cu → Γ.length + l.length = n → (∀ j,j < l.length → l[j]? = ops[Γ.length + j]?) → (∀ j,j < l.length → cu[j]? = glA[Γ.length + j]?) →
   x1 ops n Γ S0 S E → Bk N w0 H0 ops Q n a0 hB h3 E Γ F → qO S0 F cH → iK cu S F cH K → (∀ W H a,Grow hB h3 W H → End N w0 H0 K a W → wpList Tryz.prog ops Q (ops.toList.drop n) a W) → qG Tryz.prog ops Q n eZ a0 hB h3 Γ l
 | [],_,Γ,S,F,cH,.nil,a9,_,_,_,oW,_,h,az => by
  simp only [List.length_nil,Nat.add_zero] at a9
  refine acA fun W H aJ => ?_
  have := oW W H aJ [] [] (fun dN E' bL bu => by
   show wpList Tryz.prog ops Q (ops.toList.drop n) dN W
   exact az W H dN aJ ⟨F,E',H,h,bu⟩)
  rw [a9] at this
  simpa using this
 | o :: l,g :: cu,Γ,S,F,cH,.cons aJ aL,a9,aE,ve,lz,oW,dy,h,az => by
  simp only [List.length_cons] at a9
  have fm : ops[Γ.length]? = some o := by have := aE 0 (by simp); simpa using this.symm
  have lU : glA[Γ.length]? = some g := by have := ve 0 (by simp); simpa using this.symm
  have bQ : Γ.length < n := by omega
  have DW : ∀ (R : Rel) (S' lH : ak) (nY : List TypeId),x1 ops n (Γ ++ [R]) S0 S' E → Bk N w0 H0 ops Q n a0 hB h3 E (Γ ++ [R]) lH → qO S0 lH nY → iK cu S' lH nY K → qG Tryz.prog ops Q n eZ a0 hB h3 (Γ ++ [R]) l := fun R S' lH nY af aj av aY =>
   Qw aZ aO R3 Gm l cu (Γ ++ [R]) S' lH nY aL (by simp; omega) (fun j aN => by have := aE (j + 1) (by simp; omega); rw [List.length_append,List.length_singleton,Nat.add_assoc,Nat.add_comm 1 j]; simpa using this)
    (fun j aN => by have := ve (j + 1) (by simp; omega); rw [List.length_append,List.length_singleton,Nat.add_assoc,Nat.add_comm 1 j]; simpa using this) af aj av aY az
  have q7 := R3
  unfold F0 at q7
  rw [List.all_eq_true] at q7
  have KQ := q7 Γ.length (by simpa using bQ)
  rw [fm,lU] at KQ
  simp only [Bool.and_eq_true,List.all_eq_true] at KQ
  obtain ⟨GK,Gn⟩ := KQ
  have Aw : ∀ {a w H},Grow hB h3 w H → rG ops Γ o a w H → qQ ops n a0 a → pj S E H a g.op.cX := fun hw hp fy x ar y aV =>
   Xe aZ aO lz bQ fm hw hp fy (GK x ar) y aV
  have agQ : ∀ {w H},Grow hB h3 w H → nN w0.heap.size S E w H := fun hw i o' aq => by rw [lz.1] at aq; exact (aO.ob i o' aq).grow hw aO.sub
  have ky := aJ.gj
  have R0 : eZ.contains Γ.length = true → g.op.b4 = true := fun aB => by
   unfold FT at Gm
   rw [List.all_eq_true] at Gm
   have := Gm Γ.length (by simpa using aB)
   rw [lU] at this
   exact this
  -- a value
  have val : cx g.op S (fun s => iK cu (S.b3 g.d s) (F.b3 g.d s) cH K) → (∀ a w H,Grow hB h3 w H → rG ops Γ o a w H → qQ ops n a0 a → Region.wanted o (yielded ops a.tmps) = true) → qG Tryz.prog ops Q n eZ a0 hB h3 Γ (o :: l) := fun br Dj => by
   rw [aJ.d] at br
   have fin : ∀ s,Bk N w0 H0 ops Q n a0 hB h3 E (Γ ++ [xM E s]) (F.b3 o.dst s) := fun s => FR oW fm fun W H dN E' v _ bL bu bj => ⟨E',bL,bu.put (bj.mono (fun _ _ h => h) bL) aJ.lt⟩
   by_cases aB : eZ.contains Γ.length = true
   ·obtain ⟨s,jn,bj⟩ := QQ (E := E) rfl aJ.op (R0 aB) br
    refine ⟨xM E s,SO E s,?_,DW _ _ _ _ (Xf lz fm s) (fin s) (Tj dy) jn⟩
    rw [if_pos aB]
    intro a w H hw hp fy
    obtain ⟨v,s5,vB⟩ := bj a H (Aw hw hp fy)
    exact ⟨v,.inl ⟨Dj a w H hw hp fy,s5⟩,vB⟩
   ·obtain ⟨s,jn,bj⟩ := Qs (E := E) rfl aJ.op br
    refine ⟨xM E s,SO E s,?_,DW _ _ _ _ (Xf lz fm s) (fin s) (Tj dy) jn⟩
    rw [if_neg aB]
    intro a w H hw hp fy
    rw [if_pos (Dj a w H hw hp fy)]
    exact bj w0.heap.size a w H hw.sub (agQ hw) (Aw hw hp fy)
  -- et operation alO is arh by
  have skip : iK cu (S.mg g.d) (F.mg g.d) cH K → (∀ a w H,Grow hB h3 w H → rG ops Γ o a w H → qQ ops n a0 a → Region.wanted o (yielded ops a.tmps) = false) → qG Tryz.prog ops Q n eZ a0 hB h3 Γ (o :: l) := fun br Dj => by
   rw [aJ.d] at br
   refine ⟨fun v _ _ => v = undef,ah8 undef,?_,DW _ _ _ _ (Ov lz fm _) (FR oW fm fun W H dN E' v _ bL bu bj => ⟨E',bL,by have y0 : v = undef := bj; rw [y0]; exact bu.mg⟩) (aiO dy) br⟩
   split
   ·intro a w H hw hp fy
    exact ⟨undef,.inr ⟨Dj a w H hw hp fy,rfl⟩,rfl⟩
   ·intro a w H hw hp fy
    rw [if_neg (by rw [Dj a w H hw hp fy]; exact Bool.false_ne_true)]
  -- a new variable
  have Mt : ∀ (t : TypeId) (cs : List aw),cs.all aw.one = true → cH.contains t = false → iK cu (S.mg g.d) ((F.fT (.box t cs)).b3 g.d (.ptr F.n 0 0)) (t :: cH) K → eZ.contains Γ.length = false → o.guard = none →
    (∀ a w H,Grow hB h3 w H → rG ops Γ o a w H → qQ ops n a0 a → ∃ vs,dg H E cs vs ∧ (execOp a.eval o).run Tryz.prog w = .ok (.value (.pointer (some ⟨w.heap.size,0,none⟩))) (w.alloc (.cells vs.toArray t))) → qG Tryz.prog ops Q n eZ a0 hB h3 Γ (o :: l) := fun t cs af mU br aB KT da => by
   rw [aJ.d] at br
   refine ⟨Jn E hB.heap.size t cs,ah7 _ _ _ _,?_,DW _ _ _ _ (Ov lz fm _) (FR oW fm fun W H dN E' v _ bL bu bj => aec aO dy mU af aJ.lt bL bu bj) (aiN dy) br⟩
   rw [if_neg (by rw [aB]; exact Bool.false_ne_true)]
   intro a w H hw hp fy
   rw [if_pos (Bc KT)]
   obtain ⟨vs,aA,he⟩ := da a w H hw hp fy
   unfold Oper.wp
   rw [he]
   exact ⟨_,H,rfl,(Grow.refl hw.sub).alloc _,_,vs,rfl,hw.below.size,hw.sub.none (Nat.le_refl _),heap_alloc_new w _,aA⟩
  have Gw : g.op.b4 = false → eZ.contains Γ.length = false := fun cy => by
   cases aB : eZ.contains Γ.length with
   | false => rfl
   | true => rw [R0 aB] at cy; cases cy
  -- a new row
  have aiQ : ∀ (e : TypeId) (k : Nat) (es : List (List aw)),cH.contains e = false → iK cu (S.mg g.d) ((F.fT (.row e k es)).b3 g.d (.own F.n)) (e :: cH) K → eZ.contains Γ.length = false → o.guard = none →
    (∀ a w H,Grow hB h3 w H → rG ops Γ o a w H → qQ ops n a0 a → ∃ v w' H',(execOp a.eval o).run Tryz.prog w = .ok (.value v) w' ∧ Grow w H w' H' ∧ D0 E hB.heap.size e k es v w' H') → qG Tryz.prog ops Q n eZ a0 hB h3 Γ (o :: l) := fun e k es mU br aB KT da => by
   rw [aJ.d] at br
   refine ⟨D0 E hB.heap.size e k es,ah9 _ _ _ _ _,?_,DW _ _ _ _ (Ov lz fm _) (FR oW fm fun W H dN E' v _ bL bu bj => aed aO dy mU aJ.lt bL bu bj) (aiP dy) br⟩
   rw [if_neg (by rw [aB]; exact Bool.false_ne_true)]
   intro a w H hw hp fy
   rw [if_pos (Bc KT)]
   obtain ⟨v,w',H',he,CE,aA⟩ := da a w H hw hp fy
   unfold Oper.wp
   rw [he]
   exact ⟨_,H',rfl,CE,aA⟩
  have Ra : ∀ t b,g.g = some (t,b) → (cS (S.bg (.tmp t)) fun s => match s with
   | .v (.bool ez) => (ez = b → cx g.op S fun s => iK cu (S.b3 g.d s) (F.b3 g.d s) cH K) ∧ (ez = !b → iK cu (S.mg g.d) (F.mg g.d) cH K)
   | _ => False) → qG Tryz.prog ops Q n eZ a0 hB h3 Γ (o :: l) := fun t b KS cy => by
   rw [KS] at ky Gn
   obtain ⟨j,hP,g1,bW,gH⟩ := ky
   rw [g1] at Gn
   simp only [Bool.and_eq_true] at Gn
   obtain ⟨s,ao,cy⟩ := b2 cy
   cases s with
   | v q =>
    cases q with
    | bool ez =>
     have bj : ∀ a w H,Grow hB h3 w H → rG ops Γ o a w H → qQ ops n a0 a → Region.wanted o (yielded ops a.tmps) = (ez == b) := fun a w H hw hp fy => by
      have bf := Xe aZ aO lz bQ fm hw hp fy (x := .tmp t) Gn.2 _ ao
      exact Ek g1 ((BR bW gH).trans (Fi bf))
     by_cases aI : ez = b
     ·exact val (cy.1 aI) (fun a w H hw hp fy => by rw [bj a w H hw hp fy]; simp [aI])
     ·have jQ : ez = !b := by cases ez <;> cases b <;> simp_all
      exact skip (cy.2 jQ) (fun a w H hw hp fy => by rw [bj a w H hw hp fy]; simp [aI])
    | _ => exact cy.elim
   | _ => exact cy.elim
  have Mr : g.g = none → cx g.op S (fun s => iK cu (S.b3 g.d s) (F.b3 g.d s) cH K) → qG Tryz.prog ops Q n eZ a0 hB h3 Γ (o :: l) := fun KS cy => by
   rw [KS] at ky
   exact val cy (fun _ _ _ _ _ _ => Bc ky)
  have yV := aJ.op
  obtain ⟨gj,J5,ae8⟩ := g
  simp only at GK ky Aw val skip Mt Gw Ra Mr yV
  unfold iK at h
  simp only at h
  cases J5 with
  | none =>
   replace ky : o.guard = none := ky
   cases ae8 with
   | cw t dE =>
    obtain ⟨p,hp,mU,h⟩ := b2 h
    cases hp
    generalize ki : o.op = zi at yV
    cases yV with
    | @cw t' jC aoH arN bJ cf dA =>
     refine Mt t (dE.map ej.ia) (Bf dE) mU h (Gw rfl) ky (fun a w H hw hp fy => ⟨_,zR H E dE,?_⟩)
     have e : (dE.map ej.val).toArray = aoH.cells := by rw [← dA]
     rw [e]
     simp [execOp,ki,Instr.alloc,zu bJ cf,newVar,newRow]
   | box t x =>
    obtain ⟨p,hp,mU,h⟩ := b2 h
    obtain ⟨s,ao,hp⟩ := Option.bind_eq_some_iff.1 hp
    split at hp
    ·rename_i af
     cases hp
     generalize ki : o.op = zi at yV
     cases yV with
     | box =>
      refine Mt t s.cells af mU h (Gw rfl) ky (fun a w H hw hp fy => ⟨_,z5 ((Aw hw hp fy).get (by simp [b7.cX]) ao) af,?_⟩)
      simp [execOp,ki,Instr.box,newVar,newRow]
    ·cases hp
   | app x y e k bytes =>
    rcases h with h | h
    ·exact Mr rfl h
    ·obtain ⟨s,ao,oV⟩ := b2 h
     clear h
     obtain ⟨j,aN,sR⟩ := b2 oV
     clear oV
     simp only at ao aN sR
     split at sR
     ·obtain ⟨tZ,aH,dh,dv,mU,h⟩ := sR
      subst tZ
      generalize ki : o.op = zi at yV
      cases yV with
      | app bJ cf dA fr jY =>
       exact aiQ _ _ _ mU h (Gw rfl) ky fun a w H hw hp fy => by
        obtain ⟨v,w',dI,dS,oG⟩ := aeq ki bJ cf dA fr jY hw.sub ((Aw hw hp fy).get (by simp [b7.cX]) ao) ((Aw hw hp fy).get (by simp [b7.cX]) aN) aH dh dv
        exact ⟨v,w',H,dI,dS,oG _ _ hw.below.size⟩
     ·exact sR.elim
   | _ => exact Mr rfl h
  | some tb =>
   obtain ⟨t,b⟩ := tb
   exact Ra t b rfl h
end

def b7.Aj : b7 → Bool
 | .ah _ | .ext _ _ | .lB _ | .aU _ _ | .bin _ _ _ | .not _ | .mf _ _ | .pick _ _ _ | .dO _ _ => true
 | _ => false

theorem aej {o : Oper} {S : ak} {E : Env} {op : Op} {fj : b7} {k : aw → Prop} (ax : o.op = op) (hm : eW op fj) (ni : fj.Aj = true) (h : cx fj S k) :
  ∃ s,k s ∧ ∀ (a : Act) (H : bl),pj S E H a fj.cX → ∃ v,(∀ w',(execOp a.eval o).run Tryz.prog w' = .ok (.value v) w') ∧ cl H E s v := by
 by_cases af : fj.b4 = true
 ·exact QQ ax hm af h
 cases hm with
 | ah => exact absurd rfl af
 | E9 => exact absurd rfl af
 | ext => exact absurd rfl af
 | lB => exact absurd rfl af
 | @aU t x j eI f i hu aZ aq bR =>
  obtain ⟨s,ao,h⟩ := b2 h
  have run : ∀ (a : Act) b o',a.eval x = .pointer (some ⟨b,o',none⟩) → ∀ w,(execOp a.eval o).run Tryz.prog w = .ok (.value (.pointer (some ⟨b,o' + f.offset,none⟩))) w := fun a b o' e w => by
   simp [execOp,ax,e,Instr.fieldAt,run_underlying hu,aZ,Instr.sureAddr,fieldPlace,run_sizeOf aq,bR,Addr.add_lit]
  cases s with
  | ptr i idx o' =>
   refine ⟨_,h,fun a H av => ?_⟩
   have aA := av.get (by simp [b7.cX]) ao
   generalize aT : a.eval x = q at aA
   cases aA with
   | ptr h => exact ⟨_,run a _ _ aT,by rw [Nat.add_assoc]; exact .ptr h⟩
  | di e o' =>
   refine ⟨_,h,fun a H av => ?_⟩
   have aA := av.get (by simp [b7.cX]) ao
   generalize aT : a.eval x = q at aA
   cases aA with
   | di dh dv gL => exact ⟨_,run a _ _ aT,by rw [Nat.add_assoc]; exact .di dh dv gL⟩
  | _ => exact h.elim
 | @bin op t x y t2 =>
  obtain ⟨s,ao,h⟩ := b2 h
  obtain ⟨j,aN,h⟩ := b2 h
  cases s with
  | v p => cases p with
   | int cL bS => cases j with
    | v q => cases q with
     | int k2 dh =>
      obtain ⟨rfl,h⟩ := h
      obtain ⟨r,aA,h⟩ := b2 h
      refine ⟨_,h,fun a H av => ?_⟩
      have bf := av.get (by simp [b7.cX]) ao
      have gO := av.get (by simp [b7.cX]) aN
      generalize hN : a.eval x = jZ at bf
      generalize iR : a.eval y = hv at gO
      cases bf; cases gO
      refine ⟨r,fun w => ?_,.v ?_⟩
      ·have := UG (t := t) x y aA w
       simp only [execOp,ax,hN,iR,Sem.run_bind] at this ⊢
       rw [this]; rfl
      ·cases op <;> simp [nV] at aA <;> (first | (obtain ⟨ba,rfl⟩ := aA) | subst aA) <;> rfl
     | _ => exact h.elim
    | _ => exact h.elim
   | _ => exact h.elim
  | _ => exact h.elim
 | @not t x =>
  obtain ⟨s,ao,h⟩ := b2 h
  cases s with
  | v p => cases p with
   | bool b =>
    refine ⟨_,h,fun a H av => ?_⟩
    have bf := av.get (by simp [b7.cX]) ao
    generalize hN : a.eval x = jZ at bf
    cases bf
    exact ⟨.bool !b,fun w => by simp [execOp,ax,hN,Op.unary],.v rfl⟩
   | _ => exact h.elim
  | _ => exact h.elim
 | @mf src dst x d k aha a6 =>
  obtain ⟨s,ao,h⟩ := b2 h
  cases s with
  | v p => cases p with
   | int fq n =>
    refine ⟨_,h,fun a H av => ?_⟩
    have bf := av.get (by simp [b7.cX]) ao
    generalize hN : a.eval x = jZ at bf
    cases bf
    exact ⟨.int k (k.wrap n),fun w => by simp [execOp,ax,hN,convert,run_underlying aha,run_underlying a6,Conv.intToInt],.v rfl⟩
   | _ => exact h.elim
  | _ => exact h.elim
 | @pick c x y =>
  obtain ⟨s,ao,h⟩ := b2 h
  cases s with
  | v p => cases p with
   | bool ez =>
    obtain ⟨r,aA,h⟩ := b2 h
    obtain ⟨eR,fi⟩ := Uh aA
    refine ⟨_,h,fun a H av => ?_⟩
    have bf := av.get (by simp [b7.cX]) ao
    generalize aT : a.eval c = q at bf
    cases bf
    cases ez
    ·exact ⟨a.eval y,fun w => by simp [execOp,ax,aT,asBool],av.get (by simp [b7.cX]) (fi rfl)⟩
    ·exact ⟨a.eval x,fun w => by simp [execOp,ax,aT,asBool],av.get (by simp [b7.cX]) (eR rfl)⟩
   | _ => exact h.elim
  | _ => exact h.elim
 | @dO t parts dE ps it z pl KX bR hO aI hp =>
  obtain ⟨cs,aZ,h⟩ := b2 h
  refine ⟨_,h,fun a H av => ?_⟩
  obtain ⟨out,g1,bW,gH⟩ := JR (H := H) (E := E) (a := a) parts.toList ps _ cs z.cells hp (by rw [hO]; exact zR H E dE) (Bf dE) aZ av
  refine ⟨.agg out,fun w => ?_,by have := cl.agg bW gH; simpa using this⟩
  have := run_build (P := Tryz.prog) w t (parts.map fun (i,x) => (i,a.eval x)) out (by rw [aI]; simpa using g1)
  simp only [execOp,ax,Sem.run_bind,this,Result.andThen_ok]; rfl
 | _ => cases ni

theorem ad5 {d : Option Nat} {fj : b7} {S : ak} {K : ak → Prop} (ni : fj.Aj = true) (h : fJ d fj S K) : cx fj S fun s => K (S.b3 d s) := by
 cases fj <;> first | exact h | cases ni

def lD (ops : Array Oper) (done : List Nat) (i : Nat) : Bool := decide (i < ops.size) && !done.contains i && (match ops[i]? with | some o => (wl o).all done.contains | none => false)
def I6 (ops : Array Oper) (done : List Nat) (i : Nat) : Bool := match ops[i]? with
 | some kG => (List.range ops.size).all fun j => decide (j = i) || done.contains j || (match ops[j]? with | some hP => (wl hP).contains i || kG.apart ops hP | none => true)
 | none => false
def JU (cu : List cA) (i : Nat) : Bool := match cu[i]? with | some g => g.op.Aj | none => false
def tX : nM → List Nat
 | .leaf => []
 | .b4 i _ => [i]
 | .step i _ => [i]
 | .alt a b => tX a ++ tX b
mutual
def pX (ops : Array Oper) (cu : List cA) (done : List Nat) : nM → Bool
 | .leaf => (List.range ops.size).all done.contains
 | .b4 i t => lD ops done i && JU cu i && I6 ops done i && pX ops cu (i :: done) t
 | .step i t => lD ops done i && (List.range ops.size).all (fun j => !lD ops done j || decide (j = i)) && pX ops cu (i :: done) t
 | .alt a b => (List.range ops.size).all (fun j => !lD ops done j || (tX a ++ tX b).contains j) && (tX a ++ tX b).any (lD ops done) && vO ops cu done a && vO ops cu done b
def vO (ops : Array Oper) (cu : List cA) (done : List Nat) : nM → Bool
 | .leaf => false
 | .b4 _ _ => false
 | .step i t => pX ops cu (i :: done) t
 | .alt a b => vO ops cu done a && vO ops cu done b
end
def DD (ops : Array Oper) (cu : List cA) : Nat → List Nat → nM
 | 0,_ => .leaf
 | f + 1,done => match (List.range ops.size).find? (fun i => lD ops done i && JU cu i && I6 ops done i) with
  | some i => .b4 i (DD ops cu f (i :: done))
  | none => match (List.range ops.size).filter (lD ops done) with
   | [] => .leaf
   | i :: is => is.foldl (fun t j => .alt t (.step j (DD ops cu f (j :: done)))) (.step i (DD ops cu f (i :: done)))

section
variable {N : Nat} {w0 w w' : World} {H0 H H' : bl} {S : ak} {E : Env} {a : Act} {o : Oper} {K : ak → Prop} {ops : Array Oper} {Q : Exit → Act → World → Prop} {cu : List cA}

theorem branch {i : Nat} {done : List Nat} {L : ak → Prop} : ∀ {t : nM},(tX t).contains i = true → vO ops cu done t = true → oe t cu S L → ∃ s,pX ops cu (i :: done) s = true ∧ cS cu[i]? fun g => kd g S fun S' => oe s cu S' L
 | .leaf,h,_,_ => by simp [tX] at h
 | .b4 _ _,_,h,_ => by simp [vO] at h
 | .step j s,h,aB,he => by
  simp only [tX,List.contains_cons,List.contains_nil,Bool.or_false,beq_iff_eq] at h
  subst h
  simp only [vO] at aB
  exact ⟨s,aB,he⟩
 | .alt x y,h,aB,he => by
  simp only [vO,Bool.and_eq_true] at aB
  simp only [tX] at h
  rw [List.contains_eq_mem,decide_eq_true_eq,List.mem_append] at h
  rcases h with h | h
  ·exact branch (by rw [List.contains_eq_mem,decide_eq_true_eq]; exact h) aB.1 he.1
  ·exact branch (by rw [List.contains_eq_mem,decide_eq_true_eq]; exact h) aB.2 he.2

theorem Qy {g : cA} {i : Nat} {p6 : Act → World → Prop} {L : ak → Prop} (fm : ops[i]? = some o) (aJ : Bl N ops o g) (h : kd g S L) (aO : bC N w0 H0 S E a w H) (fo : ∀ S' E' dN w' H',L S' → bC N w0 H0 S' E' dN w' H' → p6 dN w') : wpOp Tryz.prog ops Q i p6 a w := by
 have run : fJ o.dst g.op S L → o.wp Tryz.prog a w p6 Q := fun az => by
  refine Oper.Ep ?_ (QD aO aJ.lt rfl aJ.op az)
  rintro dN w' ⟨S',E',H',jn,dY⟩
  exact fo S' E' dN w' H' jn dY
 unfold wpOp
 rw [fm]
 simp only
 unfold kd at h
 have ky := aJ.gj
 split at h
 ·rename_i a9
  rw [a9] at ky
  rw [if_pos (Bc ky)]
  rw [aJ.d] at h
  exact .inl (run h)
 ·rename_i t b a9
  rw [a9] at ky
  obtain ⟨j,hP,g1,bW,gH⟩ := ky
  obtain ⟨s,ao,h⟩ := b2 h
  have bf := aO.bg ao
  cases s with
  | v q =>
   cases q with
   | bool ez =>
    have bj : mh ops a j = .bool ez := (BR bW gH).trans (Fi bf)
    rw [Ek g1 bj]
    rw [aJ.d] at h
    by_cases aI : ez = b
    ·rw [if_pos (by simp [aI])]
     exact .inl (run (h.1 aI))
    ·rw [if_neg (by simp [aI])]
     have jQ : ez = !b := by cases ez <;> cases b <;> simp_all
     exact fo _ _ _ _ _ (h.2 jQ) (aO.put (v := undef) (.bY .nil) aJ.lt)
   | _ => exact h.elim
  | bY cs =>
   cases cs with
   | nil =>
    have bj : a.eval (.tmp t) = undef := by
     generalize a.eval (.tmp t) = q at bf
     cases bf with
     | bY h => cases h; rfl
    rw [OY g1 bW gH bj,if_neg (by simp)]
    rw [aJ.d] at h
    exact fo _ _ _ _ _ h (aO.put (v := undef) (.bY .nil) aJ.lt)
   | cons _ _ => exact h.elim
  | _ => exact h.elim
theorem ad4 {g : cA} {L : ak → Prop} (aJ : Bl N ops o g) (ni : g.op.Aj = true) (h : kd g S L) (aO : bC N w0 H0 S E a w H) : ∃ v,Yields Tryz.prog ops o v a ∧ ∃ S' E' ,L S' ∧ bC N w0 H0 S' E' (a.put o.dst v) w H := by
 have run : fJ o.dst g.op S L → ∃ v,(∀ w',(execOp a.eval o).run Tryz.prog w' = .ok (.value v) w') ∧ ∃ S' E',L S' ∧ bC N w0 H0 S' E' (a.put o.dst v) w H := fun az => by
  obtain ⟨s,jn,bj⟩ := aej (E := E) rfl aJ.op ni (ad5 ni az)
  obtain ⟨v,s5,vB⟩ := bj a H (aO.cX _)
  exact ⟨v,s5,_,E,jn,aO.put vB aJ.lt⟩
 unfold kd at h
 have ky := aJ.gj
 split at h
 ·rename_i a9
  rw [a9] at ky
  rw [aJ.d] at h
  obtain ⟨v,bj,aA⟩ := run h
  exact ⟨v,.inl ⟨Bc ky,bj⟩,aA⟩
 ·rename_i t b a9
  rw [a9] at ky
  obtain ⟨j,hP,g1,bW,gH⟩ := ky
  obtain ⟨s,ao,h⟩ := b2 h
  have bf := aO.bg ao
  cases s with
  | v q =>
   cases q with
   | bool ez =>
    have bj : mh ops a j = .bool ez := (BR bW gH).trans (Fi bf)
    have hw := Ek (b := b) g1 bj
    rw [aJ.d] at h
    by_cases aI : ez = b
    ·obtain ⟨v,bj,aA⟩ := run (h.1 aI)
     exact ⟨v,.inl ⟨by rw [hw]; simp [aI],bj⟩,aA⟩
    ·have jQ : ez = !b := by cases ez <;> cases b <;> simp_all
     exact ⟨undef,.inr ⟨by rw [hw]; simp [aI],rfl⟩,_,E,h.2 jQ,aO.put (v := undef) (.bY .nil) aJ.lt⟩
   | _ => exact h.elim
  | bY cs =>
   cases cs with
   | nil =>
    have bj : a.eval (.tmp t) = undef := by
     generalize a.eval (.tmp t) = q at bf
     cases bf with
     | bY h => cases h; rfl
    rw [aJ.d] at h
    exact ⟨undef,.inr ⟨OY g1 bW gH bj,rfl⟩,_,E,h,aO.put (v := undef) (.bY .nil) aJ.lt⟩
   | cons _ _ => exact h.elim
  | _ => exact h.elim

theorem kn.at : ∀ {l : List Oper} {cu : List cA} {i : Nat} {o : Oper} {g : cA},kn N ops l cu → l[i]? = some o → cu[i]? = some g → Bl N ops o g
 | _,_,i,_,_,.nil,h,_ => by simp at h
 | _,_,0,_,_,.cons aJ _,h,e6 => by simp at h e6; subst h; subst e6; exact aJ
 | _,_,i + 1,_,_,.cons _ aL,h,e6 => kn.at aL (by simpa using h) (by simpa using e6)

theorem ad6 (Sr : Region.noSelect ops = true) (kv : ∀ c a (d : Option Tmp) v w,Q (.panic c) (Act.put a d v) w → Q (.panic c) a w) (ve : kn N ops ops.toList cu) :
  ∀ (fuel : Nat) (t : nM) (done : List Nat) (listed : Array Bool) (S : ak) (E : Env) (a : Act) (w : World) (H : bl),mD listed = fuel → listed.size = ops.size → (∀ i,i < ops.size → listed.getD i false = done.contains i) → (∀ i,done.contains i = true → i < ops.size) → pX ops cu done t = true →
   oe t cu S K → bC N w0 H0 S E a w H → (∀ a w,End N w0 H0 K a w → Q .normal a w) → wpAny Tryz.prog .any ops Q fuel listed a w := by
 intro fuel
 induction fuel with
 | zero =>
  intro t done listed S E a w H aE hi a6 w5 aB he aO az
  have ec : ∀ i,i < ops.size → done.contains i = true := fun i aq => (a6 i aq).symm.trans (Dx aE i (by omega))
  have kh : ∀ i,lD ops done i = false := fun i => by
   unfold lD
   by_cases aq : i < ops.size
   ·rw [ec i aq]; simp
   ·simp [aq]
  cases t with
  | leaf =>
   refine ⟨?_,az _ _ ⟨S,E,H,he,aO⟩⟩
   refine List.eq_nil_iff_forall_not_mem.2 fun i aq => ?_
   obtain ⟨af,kG,fm,_⟩ := mem_ready.1 aq
   have bQ : i < ops.size := (Array.getElem?_eq_some_iff.1 fm).1
   have aj := Dx aE i (by omega)
   have : i < listed.size := by omega
   simp [this] at af aj
   rw [af] at aj; cases aj
  | b4 i t => simp [pX,kh] at aB
  | step i t => simp [pX,kh] at aB
  | alt x y => simp [pX,kh] at aB
 | succ fuel dW =>
  intro t done listed S E a w H aE hi a6 w5 aB he aO az
  have xb : ∀ i,i ∈ Region.ready .any ops listed ↔ lD ops done i = true := fun i => by
   rw [mem_ready]
   unfold lD
   cases fm : ops[i]? with
   | none => simp
   | some o =>
    have bQ : i < ops.size := (Array.getElem?_eq_some_iff.1 fm).1
    have nr : i < listed.size := by omega
    have af : listed.getD i true = listed.getD i false := by simp [nr]
    rw [af,a6 i bQ]
    simp only [Option.some.injEq,exists_eq_left',Bool.and_eq_true,decide_eq_true_eq,bQ,true_and,Bool.not_eq_true',List.all_eq_true]
    refine and_congr_right fun _ => ⟨fun h j aN => ?_,fun h e he aI => ?_⟩
    ·obtain ⟨e,he,aI,rfl⟩ := tz (En aN)
     have := h e he aI
     by_cases pO : e.on < ops.size
     ·rw [← a6 _ pO]; exact this
     ·have : ¬ e.on < listed.size := by omega
      simp_all
    ·have hm : e.on ∈ wl o := by
      unfold wl
      exact List.mem_filterMap.2 ⟨e,by simpa using he,by rw [if_pos aI]⟩
     have aj := h _ hm
     by_cases pO : e.on < ops.size
     ·rw [a6 _ pO]; exact aj
     ·exact absurd (w5 _ aj) pO
  have xd : ∀ i,lD ops done i = true → i < ops.size ∧ done.contains i = false ∧ mD (listed.setIfInBounds i true) = fuel ∧ (listed.setIfInBounds i true).size = ops.size ∧ (∀ j,j < ops.size → (listed.setIfInBounds i true).getD j false = (i :: done).contains j) ∧ ∀ j,(i :: done).contains j = true → j < ops.size := fun i aq => by
   have jR := aq
   unfold lD at jR
   simp only [Bool.and_eq_true,decide_eq_true_eq,Bool.not_eq_true'] at jR
   obtain ⟨⟨af,aj⟩,_⟩ := jR
   have aZ : listed.getD i false = false := (a6 i af).trans aj
   have := G4 (listed := listed) (by omega) aZ
   refine ⟨af,aj,by omega,by simpa using hi,fun j aN => ?_,fun j aN => ?_⟩
   rotate_left
   ·simp only [List.contains_cons,Bool.or_eq_true,beq_iff_eq] at aN
    rcases aN with rfl | aN
    ·exact af
    ·exact w5 j aN
   by_cases e : i = j
   ·subst e
    simp [show i < listed.size from by omega]
   ·rw [getD_set_ne false e,a6 j aN,List.contains_cons]
    simp [show ¬ j = i from fun e5 => e e5.symm]
  have eM : ∀ i,i < ops.size → ∃ o,ops[i]? = some o := fun i aq => ⟨ops[i],by simp [aq]⟩
  have single : ∀ i s,lD ops done i = true → pX ops cu (i :: done) s = true → (cS cu[i]? fun g => kd g S fun S' => oe s cu S' K) → wpOp Tryz.prog ops Q i (wpAny Tryz.prog .any ops Q fuel (listed.setIfInBounds i true)) a w := fun i s aq mo kg => by
   obtain ⟨af,aj,av,aY,bM,bN⟩ := xd i aq
   obtain ⟨kG,fm⟩ := eM i af
   obtain ⟨g,aJ,kg⟩ := b2 kg
   exact Qy fm (ve.at (by simpa using fm) aJ) kg aO fun S' E' dN w' H' fS dY => dW s (i :: done) _ S' E' dN w' H' av aY bM bN mo fS dY az
  cases t with
  | leaf =>
   exfalso
   simp only [pX,List.all_eq_true,List.mem_range] at aB
   have : mD listed = 0 := by
    unfold mD
    rw [List.countP_eq_zero]
    intro b aI
    obtain ⟨i,aq,rfl⟩ := List.mem_iff_getElem.1 aI
    have iM : i < listed.size := by simpa using aq
    have af := a6 i (by omega)
    rw [aB i (by omega)] at af
    simp [iM] at af ⊢
    exact af
   omega
  | b4 i t =>
   simp only [pX,Bool.and_eq_true] at aB
   obtain ⟨⟨⟨cd,c2⟩,eu⟩,fR⟩ := aB
   obtain ⟨af,aj,av,aY,bM,cJ⟩ := xd i cd
   obtain ⟨kG,fm⟩ := eM i af
   obtain ⟨g,aJ,kg⟩ := b2 he
   have ni : g.op.Aj = true := by unfold JU at c2; rw [aJ] at c2; exact c2
   obtain ⟨v,aV,S',E',fS,dY⟩ := ad4 (ve.at (by simpa using fm) aJ) ni kg aO
   refine wpAny_first fm (Region.noSelect_spec Sr) (fun c a w h => kv c a _ _ w h) fuel listed a w ?_ ((xb i).2 cd) aV (dW t (i :: done) _ S' E' _ w H av aY bM cJ fR fS dY az)
   intro j hP qo dj AA rj
   unfold I6 at eu
   rw [fm] at eu
   simp only [List.all_eq_true,List.mem_range,Bool.or_eq_true,decide_eq_true_eq] at eu
   have bQ : j < ops.size := (Array.getElem?_eq_some_iff.1 qo).1
   have nr : j < listed.size := by omega
   have pq := eu j bQ
   rw [qo] at pq
   simp only [Bool.or_eq_true] at pq
   rcases pq with (pq | pq) | (pq | pq)
   ·exact absurd pq dj
   ·have bN := a6 j bQ
    rw [pq] at bN
    simp [nr] at AA bN
    rw [AA] at bN; cases bN
   ·obtain ⟨e,vc,aI,qm⟩ := tz (En (by simpa using pq))
    exact absurd qm (rj e vc aI)
   ·exact pq
  | step i t =>
   simp only [pX,Bool.and_eq_true,List.all_eq_true,List.mem_range,Bool.or_eq_true,Bool.not_eq_true',decide_eq_true_eq] at aB
   obtain ⟨⟨cd,c2⟩,eu⟩ := aB
   refine ⟨fun ba => ?_,fun j aN => ?_⟩
   ·have := (xb i).2 cd; rw [ba] at this; cases this
   ·have aA := (xb j).1 aN
    have pJ : j = i := (c2 j (xd j aA).1).resolve_left (by rw [aA]; simp)
    subst pJ
    exact single j t aA eu he
  | alt x y =>
   simp only [pX,Bool.and_eq_true,List.all_eq_true,List.mem_range,Bool.or_eq_true,Bool.not_eq_true',List.any_eq_true] at aB
   obtain ⟨⟨⟨cd,c2⟩,eu⟩,fR⟩ := aB
   refine ⟨fun ba => ?_,fun j aN => ?_⟩
   ·obtain ⟨i,_,aq⟩ := c2
    have := (xb i).2 aq; rw [ba] at this; cases this
   ·have aA := (xb j).1 aN
    have cy := (cd j (xd j aA).1).resolve_left (by rw [aA]; simp)
    obtain ⟨s,mo,kg⟩ := branch (t := .alt x y) cy (by simp only [vO,Bool.and_eq_true]; exact ⟨eu,fR⟩) he
    exact single j s aA mo kg
def Em (ops : Array Oper) : Bool := (List.range ops.size).all fun i => match ops[i]? with | some o => (wl o).all fun j => decide (j < i) | none => true
theorem S2 {ops : Array Oper} {done : List Nat} (h : Em ops = true) : ∀ (n i : Nat),i < n → i < ops.size → done.contains i = false → ∃ j,lD ops done j = true
 | 0,i,ba,_,_ => by omega
 | n + 1,i,a9,aq,a6 => by
  by_cases aA : lD ops done i = true
  ·exact ⟨i,aA⟩
  ·obtain ⟨o,ax⟩ : ∃ o,ops[i]? = some o := ⟨ops[i],by simp [aq]⟩
   have CX := List.all_eq_true.1 h i (List.mem_range.2 aq)
   rw [ax] at CX
   simp only [List.all_eq_true,decide_eq_true_eq] at CX
   unfold lD at aA
   rw [ax,a6] at aA
   simp only [aq,decide_true,Bool.true_and,Bool.not_false,List.all_eq_true,Classical.not_forall] at aA
   obtain ⟨j,aN,kA⟩ := aA
   have bQ := CX j aN
   exact S2 h n j (by omega) (by omega) (by simpa using kA)
theorem akT {ops : Array Oper} {done : List Nat} {i : Nat} (h : lD ops done i = true) : sh (ops.toList.map wl) done i = true := by
 unfold lD at h
 unfold sh
 simp only [Bool.and_eq_true,decide_eq_true_eq] at h
 obtain ⟨⟨af,aj⟩,av⟩ := h
 rw [List.getElem?_map,Array.getElem?_toList]
 cases ax : ops[i]? with
 | none => rw [ax] at av; cases av
 | some o => rw [ax] at av; rw [aj]; exact av
theorem ad2 (Sr : Region.noSelect ops = true) (CX : Em ops = true) (ve : kn N ops ops.toList cu) {I : List Nat → ak → Prop}
  (aW : ∀ done S' i,I done S' → sh (ops.toList.map wl) done i = true → cS cu[i]? fun g => kd g S' fun gr => I (i :: done) gr)
  (az : ∀ done S E a w H,I done S → (∀ i,i < ops.size → done.contains i = true) → bC N w0 H0 S E a w H → Q .normal a w) :
  ∀ (fuel : Nat) (done : List Nat) (listed : Array Bool) (S : ak) (E : Env) (a : Act) (w : World) (H : bl),mD listed = fuel → listed.size = ops.size → (∀ i,i < ops.size → listed.getD i false = done.contains i) → (∀ i,done.contains i = true → i < ops.size) →
   I done S → bC N w0 H0 S E a w H → wpAny Tryz.prog .any ops Q fuel listed a w := by
 intro fuel
 induction fuel with
 | zero =>
  intro done listed S E a w H aE hi a6 w5 he aO
  have ec : ∀ i,i < ops.size → done.contains i = true := fun i aq => (a6 i aq).symm.trans (Dx aE i (by omega))
  refine ⟨?_,az done S E a w H he ec aO⟩
  refine List.eq_nil_iff_forall_not_mem.2 fun i aq => ?_
  obtain ⟨af,kG,fm,_⟩ := mem_ready.1 aq
  have bQ : i < ops.size := (Array.getElem?_eq_some_iff.1 fm).1
  have aj := Dx aE i (by omega)
  have : i < listed.size := by omega
  simp [this] at af aj
  rw [af] at aj; cases aj
 | succ fuel dW =>
  intro done listed S E a w H aE hi a6 w5 he aO
  have xb : ∀ i,i ∈ Region.ready .any ops listed ↔ lD ops done i = true := fun i => by
   rw [mem_ready]
   unfold lD
   cases fm : ops[i]? with
   | none => simp
   | some o =>
    have bQ : i < ops.size := (Array.getElem?_eq_some_iff.1 fm).1
    have nr : i < listed.size := by omega
    have af : listed.getD i true = listed.getD i false := by simp [nr]
    rw [af,a6 i bQ]
    simp only [Option.some.injEq,exists_eq_left',Bool.and_eq_true,decide_eq_true_eq,bQ,true_and,Bool.not_eq_true',List.all_eq_true]
    refine and_congr_right fun _ => ⟨fun h j aN => ?_,fun h e he aI => ?_⟩
    ·obtain ⟨e,he,aI,rfl⟩ := tz (En aN)
     have := h e he aI
     by_cases pO : e.on < ops.size
     ·rw [← a6 _ pO]; exact this
     ·have : ¬ e.on < listed.size := by omega
      simp_all
    ·have hm : e.on ∈ wl o := by
      unfold wl
      exact List.mem_filterMap.2 ⟨e,by simpa using he,by rw [if_pos aI]⟩
     have aj := h _ hm
     by_cases pO : e.on < ops.size
     ·rw [a6 _ pO]; exact aj
     ·exact absurd (w5 _ aj) pO
  have xd : ∀ i,lD ops done i = true → i < ops.size ∧ done.contains i = false ∧ mD (listed.setIfInBounds i true) = fuel ∧ (listed.setIfInBounds i true).size = ops.size ∧ (∀ j,j < ops.size → (listed.setIfInBounds i true).getD j false = (i :: done).contains j) ∧ ∀ j,(i :: done).contains j = true → j < ops.size := fun i aq => by
   have jR := aq
   unfold lD at jR
   simp only [Bool.and_eq_true,decide_eq_true_eq,Bool.not_eq_true'] at jR
   obtain ⟨⟨af,aj⟩,_⟩ := jR
   have aZ : listed.getD i false = false := (a6 i af).trans aj
   have := G4 (listed := listed) (by omega) aZ
   refine ⟨af,aj,by omega,by simpa using hi,fun j aN => ?_,fun j aN => ?_⟩
   rotate_left
   ·simp only [List.contains_cons,Bool.or_eq_true,beq_iff_eq] at aN
    rcases aN with rfl | aN
    ·exact af
    ·exact w5 j aN
   by_cases e : i = j
   ·subst e
    simp [show i < listed.size from by omega]
   ·rw [getD_set_ne false e,a6 j aN,List.contains_cons]
    simp [show ¬ j = i from fun e5 => e e5.symm]
  have eM : ∀ i,i < ops.size → ∃ o,ops[i]? = some o := fun i aq => ⟨ops[i],by simp [aq]⟩
  refine ⟨fun ba => ?_,fun j aN => ?_⟩
  ·have hex : ∃ i,i < ops.size ∧ done.contains i = false := by
    refine Classical.byContradiction fun kh => ?_
    have ec : ∀ i,i < ops.size → listed.getD i false = true := fun i aq => by
     rw [a6 i aq]
     cases aB : done.contains i
     ·exact absurd ⟨i,aq,aB⟩ kh
     ·rfl
    have : mD listed = 0 := by
     unfold mD
     rw [List.countP_eq_zero]
     intro b aI
     obtain ⟨i,aq,rfl⟩ := List.mem_iff_getElem.1 aI
     have iM : i < listed.size := by simpa using aq
     have af := ec i (by omega)
     simp [iM] at af ⊢
     exact af
    omega
   obtain ⟨i,aq,aB⟩ := hex
   obtain ⟨j,aN⟩ := S2 CX (i + 1) i (by omega) aq aB
   have := (xb j).2 aN; rw [ba] at this; cases this
  ·have aA := (xb j).1 aN
   obtain ⟨af,aj,av,aY,bM,bN⟩ := xd j aA
   obtain ⟨kG,fm⟩ := eM j af
   obtain ⟨g,aJ,kg⟩ := b2 (aW done S j he (akT aA))
   exact Qy fm (ve.at (by simpa using fm) aJ) kg aO fun S' E' dN w' H' fS dY => dW (j :: done) _ S' E' dN w' H' av aY bM bN fS dY
end
end Go.Proofs.YtkmbcjnaaokilaaGreatDoor
