/-
  Layer 5 by shadows: small functions, Mix, Store, New.
-/
import Derived.Test.YtkmbcjnaaokilaaGreatDoorSc5
import Derived.Test.YtkmbcjnaaokilaaGreatDoorK2
namespace Go.Proofs.YtkmbcjnaaokilaaGreatDoor
set_option linter.unusedSimpArgs false
set_option linter.unusedVariables false
open Go.RowKit Go.Maps
def kG (c i m : Int) : Int := if i < 0 ∨ m < 0 ∨ c = -1 then 0 else if c < -1 then m else (c % 1009 * 31 + i % 1009 * 17) % 1009 % (m + 1)
theorem ae1 (c i m : Int) : 0 ≤ kG c i m ∧ kG c i m ≤ max m 0 := by
 unfold kG
 split
 ·omega
 ·split
  ·omega
  ·have af := Int.emod_nonneg ((c % 1009 * 31 + i % 1009 * 17) % 1009) (b := m + 1) (by omega)
   have aj := Int.emod_lt_of_pos ((c % 1009 * 31 + i % 1009 * 17) % 1009) (b := m + 1) (by omega)
   omega
set_option maxRecDepth 100000 in
set_option maxHeartbeats 1000000 in
theorem aeE (c i m : Int) (w : World) (hm : m ≤ 1099511627776) : uX Tryz.prog 87 #[.int .i64 c,.int .i64 i,.int .i64 m] w (.int .i64 (kG c i m)) := by
 unfold uX
 by_cases af : i < 0
 ·go_enter Tryz.func87,Tryz.ntmps87
  go_wp2
  go_ret
  exact Cd (by simp [kG,af]) (Below.refl _ _)
 by_cases aj : m < 0
 ·go_enter Tryz.func87,Tryz.ntmps87
  go_wp2
  go_ret
  exact Cd (by simp [kG,aj]) (Below.refl _ _)
 by_cases aw : c = -1
 ·subst aw
  go_enter Tryz.func87,Tryz.ntmps87
  go_wp2
  go_ret
  exact Cd (by simp [kG]) (Below.refl _ _)
 have OQ : (c == -1) = false := by simpa using aw
 by_cases aV : c < -1
 ·go_enter Tryz.func87,Tryz.ntmps87
  go_wp2
  go_ret
  exact Cd (by unfold kG; rw [if_neg (by omega),if_pos aV]) (Below.refl _ _)
 ·obtain ⟨A,br⟩ : ∃ A,A = c % 1009 := ⟨_,rfl⟩
  obtain ⟨B,fD⟩ : ∃ B,B = i % 1009 := ⟨_,rfl⟩
  obtain ⟨C,hC⟩ : ∃ C,C = (A * 31 + B * 17) % 1009 := ⟨_,rfl⟩
  obtain ⟨R,ba⟩ : ∃ R,R = C % (m + 1) := ⟨_,rfl⟩
  have bE := Int.emod_nonneg c (b := 1009) (by omega)
  have bP := Int.emod_lt_of_pos c (b := 1009) (by omega)
  have c4 := Int.emod_nonneg i (b := 1009) (by omega)
  have dm := Int.emod_lt_of_pos i (b := 1009) (by omega)
  rw [← br] at bE bP
  rw [← fD] at c4 dm
  have cw := Int.emod_nonneg (A * 31 + B * 17) (b := 1009) (by omega)
  have c2 := Int.emod_lt_of_pos (A * 31 + B * 17) (b := 1009) (by omega)
  rw [← hC] at cw c2
  have et := Int.emod_nonneg C (b := m + 1) (by omega)
  have dP := Int.emod_lt_of_pos C (b := m + 1) (by omega)
  rw [← ba] at et dP
  have anC : c.tmod 1009 = A := by rw [br]; exact Int.tmod_eq_emod_of_nonneg (by omega)
  have anD : i.tmod 1009 = B := by rw [fD]; exact Int.tmod_eq_emod_of_nonneg (by omega)
  have anE : (A * 31 + B * 17).tmod 1009 = C := by rw [hC]; exact Int.tmod_eq_emod_of_nonneg (by omega)
  have anG : C.tmod (m + 1) = R := by rw [ba]; exact Int.tmod_eq_emod_of_nonneg (by omega)
  have IZ : ((m + 1) == 0) = false := by rw [beq_eq_false_iff_ne]; omega
  have w7 : ¬ (m + 1 = 0) := by omega
  have hQ : kG c i m = R := by unfold kG; rw [if_neg (by omega),if_neg aV,← br,← fD,← hC,← ba]
  have H0 := Lib.hid hQ
  clear hQ br fD hC ba
  go_enter Tryz.func87,Tryz.ntmps87
  go_wp2
  go_ret
  exact Cd (by rw [H0.out]) (Below.refl _ _)
structure z0 where
 loc : Int
 word : bq
abbrev Nu (x : z0) : List av := [aI x.loc,aI x.word.val,fX x.word.eZ,fX x.word.ref]
structure pL where
 fI : List z0
 kept : Int
abbrev pb (y : pL) : List av := [.au 4 0 (y.fI.map Nu),aI y.kept]
structure hk where
 first : List bq
 eQ : List pL
 asks : Int → Option (Int → Option Int)
abbrev kR (g : Int → Option Int) : av := .mp 3 fun k => (g k).map aI
abbrev oz (L : hk) : av := .agg [.au 3 0 (L.first.map dj),.au 2 0 (L.eQ.map pb),.mp 3 fun t => (L.asks t).map kR]
theorem aef : (Tryz.prog.info? 177).map (fun i => (i.zero,i.size,i.bytes)) = some (some (.agg #[.slice none 0 0,.int .i64 0]),2,32) := by kernel_rfl
set_option maxRecDepth 100000 in
set_option maxHeartbeats 1000000 in
theorem KI (g : Nat) (es : List (List av)) (a7 : es.length ≤ 1000000) : ts 58 [.au 3 g es] 79 3 es := by
 intro w H vs ao bj
 obtain ⟨i0,aq,xr,xt,r2⟩ := info_parts aei
 cases bj with
 | cons ar aO =>
  rename_i u lz
  cases aO
  obtain ⟨a,n,c,rfl⟩ : ∃ a n c,u = Value.slice a n c := by cases ar; exact ⟨_,_,_,rfl⟩
  obtain ⟨xs,eJ,fu,fM,Ko,_,k4,hg⟩ := ra ao ar
  subst fu
  clear ar
  have aS := fun w a l c => Lib.run_eql_slice_nil (P := Tryz.prog) w 27 _ a l c 0 0 Tryz.underlying27
  cases a with
  | none =>
   have az := k4 rfl
   have uc : es = [] := List.eq_nil_of_length_eq_zero (by omega)
   subst uc; subst az
   cases eJ
   simp only [List.length_nil]
   go_enter Tryz.func58,Tryz.ntmps58
   go_wp2
   go_ret
   exact ⟨_,[],rfl,Grow.refl ao,by decide,World.ownsRow_nil _ _ _ _,.nil,fun _ => ⟨_,rfl⟩⟩
  | some fr =>
   by_cases bb : es = []
   ·subst bb
    cases eJ
    clear hg
    simp only [List.length_nil]
    go_enter Tryz.func58,Tryz.ntmps58
    go_wp2_with (first
     | (at_builtin; refine Gf rfl _ _ 27 79 i0 rfl Tryz.underlying27 aq _ _ _ rfl rfl ?_)
     | go_in)
    go_ret
    refine ⟨_,[],rfl,(Grow.refl ao).alloc _,by decide,?_,.nil,fun _ => ⟨_,rfl⟩⟩
    exact World.ownsRow_made _ _ 0 (Nat.le_refl _) (by decide) (by simp)
   have sT : ∀ (j : Nat) (u : Value),xs[j]? = some u → (w.alloc (.cells #[] 79)).cell? (fr.add j) = some u := fun j u hu => by
    obtain ⟨cells,t,cS,af,aj,aw⟩ := u4 (hg fr rfl j u hu)
    simp [World.cell?,af,Ed _ _ aj,aw]
   have lX := eJ.length
   have af := eJ.one
   clear hg
   obtain ⟨n,dS⟩ : ∃ n,n = es.length := ⟨_,rfl⟩
   rw [← dS] at lX a7 fM ⊢
   have uQ := Lib.hid dS
   clear dS
   go_enter Tryz.func58,Tryz.ntmps58
   go_wp2_with (first
    | (at_builtin; refine wpList_append_own _ rfl _ _ 27 rfl w.heap.size 79 i0 _ 3 16 Tryz.underlying27 aq xr xt r2 rfl (by decide) (.slice (some ⟨w.heap.size,0,none⟩) 0 0) 0 [] rfl (World.ownsRow_made _ _ 0 (Nat.le_refl _) (by decide) (by simp)) fr n c xs rfl lX sT af (by unfold maxLen; omega) (by omega) (by simp) ?_; intro gY fh jF n6 xg)
    | go_in)
   go_ret
   refine ⟨gY,xs,rfl,?_,by decide,by rw [← uQ.out]; simpa using jF,eJ,fun e => absurd e bb⟩
   exact ((Grow.refl ao).alloc _).grown n6 (fun k aB => by simp [Value.ownBlock] at aB; subst aB; exact ⟨Nat.le_refl _,ao.none (Nat.le_refl _)⟩)
set_option maxRecDepth 100000 in
set_option maxHeartbeats 1000000 in
theorem Rt (g : Nat) (es : List (List av)) (a7 : es.length ≤ 1000000) : ts 104 [.au 2 g es] 177 2 es := by
 intro w H vs ao bj
 obtain ⟨i0,aq,xr,xt,r2⟩ := info_parts aef
 cases bj with
 | cons ar aO =>
  rename_i u lz
  cases aO
  obtain ⟨a,n,c,rfl⟩ : ∃ a n c,u = Value.slice a n c := by cases ar; exact ⟨_,_,_,rfl⟩
  obtain ⟨xs,eJ,fu,fM,Ko,_,k4,hg⟩ := ra ao ar
  subst fu
  clear ar
  have aS := fun w a l c => Lib.run_eql_slice_nil (P := Tryz.prog) w 54 _ a l c 0 0 Tryz.underlying54
  cases a with
  | none =>
   have az := k4 rfl
   have uc : es = [] := List.eq_nil_of_length_eq_zero (by omega)
   subst uc; subst az
   cases eJ
   simp only [List.length_nil]
   go_enter Tryz.func104,Tryz.ntmps104
   go_wp2
   go_ret
   exact ⟨_,[],rfl,Grow.refl ao,by decide,World.ownsRow_nil _ _ _ _,.nil,fun _ => ⟨_,rfl⟩⟩
  | some fr =>
   by_cases bb : es = []
   ·subst bb
    cases eJ
    clear hg
    simp only [List.length_nil]
    go_enter Tryz.func104,Tryz.ntmps104
    go_wp2_with (first
     | (at_builtin; refine Gf rfl _ _ 54 177 i0 rfl Tryz.underlying54 aq _ _ _ rfl rfl ?_)
     | go_in)
    go_ret
    refine ⟨_,[],rfl,(Grow.refl ao).alloc _,by decide,?_,.nil,fun _ => ⟨_,rfl⟩⟩
    exact World.ownsRow_made _ _ 0 (Nat.le_refl _) (by decide) (by simp)
   have sT : ∀ (j : Nat) (u : Value),xs[j]? = some u → (w.alloc (.cells #[] 177)).cell? (fr.add j) = some u := fun j u hu => by
    obtain ⟨cells,t,cS,af,aj,aw⟩ := u4 (hg fr rfl j u hu)
    simp [World.cell?,af,Ed _ _ aj,aw]
   have lX := eJ.length
   have af := eJ.one
   clear hg
   obtain ⟨n,dS⟩ : ∃ n,n = es.length := ⟨_,rfl⟩
   rw [← dS] at lX a7 fM ⊢
   have uQ := Lib.hid dS
   clear dS
   go_enter Tryz.func104,Tryz.ntmps104
   go_wp2_with (first
    | (at_builtin; refine wpList_append_own _ rfl _ _ 54 rfl w.heap.size 177 i0 _ 2 32 Tryz.underlying54 aq xr xt r2 rfl (by decide) (.slice (some ⟨w.heap.size,0,none⟩) 0 0) 0 [] rfl (World.ownsRow_made _ _ 0 (Nat.le_refl _) (by decide) (by simp)) fr n c xs rfl lX sT af (by unfold maxLen; omega) (by omega) (by simp) ?_; intro gY fh jF n6 xg)
    | go_in)
   go_ret
   refine ⟨gY,xs,rfl,?_,by decide,by rw [← uQ.out]; simpa using jF,eJ,fun e => absurd e bb⟩
   exact ((Grow.refl ao).alloc _).grown n6 (fun k aB => by simp [Value.ownBlock] at aB; subst aB; exact ⟨Nat.le_refl _,ao.none (Nat.le_refl _)⟩)
theorem QU (t : Int) : cu 100 [aI t] (dH (decide (1 ≤ t ∧ t ≤ 8))) := by
 refine df Tryz.func100 aj1 rfl ?_
 by_cases af : 1 ≤ t <;> by_cases aj : t ≤ 8
 all_goals
  unfold bJ To Sh;delta ab a9 aa aA a6
  have ad := And.intro @af @aj
  refine ae fun _ aK _ _ => ai fun _ aG => ?_;refine an ad ?_;refine aG _ (aK (some ([0],none)) _ (ae fun _ aQ _ _ => ai fun _ bh => ?_));refine ag 2 ad ?_;refine ag 3 ad ?_;refine an ad ?_;refine bh _ (aQ (some ([2],none)) _ ?_)
  exact cO ad
theorem QT (L : hk) (a : Int) : cu 101 [oz L,aI a] (dH (decide (0 ≤ a ∧ a < (L.first.length : Int)))) := by
 refine df Tryz.func101 ajX rfl ?_
 by_cases af : 0 ≤ a <;> by_cases aj : a < (L.first.length : Int)
 all_goals
  unfold bJ Tk Sd;delta ab a9 aa aA a6
  have ad := And.intro @af @aj
  refine ae fun _ aK _ _ => ai fun _ aG => ?_;refine an ad ?_;refine aG _ (aK (some ([1,2],none)) _ (ae fun _ aQ _ _ => ai fun _ bh => ?_));refine ag 2 ad ?_;refine ag 4 ad ?_;refine ag 2 ad ?_;refine an ad ?_;refine bh _ (aQ (some ([4],none)) _ ?_)
  exact cO ad
theorem ae5 {α : Type} {l : List α} {m : Nat} {y : α} (f : α → α) (h : l[m]? = some y) : l.modify m f = l.set m (f y) := by
 apply List.ext_getElem?
 intro i
 rw [List.getElem?_modify,List.getElem?_set]
 by_cases e : m = i
 ·subst e
  obtain ⟨dh,a1⟩ := List.getElem?_eq_some_iff.1 h
  simp [dh,a1]
 ·simp [e]
def rb (L : hk) (a : Int) (w : bq) : hk := { L with eQ := L.eQ.modify (a.toNat / 8) fun x => { x with fI := x.fI ++ [⟨a,w⟩] } }
theorem af3 (g : Nat) (es : List (List av)) : cu 109 [.au 4 g es] (.au 4 1 es) := by
 refine df Tryz.func109 ajr rfl ?_
 unfold bJ SV RP;delta ab aa
 refine ae fun _ aK _ _ => ai fun _ aG => ?_;refine cz ?_;refine aG _ (aK (some ([0],none)) _ (ae fun _ aQ _ _ => ai fun _ bh => ?_));refine cV 6 ?_;refine cz ?_;refine bh _ (aQ (some ([2],none)) _ ?_)
 exact jb
theorem agm (L : hk) (a : Int) (v : bq) (bb : 0 ≤ a) (af : a < (L.first.length : Int)) (aF : L.eQ.length = (L.first.length + 7) / 8) (hm : L.first.length ≤ 4096) (ao : ∀ y ∈ L.eQ,y.fI.length ≤ 1000) :
  cu 99 [oz L,aI a,.agg (dj v)] (.bR [oz (rb L a v),aI 0]) := by
 refine df Tryz.func99 ajZ rfl ?_
 obtain ⟨m,n8⟩ : ∃ m,m = a.toNat / 8 := ⟨_,rfl⟩
 have aS : IntKind.i64.wrap (a.tdiv 8) = (m : Int) := by rw [IntKind.wrap_i64,Int.tdiv_eq_ediv_of_nonneg bb]; omega
 have kC : m < L.eQ.length := by omega
 obtain ⟨y,a1⟩ : ∃ y,L.eQ[m]? = some y := ⟨L.eQ[m],by simp⟩
 have anq := ao y (List.mem_of_getElem? a1)
 unfold bJ Tm Sf;delta ab aR aa aA
 have ad := And.intro @a1 @aS
 refine ae fun _ aK _ _ => ai fun _ aG => ?_;refine an ad ?_;refine aG _ (aK (some ([1,3,5,6],none)) _ (ae fun _ aQ _ _ => ae fun _ bG _ _ => ai fun _ bZ => ?_));refine ag 1 ad ?_;refine aL 1 ad ?_;refine aL 1 ad ?_;refine Or.inl (Or.inl ⟨_,QT L a,?_⟩);refine an ad ?_;refine bZ _ (bG (some ([1,3,5,6,12],none)) _ ?_);refine mb rfl (fun ar => absurd ar (by simp [bb,af] at ar)) (fun oG => ?_)
 clear oG
 refine aQ (some ([1,3,5,6],none)) _ (ae fun _ bp _ _ => ai fun _ bD => ?_);refine ag 2 ad ?_;refine aL 1 ad ?_;refine Or.inl (Or.inr (Or.inl ⟨_,_,_,Rt 0 _ (by simp; omega),?_⟩));refine aU ad ?_;refine bD _ (bp (some ([1,3,5,6],none)) _ (ae fun _ ck _ _ => ai fun _ aP => ?_));refine ag 2 ad ?_;refine ag 2 ad ?_;refine ag 1 ad ?_;refine an ad ?_;refine aP _ (ck (some ([1,3,5,6,8],none)) _ (ae fun _ ee _ _ => ?_));refine hy [] (n := 10) fun _ eU => ?_;refine hv ?_;refine cR 5 ad ?_;refine gj 1 ad ?_;refine ⟨_,af3 _ _,?_⟩;refine cR 2 ad ?_;refine pc ad ?_;refine eU _ ?_;refine hx ?_;refine ag 1 ad ?_;refine aU ad ?_;refine ee (some ([3,6],none)) _ (ae fun _ dJ _ _ => ai fun _ dt => ?_);refine ag 1 ad ?_;refine ag 1 ad ?_;refine an ad ?_;refine dt _ (dJ (some ([6,7],none)) _ ?_)
 refine jc ad ?_
 skip
 have e : rb L a v = { L with eQ := L.eQ.set m { y with fI := y.fI ++ [⟨a,v⟩] } } := by
  unfold rb; rw [← n8]; congr 1; exact ae5 _ a1
 rw [e]
 simp [List.map_set,pb]
theorem agl (c i m : Int) (hm : m ≤ 1099511627776) : cu 87 [aI c,aI i,aI m] (aI (kG c i m)) := agD (xs := [.int .i64 c,.int .i64 i,.int .i64 m]) (fun w => aeE c i m w hm) rfl
def ql (l : List bq) : hk := ⟨l,List.replicate ((l.length + 7) / 8) ⟨[],0⟩,fun _ => none⟩
theorem ags (g : Nat) (l : List bq) (h : l.length ≤ 4096) : cu 66 [.au 3 g (l.map dj)] (.bR [oz (ql l),aI 0]) := by
 refine df Tryz.func66 akf rfl ?_
 have af : ¬ (4096 : Int) < (l.length : Int) := by omega
 have bL : IntKind.i64.wrap ((l.length : Int) + 8) = (l.length : Int) + 8 := by rw [IntKind.wrap_i64]; omega
 have cd : IntKind.i64.wrap ((l.length : Int) + 8 - 1) = (l.length : Int) + 7 := by rw [IntKind.wrap_i64]; omega
 have dV : IntKind.i64.wrap (((l.length : Int) + 7).tdiv 8) = ((l.length + 7) / 8 : Nat) := by rw [IntKind.wrap_i64,Int.tdiv_eq_ediv_of_nonneg (by omega)]; omega
 unfold bJ Ty Sq;delta ab aR aa aA
 have ad := And.intro @af (And.intro @bL (And.intro @cd @dV))
 refine ae fun _ aK _ _ => ai fun _ aG => ?_;refine an ad ?_;refine aG _ (aK (some ([0,2],none)) _ (ae fun _ aQ _ _ => ae fun _ bG _ _ => ai fun _ bZ => ?_));refine aU ad ?_;refine bZ _ (bG (some ([0,2,6],none)) _ (bB (aQ (some ([0,2],none)) _ (ae fun _ bp _ _ => ?_))));refine hy [] (n := 8) fun _ bD => ?_;refine hv ?_;refine gj 1 ad ?_;refine gj 1 ad ?_;refine ⟨_,(KI g (l.map dj) (by simp; omega)).ok,?_⟩;refine cR 3 ad ?_;refine cR 1 ad ?_;refine cR 1 ad ?_;refine pc ad ?_;refine bD _ ?_;refine hx ?_;refine ag 2 ad ?_;refine an ad ?_;refine bp (some ([2,3],none)) _ ?_;refine jc ad ?_
 skip
 unfold ql
 simp
def uB (out : List bq) (s : z0) : List bq := out.set s.loc.toNat s.word
def q4 (L : hk) (more : Int → Int → Int) : Nat → List bq
 | 0 => L.first
 | n + 1 => match L.eQ[n]? with
  | some y => (y.fI.take (y.kept + more n (y.fI.length - y.kept)).toNat).foldl uB (q4 L more n)
  | none => q4 L more n
def r8 (L : hk) (more : Int → Int → Int) : List bq := q4 L more L.eQ.length
theorem HH : ∀ (l : List z0) (out : List bq),(l.foldl uB out).length = out.length
 | [],_ => rfl
 | s :: l,out => by rw [List.foldl_cons,HH l]; simp [uB]
theorem EW (L : hk) (more : Int → Int → Int) : ∀ n,(q4 L more n).length = L.first.length
 | 0 => rfl
 | n + 1 => by
  unfold q4
  split
  ·rw [HH,EW L more n]
  ·exact EW L more n
structure zU (L : hk) : Prop where
 many : L.eQ.length = (L.first.length + 7) / 8
 mn : L.first.length ≤ 4096
 kept : ∀ y ∈ L.eQ,0 ≤ y.kept ∧ y.kept ≤ (y.fI.length : Int)
 place : ∀ (n : Nat) (y : pL),L.eQ[n]? = some y → ∀ s ∈ y.fI,0 ≤ s.loc ∧ s.loc < (L.first.length : Int) ∧ s.loc / 8 = (n : Int)
abbrev Nc (L : hk) : bl := .box 57 [.au 3 0 (L.first.map dj),.au 2 0 (L.eQ.map pb),.mp 3 fun t => (L.asks t).map kR]
def V2 (L : hk) (more : Int → Int → Int) (HM : av) (k : Nat) (S : ak) : Prop :=
 ∃ n,n ≤ L.eQ.length ∧ k = L.eQ.length - n ∧ S = ⟨[(1,HM),(5,.own 1),(14,.au 2 0 (L.eQ.map pb)),(15,aI L.eQ.length),(16,aI n)],[(0,Nc L),(1,.row 79 3 ((q4 L more n).map dj))],2⟩
def V3 (L : hk) (more : Int → Int → Int) (HM : av) (n : Nat) (y : pL) (es : List z0) (k : Nat) (S : ak) : Prop :=
 ∃ j,j ≤ es.length ∧ k = es.length - j ∧ S = ⟨[(1,HM),(5,.own 1),(14,.au 2 0 (L.eQ.map pb)),(15,aI L.eQ.length),(16,aI n),(35,.au 4 2 (es.map Nu)),(36,aI es.length),(37,aI j)],[(0,Nc L),(1,.row 79 3 (((es.take j).foldl uB (q4 L more n)).map dj)),(2,.box 177 (pb y))],3⟩
theorem agk (L : hk) (more : Int → Int → Int) (f : FuncId) (cap : List av) (ej : zU L) (hlen : ∀ y ∈ L.eQ,y.fI.length ≤ 1000) (bK : Enters f)
  (aW : ∀ (n many : Int),0 ≤ n → n ≤ 4096 → 0 ≤ many → many ≤ 1000 → cu f ([aI n,aI many] ++ cap) (aI (more n many))) (hm : ∀ (n many : Int),0 ≤ n → n ≤ 4096 → 0 ≤ many → many ≤ 1000 → 0 ≤ more n many ∧ more n many ≤ many) :
  cu 85 [oz L,.fn (.func f) [] cap] (.au 3 0 ((r8 L more).map dj)) := by
 refine df Tryz.func85 ajY rfl ?_
 have Pr := ej.many
 have Pu := ej.mn
 unfold bJ Tl Se;delta ab aR aa aA
 refine ae fun _ aK _ _ => ai fun _ aG => ?_;refine cz ?_;refine aG _ (aK (some ([1,2],none)) _ (ae fun _ aQ _ _ => ai fun _ bh => ?_));refine cV 2 ?_;refine eu 1 ?_;refine Or.inl (Or.inr (Or.inl ⟨_,_,_,KI 0 _ (by simp; omega),?_⟩));refine cz ?_;refine bh _ (aQ (some ([1,2,5],none)) _ (ae fun _ bT _ _ => ae fun _ bp _ _ => ai fun _ bD => ?_));refine cV 2 ?_;refine cz ?_;refine bD _ (bp (some ([1,5,14,15,16],none)) _ (cx fun _ _ xq _ _ => ?_));refine jS (V2 L more (.fn (.func f) [] cap)) (L.eQ.length) (some ([1,5,14,15,16],some ([0,1],2))) ([]) ?_ ?_
 ·try refine eC ?_
  exact ⟨0,by omega,by omega,rfl⟩
 ·intro k b0 aY
  obtain ⟨n,a7,rfl,rfl⟩ := aY
  intro _ cN _ gR
  refine ae fun _ ee _ _ => ai fun _ eU => ?_;refine mW ?_;refine eU _ (ee (some ([1,5,14,15,16,17],none)) _ (ae fun _ eW _ j7 => ?_));refine mb rfl (fun oG => ?_) (fun oG => ?_)
  ·try replace oG := yJ oG
   obtain ⟨y,a1⟩ : ∃ y,L.eQ[n]? = some y := ⟨L.eQ[n]'(by omega),by simp⟩
   have PO := List.mem_of_getElem? a1
   obtain ⟨cy,k2⟩ := ej.kept y PO
   have r1 := hlen y PO
   obtain ⟨nG,sa⟩ := hm n (y.fI.length - y.kept) (by omega) (by omega) (by omega) (by omega)
   have bL : IntKind.i64.wrap ((y.fI.length : Int) - y.kept) = (y.fI.length : Int) - y.kept := by rw [IntKind.wrap_i64]; omega
   have cd : IntKind.i64.wrap (y.kept + more n ((y.fI.length : Int) - y.kept)) = y.kept + more n ((y.fI.length : Int) - y.kept) := by rw [IntKind.wrap_i64]; omega
   have dV : IntKind.i64.wrap ((n : Int) + 1) = ((n + 1 : Nat) : Int) := by rw [IntKind.wrap_i64]; omega
   obtain ⟨T,eP⟩ : ∃ T,T = (y.kept + more n ((y.fI.length : Int) - y.kept)).toNat := ⟨_,rfl⟩
   have amS : T ≤ y.fI.length := by omega
   have amT : (y.fI.take T).length = T := by rw [List.length_take]; omega
   have ad := And.intro @a1 (And.intro @bL (And.intro @cd @dV))
   refine eW (some ([1,5,14,15,16],none)) _ (ae fun _ dJ _ _ => cx fun _ fQ _ _ _ => ae fun _ gK _ _ => ai fun _ gq => ?_);refine ag 2 ad ?_;refine ag 1 ad ?_;refine aU ad ?_;refine gq _ (gK (some ([1,5,6,7,14,15,16],none)) _ (ae fun _ kd _ _ => ?_));refine hy [] (n := 17) fun _ hs => ?_;refine hv ?_;refine cR 2 ad ?_;refine cR 2 ad ?_;refine cR 4 ad ?_;refine cR 3 ad ?_;refine cR 1 ad ?_;refine gj 1 ad ?_;refine ⟨bK,_,aW n _ (by omega) (by omega) (by omega) (by omega),?_⟩;refine cR 1 ad ?_;refine cR 1 ad ?_;refine lJ ad ?_;refine hs _ ?_;refine hx ?_;refine an ad ?_;refine kd (some ([1,5,14,15,16,35,36,37],none)) _ (cx fun _ _ ad3 _ _ => ?_);refine jS (V3 L more (.fn (.func f) [] cap) n y (y.fI.take T)) ((y.fI.take T).length) (some ([1,5,14,15,16,35,36,37],some ([0,1,2],3))) ([]) ?_ ?_
   ·try refine eC ?_
    refine ⟨0,by omega,by omega,?_⟩
    simp only [← eP,List.map_take,List.length_map,List.length_take,List.take_zero,List.foldl_nil]
    rfl
   ·intro k b0 aY
    obtain ⟨j,aM,rfl,rfl⟩ := aY
    intro _ h5 _ yK
    refine ae fun _ lS _ _ => ai fun _ hK => ?_;refine aU ad ?_;refine hK _ (lS (some ([1,5,14,15,16,35,36,37,38],none)) _ (ae fun _ iX _ It => ?_));refine mb rfl (fun mE => ?_) (fun mE => ?_)
    ·try replace mE := yJ mE
     obtain ⟨st,ie⟩ : ∃ st,(y.fI.take T)[j]? = some st := ⟨_,List.getElem?_eq_getElem (by omega)⟩
     obtain ⟨l1,l2,EV⟩ := ej.place n y a1 st (List.mem_of_mem_take (List.mem_of_getElem? ie))
     obtain ⟨q,Ev⟩ := Int.eq_ofNat_of_zero_le l1
     have Eu : q < ((y.fI.take T).take j |>.foldl uB (q4 L more n)).length := by rw [HH,EW]; omega
     obtain ⟨w0,EH⟩ : ∃ w0,((y.fI.take T).take j |>.foldl uB (q4 L more n))[q]? = some w0 := ⟨_,List.getElem?_eq_getElem Eu⟩
     have ja : IntKind.i64.wrap ((j : Int) + 1) = ((j + 1 : Nat) : Int) := by rw [IntKind.wrap_i64]; omega
     have aD := And.intro ad (And.intro @ie (And.intro @Ev (And.intro @EH @ja)))
     refine iX (some ([1,5,14,15,16,35,36,37],none)) _ (ae fun _ qd _ _ => cx fun _ kY _ _ _ => ae fun _ kf _ _ => ai fun _ iV => ?_);refine ag 1 aD ?_;refine ag 1 aD ?_;refine aU aD ?_;refine iV _ (kf (some ([1,5,9,14,15,16,35,36,37],none)) _ (ai fun _ iW => ?_));refine ag 3 aD ?_;refine ag 2 aD ?_;refine ag 1 aD ?_;refine aU aD ?_;refine iW _ (kY _ (qd (some ([1,5,14,15,16,35,36,37],none)) _ (ai fun _ kb => ?_)));refine ag 1 aD ?_;refine an aD ?_;refine kb _ ?_;refine h5 ((y.fI.take T).length - (j + 1)) (some ([1,5,14,15,16,35,36,37],some ([0,1,2],3))) _ ?_ ?_
     all_goals try refine eC ?_
     ·omega
     ·refine ⟨j + 1,by omega,by omega,?_⟩
      have a2 : (y.fI.take T).take (j + 1) = (y.fI.take T).take j ++ [st] := by rw [List.take_add_one,ie]; rfl
      rw [a2,List.foldl_append]
      simp only [List.foldl_cons,List.foldl_nil,uB,Ev,Int.toNat_natCast,List.map_set]
    ·try replace mE := yJ mE
     refine It 2 _ (yK 2 _ (ad3 _ (fQ _ (dJ (some ([1,5,14,15,16],none)) _ (ai fun _ lQ => ?_)))));refine ag 1 ad ?_;refine an ad ?_;refine lQ _ ?_;refine cN (L.eQ.length - (n + 1)) (some ([1,5,14,15,16],some ([0,1],2))) _ ?_ ?_
     all_goals try refine eC ?_
     ·omega
     ·refine ⟨n + 1,by omega,by omega,?_⟩
      have kB : j = (y.fI.take T).length := by omega
      have a8 : (y.fI.take T).take j = y.fI.take T := by rw [kB,List.take_length]
      have cg : q4 L more (n + 1) = (y.fI.take T).foldl uB (q4 L more n) := by show (match L.eQ[n]? with | some y => _ | none => _) = _; rw [a1]; show (y.fI.take (y.kept + more n (y.fI.length - y.kept)).toNat).foldl uB (q4 L more n) = _; rw [← eP]
      rw [cg,a8]
  ·try replace oG := yJ oG
   refine j7 0 _ (gR 0 _ (xq _ (bT (some ([5],none)) _ (ae fun _ oL _ _ => ai fun _ tX => ?_))));refine cz ?_;refine tX _ (oL (some ([4],none)) _ ?_);refine Ct ?_
   have adp : n = L.eQ.length := by omega
   subst adp; rfl
theorem agi (c n m : Int) (hm : m ≤ 1099511627776) : cu 86 [aI n,aI m,.dc [aI c] 0] (aI (kG c n m)) := by
 refine df Tryz.func86 ajV rfl ?_
 unfold bJ Ti Sb;delta ab aa aA
 refine ae fun _ aK _ _ => ai fun _ aG => ?_;refine cz ?_;refine aG _ (aK (some ([0,1,2],none)) _ (ae fun _ aQ _ _ => ai fun _ bh => ?_));refine cV 1 ?_;refine eu 2 ?_;refine eu 1 ?_;refine Or.inl (Or.inl ⟨_,agl _ _ _ hm,?_⟩);refine cz ?_;refine bh _ (aQ (some ([5],none)) _ ?_)
 exact jb
theorem agh (L : hk) (c : Int) (ej : zU L) (hlen : ∀ y ∈ L.eQ,y.fI.length ≤ 1000) : cu 70 [oz L,aI c] (.au 3 0 ((r8 L (kG c)).map dj)) := by
 refine df Tryz.func70 ajU rfl ?_
 unfold bJ Th Sa;delta ab aa
 refine ae fun _ aK _ _ => ai fun _ aG => ?_;refine cz ?_;refine aG _ (aK (some ([2,3],none)) _ (ae fun _ aQ _ _ => ai fun _ bh => ?_));refine cV 1 ?_;refine eu 1 ?_;refine eu 1 ?_;refine Or.inl (Or.inl ⟨_,agk L (kG c) 86 [.dc [aI c] 0] ej hlen (nn Tryz.func86 rfl rfl) (fun n m _ _ _ _ => agi c n m (by omega)) (fun n m _ _ _ _ => by have := ae1 c n m; omega),?_⟩);refine cz ?_;refine bh _ (aQ (some ([4],none)) _ ?_)
 exact jb
end Go.Proofs.YtkmbcjnaaokilaaGreatDoor
