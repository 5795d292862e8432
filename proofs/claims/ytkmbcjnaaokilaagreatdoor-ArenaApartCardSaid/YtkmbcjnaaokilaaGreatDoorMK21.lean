/-
  Layer 5 by shadows: small functions, Mix, Store, New.
-/
import Derived.Test.YtkmbcjnaaokilaaGreatDoorSc5
import Derived.Test.YtkmbcjnaaokilaaGreatDoorK2
namespace Go.Proofs.YtkmbcjnaaokilaaGreatDoor
set_option linter.unusedSimpArgs false
set_option linter.unusedVariables false
open Go.RowKit Go.Maps
def kW (c i m : Int) : Int := if i < 0 ∨ m < 0 ∨ c = -1 then 0 else if c < -1 then m else (c % 1009 * 31 + i % 1009 * 17) % 1009 % (m + 1)
theorem aiE (c i m : Int) : 0 ≤ kW c i m ∧ kW c i m ≤ max m 0 := by
 unfold kW
 split
 ·omega
 ·split
  ·omega
  ·have af := Int.emod_nonneg ((c % 1009 * 31 + i % 1009 * 17) % 1009) (b := m + 1) (by omega)
   have aj := Int.emod_lt_of_pos ((c % 1009 * 31 + i % 1009 * 17) % 1009) (b := m + 1) (by omega)
   omega
set_option maxRecDepth 100000 in
set_option maxHeartbeats 1000000 in
theorem aib (c i m : Int) (w : World) (hm : m ≤ 1099511627776) : wm Tryz.prog 87 #[.int .i64 c,.int .i64 i,.int .i64 m] w (.int .i64 (kW c i m)) := by
 unfold wm
 by_cases af : i < 0
 ·go_enter Tryz.func87,Tryz.ntmps87
  go_wp2
  go_ret
  exact DZ (by simp [kW,af]) (Below.refl _ _)
 by_cases aj : m < 0
 ·go_enter Tryz.func87,Tryz.ntmps87
  go_wp2
  go_ret
  exact DZ (by simp [kW,aj]) (Below.refl _ _)
 by_cases av : c = -1
 ·subst av
  go_enter Tryz.func87,Tryz.ntmps87
  go_wp2
  go_ret
  exact DZ (by simp [kW]) (Below.refl _ _)
 have RF : (c == -1) = false := by simpa using av
 by_cases aY : c < -1
 ·go_enter Tryz.func87,Tryz.ntmps87
  go_wp2
  go_ret
  exact DZ (by unfold kW; rw [if_neg (by omega),if_pos aY]) (Below.refl _ _)
 ·obtain ⟨A,br⟩ : ∃ A,A = c % 1009 := ⟨_,rfl⟩
  obtain ⟨B,fw⟩ : ∃ B,B = i % 1009 := ⟨_,rfl⟩
  obtain ⟨C,hC⟩ : ∃ C,C = (A * 31 + B * 17) % 1009 := ⟨_,rfl⟩
  obtain ⟨R,bf⟩ : ∃ R,R = C % (m + 1) := ⟨_,rfl⟩
  have bS := Int.emod_nonneg c (b := 1009) (by omega)
  have bH := Int.emod_lt_of_pos c (b := 1009) (by omega)
  have dh := Int.emod_nonneg i (b := 1009) (by omega)
  have dv := Int.emod_lt_of_pos i (b := 1009) (by omega)
  rw [← br] at bS bH
  rw [← fw] at dh dv
  have cd := Int.emod_nonneg (A * 31 + B * 17) (b := 1009) (by omega)
  have c2 := Int.emod_lt_of_pos (A * 31 + B * 17) (b := 1009) (by omega)
  rw [← hC] at cd c2
  have dI := Int.emod_nonneg C (b := m + 1) (by omega)
  have dS := Int.emod_lt_of_pos C (b := m + 1) (by omega)
  rw [← bf] at dI dS
  have art : c.tmod 1009 = A := by rw [br]; exact Int.tmod_eq_emod_of_nonneg (by omega)
  have aru : i.tmod 1009 = B := by rw [fw]; exact Int.tmod_eq_emod_of_nonneg (by omega)
  have arv : (A * 31 + B * 17).tmod 1009 = C := by rw [hC]; exact Int.tmod_eq_emod_of_nonneg (by omega)
  have arw : C.tmod (m + 1) = R := by rw [bf]; exact Int.tmod_eq_emod_of_nonneg (by omega)
  have Lh : ((m + 1) == 0) = false := by rw [beq_eq_false_iff_ne]; omega
  have yJ : ¬ (m + 1 = 0) := by omega
  have h3 : kW c i m = R := by unfold kW; rw [if_neg (by omega),if_neg aY,← br,← fw,← hC,← bf]
  have H0 := Lib.hid h3
  clear h3 br fw hC bf
  go_enter Tryz.func87,Tryz.ntmps87
  go_wp2
  go_ret
  exact DZ (by rw [H0.out]) (Below.refl _ _)
structure Bt where
 loc : Int
 word : bm
abbrev Qi (x : Bt) : List aw := [aG x.loc,aG x.word.val,gk x.word.eV,gk x.word.ref]
structure qN where
 fU : List Bt
 kept : Int
abbrev qg (y : qN) : List aw := [.au 4 0 (y.fU.map Qi),aG y.kept]
structure hz where
 first : List bm
 eX : List qN
 asks : Int → Option (Int → Option Int)
abbrev lf (g : Int → Option Int) : aw := .mp 3 fun k => (g k).map aG
abbrev pw (L : hz) : aw := .agg [.au 3 0 (L.first.map c6),.au 2 0 (L.eX.map qg),.mp 3 fun t => (L.asks t).map lf]
theorem ahI : (Tryz.prog.info? 177).map (fun i => (i.zero,i.size,i.bytes)) = some (some (.agg #[.slice none 0 0,.int .i64 0]),2,32) := by kernel_rfl
set_option maxRecDepth 100000 in
set_option maxHeartbeats 1000000 in
theorem Nj (g : Nat) (es : List (List aw)) (a9 : es.length ≤ 1000000) : uJ 58 [.au 3 g es] 79 3 es := by
 intro w H vs ao bj
 obtain ⟨i0,aq,y4,y5,s7⟩ := info_parts ahL
 cases bj with
 | cons ar aL =>
  rename_i u l8
  cases aL
  obtain ⟨a,n,c,rfl⟩ : ∃ a n c,u = Value.slice a n c := by cases ar; exact ⟨_,_,_,rfl⟩
  obtain ⟨xs,eR,fi,fZ,MV,_,jE,gW⟩ := sj ao ar
  subst fi
  clear ar
  have aT := fun w a l c => Lib.run_eql_slice_nil (P := Tryz.prog) w 27 _ a l c 0 0 Tryz.underlying27
  cases a with
  | none =>
   have aB := jE rfl
   have vn : es = [] := List.eq_nil_of_length_eq_zero (by omega)
   subst vn; subst aB
   cases eR
   simp only [List.length_nil]
   go_enter Tryz.func58,Tryz.ntmps58
   go_wp2
   go_ret
   exact ⟨_,[],rfl,Grow.refl ao,by decide,World.ownsRow_nil _ _ _ _,.nil,fun _ => ⟨_,rfl⟩⟩
  | some cm =>
   by_cases ba : es = []
   ·subst ba
    cases eR
    clear gW
    simp only [List.length_nil]
    go_enter Tryz.func58,Tryz.ntmps58
    go_wp2_with (first
     | (at_builtin; refine Ic rfl _ _ 27 79 i0 rfl Tryz.underlying27 aq _ _ _ rfl rfl ?_)
     | go_in)
    go_ret
    refine ⟨_,[],rfl,(Grow.refl ao).alloc _,by decide,?_,.nil,fun _ => ⟨_,rfl⟩⟩
    exact World.ownsRow_made _ _ 0 (Nat.le_refl _) (by decide) (by simp)
   have tV : ∀ (j : Nat) (u : Value),xs[j]? = some u → (w.alloc (.cells #[] 79)).cell? (cm.add j) = some u := fun j u hu => by
    obtain ⟨cells,t,c0,af,aj,av⟩ := wG (gW cm rfl j u hu)
    simp [World.cell?,af,Gl _ _ aj,av]
   have mB := eR.length
   have af := eR.one
   clear gW
   obtain ⟨n,dy⟩ : ∃ n,n = es.length := ⟨_,rfl⟩
   rw [← dy] at mB a9 fZ ⊢
   have rD := Lib.hid dy
   clear dy
   go_enter Tryz.func58,Tryz.ntmps58
   go_wp2_with (first
    | (at_builtin; refine wpList_append_own _ rfl _ _ 27 rfl w.heap.size 79 i0 _ 3 16 Tryz.underlying27 aq y4 y5 s7 rfl (by decide) (.slice (some ⟨w.heap.size,0,none⟩) 0 0) 0 [] rfl (World.ownsRow_made _ _ 0 (Nat.le_refl _) (by decide) (by simp)) cm n c xs rfl mB tV af (by unfold maxLen; omega) (by omega) (by simp) ?_; intro hb fB jc oX yT)
    | go_in)
   go_ret
   refine ⟨hb,xs,rfl,?_,by decide,by rw [← rD.out]; simpa using jc,eR,fun e => absurd e ba⟩
   exact ((Grow.refl ao).alloc _).grown oX (fun k az => by simp [Value.ownBlock] at az; subst az; exact ⟨Nat.le_refl _,ao.none (Nat.le_refl _)⟩)
set_option maxRecDepth 100000 in
set_option maxHeartbeats 1000000 in
theorem UE (g : Nat) (es : List (List aw)) (a9 : es.length ≤ 1000000) : uJ 104 [.au 2 g es] 177 2 es := by
 intro w H vs ao bj
 obtain ⟨i0,aq,y4,y5,s7⟩ := info_parts ahI
 cases bj with
 | cons ar aL =>
  rename_i u l8
  cases aL
  obtain ⟨a,n,c,rfl⟩ : ∃ a n c,u = Value.slice a n c := by cases ar; exact ⟨_,_,_,rfl⟩
  obtain ⟨xs,eR,fi,fZ,MV,_,jE,gW⟩ := sj ao ar
  subst fi
  clear ar
  have aT := fun w a l c => Lib.run_eql_slice_nil (P := Tryz.prog) w 54 _ a l c 0 0 Tryz.underlying54
  cases a with
  | none =>
   have aB := jE rfl
   have vn : es = [] := List.eq_nil_of_length_eq_zero (by omega)
   subst vn; subst aB
   cases eR
   simp only [List.length_nil]
   go_enter Tryz.func104,Tryz.ntmps104
   go_wp2
   go_ret
   exact ⟨_,[],rfl,Grow.refl ao,by decide,World.ownsRow_nil _ _ _ _,.nil,fun _ => ⟨_,rfl⟩⟩
  | some cm =>
   by_cases ba : es = []
   ·subst ba
    cases eR
    clear gW
    simp only [List.length_nil]
    go_enter Tryz.func104,Tryz.ntmps104
    go_wp2_with (first
     | (at_builtin; refine Ic rfl _ _ 54 177 i0 rfl Tryz.underlying54 aq _ _ _ rfl rfl ?_)
     | go_in)
    go_ret
    refine ⟨_,[],rfl,(Grow.refl ao).alloc _,by decide,?_,.nil,fun _ => ⟨_,rfl⟩⟩
    exact World.ownsRow_made _ _ 0 (Nat.le_refl _) (by decide) (by simp)
   have tV : ∀ (j : Nat) (u : Value),xs[j]? = some u → (w.alloc (.cells #[] 177)).cell? (cm.add j) = some u := fun j u hu => by
    obtain ⟨cells,t,c0,af,aj,av⟩ := wG (gW cm rfl j u hu)
    simp [World.cell?,af,Gl _ _ aj,av]
   have mB := eR.length
   have af := eR.one
   clear gW
   obtain ⟨n,dy⟩ : ∃ n,n = es.length := ⟨_,rfl⟩
   rw [← dy] at mB a9 fZ ⊢
   have rD := Lib.hid dy
   clear dy
   go_enter Tryz.func104,Tryz.ntmps104
   go_wp2_with (first
    | (at_builtin; refine wpList_append_own _ rfl _ _ 54 rfl w.heap.size 177 i0 _ 2 32 Tryz.underlying54 aq y4 y5 s7 rfl (by decide) (.slice (some ⟨w.heap.size,0,none⟩) 0 0) 0 [] rfl (World.ownsRow_made _ _ 0 (Nat.le_refl _) (by decide) (by simp)) cm n c xs rfl mB tV af (by unfold maxLen; omega) (by omega) (by simp) ?_; intro hb fB jc oX yT)
    | go_in)
   go_ret
   refine ⟨hb,xs,rfl,?_,by decide,by rw [← rD.out]; simpa using jc,eR,fun e => absurd e ba⟩
   exact ((Grow.refl ao).alloc _).grown oX (fun k az => by simp [Value.ownBlock] at az; subst az; exact ⟨Nat.le_refl _,ao.none (Nat.le_refl _)⟩)
theorem TX (t : Int) : cq 100 [aG t] (eA (decide (1 ≤ t ∧ t ≤ 8))) := by
 refine df Tryz.func100 anI rfl ?_
 by_cases af : 1 ≤ t <;> by_cases aj : t ≤ 8
 all_goals
  unfold bK WD Vv;delta ab a8 aa ay a3
  have ad := And.intro @af @aj
  refine ae fun _ aK _ _ => ai fun _ aH => ?_;refine al ad ?_;refine aH _ (aK (some ([0],none)) _ (ae fun _ aP _ _ => ai fun _ bk => ?_));refine ag 2 ad ?_;refine ag 3 ad ?_;refine al ad ?_;refine bk _ (aP (some ([2],none)) _ ?_)
  exact cQ ad
theorem TW (L : hz) (a : Int) : cq 101 [pw L,aG a] (eA (decide (0 ≤ a ∧ a < (L.first.length : Int)))) := by
 refine df Tryz.func101 anE rfl ?_
 by_cases af : 0 ≤ a <;> by_cases aj : a < (L.first.length : Int)
 all_goals
  unfold bK Wz Vr;delta ab a8 aa ay a3
  have ad := And.intro @af @aj
  refine ae fun _ aK _ _ => ai fun _ aH => ?_;refine al ad ?_;refine aH _ (aK (some ([1,2],none)) _ (ae fun _ aP _ _ => ai fun _ bk => ?_));refine ag 2 ad ?_;refine ag 4 ad ?_;refine ag 2 ad ?_;refine al ad ?_;refine bk _ (aP (some ([4],none)) _ ?_)
  exact cQ ad
theorem aiI {α : Type} {l : List α} {m : Nat} {y : α} (f : α → α) (h : l[m]? = some y) : l.modify m f = l.set m (f y) := by
 apply List.ext_getElem?
 intro i
 rw [List.getElem?_modify,List.getElem?_set]
 by_cases e : m = i
 ·subst e
  obtain ⟨e6,aV⟩ := List.getElem?_eq_some_iff.1 h
  simp [e6,aV]
 ·simp [e]
def sk (L : hz) (a : Int) (w : bm) : hz := { L with eX := L.eX.modify (a.toNat / 8) fun x => { x with fU := x.fU ++ [⟨a,w⟩] } }
theorem ajA (g : Nat) (es : List (List aw)) : cq 109 [.au 4 g es] (.au 4 1 es) := by
 refine df Tryz.func109 am4 rfl ?_
 unfold bK V9 U1;delta ab aa
 refine ae fun _ aK _ _ => ai fun _ aH => ?_;refine cE ?_;refine aH _ (aK (some ([0],none)) _ (ae fun _ aP _ _ => ai fun _ bk => ?_));refine c4 6 ?_;refine cE ?_;refine bk _ (aP (some ([2],none)) _ ?_)
 exact jq
theorem ajS (L : hz) (a : Int) (v : bm) (ba : 0 ≤ a) (af : a < (L.first.length : Int)) (aE : L.eX.length = (L.first.length + 7) / 8) (hm : L.first.length ≤ 4096) (ao : ∀ y ∈ L.eX,y.fU.length ≤ 1000) :
  cq 99 [pw L,aG a,.agg (c6 v)] (.bY [pw (sk L a v),aG 0]) := by
 refine df Tryz.func99 anG rfl ?_
 obtain ⟨m,o0⟩ : ∃ m,m = a.toNat / 8 := ⟨_,rfl⟩
 have aT : IntKind.i64.wrap (a.tdiv 8) = (m : Int) := by rw [IntKind.wrap_i64,Int.tdiv_eq_ediv_of_nonneg ba]; omega
 have kT : m < L.eX.length := by omega
 obtain ⟨y,aV⟩ : ∃ y,L.eX[m]? = some y := ⟨L.eX[m],by simp⟩
 have aqW := ao y (List.mem_of_getElem? aV)
 unfold bK WB Vt;delta ab aQ aa ay
 have ad := And.intro @aV @aT
 refine ae fun _ aK _ _ => ai fun _ aH => ?_;refine al ad ?_;refine aH _ (aK (some ([1,3,5,6],none)) _ (ae fun _ aP _ _ => ae fun _ bI _ _ => ai fun _ b0 => ?_));refine ag 1 ad ?_;refine aM 1 ad ?_;refine aM 1 ad ?_;refine Or.inl (Or.inl ⟨_,TW L a,?_⟩);refine al ad ?_;refine b0 _ (bI (some ([1,3,5,6,12],none)) _ ?_);refine mP rfl (fun ar => absurd ar (by simp [ba,af] at ar)) (fun pH => ?_)
 clear pH
 refine aP (some ([1,3,5,6],none)) _ (ae fun _ bp _ _ => ai fun _ bE => ?_);refine ag 2 ad ?_;refine aM 1 ad ?_;refine Or.inl (Or.inr (Or.inl ⟨_,_,_,UE 0 _ (by simp; omega),?_⟩));refine aS ad ?_;refine bE _ (bp (some ([1,3,5,6],none)) _ (ae fun _ cv _ _ => ai fun _ aR => ?_));refine ag 2 ad ?_;refine ag 2 ad ?_;refine ag 1 ad ?_;refine al ad ?_;refine aR _ (cv (some ([1,3,5,6,8],none)) _ (ae fun _ eo _ _ => ?_));refine gh [] (n := 10) fun _ fe => ?_;refine gY ?_;refine cF 5 ad ?_;refine gd 1 ad ?_;refine ⟨_,ajA _ _,?_⟩;refine cF 2 ad ?_;refine og ad ?_;refine fe _ ?_;refine gZ ?_;refine ag 1 ad ?_;refine aS ad ?_;refine eo (some ([3,6],none)) _ (ae fun _ dF _ _ => ai fun _ dq => ?_);refine ag 1 ad ?_;refine ag 1 ad ?_;refine al ad ?_;refine dq _ (dF (some ([6,7],none)) _ ?_)
 refine jr ad ?_
 skip
 have e : sk L a v = { L with eX := L.eX.set m { y with fU := y.fU ++ [⟨a,v⟩] } } := by
  unfold sk; rw [← o0]; congr 1; exact aiI _ aV
 rw [e]
 simp [List.map_set,qg]
theorem ajR (c i m : Int) (hm : m ≤ 1099511627776) : cq 87 [aG c,aG i,aG m] (aG (kW c i m)) := aj9 (xs := [.int .i64 c,.int .i64 i,.int .i64 m]) (fun w => aib c i m w hm) rfl
def rq (l : List bm) : hz := ⟨l,List.replicate ((l.length + 7) / 8) ⟨[],0⟩,fun _ => none⟩
theorem ajY (g : Nat) (l : List bm) (h : l.length ≤ 4096) : cq 66 [.au 3 g (l.map c6)] (.bY [pw (rq l),aG 0]) := by
 refine df Tryz.func66 anW rfl ?_
 have af : ¬ (4096 : Int) < (l.length : Int) := by omega
 have bJ : IntKind.i64.wrap ((l.length : Int) + 8) = (l.length : Int) + 8 := by rw [IntKind.wrap_i64]; omega
 have cf : IntKind.i64.wrap ((l.length : Int) + 8 - 1) = (l.length : Int) + 7 := by rw [IntKind.wrap_i64]; omega
 have dA : IntKind.i64.wrap (((l.length : Int) + 7).tdiv 8) = ((l.length + 7) / 8 : Nat) := by rw [IntKind.wrap_i64,Int.tdiv_eq_ediv_of_nonneg (by omega)]; omega
 unfold bK WO VE;delta ab aQ aa ay
 have ad := And.intro @af (And.intro @bJ (And.intro @cf @dA))
 refine ae fun _ aK _ _ => ai fun _ aH => ?_;refine al ad ?_;refine aH _ (aK (some ([0,2],none)) _ (ae fun _ aP _ _ => ae fun _ bI _ _ => ai fun _ b0 => ?_));refine aS ad ?_;refine b0 _ (bI (some ([0,2,6],none)) _ (bs (aP (some ([0,2],none)) _ (ae fun _ bp _ _ => ?_))));refine gh [] (n := 8) fun _ bE => ?_;refine gY ?_;refine gd 1 ad ?_;refine gd 1 ad ?_;refine ⟨_,(Nj g (l.map c6) (by simp; omega)).ok,?_⟩;refine cF 3 ad ?_;refine cF 1 ad ?_;refine cF 1 ad ?_;refine og ad ?_;refine bE _ ?_;refine gZ ?_;refine ag 2 ad ?_;refine al ad ?_;refine bp (some ([2,3],none)) _ ?_;refine jr ad ?_
 skip
 unfold rq
 simp
def vQ (out : List bm) (s : Bt) : List bm := out.set s.loc.toNat s.word
def sb (L : hz) (more : Int → Int → Int) : Nat → List bm
 | 0 => L.first
 | n + 1 => match L.eX[n]? with
  | some y => (y.fU.take (y.kept + more n (y.fU.length - y.kept)).toNat).foldl vQ (sb L more n)
  | none => sb L more n
def td (L : hz) (more : Int → Int → Int) : List bm := sb L more L.eX.length
theorem JW : ∀ (l : List Bt) (out : List bm),(l.foldl vQ out).length = out.length
 | [],_ => rfl
 | s :: l,out => by rw [List.foldl_cons,JW l]; simp [vQ]
theorem G3 (L : hz) (more : Int → Int → Int) : ∀ n,(sb L more n).length = L.first.length
 | 0 => rfl
 | n + 1 => by
  unfold sb
  split
  ·rw [JW,G3 L more n]
  ·exact G3 L more n
structure Bo (L : hz) : Prop where
 many : L.eX.length = (L.first.length + 7) / 8
 mZ : L.first.length ≤ 4096
 kept : ∀ y ∈ L.eX,0 ≤ y.kept ∧ y.kept ≤ (y.fU.length : Int)
 place : ∀ (n : Nat) (y : qN),L.eX[n]? = some y → ∀ s ∈ y.fU,0 ≤ s.loc ∧ s.loc < (L.first.length : Int) ∧ s.loc / 8 = (n : Int)
abbrev P2 (L : hz) : bo := .box 57 [.au 3 0 (L.first.map c6),.au 2 0 (L.eX.map qg),.mp 3 fun t => (L.asks t).map lf]
def ZG (L : hz) (more : Int → Int → Int) (J1 : aw) (k : Nat) (S : ak) : Prop :=
 ∃ n,n ≤ L.eX.length ∧ k = L.eX.length - n ∧ S = ⟨[(1,J1),(5,.own 1),(14,.au 2 0 (L.eX.map qg)),(15,aG L.eX.length),(16,aG n)],[(0,P2 L),(1,.row 79 3 ((sb L more n).map c6))],2⟩
def ZH (L : hz) (more : Int → Int → Int) (J1 : aw) (n : Nat) (y : qN) (es : List Bt) (k : Nat) (S : ak) : Prop :=
 ∃ j,j ≤ es.length ∧ k = es.length - j ∧ S = ⟨[(1,J1),(5,.own 1),(14,.au 2 0 (L.eX.map qg)),(15,aG L.eX.length),(16,aG n),(35,.au 4 2 (es.map Qi)),(36,aG es.length),(37,aG j)],[(0,P2 L),(1,.row 79 3 (((es.take j).foldl vQ (sb L more n)).map c6)),(2,.box 177 (qg y))],3⟩
theorem ajQ (L : hz) (more : Int → Int → Int) (f : FuncId) (cap : List aw) (fS : Bo L) (hlen : ∀ y ∈ L.eX,y.fU.length ≤ 1000) (bL : Enters f)
  (aZ : ∀ (n many : Int),0 ≤ n → n ≤ 4096 → 0 ≤ many → many ≤ 1000 → cq f ([aG n,aG many] ++ cap) (aG (more n many))) (hm : ∀ (n many : Int),0 ≤ n → n ≤ 4096 → 0 ≤ many → many ≤ 1000 → 0 ≤ more n many ∧ more n many ≤ many) :
  cq 85 [pw L,.fn (.func f) [] cap] (.au 3 0 ((td L more).map c6)) := by
 refine df Tryz.func85 anF rfl ?_
 have Se := fS.many
 have Sg := fS.mZ
 unfold bK WA Vs;delta ab aQ aa ay
 refine ae fun _ aK _ _ => ai fun _ aH => ?_;refine cE ?_;refine aH _ (aK (some ([1,2],none)) _ (ae fun _ aP _ _ => ai fun _ bk => ?_));refine c4 2 ?_;refine eH 1 ?_;refine Or.inl (Or.inr (Or.inl ⟨_,_,_,Nj 0 _ (by simp; omega),?_⟩));refine cE ?_;refine bk _ (aP (some ([1,2,5],none)) _ (ae fun _ bV _ _ => ae fun _ bp _ _ => ai fun _ bE => ?_));refine c4 2 ?_;refine cE ?_;refine bE _ (bp (some ([1,5,14,15,16],none)) _ (cj fun _ _ vD _ _ => ?_));refine ie (ZG L more (.fn (.func f) [] cap)) (L.eX.length) (some ([1,5,14,15,16],some ([0,1],2))) ([]) ?_ ?_
 ·try refine dR ?_
  exact ⟨0,by omega,by omega,rfl⟩
 ·intro k bT aW
  obtain ⟨n,a9,rfl,rfl⟩ := aW
  intro _ cR _ gQ
  refine ae fun _ eo _ _ => ai fun _ fe => ?_;refine nF ?_;refine fe _ (eo (some ([1,5,14,15,16,17],none)) _ (ae fun _ ff _ kx => ?_));refine mP rfl (fun pH => ?_) (fun pH => ?_)
  ·try replace pH := Ap pH
   obtain ⟨y,aV⟩ : ∃ y,L.eX[n]? = some y := ⟨L.eX[n]'(by omega),by simp⟩
   have Sz := List.mem_of_getElem? aV
   obtain ⟨cL,k2⟩ := fS.kept y Sz
   have s6 := hlen y Sz
   obtain ⟨oA,tf⟩ := hm n (y.fU.length - y.kept) (by omega) (by omega) (by omega) (by omega)
   have bJ : IntKind.i64.wrap ((y.fU.length : Int) - y.kept) = (y.fU.length : Int) - y.kept := by rw [IntKind.wrap_i64]; omega
   have cf : IntKind.i64.wrap (y.kept + more n ((y.fU.length : Int) - y.kept)) = y.kept + more n ((y.fU.length : Int) - y.kept) := by rw [IntKind.wrap_i64]; omega
   have dA : IntKind.i64.wrap ((n : Int) + 1) = ((n + 1 : Nat) : Int) := by rw [IntKind.wrap_i64]; omega
   obtain ⟨T,eE⟩ : ∃ T,T = (y.kept + more n ((y.fU.length : Int) - y.kept)).toNat := ⟨_,rfl⟩
   have aqo : T ≤ y.fU.length := by omega
   have aqp : (y.fU.take T).length = T := by rw [List.length_take]; omega
   have ad := And.intro @aV (And.intro @bJ (And.intro @cf @dA))
   refine ff (some ([1,5,14,15,16],none)) _ (ae fun _ dF _ _ => cj fun _ fx _ _ _ => ae fun _ gl _ _ => ai fun _ gC => ?_);refine ag 2 ad ?_;refine ag 1 ad ?_;refine aS ad ?_;refine gC _ (gl (some ([1,5,6,7,14,15,16],none)) _ (ae fun _ kC _ _ => ?_));refine gh [] (n := 17) fun _ hI => ?_;refine gY ?_;refine cF 2 ad ?_;refine cF 2 ad ?_;refine cF 4 ad ?_;refine cF 3 ad ?_;refine cF 1 ad ?_;refine gd 1 ad ?_;refine ⟨bL,_,aZ n _ (by omega) (by omega) (by omega) (by omega),?_⟩;refine cF 1 ad ?_;refine cF 1 ad ?_;refine lh ad ?_;refine hI _ ?_;refine gZ ?_;refine al ad ?_;refine kC (some ([1,5,14,15,16,35,36,37],none)) _ (cj fun _ _ ahq _ _ => ?_);refine ie (ZH L more (.fn (.func f) [] cap) n y (y.fU.take T)) ((y.fU.take T).length) (some ([1,5,14,15,16,35,36,37],some ([0,1,2],3))) ([]) ?_ ?_
   ·try refine dR ?_
    refine ⟨0,by omega,by omega,?_⟩
    simp only [← eE,List.map_take,List.length_map,List.length_take,List.take_zero,List.foldl_nil]
    rfl
   ·intro k bT aW
    obtain ⟨j,aN,rfl,rfl⟩ := aW
    intro _ hK _ Aq
    refine ae fun _ lu _ _ => ai fun _ im => ?_;refine aS ad ?_;refine im _ (lu (some ([1,5,14,15,16,35,36,37,38],none)) _ (ae fun _ iP _ KJ => ?_));refine mP rfl (fun nh => ?_) (fun nh => ?_)
    ·try replace nh := Ap nh
     obtain ⟨st,iB⟩ : ∃ st,(y.fU.take T)[j]? = some st := ⟨_,List.getElem?_eq_getElem (by omega)⟩
     obtain ⟨l1,l2,G2⟩ := fS.place n y aV st (List.mem_of_mem_take (List.mem_of_getElem? iB))
     obtain ⟨q,GC⟩ := Int.eq_ofNat_of_zero_le l1
     have GB : q < ((y.fU.take T).take j |>.foldl vQ (sb L more n)).length := by rw [JW,G3]; omega
     obtain ⟨w0,GP⟩ : ∃ w0,((y.fU.take T).take j |>.foldl vQ (sb L more n))[q]? = some w0 := ⟨_,List.getElem?_eq_getElem GB⟩
     have jY : IntKind.i64.wrap ((j : Int) + 1) = ((j + 1 : Nat) : Int) := by rw [IntKind.wrap_i64]; omega
     have aD := And.intro ad (And.intro @iB (And.intro @GC (And.intro @GP @jY)))
     refine iP (some ([1,5,14,15,16,35,36,37],none)) _ (ae fun _ ns _ _ => cj fun _ lv _ _ _ => ae fun _ iQ _ _ => ai fun _ iO => ?_);refine ag 1 aD ?_;refine ag 1 aD ?_;refine aS aD ?_;refine iO _ (iQ (some ([1,5,9,14,15,16,35,36,37],none)) _ (ai fun _ hY => ?_));refine ag 3 aD ?_;refine ag 2 aD ?_;refine ag 1 aD ?_;refine aS aD ?_;refine hY _ (lv _ (ns (some ([1,5,14,15,16,35,36,37],none)) _ (ai fun _ jU => ?_)));refine ag 1 aD ?_;refine al aD ?_;refine jU _ ?_;refine hK ((y.fU.take T).length - (j + 1)) (some ([1,5,14,15,16,35,36,37],some ([0,1,2],3))) _ ?_ ?_
     all_goals try refine dR ?_
     ·omega
     ·refine ⟨j + 1,by omega,by omega,?_⟩
      have a1 : (y.fU.take T).take (j + 1) = (y.fU.take T).take j ++ [st] := by rw [List.take_add_one,iB]; rfl
      rw [a1,List.foldl_append]
      simp only [List.foldl_cons,List.foldl_nil,vQ,GC,Int.toNat_natCast,List.map_set]
    ·try replace nh := Ap nh
     refine KJ 2 _ (Aq 2 _ (ahq _ (fx _ (dF (some ([1,5,14,15,16],none)) _ (ai fun _ mr => ?_)))));refine ag 1 ad ?_;refine al ad ?_;refine mr _ ?_;refine cR (L.eX.length - (n + 1)) (some ([1,5,14,15,16],some ([0,1],2))) _ ?_ ?_
     all_goals try refine dR ?_
     ·omega
     ·refine ⟨n + 1,by omega,by omega,?_⟩
      have kA : j = (y.fU.take T).length := by omega
      have a7 : (y.fU.take T).take j = y.fU.take T := by rw [kA,List.take_length]
      have ct : sb L more (n + 1) = (y.fU.take T).foldl vQ (sb L more n) := by show (match L.eX[n]? with | some y => _ | none => _) = _; rw [aV]; show (y.fU.take (y.kept + more n (y.fU.length - y.kept)).toNat).foldl vQ (sb L more n) = _; rw [← eE]
      rw [ct,a7]
  ·try replace pH := Ap pH
   refine kx 0 _ (gQ 0 _ (vD _ (bV (some ([5],none)) _ (ae fun _ pP _ _ => ai fun _ vf => ?_))));refine cE ?_;refine vf _ (pP (some ([4],none)) _ ?_);refine Eb ?_
   have agN : n = L.eX.length := by omega
   subst agN; rfl
theorem ajO (c n m : Int) (hm : m ≤ 1099511627776) : cq 86 [aG n,aG m,.di [aG c] 0] (aG (kW c n m)) := by
 refine df Tryz.func86 anC rfl ?_
 unfold bK Wx Vp;delta ab aa ay
 refine ae fun _ aK _ _ => ai fun _ aH => ?_;refine cE ?_;refine aH _ (aK (some ([0,1,2],none)) _ (ae fun _ aP _ _ => ai fun _ bk => ?_));refine c4 1 ?_;refine eH 2 ?_;refine eH 1 ?_;refine Or.inl (Or.inl ⟨_,ajR _ _ _ hm,?_⟩);refine cE ?_;refine bk _ (aP (some ([5],none)) _ ?_)
 exact jq
theorem ajN (L : hz) (c : Int) (fS : Bo L) (hlen : ∀ y ∈ L.eX,y.fU.length ≤ 1000) : cq 70 [pw L,aG c] (.au 3 0 ((td L (kW c)).map c6)) := by
 refine df Tryz.func70 anB rfl ?_
 unfold bK Ww Vo;delta ab aa
 refine ae fun _ aK _ _ => ai fun _ aH => ?_;refine cE ?_;refine aH _ (aK (some ([2,3],none)) _ (ae fun _ aP _ _ => ai fun _ bk => ?_));refine c4 1 ?_;refine eH 1 ?_;refine eH 1 ?_;refine Or.inl (Or.inl ⟨_,ajQ L (kW c) 86 [.di [aG c] 0] fS hlen (n8 Tryz.func86 rfl rfl) (fun n m _ _ _ _ => ajO c n m (by omega)) (fun n m _ _ _ _ => by have := aiE c n m; omega),?_⟩);refine cE ?_;refine bk _ (aP (some ([4],none)) _ ?_)
 exact jq
end Go.Proofs.YtkmbcjnaaokilaaGreatDoor
