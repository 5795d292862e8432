/-
  Layer 8 by shadows: codes, tasks.
-/
import Derived.Test.YtkmbcjnaaokilaaGreatDoorK6b
import Derived.Test.YtkmbcjnaaokilaaGreatDoorMK15
import Derived.Test.YtkmbcjnaaokilaaGreatDoorMC
namespace Go.Proofs.YtkmbcjnaaokilaaGreatDoor
set_option linter.unusedSimpArgs false
set_option linter.unusedVariables false
open Go.RowKit Go.Maps
theorem ahK : (Tryz.prog.info? 84).map (fun i => (i.zero,i.size,i.bytes)) = some (some (.agg #[.nilIface,.nilFunc,.int .i64 0,.int .i64 0,.int .i64 0,.int .u32 0,.int .u32 0,.int .i64 0,.int .u32 0,.int .u32 0,.slice none 0 0]),11,96) := by kernel_rfl
set_option maxRecDepth 100000 in
set_option maxHeartbeats 1000000 in
theorem ak2 (g : Nat) (es : List (List aw)) (a9 : es.length ≤ 1000000) : uJ 74 [.au 11 g es] 84 11 es := by
 intro w H vs ao bj
 obtain ⟨i0,aq,y4,y5,s7⟩ := info_parts ahK
 cases bj with
 | cons ar aL =>
  rename_i u l8
  cases aL
  obtain ⟨a,n,c,rfl⟩ : ∃ a n c,u = Value.slice a n c := by cases ar; exact ⟨_,_,_,rfl⟩
  obtain ⟨xs,eR,fi,fZ,MV,_,jE,gW⟩ := sj ao ar
  subst fi
  clear ar
  have aT := fun w a l c => Lib.run_eql_slice_nil (P := Tryz.prog) w 60 _ a l c 0 0 Tryz.underlying60
  cases a with
  | none =>
   have aB := jE rfl
   have vn : es = [] := List.eq_nil_of_length_eq_zero (by omega)
   subst vn; subst aB
   cases eR
   simp only [List.length_nil]
   go_enter Tryz.func74,Tryz.ntmps74
   go_wp2
   go_ret
   exact ⟨_,[],rfl,Grow.refl ao,by decide,World.ownsRow_nil _ _ _ _,.nil,fun _ => ⟨_,rfl⟩⟩
  | some cm =>
   by_cases ba : es = []
   ·subst ba
    cases eR
    clear gW
    simp only [List.length_nil]
    go_enter Tryz.func74,Tryz.ntmps74
    go_wp2_with (first
     | (at_builtin; refine Ic rfl _ _ 60 84 i0 rfl Tryz.underlying60 aq _ _ _ rfl rfl ?_)
     | go_in)
    go_ret
    refine ⟨_,[],rfl,(Grow.refl ao).alloc _,by decide,?_,.nil,fun _ => ⟨_,rfl⟩⟩
    exact World.ownsRow_made _ _ 0 (Nat.le_refl _) (by decide) (by simp)
   have tV : ∀ (j : Nat) (u : Value),xs[j]? = some u → (w.alloc (.cells #[] 84)).cell? (cm.add j) = some u := fun j u hu => by
    obtain ⟨cells,t,c0,af,aj,av⟩ := wG (gW cm rfl j u hu)
    simp [World.cell?,af,Gl _ _ aj,av]
   have mB := eR.length
   have af := eR.one
   clear gW
   obtain ⟨n,dy⟩ : ∃ n,n = es.length := ⟨_,rfl⟩
   rw [← dy] at mB a9 fZ ⊢
   have rD := Lib.hid dy
   clear dy
   go_enter Tryz.func74,Tryz.ntmps74
   go_wp2_with (first
    | (at_builtin; refine wpList_append_own _ rfl _ _ 60 rfl w.heap.size 84 i0 _ 11 96 Tryz.underlying60 aq y4 y5 s7 rfl (by decide) (.slice (some ⟨w.heap.size,0,none⟩) 0 0) 0 [] rfl (World.ownsRow_made _ _ 0 (Nat.le_refl _) (by decide) (by simp)) cm n c xs rfl mB tV af (by unfold maxLen; omega) (by omega) (by simp) ?_; intro hb fB jc oX yT)
    | go_in)
   go_ret
   refine ⟨hb,xs,rfl,?_,by decide,by rw [← rD.out]; simpa using jc,eR,fun e => absurd e ba⟩
   exact ((Grow.refl ao).alloc _).grown oX (fun k az => by simp [Value.ownBlock] at az; subst az; exact ⟨Nat.le_refl _,ao.none (Nat.le_refl _)⟩)
structure ed where
 ak : Type
 enc : ak → aw
 next : ak → ei → ak × dJ × Bool
 jB : Nat → ak → Prop
 up : ∀ {n k s},jB n s → n ≤ k → jB k s
 keeps : ∀ {n s} (g : ei),jB n s → jB (n + 1) (next s g).1
 shape : ∀ s,∃ t x,enc s = .ds t x
class aoP (C : ed) : Prop where
 ok : ∀ {n s} (g : ei),C.jB n s → n ≤ 900 → ∃ t x f,C.enc s = .ds t x ∧ sy t "Next" f ∧ Enters f ∧ cq f [x,.agg (kR g)] (.bY [C.enc (C.next s g).1,.agg (qf (C.next s g).2.1),eA (C.next s g).2.2])
def hg (C : ed) : Option C.ak → aw
 | none => .v .nilIface
 | some s => C.enc s
def iI (C : ed) (c : Option C.ak) (live : Bool) : aw := if live = true then .fn (.method "Next") [hg C c] [] else .v .nilFunc
theorem adH (C : ed) (c : Option C.ak) : hg C c = .v .nilIface ∨ ∃ t x,hg C c = .ds t x := by
 cases c with
 | none => exact .inl rfl
 | some s => exact .inr (C.shape s)
theorem adJ (C : ed) (c : Option C.ak) (b : Bool) : iI C c b = .v .nilFunc ∨ ∃ f l,iI C c b = .fn f l [] := by
 unfold iI
 split
 ·exact .inr ⟨_,_,rfl⟩
 ·exact .inl rfl
structure dt (C : ed) where
 code : Option C.ak
 live : Bool
 act : dJ
 fc : List ei
abbrev g3 {C : ed} (t : dt C) : List aw := [hg C t.code,iI C t.code t.live,aG t.act.op,aG t.act.place,aG t.act.old.val,gk t.act.old.eV,gk t.act.old.ref,aG t.act.new.val,gk t.act.new.eV,gk t.act.new.ref,.au 4 0 (t.fc.map kR)]
structure Plain (x : aw) : Prop where
 res : ∀ S : ak,S.res x = x
 mM : ∀ S : ak,S.mM x = some x
 arg : ∀ S : ak,S.arg x = some x
 cells : x.cells = [x]
 one : x.one = true
 pure : x.pure = true
 J0 : ∀ S : ak,S.jA x = S
 JZ : ∀ (S : ak) l,S.fv (x :: l) = S.fv l
 My : ∀ S : ak,o6 S x = true
 Mx : ∀ S : ak,l3 S x = true
 M7 : ∀ ids,nW ids x = true
 M8 : ∀ ids,nD ids x = true
 j0 : ∀ ids,j0 ids x = x
 Nb : ∀ ids,nE ids x = x
theorem Hr (t : TypeId) (x : aw) : Plain (.ds t x) := ⟨fun _ => rfl,fun _ => rfl,fun _ => rfl,rfl,rfl,rfl,fun _ => rfl,fun _ _ => rfl,fun _ => rfl,fun _ => rfl,fun _ => rfl,fun _ => rfl,fun _ => rfl,fun _ => rfl⟩
theorem plain_fn (f : Fn) (a b : List aw) : Plain (.fn f a b) := ⟨fun _ => rfl,fun _ => rfl,fun _ => rfl,rfl,rfl,rfl,fun _ => rfl,fun _ _ => rfl,fun _ => rfl,fun _ => rfl,fun _ => rfl,fun _ => rfl,fun _ => rfl,fun _ => rfl⟩
theorem MZ (v : Value) : Plain (.v v) := ⟨fun _ => rfl,fun _ => rfl,fun _ => rfl,rfl,rfl,rfl,fun _ => rfl,fun _ _ => rfl,fun _ => rfl,fun _ => rfl,fun _ => rfl,fun _ => rfl,fun _ => rfl,fun _ => rfl⟩
theorem qB (C : ed) (c : Option C.ak) : Plain (hg C c) := by
 rcases adH C c with e | ⟨t,x,e⟩
 ·rw [e]; exact MZ _
 ·rw [e]; exact Hr _ _
theorem qC (C : ed) (c : Option C.ak) (b : Bool) : Plain (iI C c b) := by
 rcases adJ C c b with e | ⟨t,x,e⟩
 ·rw [e]; exact MZ _
 ·rw [e]; exact plain_fn _ _ _
theorem gX {x : aw} (p : Plain x) : (∀ S : ak,S.res x = x) ∧ (∀ S : ak,S.mM x = some x) ∧ (∀ S : ak,S.arg x = some x) ∧ x.cells = [x] ∧ x.one = true ∧ x.pure = true ∧ (∀ S : ak,S.jA x = S) ∧ (∀ (S : ak) l,S.fv (x :: l) = S.fv l) ∧ (∀ S : ak,o6 S x = true) ∧ (∀ S : ak,l3 S x = true) ∧ (∀ ids,nW ids x = true) ∧ (∀ ids,nD ids x = true) ∧ (∀ ids,j0 ids x = x) ∧ (∀ ids,nE ids x = x) :=
 ⟨p.res,p.mM,p.arg,p.cells,p.one,p.pure,p.J0,p.JZ,p.My,p.Mx,p.M7,p.M8,p.j0,p.Nb⟩
theorem pa (C : ed) : (∀ c (S : ak),S.res (hg C c) = hg C c) ∧ (∀ c (S : ak),S.mM (hg C c) = some (hg C c)) ∧ (∀ c (S : ak),S.arg (hg C c) = some (hg C c)) ∧ (∀ c,(hg C c).cells = [hg C c]) ∧ (∀ c,(hg C c).one = true) ∧ (∀ c,(hg C c).pure = true) ∧ (∀ c (S : ak),S.jA (hg C c) = S) ∧ (∀ c (S : ak) l,S.fv (hg C c :: l) = S.fv l) ∧ (∀ c (S : ak),o6 S (hg C c) = true) ∧ (∀ c (S : ak),l3 S (hg C c) = true) ∧ (∀ c ids,nW ids (hg C c) = true) ∧ (∀ c ids,nD ids (hg C c) = true) ∧ (∀ c ids,j0 ids (hg C c) = hg C c) ∧ (∀ c ids,nE ids (hg C c) = hg C c) ∧
  (∀ c b (S : ak),S.res (iI C c b) = iI C c b) ∧ (∀ c b (S : ak),S.mM (iI C c b) = some (iI C c b)) ∧ (∀ c b (S : ak),S.arg (iI C c b) = some (iI C c b)) ∧ (∀ c b,(iI C c b).cells = [iI C c b]) ∧ (∀ c b,(iI C c b).one = true) ∧ (∀ c b,(iI C c b).pure = true) ∧ (∀ c b (S : ak),S.jA (iI C c b) = S) ∧ (∀ c b (S : ak) l,S.fv (iI C c b :: l) = S.fv l) ∧ (∀ c b (S : ak),o6 S (iI C c b) = true) ∧ (∀ c b (S : ak),l3 S (iI C c b) = true) ∧ (∀ c b ids,nW ids (iI C c b) = true) ∧ (∀ c b ids,nD ids (iI C c b) = true) ∧ (∀ c b ids,j0 ids (iI C c b) = iI C c b) ∧ (∀ c b ids,nE ids (iI C c b) = iI C c b) :=
 ⟨fun c => (qB C c).res,fun c => (qB C c).mM,fun c => (qB C c).arg,fun c => (qB C c).cells,fun c => (qB C c).one,fun c => (qB C c).pure,fun c => (qB C c).J0,fun c => (qB C c).JZ,fun c => (qB C c).My,fun c => (qB C c).Mx,fun c => (qB C c).M7,fun c => (qB C c).M8,fun c => (qB C c).j0,fun c => (qB C c).Nb,
  fun c b => (qC C c b).res,fun c b => (qC C c b).mM,fun c b => (qC C c b).arg,fun c b => (qC C c b).cells,fun c b => (qC C c b).one,fun c b => (qC C c b).pure,fun c b => (qC C c b).J0,fun c b => (qC C c b).JZ,fun c b => (qC C c b).My,fun c b => (qC C c b).Mx,fun c b => (qC C c b).M7,fun c b => (qC C c b).M8,fun c b => (qC C c b).j0,fun c b => (qC C c b).Nb⟩
def hx : dJ := ⟨0,0,gE,gE⟩
def v9 (C : ed) : dt C := ⟨none,false,hx,[]⟩
def jG {C : ed} (t : dt C) (s : C.ak) (a : dJ) (done : Bool) : dt C := if done = true then ⟨some s,false,hx,t.fc⟩ else ⟨some s,true,a,t.fc⟩
theorem ye : Tryz.prog.underlying 35 = some (.interface (Tryz.prog.methodsAt 35)) := by kernel_rfl
theorem QS : Tryz.prog.underlying 75 = some (.func #[100] #[35,81,4] false) := by kernel_rfl
set_option maxHeartbeats 2000000 in
theorem TS {C : ed} (t : dt C) (s : C.ak) (a : dJ) (done : Bool) : cq 82 [.agg (g3 t),hg C (some s),.agg (qf a),eA done] (.agg (g3 (jG t s a done))) := by
 refine df Tryz.func82 anp rfl ?_
 obtain ⟨ty,x,he⟩ := C.shape s
 have kg : hg C (some s) = .ds ty x := he
 have fo := pa C
 cases done
 ·have a1 : jG t s a false = ⟨some s,true,a,t.fc⟩ := if_neg (by simp)
  have a7 : iI C (some s) true = .fn (.method "Next") [.ds ty x] [] := by unfold iI; rw [if_pos rfl,kg]
  rw [a1,kg]
  simp only [g3,kg,a7]
  unfold bK N6 NC;delta ab aQ a8 aa a3
  have ad := @fo
  refine ae fun bD aK b9 ck => ai fun ca aH => ?_;refine al ad ?_;refine aH _ (aK (some ([1,3,4,6,8],none)) _ (ae fun cg aP bx b8 => ?_));refine nR ([]) [1,3,4,8] [0,1,2,4,6] [3,5,7] (by kernel_rfl) (fun ch bk => ?_);refine iG ?_
  have aD := And.intro ad @pb
  refine gG 2 fun cM b0 => ?_;refine a2 aD ?_;refine bh ?_;refine b0 _ ?_;refine a2 aD ?_;refine bk _ (by rfl) (fun cG dk => ?_);refine iG ?_;refine mF ?_;refine ag 1 aD ?_;refine ag 1 aD ?_;refine aS aD ?_;refine dk _ ?_;refine pc ?_;refine aP (some ([1,3,4,8],none)) _ (ae fun cI cz ey fp => ae fun dB cv g7 gw => ai fun bz aR => ?_);refine aM 3 aD ?_;refine aM 1 aD ?_;refine Or.inl ⟨_,Am ye,?_⟩;refine al aD ?_;refine aR _ (cv (some ([1,4,8,18],none)) _ (bs (cz (some ([1,4,8],none)) _ (ae fun eK eo mT jb => ai fun fM fe => ?_))));refine aS aD ?_;refine fe _ (eo (some ([4,8],none)) _ (ae fun ga ff rk kx => ai fun gK ew => ?_));refine ag 1 aD ?_;refine aS aD ?_;refine ew _ (ff (some ([8],none)) _ ?_)
  exact cQ aD
 ·have a1 : jG t s a true = ⟨some s,false,hx,t.fc⟩ := if_pos rfl
  have a7 : iI C (some s) false = .v .nilFunc := rfl
  rw [a1,kg]
  simp only [g3,kg,a7]
  unfold bK N6 NC;delta ab aQ a8 aa a3
  have ad := @fo
  refine ae fun bD aK b9 ck => ai fun ca aH => ?_;refine al ad ?_;refine aH _ (aK (some ([1,3,4,6,8],none)) _ (ae fun cg aP bx b8 => ?_));refine nR ([]) [1,3,4,8] [0,1,2,4,6] [3,5,7] (by kernel_rfl) (fun ch bk => ?_);refine iG ?_
  have aD := And.intro ad @pb
  refine gG 2 fun cM b0 => ?_;refine a2 aD ?_;refine bh ?_;refine b0 _ ?_;refine a2 aD ?_;refine bk _ (by rfl) (fun cG dk => ?_);refine iG ?_;refine mF ?_;refine ag 1 aD ?_;refine ag 1 aD ?_;refine aS aD ?_;refine dk _ ?_;refine pc ?_;refine aP (some ([1,3,4,8],none)) _ (ae fun cI cz ey fp => ae fun dB cv g7 gw => ai fun bz aR => ?_);refine aM 3 aD ?_;refine aM 1 aD ?_
  skip
  refine al aD ?_;refine aR _ (cv (some ([1,4,8,18],none)) _ (bU (ae fun eK eo mT jb => ai fun fM fe => ?_)));refine aS aD ?_;refine fe _ (eo (some ([4,8],none)) _ (ae fun ga ff rk kx => ai fun gK ew => ?_));refine ag 1 aD ?_;refine aS aD ?_;refine ew _ (ff (some ([8],none)) _ (ey _ ?_));refine jr aD ?_
  rfl
theorem Hj {C : ed} (t : dt C) : cq 55 [.agg (g3 t)] (eA (!t.live)) := by
 refine df Tryz.func55 ani rfl ?_
 have fo := pa C
 have bL : sr 75 (iI C t.code t.live) (.v .nilFunc) (!t.live) := by
  cases t.live
  ·exact adY QS
  ·exact adZ QS
 unfold bK Wk Vc;delta ab aa a3
 have ad := @fo
 refine ae fun _ aK _ _ => ai fun _ aH => ?_;refine al ad ?_;refine aH _ (aK (some ([1],none)) _ (ae fun _ aP _ _ => ai fun _ bk => ?_));refine ag 2 ad ?_;refine aM 1 ad ?_;refine Or.inl ⟨_,bL,?_⟩;refine al ad ?_;refine bk _ (aP (some ([2],none)) _ ?_)
 exact cQ ad
theorem ajG {C : ed} (t : dt C) : cq 72 [.agg (g3 t)] (.bY [.agg (qf t.act),eA t.live]) := by
 refine df Tryz.func72 ane rfl ?_
 have fo := pa C
 have a9 : (!!t.live) = t.live := by simp
 unfold bK Wg U8;delta ab aQ aa a3
 have ad := And.intro @fo @a9
 refine ae fun _ aK _ _ => ai fun _ aH => ?_;refine al ad ?_;refine aH _ (aK (some ([1,2],none)) _ (ae fun _ aP _ _ => ?_));refine nR ([]) [2,3] [0,1,2,3,4,6] [5] (by kernel_rfl) (fun _ bk => ?_);refine iG ?_
 have aD := And.intro ad @pb
 refine gG 2 fun _ b0 => ?_;refine a2 aD ?_;refine bh ?_;refine b0 _ ?_;refine gG 1 fun _ dk => ?_;refine a2 aD ?_;refine bh ?_;refine dk _ ?_;refine gG 1 fun _ bE => ?_;refine a2 aD ?_;refine ⟨_,Hj t,?_⟩;refine bE _ ?_;refine a2 aD ?_;refine bk _ (by rfl) (fun _ c7 => ?_);refine iG ?_;refine mF ?_;refine aS aD ?_;refine c7 _ ?_;refine pc ?_;refine aP (some ([2,3],none)) _ ?_
 exact cQ aD
theorem TQ {C : ed} (t : dt C) : cq 45 [.agg (g3 t)] (hg C t.code) := by
 refine df Tryz.func45 ang rfl ?_
 have fo := pa C
 unfold bK Wi Va;delta ab aa
 have ad := @fo
 refine ae fun _ aK _ _ => ai fun _ aH => ?_;refine al ad ?_;refine aH _ (aK (some ([1],none)) _ (ae fun _ aP _ _ => ai fun _ bk => ?_));refine ag 2 ad ?_;refine al ad ?_;refine bk _ (aP (some ([2],none)) _ ?_)
 exact cQ ad
def nX {C : ed} (s : C.ak) : dt C := jG (v9 C) (C.next s e9).1 (C.next s e9).2.1 (C.next s e9).2.2
def jl {C : ed} (t : dt C) (g : ei) : dt C := if t.live = true then (match t.code with
 | some s => jG { t with fc := t.fc ++ [g] } (C.next s g).1 (C.next s g).2.1 (C.next s g).2.2
 | none => t) else t
structure tF {C : ed} (t : dt C) (n : Nat) : Prop where
 fc : t.fc.length ≤ n
 code : t.live = true → ∃ s,t.code = some s
 jB : ∀ s,t.code = some s → C.jB n s
theorem ajy (g : Nat) (es : List (List aw)) : cq 94 [.au 4 g es] (.au 4 1 es) := by
 refine df Tryz.func94 am2 rfl ?_
 unfold bK V7 UZ;delta ab aa
 refine ae fun _ aK _ _ => ai fun _ aH => ?_;refine cE ?_;refine aH _ (aK (some ([0],none)) _ (ae fun _ aP _ _ => ai fun _ bk => ?_));refine c4 6 ?_;refine cE ?_;refine bk _ (aP (some ([2],none)) _ ?_)
 exact jq
end Go.Proofs.YtkmbcjnaaokilaaGreatDoor
