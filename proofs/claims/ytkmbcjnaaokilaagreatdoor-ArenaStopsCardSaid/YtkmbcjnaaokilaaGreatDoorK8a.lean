/-
  Layer 8 by shadows: codes, tasks.
-/
import Derived.Test.YtkmbcjnaaokilaaGreatDoorK6b
import Derived.Test.YtkmbcjnaaokilaaGreatDoorMK20
import Derived.Test.YtkmbcjnaaokilaaGreatDoorMC
namespace Go.Proofs.YtkmbcjnaaokilaaGreatDoor
set_option linter.unusedSimpArgs false
set_option linter.unusedVariables false
open Go.RowKit Go.Maps
theorem aeh : (Tryz.prog.info? 84).map (fun i => (i.zero,i.size,i.bytes)) = some (some (.agg #[.nilIface,.nilFunc,.int .i64 0,.int .i64 0,.int .i64 0,.int .u32 0,.int .u32 0,.int .i64 0,.int .u32 0,.int .u32 0,.slice none 0 0]),11,96) := by kernel_rfl
set_option maxRecDepth 100000 in
set_option maxHeartbeats 1000000 in
theorem ahs (g : Nat) (es : List (List av)) (a7 : es.length ≤ 1000000) : ts 74 [.au 11 g es] 84 11 es := by
 intro w H vs ao bj
 obtain ⟨i0,aq,xr,xt,r2⟩ := info_parts aeh
 cases bj with
 | cons ar aO =>
  rename_i u lz
  cases aO
  obtain ⟨a,n,c,rfl⟩ : ∃ a n c,u = Value.slice a n c := by cases ar; exact ⟨_,_,_,rfl⟩
  obtain ⟨xs,eJ,fu,fM,Ko,_,k4,hg⟩ := ra ao ar
  subst fu
  clear ar
  have aS := fun w a l c => Lib.run_eql_slice_nil (P := Tryz.prog) w 60 _ a l c 0 0 Tryz.underlying60
  cases a with
  | none =>
   have az := k4 rfl
   have uc : es = [] := List.eq_nil_of_length_eq_zero (by omega)
   subst uc; subst az
   cases eJ
   simp only [List.length_nil]
   go_enter Tryz.func74,Tryz.ntmps74
   go_wp2
   go_ret
   exact ⟨_,[],rfl,Grow.refl ao,by decide,World.ownsRow_nil _ _ _ _,.nil,fun _ => ⟨_,rfl⟩⟩
  | some fr =>
   by_cases bb : es = []
   ·subst bb
    cases eJ
    clear hg
    simp only [List.length_nil]
    go_enter Tryz.func74,Tryz.ntmps74
    go_wp2_with (first
     | (at_builtin; refine Gf rfl _ _ 60 84 i0 rfl Tryz.underlying60 aq _ _ _ rfl rfl ?_)
     | go_in)
    go_ret
    refine ⟨_,[],rfl,(Grow.refl ao).alloc _,by decide,?_,.nil,fun _ => ⟨_,rfl⟩⟩
    exact World.ownsRow_made _ _ 0 (Nat.le_refl _) (by decide) (by simp)
   have sT : ∀ (j : Nat) (u : Value),xs[j]? = some u → (w.alloc (.cells #[] 84)).cell? (fr.add j) = some u := fun j u hu => by
    obtain ⟨cells,t,cS,af,aj,aw⟩ := u4 (hg fr rfl j u hu)
    simp [World.cell?,af,Ed _ _ aj,aw]
   have lX := eJ.length
   have af := eJ.one
   clear hg
   obtain ⟨n,dS⟩ : ∃ n,n = es.length := ⟨_,rfl⟩
   rw [← dS] at lX a7 fM ⊢
   have uQ := Lib.hid dS
   clear dS
   go_enter Tryz.func74,Tryz.ntmps74
   go_wp2_with (first
    | (at_builtin; refine wpList_append_own _ rfl _ _ 60 rfl w.heap.size 84 i0 _ 11 96 Tryz.underlying60 aq xr xt r2 rfl (by decide) (.slice (some ⟨w.heap.size,0,none⟩) 0 0) 0 [] rfl (World.ownsRow_made _ _ 0 (Nat.le_refl _) (by decide) (by simp)) fr n c xs rfl lX sT af (by unfold maxLen; omega) (by omega) (by simp) ?_; intro gY fh jF n6 xg)
    | go_in)
   go_ret
   refine ⟨gY,xs,rfl,?_,by decide,by rw [← uQ.out]; simpa using jF,eJ,fun e => absurd e bb⟩
   exact ((Grow.refl ao).alloc _).grown n6 (fun k aB => by simp [Value.ownBlock] at aB; subst aB; exact ⟨Nat.le_refl _,ao.none (Nat.le_refl _)⟩)
structure dR where
 ak : Type
 enc : ak → av
 next : ak → dW → ak × dB × Bool
 jy : Nat → ak → Prop
 up : ∀ {n k s},jy n s → n ≤ k → jy k s
 keeps : ∀ {n s} (g : dW),jy n s → jy (n + 1) (next s g).1
 shape : ∀ s,∃ t x,enc s = .dr t x
class ak8 (C : dR) : Prop where
 ok : ∀ {n s} (g : dW),C.jy n s → n ≤ 900 → ∃ t x f,C.enc s = .dr t x ∧ rr t "Next" f ∧ Enters f ∧ cu f [x,.agg (kz g)] (.bR [C.enc (C.next s g).1,.agg (pa (C.next s g).2.1),dH (C.next s g).2.2])
def g3 (C : dR) : Option C.ak → av
 | none => .v .nilIface
 | some s => C.enc s
def ir (C : dR) (c : Option C.ak) (live : Bool) : av := if live = true then .fn (.method "Next") [g3 C c] [] else .v .nilFunc
theorem aai (C : dR) (c : Option C.ak) : g3 C c = .v .nilIface ∨ ∃ t x,g3 C c = .dr t x := by
 cases c with
 | none => exact .inl rfl
 | some s => exact .inr (C.shape s)
theorem aak (C : dR) (c : Option C.ak) (b : Bool) : ir C c b = .v .nilFunc ∨ ∃ f l,ir C c b = .fn f l [] := by
 unfold ir
 split
 ·exact .inr ⟨_,_,rfl⟩
 ·exact .inl rfl
structure ds (C : dR) where
 code : Option C.ak
 live : Bool
 act : dB
 e8 : List dW
abbrev gS {C : dR} (t : ds C) : List av := [g3 C t.code,ir C t.code t.live,aI t.act.op,aI t.act.place,aI t.act.old.val,fX t.act.old.eZ,fX t.act.old.ref,aI t.act.new.val,fX t.act.new.eZ,fX t.act.new.ref,.au 4 0 (t.e8.map kz)]
structure Plain (x : av) : Prop where
 res : ∀ S : ak,S.res x = x
 ma : ∀ S : ak,S.ma x = some x
 arg : ∀ S : ak,S.arg x = some x
 cells : x.cells = [x]
 one : x.one = true
 pure : x.pure = true
 HL : ∀ S : ak,S.jl x = S
 HK : ∀ (S : ak) l,S.fm (x :: l) = S.fm l
 J1 : ∀ S : ak,og S x = true
 J0 : ∀ S : ak,lr S x = true
 Kw : ∀ ids,nd ids x = true
 Kx : ∀ ids,mU ids x = true
 jL : ∀ ids,jL ids x = x
 KA : ∀ ids,mV ids x = x
theorem Fp (t : TypeId) (x : av) : Plain (.dr t x) := ⟨fun _ => rfl,fun _ => rfl,fun _ => rfl,rfl,rfl,rfl,fun _ => rfl,fun _ _ => rfl,fun _ => rfl,fun _ => rfl,fun _ => rfl,fun _ => rfl,fun _ => rfl,fun _ => rfl⟩
theorem plain_fn (f : Fn) (a b : List av) : Plain (.fn f a b) := ⟨fun _ => rfl,fun _ => rfl,fun _ => rfl,rfl,rfl,rfl,fun _ => rfl,fun _ _ => rfl,fun _ => rfl,fun _ => rfl,fun _ => rfl,fun _ => rfl,fun _ => rfl,fun _ => rfl⟩
theorem Kq (v : Value) : Plain (.v v) := ⟨fun _ => rfl,fun _ => rfl,fun _ => rfl,rfl,rfl,rfl,fun _ => rfl,fun _ _ => rfl,fun _ => rfl,fun _ => rfl,fun _ => rfl,fun _ => rfl,fun _ => rfl,fun _ => rfl⟩
theorem pB (C : dR) (c : Option C.ak) : Plain (g3 C c) := by
 rcases aai C c with e | ⟨t,x,e⟩
 ·rw [e]; exact Kq _
 ·rw [e]; exact Fp _ _
theorem pC (C : dR) (c : Option C.ak) (b : Bool) : Plain (ir C c b) := by
 rcases aak C c b with e | ⟨t,x,e⟩
 ·rw [e]; exact Kq _
 ·rw [e]; exact plain_fn _ _ _
theorem gO {x : av} (p : Plain x) : (∀ S : ak,S.res x = x) ∧ (∀ S : ak,S.ma x = some x) ∧ (∀ S : ak,S.arg x = some x) ∧ x.cells = [x] ∧ x.one = true ∧ x.pure = true ∧ (∀ S : ak,S.jl x = S) ∧ (∀ (S : ak) l,S.fm (x :: l) = S.fm l) ∧ (∀ S : ak,og S x = true) ∧ (∀ S : ak,lr S x = true) ∧ (∀ ids,nd ids x = true) ∧ (∀ ids,mU ids x = true) ∧ (∀ ids,jL ids x = x) ∧ (∀ ids,mV ids x = x) :=
 ⟨p.res,p.ma,p.arg,p.cells,p.one,p.pure,p.HL,p.HK,p.J1,p.J0,p.Kw,p.Kx,p.jL,p.KA⟩
theorem oY (C : dR) : (∀ c (S : ak),S.res (g3 C c) = g3 C c) ∧ (∀ c (S : ak),S.ma (g3 C c) = some (g3 C c)) ∧ (∀ c (S : ak),S.arg (g3 C c) = some (g3 C c)) ∧ (∀ c,(g3 C c).cells = [g3 C c]) ∧ (∀ c,(g3 C c).one = true) ∧ (∀ c,(g3 C c).pure = true) ∧ (∀ c (S : ak),S.jl (g3 C c) = S) ∧ (∀ c (S : ak) l,S.fm (g3 C c :: l) = S.fm l) ∧ (∀ c (S : ak),og S (g3 C c) = true) ∧ (∀ c (S : ak),lr S (g3 C c) = true) ∧ (∀ c ids,nd ids (g3 C c) = true) ∧ (∀ c ids,mU ids (g3 C c) = true) ∧ (∀ c ids,jL ids (g3 C c) = g3 C c) ∧ (∀ c ids,mV ids (g3 C c) = g3 C c) ∧
  (∀ c b (S : ak),S.res (ir C c b) = ir C c b) ∧ (∀ c b (S : ak),S.ma (ir C c b) = some (ir C c b)) ∧ (∀ c b (S : ak),S.arg (ir C c b) = some (ir C c b)) ∧ (∀ c b,(ir C c b).cells = [ir C c b]) ∧ (∀ c b,(ir C c b).one = true) ∧ (∀ c b,(ir C c b).pure = true) ∧ (∀ c b (S : ak),S.jl (ir C c b) = S) ∧ (∀ c b (S : ak) l,S.fm (ir C c b :: l) = S.fm l) ∧ (∀ c b (S : ak),og S (ir C c b) = true) ∧ (∀ c b (S : ak),lr S (ir C c b) = true) ∧ (∀ c b ids,nd ids (ir C c b) = true) ∧ (∀ c b ids,mU ids (ir C c b) = true) ∧ (∀ c b ids,jL ids (ir C c b) = ir C c b) ∧ (∀ c b ids,mV ids (ir C c b) = ir C c b) :=
 ⟨fun c => (pB C c).res,fun c => (pB C c).ma,fun c => (pB C c).arg,fun c => (pB C c).cells,fun c => (pB C c).one,fun c => (pB C c).pure,fun c => (pB C c).HL,fun c => (pB C c).HK,fun c => (pB C c).J1,fun c => (pB C c).J0,fun c => (pB C c).Kw,fun c => (pB C c).Kx,fun c => (pB C c).jL,fun c => (pB C c).KA,
  fun c b => (pC C c b).res,fun c b => (pC C c b).ma,fun c b => (pC C c b).arg,fun c b => (pC C c b).cells,fun c b => (pC C c b).one,fun c b => (pC C c b).pure,fun c b => (pC C c b).HL,fun c b => (pC C c b).HK,fun c b => (pC C c b).J1,fun c b => (pC C c b).J0,fun c b => (pC C c b).Kw,fun c b => (pC C c b).Kx,fun c b => (pC C c b).jL,fun c b => (pC C c b).KA⟩
def hi : dB := ⟨0,0,gv,gv⟩
def uN (C : dR) : ds C := ⟨none,false,hi,[]⟩
def jr {C : dR} (t : ds C) (s : C.ak) (a : dB) (done : Bool) : ds C := if done = true then ⟨some s,false,hi,t.e8⟩ else ⟨some s,true,a,t.e8⟩
theorem wD : Tryz.prog.underlying 35 = some (.interface (Tryz.prog.methodsAt 35)) := by kernel_rfl
theorem N2 : Tryz.prog.underlying 75 = some (.func #[100] #[35,81,4] false) := by kernel_rfl
set_option maxHeartbeats 2000000 in
theorem QS {C : dR} (t : ds C) (s : C.ak) (a : dB) (done : Bool) : cu 82 [.agg (gS t),g3 C (some s),.agg (pa a),dH done] (.agg (gS (jr t s a done))) := by
 refine df Tryz.func82 ajL rfl ?_
 obtain ⟨ty,x,he⟩ := C.shape s
 have jW : g3 C (some s) = .dr ty x := he
 have fU := oY C
 cases done
 ·have a2 : jr t s a false = ⟨some s,true,a,t.e8⟩ := if_neg (by simp)
  have a8 : ir C (some s) true = .fn (.method "Next") [.dr ty x] [] := by unfold ir; rw [if_pos rfl,jW]
  rw [a2,jW]
  simp only [gS,jW,a8]
  unfold bJ Ls K0;delta ab aR a9 aa a6
  have ad := @fU
  refine ae fun bz aK b6 cb => ai fun b7 aG => ?_;refine an ad ?_;refine aG _ (aK (some ([1,3,4,6,8],none)) _ (ae fun b8 aQ bt b5 => ?_));refine n0 ([]) [1,3,4,8] [0,1,2,4,6] [3,5,7] (by kernel_rfl) (fun b9 bh => ?_);refine im ?_
  have aD := And.intro ad @oj
  refine gx 2 fun cD bZ => ?_;refine aT aD ?_;refine bd ?_;refine bZ _ ?_;refine aT aD ?_;refine bh _ (by rfl) (fun cv de => ?_);refine im ?_;refine l3 ?_;refine ag 1 aD ?_;refine ag 1 aD ?_;refine aU aD ?_;refine de _ ?_;refine om ?_;refine aQ (some ([1,3,4,8],none)) _ (ae fun cC cp ek ft => ae fun dy ck gV gA => ai fun bo aP => ?_);refine aL 3 aD ?_;refine aL 1 aD ?_;refine Or.inl ⟨_,yE wD,?_⟩;refine an aD ?_;refine aP _ (ck (some ([1,4,8,18],none)) _ (bB (cp (some ([1,4,8],none)) _ (ae fun ey ee mg jm => ai fun fB eU => ?_))));refine aU aD ?_;refine eU _ (ee (some ([4,8],none)) _ (ae fun fN eW qi j7 => ai fun gG ed => ?_));refine ag 1 aD ?_;refine aU aD ?_;refine ed _ (eW (some ([8],none)) _ ?_)
  exact cO aD
 ·have a2 : jr t s a true = ⟨some s,false,hi,t.e8⟩ := if_pos rfl
  have a8 : ir C (some s) false = .v .nilFunc := rfl
  rw [a2,jW]
  simp only [gS,jW,a8]
  unfold bJ Ls K0;delta ab aR a9 aa a6
  have ad := @fU
  refine ae fun bz aK b6 cb => ai fun b7 aG => ?_;refine an ad ?_;refine aG _ (aK (some ([1,3,4,6,8],none)) _ (ae fun b8 aQ bt b5 => ?_));refine n0 ([]) [1,3,4,8] [0,1,2,4,6] [3,5,7] (by kernel_rfl) (fun b9 bh => ?_);refine im ?_
  have aD := And.intro ad @oj
  refine gx 2 fun cD bZ => ?_;refine aT aD ?_;refine bd ?_;refine bZ _ ?_;refine aT aD ?_;refine bh _ (by rfl) (fun cv de => ?_);refine im ?_;refine l3 ?_;refine ag 1 aD ?_;refine ag 1 aD ?_;refine aU aD ?_;refine de _ ?_;refine om ?_;refine aQ (some ([1,3,4,8],none)) _ (ae fun cC cp ek ft => ae fun dy ck gV gA => ai fun bo aP => ?_);refine aL 3 aD ?_;refine aL 1 aD ?_
  skip
  refine an aD ?_;refine aP _ (ck (some ([1,4,8,18],none)) _ (bY (ae fun ey ee mg jm => ai fun fB eU => ?_)));refine aU aD ?_;refine eU _ (ee (some ([4,8],none)) _ (ae fun fN eW qi j7 => ai fun gG ed => ?_));refine ag 1 aD ?_;refine aU aD ?_;refine ed _ (eW (some ([8],none)) _ (ek _ ?_));refine jc aD ?_
  rfl
theorem Fh {C : dR} (t : ds C) : cu 55 [.agg (gS t)] (dH (!t.live)) := by
 refine df Tryz.func55 ajE rfl ?_
 have fU := oY C
 have bK : sA 75 (ir C t.code t.live) (.v .nilFunc) (!t.live) := by
  cases t.live
  ·exact aax N2
  ·exact aay N2
 unfold bJ S7 R0;delta ab aa a6
 have ad := @fU
 refine ae fun _ aK _ _ => ai fun _ aG => ?_;refine an ad ?_;refine aG _ (aK (some ([1],none)) _ (ae fun _ aQ _ _ => ai fun _ bh => ?_));refine ag 2 ad ?_;refine aL 1 ad ?_;refine Or.inl ⟨_,bK,?_⟩;refine an ad ?_;refine bh _ (aQ (some ([2],none)) _ ?_)
 exact cO ad
theorem af9 {C : dR} (t : ds C) : cu 72 [.agg (gS t)] (.bR [.agg (pa t.act),dH t.live]) := by
 refine df Tryz.func72 ajA rfl ?_
 have fU := oY C
 have a7 : (!!t.live) = t.live := by simp
 unfold bJ S3 RW;delta ab aR aa a6
 have ad := And.intro @fU @a7
 refine ae fun _ aK _ _ => ai fun _ aG => ?_;refine an ad ?_;refine aG _ (aK (some ([1,2],none)) _ (ae fun _ aQ _ _ => ?_));refine n0 ([]) [2,3] [0,1,2,3,4,6] [5] (by kernel_rfl) (fun _ bh => ?_);refine im ?_
 have aD := And.intro ad @oj
 refine gx 2 fun _ bZ => ?_;refine aT aD ?_;refine bd ?_;refine bZ _ ?_;refine gx 1 fun _ de => ?_;refine aT aD ?_;refine bd ?_;refine de _ ?_;refine gx 1 fun _ bD => ?_;refine aT aD ?_;refine ⟨_,Fh t,?_⟩;refine bD _ ?_;refine aT aD ?_;refine bh _ (by rfl) (fun _ c0 => ?_);refine im ?_;refine l3 ?_;refine aU aD ?_;refine c0 _ ?_;refine om ?_;refine aQ (some ([2,3],none)) _ ?_
 exact cO aD
theorem QQ {C : dR} (t : ds C) : cu 45 [.agg (gS t)] (g3 C t.code) := by
 refine df Tryz.func45 ajC rfl ?_
 have fU := oY C
 unfold bJ S5 RY;delta ab aa
 have ad := @fU
 refine ae fun _ aK _ _ => ai fun _ aG => ?_;refine an ad ?_;refine aG _ (aK (some ([1],none)) _ (ae fun _ aQ _ _ => ai fun _ bh => ?_));refine ag 2 ad ?_;refine an ad ?_;refine bh _ (aQ (some ([2],none)) _ ?_)
 exact cO ad
def nf {C : dR} (s : C.ak) : ds C := jr (uN C) (C.next s e4).1 (C.next s e4).2.1 (C.next s e4).2.2
def iO {C : dR} (t : ds C) (g : dW) : ds C := if t.live = true then (match t.code with
 | some s => jr { t with e8 := t.e8 ++ [g] } (C.next s g).1 (C.next s g).2.1 (C.next s g).2.2
 | none => t) else t
structure sC {C : dR} (t : ds C) (n : Nat) : Prop where
 e8 : t.e8.length ≤ n
 code : t.live = true → ∃ s,t.code = some s
 jy : ∀ s,t.code = some s → C.jy n s
theorem af1 (g : Nat) (es : List (List av)) : cu 94 [.au 4 g es] (.au 4 1 es) := by
 refine df Tryz.func94 ajp rfl ?_
 unfold bJ SS RN;delta ab aa
 refine ae fun _ aK _ _ => ai fun _ aG => ?_;refine cz ?_;refine aG _ (aK (some ([0],none)) _ (ae fun _ aQ _ _ => ai fun _ bh => ?_));refine cV 6 ?_;refine cz ?_;refine bh _ (aQ (some ([2],none)) _ ?_)
 exact jb
end Go.Proofs.YtkmbcjnaaokilaaGreatDoor
