/-
  Layer 12 by shadows: the law's world of chains.
-/
import Derived.Test.YtkmbcjnaaokilaaGreatDoorK12zd
import Derived.Test.YtkmbcjnaaokilaaGreatDoorMK18
import Derived.Test.YtkmbcjnaaokilaaGreatDoorMC
namespace Go.Proofs.YtkmbcjnaaokilaaGreatDoor
set_option linter.unusedSimpArgs false
set_option linter.unusedVariables false
open Go.RowKit Go.Maps
theorem ade {N : Nat} {l : b1} {f0 : Int → bm} {w w' : cN ft} {S : List cO} (h : mJ N l f0 w S) (e : fl ka w' = fl ka w) : mJ N l f0 w' S := by
 obtain ⟨a1,a7,ct⟩ := ym e
 refine ⟨by rw [a1]; exact h.v,by rw [a1]; exact h.pl,h.size,h.lay,h.pos,by rw [rT e]; exact h.len,fun i y s aV ao => ?_,h.apart,by rw [a1]; exact h.used,by rw [a1]; exact h.rest⟩
 obtain ⟨z,bR,aZ⟩ := Ae e aV
 have eE := h.task i z s bR ao
 obtain ⟨cd,c2,eu,fR⟩ := yl aZ
 obtain ⟨L,aB⟩ := eE.code
 refine ⟨?_,eE.lay,eE.bad,eE.once,eE.head,fun aE => ?_,fun aE => ?_⟩
 ·rw [aB] at cd
  cases aT : y.code with
  | none => rw [aT] at cd; cases cd
  | some p =>
   obtain ⟨dH,dw⟩ := p
   rw [aT] at cd
   have fE : (dH,ma) = (s,ma) := Option.some.inj cd
   exact ⟨dw,by rw [(Prod.mk.inj fE).1]⟩
 ·rw [eu]; exact eE.live (by rw [← c2]; exact aE)
 ·exact eE.dead (by rw [← c2]; exact aE)
theorem Ux {H : bl} {E : Env} {x y : aw} (Sx : ∀ u,cl H E x u → cl H E y u) {l1 : List aw} : ∀ (l0 : List aw) {vs : List Value},dg H E (l0 ++ x :: l1) vs → dg H E (l0 ++ y :: l1) vs
 | [],_,.cons h t => .cons (Sx _ h) t
 | _ :: l0,_,.cons h t => .cons h (Ux Sx l0 t)
theorem TB {f : FuncId} {l0 l1 : List aw} {O : List (Nat × bo)} {n r : Nat} {P : (bl → Env → Prop) → aw → List (Nat × bo) → Nat → Prop} {e : TypeId} {k : Nat} {es : List (List aw)} (aA : r < n) (dX : an O r = some (.row e k es))
  (h : gg f (l0 ++ .au k 0 es :: l1) ((r,.gi (.au k 0 es)) :: ef O r) n P) : gg f (l0 ++ .own r :: l1) O n P := by
 intro J N w0 H0 E a w H vs aO bj
 have aJ : an ((n,bo.cB J) :: O) r = some (.row e k es) := by simp only [an]; rw [if_neg (by omega)]; exact dX
 obtain ⟨H',hle,dY⟩ := aO.oi r
 have fD : ak.oi ⟨[],(n,.cB J) :: O,n + 1⟩ r = ⟨[],(r,.gi (.au k 0 es)) :: ef ((n,.cB J) :: O) r,n + 1⟩ := by
  unfold ak.oi
  simp only [aJ]; rfl
 rw [fD] at dY
 have gB : ∀ i,an ((n,bo.cB J) :: (r,bo.gi (.au k 0 es)) :: ef O r) i = an ((r,bo.gi (.au k 0 es)) :: ef ((n,.cB J) :: O) r) i := fun i => by
  simp only [an,bq]
  by_cases af : r = i
  ·subst af
   rw [if_neg (by omega),if_pos rfl,if_pos rfl]
  ·rw [if_neg af,if_neg af,if_neg af,if_neg af]
 have hH : bC N w0 H0 ⟨[],(n,.cB J) :: (r,.gi (.au k 0 es)) :: ef O r,n + 1⟩ E a w H' := by
  refine ⟨dY.grow,fun t x ar => (by cases ar),fun i o ax => dY.ob i o ((gB i).symm.trans ax),fun i j iN aq aN => dY.ap i j iN ?_ ?_,dY.c0,dY.ju,dY.jO⟩
  ·obtain ⟨o,af,aj⟩ := aq
   exact ⟨o,(gB i).symm.trans af,aj⟩
  ·obtain ⟨o,af,aj⟩ := aN
   exact ⟨o,(gB j).symm.trans af,aj⟩
 refine h J N w0 H0 E a w H' vs hH (Ux (fun u hu => ?_) l0 (bj.mono hle (fW.refl _)))
 have c1 := Nf hH.ob hu
 have fE : ak.res ⟨[],(n,.cB J) :: (r,.gi (.au k 0 es)) :: ef O r,n + 1⟩ (.own r) = .au k 0 es := by
  show (match an ((n,bo.cB J) :: (r,bo.gi (.au k 0 es)) :: ef O r) r with | some (.gi x) => x | _ => .own r) = _
  simp only [an]
  rw [if_neg (by omega)]
  simp only [if_true]
 rw [fE] at c1
 exact c1
def kH (l : b1) (rows : List (List gq)) : List (cO × fO) := (rows.take l.threads.toNat).map fun r => (tN l r,ma)
def nI (l : b1) : List bm := y9 l (firstM l) []
def xS (l : b1) (rows : List (List gq)) : cN ft := ⟨(ks l.threads (nI l)).1,(kH l rows).map (nX (C := ft)),List.replicate (kH l rows).length false⟩
def I2 (l : b1) (rows : List (List gq)) (O : List (Nat × bo)) (n : Nat) (_ : bl → Env → Prop) (r : aw) (O' : List (Nat × bo)) (bO : Nat) : Prop :=
 ∃ w',fl ka w' = fl ka (xS l rows) ∧ r = .bY [od w',eA true] ∧ lM ka w' O' bO ∧ kq [] (ix ka w') O n O' bO
def aaD (l : b1) (g : Nat) (rows : List (List gq)) (M : e3) (ws : List bm) (J : bl → Env → Prop) (O : List (Nat × bo)) (n : Nat) (k : Nat) (S : ak) : Prop :=
 ∃ (i r : Nat) (cV : List (Nat × bo)) (bG : Nat),i ≤ rows.length ∧ i ≤ l.threads.toNat ∧ k = rows.length - i ∧ n + 4 ≤ r ∧ r < bG ∧ an cV n = some (.cB J) ∧ an cV (n + 1) = some (.box 25 (fu l)) ∧ an cV (n + 2) = some (.box 63 uD) ∧ an cV (n + 3) = some (.box 59 (Fl M)) ∧
  an cV r = some (.row 35 1 (((rows.take i).map fun r => ((tN l r,ma) : cO × fO)).map (BV ft))) ∧ (∀ e,e < n → an cV e = an O e) ∧
  S = ⟨[(1,.au 1 g (rows.map wO)),(3,.ptr (n + 1) 0 0),(6,.ptr (n + 2) 0 0),(8,.au 3 0 (ws.map c6)),(9,aG 0),(10,.ptr (n + 3) 0 0),(11,aG 0),(12,.own r),(13,aG i)],cV,bG⟩
set_option maxHeartbeats 16000000 in
set_option maxRecDepth 20000 in
theorem ajf {l : b1} (aE : e4 l = 0) (Df : 1 ≤ l.threads ∧ l.threads ≤ 8) (fK : 0 < l.blocks) (g : Nat) (rows : List (List gq)) (aA : ∀ r ∈ rows,r.length ≤ 1000 ∧ ∀ o ∈ r,zV o) (aqP : rows.length ≤ 1000) (O : List (Nat × bo)) (n : Nat) : gg 22 [.agg (fu l),.au 1 g (rows.map wO),.v (.slice none 0 0)] O n (I2 l rows O n) := by
 refine xy Tryz.func22 anA rfl fun J => ?_
 have hid := fG n
 have fo := pa ft
 have ahd := nc
 have af7 := @yp
 have hi := (kb aE).2
 have r9 := TY l aE
 have ni : dm l 7 ≤ ((firstM l).length : Int) := by rw [Ai]; omega
 have KO : (firstM l).length ≤ 4096 := by rw [Ai]; omega
 have ui := fun g => ajl aE 0 g (firstM l) [] ni (by omega) (by simp) (fun u hu => by cases hu)
 have ug : (nI l).length = (firstM l).length := by unfold nI; rw [S8]
 have xa : (gI l.threads (nI l)).2 = 0 := by
  obtain ⟨ey,_⟩ := kb aE
  have ba : dm l 7 = dm l 1 + (e8 l 1 + e8 l 2 + e8 l 3 + e8 l 4 + e8 l 5 + e8 l 6) := by
   show dm l 1 + e8 l 1 + e8 l 2 + e8 l 3 + e8 l 4 + e8 l 5 + e8 l 6 = _; omega
  have af : dm l 1 = 8 := rfl
  have := (lX ey 1).1; have := (lX ey 2).1; have := (lX ey 3).1; have := (lX ey 4).1; have := (lX ey 5).1; have := (lX ey 6).1
  unfold gI
  rw [if_neg (by omega),if_neg (by omega),if_neg (by omega)]
 obtain ⟨cd,c2,eu⟩ := BK xa
 have xm := MG l.threads 0 (nI l)
 rw [eu] at xm
 have xn := ML l
 have lz : A3 l = ((nI l).length : Int) := by
  unfold A3
  rw [if_pos aE,ug,Ai]
  have := (u3 (kb aE).1 7).1; omega
 rw [lz] at xn
 unfold I2 xS
 have ui : ∀ g,cq 28 [.agg (fu l),.au 3 0 ((firstM l).map c6),.au 1 g []] (.bY [.au 3 0 ((nI l).map c6),aG 0]) := ui
 generalize nI l = ws at ui ug xm xn cd c2 eu xa
 generalize firstM l = eI at r9 ui ni KO ug
 have LP : (ks l.threads ws).1.mem.views.length = l.threads.toNat := cd
 generalize (ks l.threads ws).1 = M at xm cd c2 LP
 have SJ := fun cs (mo : ∀ p ∈ cs,ft.jB 0 p) (agt : cs.length ≤ M.mem.views.length) X N cC => TD (W := ka) M 0 cs (by rw [LP]; omega) (k := 0) mo (by decide) agt X N cC
 unfold Wv Vn;delta ab aQ a8 aa ay a3
 have ad := And.intro @hid (And.intro @fo (And.intro @ahd @af7))
 refine ae fun _ aK b9 _ => ai fun _ aH => ?_;refine al ad ?_;refine aH _ (aK (some ([1,2,3,6],none)) _ (ae fun _ aP _ _ => ?_));refine adI ([.slot 2 none 1]) [] (n := 8) fun _ bk => ?_;refine gY ?_;refine cF 1 ad ?_;refine cF 1 ad ?_;refine gd 1 ad ?_;refine ⟨_,r9,?_⟩;refine gd 1 ad ?_;refine gd 1 ad ?_;refine ⟨_,ui 0,?_⟩;refine lh ad ?_;refine bk _ ?_;refine gZ ?_;refine al ad ?_;refine aP (some ([1,3,6,8,9],none)) _ (ae fun _ bp _ _ => ai fun _ bE => ?_);refine ag 2 ad ?_;refine aM 1 ad ?_;refine aM 1 ad ?_;refine Or.inl (Or.inl ⟨_,xm,?_⟩);refine aM 3 ad ?_;refine ag 2 ad ?_;refine al ad ?_;refine bE _ (bp (some ([1,3,6,8,9,10,11],none)) _ (ae fun _ cv _ _ => ai fun _ aR => ?_));refine al ad ?_;refine aR _ (cv (some ([1,3,6,8,9,10,11,12],none)) _ (ae fun _ eo _ _ => ?_))
 refine ae fun _ cr _ _ => ai fun _ cD => ?_;refine al ad ?_;refine cD _ (cr (some ([1,3,6,8,9,10,11,12,13],none)) _ (cj fun _ _ AB _ _ => ?_));refine ie (aaD l g rows M ws J O n) (rows.length) (some ([1,3,6,8,9,10,11,12,13],none)) ([.slot 12 (some 35) 1]) ?_ ?_
 ·try refine dR ?_
  refine ⟨0,n + 4,_,_,by omega,by omega,by omega,by omega,by omega,?_,?_,?_,?_,?_,fun e he => ?_,rfl⟩
  ·simp [an]
  ·simp [an]
  ·simp [an]
  ·simp [an]
  ·simp [an]
  ·simp only [an,bq]; repeat rw [if_neg (by omega)]
 ·intro k bT aW
  obtain ⟨i,r,cV,bG,aq,iM,rfl,b9,Az,a0,bS,bH,bP,j8,hold,rfl⟩ := aW
  have jm := fG bG
  have d0 := cW (n := bG) (d := n) (by omega)
  have d1 := cW (n := bG) (d := n + 1) (by omega)
  have d2 := cW (n := bG) (d := n + 2) (by omega)
  have d3 := cW (n := bG) (d := n + 3) (by omega)
  have wL := cW (n := bG) (d := r) (by omega)
  have dZ : i = rows.length ∨ (i < rows.length ∧ i = l.threads.toNat) ∨ ∃ u,i < rows.length ∧ i < l.threads.toNat ∧ rows[i]? = some u := by
   rcases Nat.lt_or_ge i rows.length with h | h
   ·rcases Nat.lt_or_ge i l.threads.toNat with aj | aj
    ·exact .inr (.inr ⟨_,h,aj,List.getElem?_eq_getElem h⟩)
    ·exact .inr (.inl ⟨h,by omega⟩)
   ·exact .inl (by omega)
  have RH : i = rows.length ∨ (i < rows.length ∧ i = l.threads.toNat) → ((rows.take i).map fun r => ((tN l r,ma) : cO × fO)) = kH l rows := by
   unfold kH
   rintro (h | ⟨h,aj⟩)
   ·rw [List.take_of_length_le (by omega),List.take_of_length_le (by omega)]
   ·rw [aj]
  have mo : ∀ p ∈ kH l rows,ft.jB 0 p := fun p hp => by
   unfold kH at hp
   obtain ⟨u,hu,rfl⟩ := List.mem_map.1 hp
   have := aA u (List.mem_of_mem_take hu)
   exact ⟨P5 aE this.1 this.2,fK⟩
  have gP : (kH l rows).length ≤ M.mem.views.length := by
   unfold kH; rw [List.length_map,List.length_take,LP]; omega
  have tV : ∀ X N,Iu ka (kH l rows) X N := fun X N => by
   have o1 : ∀ p ∈ kH l rows,p.1.now = none := fun p hp => by
    unfold kH at hp
    obtain ⟨u,hu,rfl⟩ := List.mem_map.1 hp
    rfl
   refine ⟨fun p hp a a5 => ?_,fun i j a b _ a5 _ e he => ?_⟩
   ·rw [o1 p hp] at a5; cases a5
   ·have c1 := o1 a (List.mem_of_getElem? a5)
    have he : e ∈ n9 a.1 a.2 := he
    unfold n9 at he
    rw [c1] at he; cases he
  have RS : uZ ka (kH l rows) = [] := by
   unfold uZ
   rw [List.flatMap_eq_nil_iff]
   intro p hp
   unfold kH at hp
   obtain ⟨u,hu,rfl⟩ := List.mem_map.1 hp
   rfl
  intro _ fx _ mq
  rcases dZ with ea | ⟨ea,pI⟩ | ⟨u,ea,pI,hu⟩
  ·skip
   have cn : ¬ (i : Int) < (rows.length : Int) := by omega
   rw [RH (.inl ea)] at j8
   have L7 := SJ _ mo gP
   have aD := And.intro ad (And.intro @jm (And.intro @d0 (And.intro @d1 (And.intro @d2 (And.intro @d3 (And.intro @wL (And.intro @a0 (And.intro @bS (And.intro @bH (And.intro @bP (And.intro @j8 @cn)))))))))))
   refine ae fun _ _ _ lo => ae fun _ fF _ _ => ai fun _ eF => ?_;refine aM 3 aD ?_;refine ag 1 aD ?_;refine aM 3 aD ?_;refine ag 1 aD ?_;refine ag 1 aD ?_;refine al aD ?_;refine eF _ (fF (some ([1,3,6,8,9,10,11,12,13,40],none)) _ (bs (lo 0 _ (mq 0 _ (AB _ (eo (some ([3,6,8,9,10,11,12],none)) _ (ae fun _ hM _ _ => ai fun _ hr => ?_)))))));refine ag 1 aD ?_;refine aM 1 aD ?_;refine aM 1 aD ?_;refine Or.inr (iJ ((show gg 43 [lS M,.own r] _ _ _ from TB (l0 := [lS M]) (l1 := []) Az j8 (L7 _ _ (tV _ _)))) (by simp [ak.k0,ak.bg,ak.res,an,j8]) (fun zT AT rF gR q4 => ?_))
   obtain ⟨fB,nU,rfl,nd,bu⟩ := q4
   dsimp only at nd bu
   rw [RS] at bu
   have CW := bu.le
   have fP := bu.at (e := n) (X := .cB J) (by omega) (by simp) (by simp only [an,bq]; (repeat rw [if_neg (by omega)]); exact a0)
   have dh := bu.at (e := n + 1) (X := .box 25 (fu l)) (by omega) (by simp) (by simp only [an,bq]; (repeat rw [if_neg (by omega)]); exact bS)
   have dv := bu.at (e := n + 2) (X := .box 63 uD) (by omega) (by simp) (by simp only [an,bq]; (repeat rw [if_neg (by omega)]); exact bH)
   have jS := fG gR
   have de := cW (n := gR) (d := n) (by omega)
   have cd := cW (n := gR) (d := n + 1) (by omega)
   have c2 := cW (n := gR) (d := n + 2) (by omega)
   have bc := And.intro aD (And.intro @jS (And.intro @de (And.intro @cd (And.intro @c2 (And.intro @fP (And.intro @dh @dv))))))
   refine aM 3 bc ?_;refine ag 2 bc ?_;refine al bc ?_;refine hr _ (hM (some ([3,6,8,9,11,14,15],none)) _ (ae fun _ hZ _ _ => ?_));refine nR ([]) [6,7] [0,1,2,3,4,5,6,7,8,9,10,11,12,13,14,15,16,17,19] [18] (by kernel_rfl) (fun _ hh => ?_);refine iG ?_
   have bt := And.intro bc @pb
   refine gG 1 fun _ gf => ?_;refine a2 bt ?_;refine bh ?_;refine gf _ ?_;refine gG 2 fun _ im => ?_;refine a2 bt ?_;refine bh ?_;refine im _ ?_;refine gG 3 fun _ iq => ?_;refine a2 bt ?_;refine bh ?_;refine iq _ ?_;refine gG 3 fun _ gD => ?_;refine a2 bt ?_;refine gD _ ?_;refine gG 1 fun _ ir => ?_;refine a2 bt ?_;refine bh ?_;refine ir _ ?_;refine gG 3 fun _ jT => ?_;refine a2 bt ?_;refine jT _ ?_;refine gG 2 fun _ iO => ?_;refine a2 bt ?_;refine bh ?_;refine iO _ ?_;refine gG 1 fun _ hY => ?_;refine a2 bt ?_;refine ⟨_,xn,?_⟩;refine hY _ ?_;refine gG 1 fun _ jU => ?_;refine a2 bt ?_;refine bh ?_;refine jU _ ?_;refine a2 bt ?_;refine hh _ (by simp [BJ,gx,pd,pT,DH,oJ,ak.bg,ak.res,an,bt]) (fun _ mr => ?_);refine iG ?_;refine mF ?_;refine aS bt ?_;refine mr _ ?_
   refine pc ?_;refine hZ (some ([6,7],none)) _ ?_
   first | refine gv (aF bt) (aF bt) (aF bt) ?_ | refine gu (aF bt) (aF bt) (aF bt) ?_
   try dsimp only
   refine ⟨fB,nU,rfl,nZ nd (by omega) fun e he => ?_,⟨by omega,fun e he ar => ?_,fun e he => ?_⟩⟩
   ·have af := (bu.new e he).resolve_left (by simp)
    have aj := rA nd he
    simp only [yp,nc,bq]; repeat rw [if_neg (by omega)]
   ·simp only [yp,nc,bq]; repeat rw [if_neg (by omega)]
    rw [bu.old e (by omega) (by simp)]
    simp only [an,bq]; repeat rw [if_neg (by omega)]
    exact hold e he
   ·have af := (bu.new e he).resolve_left (by simp)
    exact .inr (by omega)
  ·skip
   have cn : (i : Int) < (rows.length : Int) := by omega
   have fH : ¬ (i : Int) < l.threads := by omega
   rw [RH (.inr ⟨ea,pI⟩)] at j8
   have L7 := SJ _ mo gP
   have bB := And.intro ad (And.intro @jm (And.intro @d0 (And.intro @d1 (And.intro @d2 (And.intro @d3 (And.intro @wL (And.intro @a0 (And.intro @bS (And.intro @bH (And.intro @bP (And.intro @j8 (And.intro @cn @fH))))))))))))
   refine ae fun _ _ _ KK => ae fun _ kD _ _ => ai fun _ lq => ?_;refine aM 3 bB ?_;refine ag 1 bB ?_;refine aM 3 bB ?_;refine ag 1 bB ?_;refine ag 1 bB ?_;refine al bB ?_;refine lq _ (kD (some ([1,3,6,8,9,10,11,12,13,40],none)) _ (bs (KK 0 _ (mq 0 _ (AB _ (eo (some ([3,6,8,9,10,11,12],none)) _ (ae fun _ pQ _ _ => ai fun _ pK => ?_)))))));refine ag 1 bB ?_;refine aM 1 bB ?_;refine aM 1 bB ?_;refine Or.inr (iJ ((show gg 43 [lS M,.own r] _ _ _ from TB (l0 := [lS M]) (l1 := []) Az j8 (L7 _ _ (tV _ _)))) (by simp [ak.k0,ak.bg,ak.res,an,j8]) (fun zT AT rF gR q4 => ?_))
   obtain ⟨fB,nU,rfl,nd,bu⟩ := q4
   dsimp only at nd bu
   rw [RS] at bu
   have CW := bu.le
   have fP := bu.at (e := n) (X := .cB J) (by omega) (by simp) (by simp only [an,bq]; (repeat rw [if_neg (by omega)]); exact a0)
   have dh := bu.at (e := n + 1) (X := .box 25 (fu l)) (by omega) (by simp) (by simp only [an,bq]; (repeat rw [if_neg (by omega)]); exact bS)
   have dv := bu.at (e := n + 2) (X := .box 63 uD) (by omega) (by simp) (by simp only [an,bq]; (repeat rw [if_neg (by omega)]); exact bH)
   have jS := fG gR
   have de := cW (n := gR) (d := n) (by omega)
   have cd := cW (n := gR) (d := n + 1) (by omega)
   have c2 := cW (n := gR) (d := n + 2) (by omega)
   have ep := And.intro bB (And.intro @jS (And.intro @de (And.intro @cd (And.intro @c2 (And.intro @fP (And.intro @dh @dv))))))
   refine aM 3 ep ?_;refine ag 2 ep ?_;refine al ep ?_;refine pK _ (pQ (some ([3,6,8,9,11,14,15],none)) _ (ae fun _ pR _ _ => ?_));refine nR ([]) [6,7] [0,1,2,3,4,5,6,7,8,9,10,11,12,13,14,15,16,17,19] [18] (by kernel_rfl) (fun _ pL => ?_);refine iG ?_
   have eh := And.intro ep @pb
   refine gG 1 fun _ jV => ?_;refine a2 eh ?_;refine bh ?_;refine jV _ ?_;refine gG 2 fun _ nm => ?_;refine a2 eh ?_;refine bh ?_;refine nm _ ?_;refine gG 3 fun _ nn => ?_;refine a2 eh ?_;refine bh ?_;refine nn _ ?_;refine gG 3 fun _ np => ?_;refine a2 eh ?_;refine np _ ?_;refine gG 1 fun _ sW => ?_;refine a2 eh ?_;refine bh ?_;refine sW _ ?_;refine gG 3 fun _ oY => ?_;refine a2 eh ?_;refine oY _ ?_;refine gG 2 fun _ q8 => ?_;refine a2 eh ?_;refine bh ?_;refine q8 _ ?_;refine gG 1 fun _ pM => ?_;refine a2 eh ?_;refine ⟨_,xn,?_⟩;refine pM _ ?_;refine gG 1 fun _ sX => ?_;refine a2 eh ?_;refine bh ?_;refine sX _ ?_;refine a2 eh ?_;refine pL _ (by simp [BJ,gx,pd,pT,DH,oJ,ak.bg,ak.res,an,eh]) (fun _ q9 => ?_);refine iG ?_;refine mF ?_;refine aS eh ?_;refine q9 _ ?_
   refine pc ?_;refine pR (some ([6,7],none)) _ ?_
   first | refine gv (aF eh) (aF eh) (aF eh) ?_ | refine gu (aF eh) (aF eh) (aF eh) ?_
   try dsimp only
   refine ⟨fB,nU,rfl,nZ nd (by omega) fun e he => ?_,⟨by omega,fun e he ar => ?_,fun e he => ?_⟩⟩
   ·have af := (bu.new e he).resolve_left (by simp)
    have aj := rA nd he
    simp only [yp,nc,bq]; repeat rw [if_neg (by omega)]
   ·simp only [yp,nc,bq]; repeat rw [if_neg (by omega)]
    rw [bu.old e (by omega) (by simp)]
    simp only [an,bq]; repeat rw [if_neg (by omega)]
    exact hold e he
   ·have af := (bu.new e he).resolve_left (by simp)
    exact .inr (by omega)
  ·skip
   have cn : (i : Int) < (rows.length : Int) := by omega
   have fH : (i : Int) < l.threads := by omega
   have dM : IntKind.i64.wrap ((i : Int) + 1) = ((i + 1 : Nat) : Int) := by rw [IntKind.wrap_i64]; omega
   have iw : ((rows.take i).map fun r => ((tN l r,ma) : cO × fO)).length + 1 ≤ 140737488355328 := by simp; omega
   have nG : (((rows.take i).map fun r => ((tN l r,ma) : cO × fO)).length + 1) * 16 ≤ 140737488355328 := by simp; omega
   have km : ((rows.take (i + 1)).map fun r => ((tN l r,ma) : cO × fO)) = ((rows.take i).map fun r => ((tN l r,ma) : cO × fO)) ++ [(tN l u,ma)] := by
    rw [List.take_add_one,hu,List.map_append]; rfl
   generalize ((rows.take i).map fun r => ((tN l r,ma) : cO × fO)) = cs at j8 iw nG km
   have gz := And.intro ad (And.intro @jm (And.intro @d0 (And.intro @d1 (And.intro @d2 (And.intro @d3 (And.intro @wL (And.intro @a0 (And.intro @bS (And.intro @bH (And.intro @bP (And.intro @j8 (And.intro @cn (And.intro @dM (And.intro @fH (And.intro @iw (And.intro @nG (And.intro @ea @hu)))))))))))))))))
   refine ae fun _ vq _ _ => ae fun _ yO _ _ => ai fun _ pN => ?_;refine aM 3 gz ?_;refine ag 1 gz ?_;refine aM 3 gz ?_;refine ag 1 gz ?_;refine ag 1 gz ?_;refine al gz ?_;refine pN _ (yO (some ([1,3,6,8,9,10,11,12,13,40],none)) _ (bU (vq (some ([1,3,6,8,9,10,11,12,13],none)) _ (ae fun _ vr _ _ => cj fun _ vt _ _ _ => ?_))));refine gh [] (n := 6) fun _ sY => ?_;refine gY ?_;refine cF 2 gz ?_;refine cF 3 gz ?_;refine og gz ?_;refine sY _ ?_;refine gZ ?_;refine ag 3 gz ?_;refine ag 1 gz ?_;refine al gz ?_;refine vt _ (vr (some ([1,3,6,8,9,10,11,12,13],none)) _ (ai fun _ yD => ?_));refine ag 2 gz ?_;refine al gz ?_;refine yD _ ?_;refine fx (rows.length - (i + 1)) (some ([1,3,6,8,9,10,11,12,13],none)) _ ?_ ?_
   all_goals try refine dR ?_
   ·omega
   ·refine ⟨i + 1,bG,_,bG + 1,by omega,by omega,rfl,by omega,by omega,?_,?_,?_,?_,?_,fun e he => ?_,rfl⟩
    ·simp only [an,bq]; (repeat rw [if_neg (by omega)]); exact a0
    ·simp only [an,bq]; (repeat rw [if_neg (by omega)]); exact bS
    ·simp only [an,bq]; (repeat rw [if_neg (by omega)]); exact bH
    ·simp only [an,bq]; (repeat rw [if_neg (by omega)]); exact bP
    ·rw [km,List.map_append]; simp only [an,if_true]; rfl
    ·simp only [an,bq]; (repeat rw [if_neg (by omega)]); exact hold e he
end Go.Proofs.YtkmbcjnaaokilaaGreatDoor
