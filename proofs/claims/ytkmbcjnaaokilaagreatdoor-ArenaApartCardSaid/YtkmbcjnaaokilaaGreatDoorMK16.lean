/-
  The shadow code of functions, written by a program; each is what the translator makes of the function.
-/
import Derived.Test.YtkmbcjnaaokilaaGreatDoorMC
import Derived.Test.YtkmbcjnaaokilaaGreatDoorK12y
namespace Go.Proofs.YtkmbcjnaaokilaaGreatDoor
open Go.RowKit

def zz : bZ := (.seq (.ops [ab 1 (.box 72 (aa 0)),ab 2 (.cw 72 [.int .i64,.int .i64,.int .i64,.au 2,.nilIface,.au 1,.au 1,.au 1,.bool])]) (.seq (.ops [ab 7 (.aU (aa 1) 4),ab 8 (.aC (aa 7) none),ab 9 (.call 44 [.tmp 8]),ab 6 (.ah (aa 9)),ab 10 (.ext (aa 6) 0),ab 11 (.ext (aa 6) 1),ab 12 (.ext (aa 6) 2),ab 3 (.ah (aa 10)),ab 4 (.ah (aa 11)),ab 5 (.ah (aa 12))]) (.seq (.ops [ab 13 (.aU (aa 1) 8),ab 14 (.aC (aa 13) none),ab 15 (.ah (aa 14)),a8 16 15 false (.ah (aa 5)),a8 17 15 false (.not (aa 16)),ab 18 (.pick (aa 15) (a3 true) (aa 17)),ab 19 (.aU (aa 1) 8),aQ (.st 1 (aa 19) (aa 18))]) (.seq (.seq (.ops [ab 20 (.aU (aa 1) 3),ab 21 (.aC (aa 20) none),ab 22 (.dD (aa 21) (ay 0) 2),ab 23 (.aU (aa 22) 0),ab 24 (.aC (aa 23) none),ab 25 (.not (aa 24)),ab 26 (.ah (aa 25)),a8 27 26 true (.ah (aa 4)),a8 28 26 true (.bin .eql (aa 27) (ay 0)),ab 29 (.pick (aa 26) (aa 28) (a3 false))]) (.cond (aa 29) (.ops [ab 30 (.aU (aa 1) 5),ab 31 (.aC (aa 30) none),ab 32 (.ah (aa 3)),ab 33 (.call 16 [.tmp 31,.tmp 32]),ab 34 (.aU (aa 1) 5),aQ (.st 1 (aa 34) (aa 33))]) .skip)) (.seq (.ops [ab 35 (.hE 1 []),ab 36 (.aU (aa 1) 7),ab 37 (.aC (aa 36) none),ab 38 (.app (aa 35) (aa 37) 3 1 8),ab 39 (.ah (aa 3)),ab 40 (.ah (aa 4)),ab 41 (.hE 1 [.tmp 39,.tmp 40]),ab 42 (.app (aa 38) (aa 41) 3 1 8),ab 43 (.aU (aa 1) 7),aQ (.st 1 (aa 43) (aa 42))]) (.seq (.ops [ab 44 (.aU (aa 1) 3),ab 45 (.aC (aa 44) none),ab 46 (.k1 2 (aa 45) (some (ay 1)) none none),ab 47 (.aU (aa 1) 3),aQ (.st 1 (aa 47) (aa 46))]) (.seq (.ops [ab 48 (.aU (aa 1) 4),aQ (.st 1 (aa 48) (.const .nilIface))]) (.seq (.ops [ab 49 (.aC (aa 1) (some 9)),aQ (.st 9 (aa 2) (aa 49))]) .ret))))))))
def zw : List b6 := [(.eB 2 (some 9))]
theorem am1 : cP Tryz.prog rfl Tryz.f145 = some (zz,zw) := by kernel_rfl
def Wr : bZ := (.seq (.ops [ab 4 (.ah (a3 false))]) (.seq (.seq (.ops [ab 5 (.ah (ay 0))]) (.block 0 (.loop (.seq (.seq (.ops [ab 6 (.ah (aa 5)),ab 7 (.ah (aa 0)),ab 8 (.len (aa 7)),ab 9 (.bin .lss (aa 6) (aa 8)),ab 10 (.ah (aa 9)),a8 11 10 true (.ah (aa 5)),a8 12 10 true (.bin .lss (aa 11) (ay 5)),ab 13 (.pick (aa 10) (aa 12) (a3 false))]) (.cond (aa 13) .skip (.exit 0))) (.seq (.block 1 (.seq (.ops [ab 16 (.ah (aa 0)),ab 17 (.ah (aa 5)),ab 18 (.dD (aa 16) (aa 17) 1),ab 19 (.aC (aa 18) none),ab 20 (.len (aa 19)),ab 21 (.bin .gtr (aa 20) (ay 30))]) (.cond (aa 21) (.seq (.ops [ab 4 (.ah (a3 true))]) .ret) .skip))) (.ops [ab 14 (.ah (aa 5)),ab 15 (.bin .add (aa 14) (ay 1)),ab 5 (.ah (aa 15))])))))) (.seq (.ops [ab 22 (.ah (aa 0)),ab 23 (.len (aa 22)),ab 24 (.bin .gtr (aa 23) (ay 4)),ab 25 (.ah (aa 24)),a8 26 25 false (.ah (aa 1)),a8 27 25 false (.len (aa 26)),a8 28 25 false (.bin .gtr (aa 27) (ay 250)),ab 29 (.pick (aa 25) (a3 true) (aa 28)),ab 4 (.ah (aa 29))]) .ret)))
def Vj : List b6 := [.tmp 4]
theorem anv : cP Tryz.prog rfl Tryz.f21 = some (Wr,Vj) := by kernel_rfl
def Wq : bZ := (.seq (.ops [ab 1 (.box 84 (aa 0)),ab 2 (.cw 72 [.int .i64,.int .i64,.int .i64,.au 2,.nilIface,.au 1,.au 1,.au 1,.bool]),ab 3 (.ah (a3 false))]) (.seq (.ops [ab 7 (.aC (aa 1) (some 11)),ab 8 (.call 45 [.tmp 7]),ab 9 (.gen (.typeAssert (aa 8) 35 72 true) [.tmp 8]),ab 6 (.ah (aa 9)),ab 10 (.ext (aa 6) 0),ab 11 (.ext (aa 6) 1),ab 4 (.cw 72 [.int .i64,.int .i64,.int .i64,.au 2,.nilIface,.au 1,.au 1,.au 1,.bool]),aQ (.st 9 (aa 4) (aa 10)),ab 5 (.ah (aa 11))]) (.seq (.ops [ab 12 (.aC (aa 4) (some 9)),ab 13 (.ah (aa 5)),aQ (.st 9 (aa 2) (aa 12)),ab 3 (.ah (aa 13))]) .ret)))
def Vi : List b6 := [(.eB 2 (some 9)),.tmp 3]
theorem anu : cP Tryz.prog rfl Tryz.f27 = some (Wq,Vi) := by kernel_rfl
def Wo : bZ := (.seq (.ops [ab 1 (.box 63 (aa 0)),ab 2 (.ah (a3 false))]) (.seq (.ops [ab 3 (.ah (.const (.slice none 0 0)))]) (.seq (.seq (.ops [ab 4 (.ah (ay 0))]) (.block 0 (.loop (.seq (.seq (.ops [ab 9 (.ah (aa 4)),ab 10 (.aU (aa 1) 7),ab 11 (.aC (aa 10) none),ab 12 (.len (aa 11)),ab 13 (.bin .lss (aa 9) (aa 12))]) (.cond (aa 13) .skip (.exit 0))) (.seq (.block 1 (.seq (.ops [ab 17 (.aU (aa 1) 7),ab 18 (.aC (aa 17) none),ab 19 (.ah (aa 4)),ab 20 (.dD (aa 18) (aa 19) 11),ab 21 (.aC (aa 20) (some 11)),ab 22 (.call 27 [.tmp 21]),ab 16 (.ah (aa 22)),ab 23 (.ext (aa 16) 0),ab 24 (.ext (aa 16) 1),ab 5 (.cw 72 [.int .i64,.int .i64,.int .i64,.au 2,.nilIface,.au 1,.au 1,.au 1,.bool]),aQ (.st 9 (aa 5) (aa 23)),ab 6 (.ah (aa 24))]) (.seq (.seq (.ops [ab 25 (.ah (aa 6)),ab 26 (.not (aa 25))]) (.cond (aa 26) (.seq (.ops [ab 2 (.ah (a3 false))]) .ret) .skip)) (.seq (.g0 5 [ab 27 (.aU (aa 5) 0),ab 28 (.aC (aa 27) (some 3)),ab 29 (.aU (aa 1) 0),ab 30 (.aC (aa 29) (some 7)),ab 31 (.call 23 [.tmp 30]),ab 32 (.call 19 [.tmp 28,.tmp 31]),ab 7 (.ah (aa 32))]) (.seq (.ops [ab 8 (.ah (ay 0))]) (.block 2 (.loop (.seq (.seq (.ops [ab 33 (.ah (aa 8)),ab 34 (.aU (aa 5) 5),ab 35 (.aC (aa 34) none),ab 36 (.len (aa 35)),ab 37 (.bin .lss (aa 33) (aa 36))]) (.cond (aa 37) .skip (.exit 2))) (.seq (.block 3 (.seq (.seq (.ops [ab 40 (.ah (aa 3)),ab 41 (.aU (aa 5) 5),ab 42 (.aC (aa 41) none),ab 43 (.ah (aa 8)),ab 44 (.dD (aa 42) (aa 43) 1),ab 45 (.aC (aa 44) none),ab 46 (.call 14 [.tmp 40,.tmp 45]),ab 47 (.ah (aa 46)),a8 48 47 false (.ah (aa 7)),a8 49 47 false (.aU (aa 5) 5),a8 50 47 false (.aC (aa 49) none),a8 51 47 false (.ah (aa 8)),a8 52 47 false (.dD (aa 50) (aa 51) 1),a8 53 47 false (.aC (aa 52) none),a8 54 47 false (.call 14 [.tmp 48,.tmp 53]),a8 55 47 false (.not (aa 54)),ab 56 (.pick (aa 47) (a3 true) (aa 55))]) (.cond (aa 56) (.seq (.ops [ab 2 (.ah (a3 false))]) .ret) .skip)) (.ops [ab 57 (.ah (aa 3)),ab 58 (.aU (aa 5) 5),ab 59 (.aC (aa 58) none),ab 60 (.ah (aa 8)),ab 61 (.dD (aa 59) (aa 60) 1),ab 62 (.aC (aa 61) none),ab 63 (.call 16 [.tmp 57,.tmp 62]),ab 3 (.ah (aa 63))]))) (.ops [ab 38 (.ah (aa 8)),ab 39 (.bin .add (aa 38) (ay 1)),ab 8 (.ah (aa 39))])))))))))) (.ops [ab 14 (.ah (aa 4)),ab 15 (.bin .add (aa 14) (ay 1)),ab 4 (.ah (aa 15))])))))) (.seq (.ops [ab 2 (.ah (a3 true))]) .ret))))
def Vg : List b6 := [.tmp 2]
theorem ans : cP Tryz.prog rfl Tryz.f25 = some (Wo,Vg) := by kernel_rfl
end Go.Proofs.YtkmbcjnaaokilaaGreatDoor
namespace Go.Proofs.YtkmbcjnaaokilaaGreatDoor
set_option linter.unusedSimpArgs false
set_option linter.unusedVariables false
open Go.RowKit Go.Maps
abbrev z3 (l : b1) (ops : List gq) (x : aw) (has : List Nat) (jj : List Int) (bad : Bool) : List aw := [aG l.threads,aG l.cells,aG l.blocks,.au 2 2 (ops.map BX),x,.au 1 0 (has.map hq),.au 1 0 [],.au 1 0 (jj.map BU),eA bad]
set_option maxHeartbeats 4000000 in
theorem ajx {n : Nat} {s : cO} (ao : jI n s) (a9 : n ≤ 900) (fK : 0 < s.l.blocks) (dj : s.ops ≠ []) (a : fa) (aI : wD s.l a) {L : fO} (hp : Plain L.eG) : cq 145 [.agg (pr s (jz a L))] (.agg (pr (um s a) (.v .nilIface))) := by
 refine df Tryz.func145 am1 rfl ?_
 have fg := gX (jF a L)
 have bX := TG a hp
 obtain ⟨dh,dv⟩ := P1 aI fK
 have Ku := ao.jj
 have CV := (kb ao.lay).1.2.2
 have CF := ao.has.len
 have yI := ao.len
 unfold um q6
 obtain ⟨l,ops,now,has,jj,bad⟩ := s
 simp only at Ku CV CF yI dj dh ⊢
 obtain ⟨o,os,rfl⟩ : ∃ o os,ops = o :: os := by cases ops with | nil => exact absurd rfl dj | cons o os => exact ⟨o,os,rfl⟩
 generalize fk a = R at bX dh dv ⊢
 obtain ⟨lJ,lK,rH⟩ := R
 simp only at bX dh dv ⊢
 generalize aT : lJ.toNat = b at dh dv ⊢
 have afG := dv.symm
 subst afG
 clear aT
 have cL := MN 0 has b (by omega)
 have bJ : jj.length ≤ 140737488355328 := by omega
 have cf : jj.length * 8 ≤ 140737488355328 := by omega
 have dA : jj.length + 2 ≤ 140737488355328 := by omega
 have fr : (jj.length + 2) * 8 ≤ 140737488355328 := by omega
 have a1 : (jj ++ [(b : Int),lK]).map BU = jj.map BU ++ [[aG b],[aG lK]] := by simp
 have jY : os.length + 1 ≤ 1000000 := by simp at yI; omega
 obtain ⟨AK,on⟩ := o
 show bK _ _ [.agg (z3 l (⟨AK,on⟩ :: os) (jz a L) has jj bad)] (.agg [aG l.threads,aG l.cells,aG l.blocks,.au 2 2 (os.map BX),.v .nilIface,.au 1 0 ((if AK = false ∧ lK = 0 then gT has b false else has).map hq),.au 1 0 [],.au 1 0 ((jj ++ [(b : Int),lK]).map BU),eA (bad || !rH)])
 rw [a1]
 cases bad
 ·cases AK
  ·by_cases he : lK = 0
   ·subst he
    rw [if_pos ⟨rfl,rfl⟩]
    unfold bK zz zw;delta ab aQ a8 aa ay a3
    have ad := And.intro @fg (And.intro @bJ (And.intro @cf (And.intro @dA @fr)))
    refine ae fun bD aK b9 ck => ai fun ca aH => ?_;refine al ad ?_;refine aH _ (aK (some ([1,2],none)) _ (ae fun cg aP bx b8 => ai fun ch bk => ?_));refine ag 2 ad ?_;refine aM 1 ad ?_;refine Or.inl (Or.inl ⟨_,bX,?_⟩);refine al ad ?_;refine bk _ (aP (some ([1,2,3,4,5],none)) _ (ae fun cM bV dQ eP => ai fun cG dk => ?_));refine ag 2 ad ?_;refine aS ad ?_;refine dk _ (bV (some ([1,2,3,4],none)) _ (ae fun cI cz ey fp => ae fun dB cv g7 gw => ai fun bz aR => ?_));refine ag 2 ad ?_;refine ag 1 ad ?_;refine ag 2 ad ?_;refine ag 4 ad ?_;refine al ad ?_;refine aR _ (cv (some ([1,2,3,4,29],none)) _ (bU (ai fun eK cK => ?_)));refine ag 2 ad ?_;refine aM 1 ad ?_;refine aM 1 ad ?_;refine Or.inl (Or.inl ⟨_,cL,?_⟩);refine aS ad ?_;refine cK _ ?_
    refine cz (some ([1,2,3,4],none)) _ (ae fun fM cr h0 g6 => ai fun ga cD => ?_);refine ag 1 ad ?_;refine ag 2 ad ?_;refine ag 1 ad ?_;refine ag 3 ad ?_;refine ag 1 ad ?_;refine aS ad ?_;refine cD _ (cr (some ([1,2],none)) _ (ae fun gK dF nu ln => ai fun hc dq => ?_));refine ag 2 ad ?_;refine ag 1 ad ?_;refine aS ad ?_;refine dq _ (dF (some ([1,2],none)) _ (ae fun jf gl Dc lo => ai fun kp gC => ?_));refine aS ad ?_;refine gC _ (gl (some ([1,2],none)) _ (ae fun n3 kC yW yx => ai fun su hI => ?_));refine ag 1 ad ?_;refine aS ad ?_;refine hI _ (kC (some ([2],none)) _ ?_)
    exact cQ ad
   ·have d : (lK == 0) = false := by simpa using he
    rw [if_neg (by rintro ⟨_,h⟩; exact he h)]
    unfold bK zz zw;delta ab aQ a8 aa ay a3
    have ad := And.intro @fg (And.intro @bJ (And.intro @cf (And.intro @dA (And.intro @fr @d))))
    refine ae fun bD aK b9 ck => ai fun ca aH => ?_;refine al ad ?_;refine aH _ (aK (some ([1,2],none)) _ (ae fun cg aP bx b8 => ai fun ch bk => ?_));refine ag 2 ad ?_;refine aM 1 ad ?_;refine Or.inl (Or.inl ⟨_,bX,?_⟩);refine al ad ?_;refine bk _ (aP (some ([1,2,3,4,5],none)) _ (ae fun cM bV dQ eP => ai fun cG dk => ?_));refine ag 2 ad ?_;refine aS ad ?_;refine dk _ (bV (some ([1,2,3,4],none)) _ (ae fun cI cz ey fp => ae fun dB cv g7 gw => ai fun bz aR => ?_));refine ag 2 ad ?_;refine ag 1 ad ?_;refine ag 2 ad ?_;refine ag 4 ad ?_;refine al ad ?_;refine aR _ (cv (some ([1,2,3,4,29],none)) _ (bs (cz (some ([1,2,3,4],none)) _ (ae fun eK eo mT jb => ai fun fM fe => ?_))));refine ag 1 ad ?_;refine ag 2 ad ?_
    refine ag 1 ad ?_;refine ag 3 ad ?_;refine ag 1 ad ?_;refine aS ad ?_;refine fe _ (eo (some ([1,2],none)) _ (ae fun ga ff rk kx => ai fun gK ew => ?_));refine ag 2 ad ?_;refine ag 1 ad ?_;refine aS ad ?_;refine ew _ (ff (some ([1,2],none)) _ (ae fun hc fx r3 mq => ai fun jf eJ => ?_));refine aS ad ?_;refine eJ _ (fx (some ([1,2],none)) _ (ae fun kp fF r4 tW => ai fun n3 eF => ?_));refine ag 1 ad ?_;refine aS ad ?_;refine eF _ (fF (some ([2],none)) _ ?_)
    exact cQ ad
  ·rw [if_neg (by rintro ⟨h,_⟩; cases h)]
   unfold bK zz zw;delta ab aQ a8 aa ay a3
   have ad := And.intro @fg (And.intro @bJ (And.intro @cf (And.intro @dA @fr)))
   refine ae fun bD aK b9 ck => ai fun ca aH => ?_;refine al ad ?_;refine aH _ (aK (some ([1,2],none)) _ (ae fun cg aP bx b8 => ai fun ch bk => ?_));refine ag 2 ad ?_;refine aM 1 ad ?_;refine Or.inl (Or.inl ⟨_,bX,?_⟩);refine al ad ?_;refine bk _ (aP (some ([1,2,3,4,5],none)) _ (ae fun cM bV dQ eP => ai fun cG dk => ?_));refine ag 2 ad ?_;refine aS ad ?_;refine dk _ (bV (some ([1,2,3,4],none)) _ (ae fun cI cz ey fp => ae fun dB cv g7 gw => ai fun bz aR => ?_));refine ag 2 ad ?_;refine ag 1 ad ?_;refine ag 2 ad ?_;refine ag 4 ad ?_;refine al ad ?_;refine aR _ (cv (some ([1,2,3,4,29],none)) _ (bs (cz (some ([1,2,3,4],none)) _ (ae fun eK eo mT jb => ai fun fM fe => ?_))));refine ag 1 ad ?_;refine ag 2 ad ?_
   refine ag 1 ad ?_;refine ag 3 ad ?_;refine ag 1 ad ?_;refine aS ad ?_;refine fe _ (eo (some ([1,2],none)) _ (ae fun ga ff rk kx => ai fun gK ew => ?_));refine ag 2 ad ?_;refine ag 1 ad ?_;refine aS ad ?_;refine ew _ (ff (some ([1,2],none)) _ (ae fun hc fx r3 mq => ai fun jf eJ => ?_));refine aS ad ?_;refine eJ _ (fx (some ([1,2],none)) _ (ae fun kp fF r4 tW => ai fun n3 eF => ?_));refine ag 1 ad ?_;refine aS ad ?_;refine eF _ (fF (some ([2],none)) _ ?_)
   exact cQ ad
 ·cases AK
  ·by_cases he : lK = 0
   ·subst he
    rw [if_pos ⟨rfl,rfl⟩]
    unfold bK zz zw;delta ab aQ a8 aa ay a3
    have ad := And.intro @fg (And.intro @bJ (And.intro @cf (And.intro @dA @fr)))
    refine ae fun bD aK b9 ck => ai fun ca aH => ?_;refine al ad ?_;refine aH _ (aK (some ([1,2],none)) _ (ae fun cg aP bx b8 => ai fun ch bk => ?_));refine ag 2 ad ?_;refine aM 1 ad ?_;refine Or.inl (Or.inl ⟨_,bX,?_⟩);refine al ad ?_;refine bk _ (aP (some ([1,2,3,4,5],none)) _ (ae fun cM bV dQ eP => ai fun cG dk => ?_));refine ag 2 ad ?_;refine aS ad ?_;refine dk _ (bV (some ([1,2,3,4],none)) _ (ae fun cI cz ey fp => ae fun dB cv g7 gw => ai fun bz aR => ?_));refine ag 2 ad ?_;refine ag 1 ad ?_;refine ag 2 ad ?_;refine ag 4 ad ?_;refine al ad ?_;refine aR _ (cv (some ([1,2,3,4,29],none)) _ (bU (ai fun eK cK => ?_)));refine ag 2 ad ?_;refine aM 1 ad ?_;refine aM 1 ad ?_;refine Or.inl (Or.inl ⟨_,cL,?_⟩);refine aS ad ?_;refine cK _ ?_
    refine cz (some ([1,2,3,4],none)) _ (ae fun fM cr h0 g6 => ai fun ga cD => ?_);refine ag 1 ad ?_;refine ag 2 ad ?_;refine ag 1 ad ?_;refine ag 3 ad ?_;refine ag 1 ad ?_;refine aS ad ?_;refine cD _ (cr (some ([1,2],none)) _ (ae fun gK dF nu ln => ai fun hc dq => ?_));refine ag 2 ad ?_;refine ag 1 ad ?_;refine aS ad ?_;refine dq _ (dF (some ([1,2],none)) _ (ae fun jf gl Dc lo => ai fun kp gC => ?_));refine aS ad ?_;refine gC _ (gl (some ([1,2],none)) _ (ae fun n3 kC yW yx => ai fun su hI => ?_));refine ag 1 ad ?_;refine aS ad ?_;refine hI _ (kC (some ([2],none)) _ ?_)
    exact cQ ad
   ·have d : (lK == 0) = false := by simpa using he
    rw [if_neg (by rintro ⟨_,h⟩; exact he h)]
    unfold bK zz zw;delta ab aQ a8 aa ay a3
    have ad := And.intro @fg (And.intro @bJ (And.intro @cf (And.intro @dA (And.intro @fr @d))))
    refine ae fun bD aK b9 ck => ai fun ca aH => ?_;refine al ad ?_;refine aH _ (aK (some ([1,2],none)) _ (ae fun cg aP bx b8 => ai fun ch bk => ?_));refine ag 2 ad ?_;refine aM 1 ad ?_;refine Or.inl (Or.inl ⟨_,bX,?_⟩);refine al ad ?_;refine bk _ (aP (some ([1,2,3,4,5],none)) _ (ae fun cM bV dQ eP => ai fun cG dk => ?_));refine ag 2 ad ?_;refine aS ad ?_;refine dk _ (bV (some ([1,2,3,4],none)) _ (ae fun cI cz ey fp => ae fun dB cv g7 gw => ai fun bz aR => ?_));refine ag 2 ad ?_;refine ag 1 ad ?_;refine ag 2 ad ?_;refine ag 4 ad ?_;refine al ad ?_;refine aR _ (cv (some ([1,2,3,4,29],none)) _ (bs (cz (some ([1,2,3,4],none)) _ (ae fun eK eo mT jb => ai fun fM fe => ?_))));refine ag 1 ad ?_;refine ag 2 ad ?_
    refine ag 1 ad ?_;refine ag 3 ad ?_;refine ag 1 ad ?_;refine aS ad ?_;refine fe _ (eo (some ([1,2],none)) _ (ae fun ga ff rk kx => ai fun gK ew => ?_));refine ag 2 ad ?_;refine ag 1 ad ?_;refine aS ad ?_;refine ew _ (ff (some ([1,2],none)) _ (ae fun hc fx r3 mq => ai fun jf eJ => ?_));refine aS ad ?_;refine eJ _ (fx (some ([1,2],none)) _ (ae fun kp fF r4 tW => ai fun n3 eF => ?_));refine ag 1 ad ?_;refine aS ad ?_;refine eF _ (fF (some ([2],none)) _ ?_)
    exact cQ ad
  ·rw [if_neg (by rintro ⟨h,_⟩; cases h)]
   unfold bK zz zw;delta ab aQ a8 aa ay a3
   have ad := And.intro @fg (And.intro @bJ (And.intro @cf (And.intro @dA @fr)))
   refine ae fun bD aK b9 ck => ai fun ca aH => ?_;refine al ad ?_;refine aH _ (aK (some ([1,2],none)) _ (ae fun cg aP bx b8 => ai fun ch bk => ?_));refine ag 2 ad ?_;refine aM 1 ad ?_;refine Or.inl (Or.inl ⟨_,bX,?_⟩);refine al ad ?_;refine bk _ (aP (some ([1,2,3,4,5],none)) _ (ae fun cM bV dQ eP => ai fun cG dk => ?_));refine ag 2 ad ?_;refine aS ad ?_;refine dk _ (bV (some ([1,2,3,4],none)) _ (ae fun cI cz ey fp => ae fun dB cv g7 gw => ai fun bz aR => ?_));refine ag 2 ad ?_;refine ag 1 ad ?_;refine ag 2 ad ?_;refine ag 4 ad ?_;refine al ad ?_;refine aR _ (cv (some ([1,2,3,4,29],none)) _ (bs (cz (some ([1,2,3,4],none)) _ (ae fun eK eo mT jb => ai fun fM fe => ?_))));refine ag 1 ad ?_;refine ag 2 ad ?_
   refine ag 1 ad ?_;refine ag 3 ad ?_;refine ag 1 ad ?_;refine aS ad ?_;refine fe _ (eo (some ([1,2],none)) _ (ae fun ga ff rk kx => ai fun gK ew => ?_));refine ag 2 ad ?_;refine ag 1 ad ?_;refine aS ad ?_;refine ew _ (ff (some ([1,2],none)) _ (ae fun hc fx r3 mq => ai fun jf eJ => ?_));refine aS ad ?_;refine eJ _ (fx (some ([1,2],none)) _ (ae fun kp fF r4 tW => ai fun n3 eF => ?_));refine ag 1 ad ?_;refine aS ad ?_;refine eF _ (fF (some ([2],none)) _ ?_)
   exact cQ ad
end Go.Proofs.YtkmbcjnaaokilaaGreatDoor
