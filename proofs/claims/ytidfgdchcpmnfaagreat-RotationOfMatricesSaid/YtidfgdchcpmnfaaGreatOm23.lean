/-
  Lemmas for the theorem vofmatrices_holds, part 23 of 32.
-/
import Derived.Deep.RegionHeld3
import Derived.Deep.RegionLawGrows
import Derived.Test.YtidfgdchcpmnfaaGreatOm01
import Derived.Test.YtidfgdchcpmnfaaGreatOm06
import Derived.Test.YtidfgdchcpmnfaaGreatOm07
import Derived.Test.YtidfgdchcpmnfaaGreatOm22
namespace Go.Proofs.YtidfgdchcpmnfaaGreat
open Go.RowKit
set_option maxRecDepth 100000
set_option maxHeartbeats 8000000
set_option linter.unusedSimpArgs false
set_option linter.unusedVariables false
def idE (i j:Nat):Rat:=if i=j then 1 else 0
def iL (e:Nat->Nat->Rat) (i j:Nat):Bool:=decide (pU (e i) (e j) 3=idE i j)
def jT (e:Nat->Nat->Rat):Bool:=allB 3 (fun i=>allB 3 (iL e i))&&decide (det 3 e=1)
theorem rD (x y:Rat):qP x y=0↔x=y:=by
 unfold qP
 by_cases h1:x<y
 ·rw[if_pos h1];constructor
  ·intro h;simp at h
  ·intro h;rw[h] at h1;exact absurd h1 (Rat.lt_irrefl)
 ·rw[if_neg h1]
  by_cases h2:y<x
  ·rw[if_pos h2];constructor
   ·intro h;simp at h
   ·intro h;rw[h] at h2;exact absurd h2 (Rat.lt_irrefl)
  ·rw[if_neg h2];exact⟨fun _=>Rat.le_antisymm (Rat.not_lt.1 h2) (Rat.not_lt.1 h1),fun _=>rfl⟩
theorem a8S {e:Nat->Nat->Rat} {K:Nat} (h:∀ i j,i<3->j<3->rsz (e i j)<=K):rsz (det 3 e)<=15*K+5:=by
 rw[b1G]
 have m:=fun a b=>fP a b
 have h00:=h 0 0 (by omega) (by omega)
 have h01:=h 0 1 (by omega) (by omega)
 have h02:=h 0 2 (by omega) (by omega)
 have h10:=h 1 0 (by omega) (by omega)
 have h11:=h 1 1 (by omega) (by omega)
 have h12:=h 1 2 (by omega) (by omega)
 have h20:=h 2 0 (by omega) (by omega)
 have h21:=h 2 1 (by omega) (by omega)
 have h22:=h 2 2 (by omega) (by omega)
 have a1:=fP (e 1 1) (e 2 2)
 have a2:=fP (e 1 2) (e 2 1)
 have a3:=uG (e 1 1*e 2 2) (e 1 2*e 2 1)
 have a4:=fP (e 0 0) (e 1 1*e 2 2-e 1 2*e 2 1)
 have b1:=fP (e 1 2) (e 2 0)
 have b2:=fP (e 1 0) (e 2 2)
 have b3:=uG (e 1 2*e 2 0) (e 1 0*e 2 2)
 have b4:=fP (e 0 1) (e 1 2*e 2 0-e 1 0*e 2 2)
 have c1:=fP (e 1 0) (e 2 1)
 have c2:=fP (e 1 1) (e 2 0)
 have c3:=uG (e 1 0*e 2 1) (e 1 1*e 2 0)
 have c4:=fP (e 0 2) (e 1 0*e 2 1-e 1 1*e 2 0)
 have d1:=mJ (e 0 0*(e 1 1*e 2 2-e 1 2*e 2 1)) (e 0 1*(e 1 2*e 2 0-e 1 0*e 2 2))
 have d2:=mJ (e 0 0*(e 1 1*e 2 2-e 1 2*e 2 1)+e 0 1*(e 1 2*e 2 0-e 1 0*e 2 2)) (e 0 2*(e 1 0*e 2 1-e 1 1*e 2 0))
 omega
theorem a1v (v:Value) (K:Nat) (e:Nat->Nat->Rat) (w:World) (h:qN w v 3 3 K e) (hK1:1<=K) (hK:K<=700000) :
  Calls Tryz.prog 49 #[v] w (GB (jT e) w):=by
 obtain⟨p,c,rfl,hl1,hl2⟩:=h.form
 go_enter Tryz.func49,Tryz.ntmps49
 go_wp2_with fail
 refine(TF _ 3 3 K e _ h (by omega) (by omega) (by omega) (by omega) (by omega)).mono ?_
 rintro x w1 ⟨b1,rb1,rfl,hM1,hb1⟩
 have ht:=hM1.toR (by omega) (by omega)
 go_wp2_with fail
 refine(a8n _ _ 3 3 3 K e (fun i j=>e j i) _ (h.below hb1) ht (by omega) (by omega) (by omega) (by omega) (by omega) (by omega) (by omega)).mono ?_
 rintro x w2 ⟨b2,rb2,rfl,hM2,hb2⟩
 have hp:=hM2.toR (by omega) (by omega)
 have hB2:=Below.tr hb1 hb2
 have hBr:Below w2.heap.size w2 w2:=Below.refl _ _
 obtain⟨g,hg⟩:∃ g:Nat->Nat->Rat,g=fun i j=>pU (e i) (fun k=>(fun i j=>e j i) k j) 3:=⟨_,rfl⟩
 rw[<-hg] at hp
 have b6C:∀ i j,i<3->j<3->rsz (g i j)<=400000000:=fun i j hi hj=>by have:=hp.rsz hi hj;omega
 have HPS:=Lib.hid b6C
 have HGG:Hid (∀ i j,g i j=pU (e i) (e j) 3):=Lib.hid (fun i j=>by rw[hg])
 clear b6C hg hM2
 go_wp2_with fail
 go_loopw [27,7,8,9,10,11,28,29,30,31,32,33,34,35,36,37,38,39,40,41,42,43,44,45,46,47,48] (fun i _ _ _ _ _ _ _ _ _ _ _ _ _ _ _ _ _ _ _ _ _ _ _ _ _ _ wr=>∃ k:Nat,k<=3/\i=.int .i64 (k:Nat)/\Hid (∀ i,i<k->allB 3 (iL e i)=true)/\Below w.heap.size w wr/\Below w2.heap.size w2 wr) (fun i _ _ _ _ _ _ _ _ _ _ _ _ _ _ _ _ _ _ _ _ _ _ _ _ _ _ _=>3-(intOf i).toNat)
 case atStart=>exact⟨0,by omega,rfl,Lib.hid (fun j hj=>by omega),hB2,hBr⟩
 case round =>
  obtain⟨k,hk,rfl,HI,hBw,hBp⟩:=hrel
  by_cases hk3:k<3
  ·have hkd:decide ((k:Int)<3)=true:=by simp;omega
   obtain⟨_,_,q,d,he,hlb,c0,hr⟩:=(hp.below hBp).at_ hk3
   cases he
   rw[Nat.zero_add] at c0
   go_wp2_with fail
   obtain⟨wo,rfl⟩:∃ wo:World,wo=wr:=⟨_,rfl⟩
   have b7G:Below wo.heap.size wo wo:=Below.refl _ _
   go_loopw [34,9,10,11,35,36,37,38,39,40,41,42,43,44,45,46,47] (fun i _ _ _ _ _ _ _ _ _ _ _ _ _ _ _ _ wr=>∃ l:Nat,l<=3/\i=.int .i64 (l:Nat)/\Hid (∀ j,j<l->iL e k j=true)/\Below wo.heap.size wo wr) (fun i _ _ _ _ _ _ _ _ _ _ _ _ _ _ _ _ _=>3-(intOf i).toNat)
   case atStart=>exact⟨0,by omega,rfl,Lib.hid (fun j hj=>by omega),b7G⟩
   case round =>
    obtain⟨l,hl,rfl,HJ,hBo⟩:=hrel
    by_cases hl3:l<3
    ·have hld:decide ((l:Int)<3)=true:=by simp;omega
     obtain⟨ba,oa,xg,xp,xn,xc,xh,xo,xm,xe,he,hla,y0,y1,y2,y3,hxq,hxn⟩:=(hr.below hBo).at_ hl3
     subst he
     have hx:=hxq.rq
     have hgs:=HPS.out k l hk3 hl3
     by_cases hkl:k=l
     ·subst hkl
      have b2i:rsz (((1:Int)):Rat)<=400000000:=by decide +kernel
      have qx:Bx (wr.alloc (.cells #[.bool xg,.slice xp xn xc,.bool xh,.slice xo xm xe] 30)) (wr.heap.size) [.bool xg,.slice xp xn xc,.bool xh,.slice xo xm xe]:=by have:=Bx.new wr [.bool xg,.slice xp xn xc,.bool xh,.slice xo xm xe] 30;simpa using this
      have xx:=(hx.alloc (.cells #[.bool xg,.slice xp xn xc,.bool xh,.slice xo xm xe] 30)).drew
      have Sx:(fun w':World=>w'.cell? ⟨wr.heap.size,0,none⟩=some (.bool xg)/\w'.cell? ⟨wr.heap.size,1,none⟩=some (.slice xp xn xc)/\w'.cell? ⟨wr.heap.size,2,none⟩=some (.bool xh)/\w'.cell? ⟨wr.heap.size,3,none⟩=some (.slice xo xm xe)/\wr.heap.size<w'.heap.size) (wr.alloc (.cells #[.bool xg,.slice xp xn xc,.bool xh,.slice xo xm xe] 30)).drew:=⟨qx.c0,qx.c1,qx.c2,qx.c3,qx.1⟩
      have Kx:∀ A B:World,(fun w':World=>w'.cell? ⟨wr.heap.size,0,none⟩=some (.bool xg)/\w'.cell? ⟨wr.heap.size,1,none⟩=some (.slice xp xn xc)/\w'.cell? ⟨wr.heap.size,2,none⟩=some (.bool xh)/\w'.cell? ⟨wr.heap.size,3,none⟩=some (.slice xo xm xe)/\wr.heap.size<w'.heap.size) A->Below A.heap.size A B->(fun w':World=>w'.cell? ⟨wr.heap.size,0,none⟩=some (.bool xg)/\w'.cell? ⟨wr.heap.size,1,none⟩=some (.slice xp xn xc)/\w'.cell? ⟨wr.heap.size,2,none⟩=some (.bool xh)/\w'.cell? ⟨wr.heap.size,3,none⟩=some (.slice xo xm xe)/\wr.heap.size<w'.heap.size) B:=by
       rintro A B ⟨a0,a1,a2,a3,a4⟩ hb
       have hs:=hb.size
       exact⟨dR hb a4 a0,dR hb a4 a1,dR hb a4 a2,dR hb a4 a3,by omega⟩
      go_wp2_with fail
      have tk1:True:=trivial
      have tk2:True:=trivial
      go_region_held3 (fun w':World=>w'.cell? ⟨wr.heap.size,0,none⟩=some (.bool xg)/\w'.cell? ⟨wr.heap.size,1,none⟩=some (.slice xp xn xc)/\w'.cell? ⟨wr.heap.size,2,none⟩=some (.bool xh)/\w'.cell? ⟨wr.heap.size,3,none⟩=some (.slice xo xm xe)/\wr.heap.size<w'.heap.size) (first|with_reducible exact Sx|with_reducible exact Kx _ _ (by assumption) (by assumption)|(simp;done))
       (first
        | (((have:=tk1;clear tk1;(with_reducible refine(kC 1 _ (by omega) (by omega)).mono ?_);rintro x wx1 ⟨v1,rfl,hwx,a7E⟩;have xxx:=xx.below a7E)))
        | (((have:=tk2;clear tk2;(with_reducible refine(qQ _ _ _ _ _ xxx hwx (by omega) b2i).mono ?_);rintro x wx2 ⟨rfl,hbx2⟩))))
      have b1L:Below wo.heap.size wo wx2:=Below.tr (Below.tr (Below.al hBo (.cells #[.bool xg,.slice xp xn xc,.bool xh,.slice xo xm xe] 30)).drew a7E) hbx2
      have HBx:=Lib.hid b1L
      have hgl:g k k=pU (e k) (e k) 3:=HGG.out k k
      have hcz:=rD (g k k) (1:Rat)
      have hid:idE k k=(1:Rat):=by unfold idE;rw[if_pos rfl]
      have hiff:iL e k k=true↔qP (g k k) (1:Rat)=0:=by rw[hcz,hgl];unfold iL;rw[hid];simp
      clear hcz hid hgl
      by_cases hok:iL e k k=true
      ·have hc0:(qP (g k k) (1:Rat)==0)=true:=by simpa using hiff.1 hok
       have hc1:(qP (g k k) (1:Rat) != 0)=false:=by simpa using hiff.1 hok
       have HC:=Lib.hid hok
       clear hok hiff
       go_wp2_with fail
       go_roundw
       case rel=>exact⟨k+1,by omega,by go_num,Lib.hid (fun j hj=>if e:j<k then HJ.out j e else by rw[show j=k by omega];exact HC.out),HBx.out⟩
       case measure=>simp[intOf];omega
      ·have hok2:iL e k k=false:=by simpa using hok
       have hc0:(qP (g k k) (1:Rat)==0)=false:=by simpa using mt hiff.2 hok
       have hc1:(qP (g k k) (1:Rat) != 0)=true:=by simpa using mt hiff.2 hok
       have HN:Hid (jT e=false):=Lib.hid (by unfold jT;rw[vV (ok:=fun i=>allB 3 (iL e i)) hk3 (vV hl3 hok2)];rfl)
       clear hok hiff hok2
       go_wp2_with fail
       go_ret
       exact⟨fA HN.out.symm,Below.tr hBw HBx.out⟩
     ·have hki:¬ ((k:Int)=(l:Int)):=by omega
      have hkn:(k==l)=false:=by simpa using hkl
      have hkl:=Lib.hid hkl
      have b2i:rsz (((0:Int)):Rat)<=400000000:=by decide +kernel
      have qx:Bx (wr.alloc (.cells #[.bool xg,.slice xp xn xc,.bool xh,.slice xo xm xe] 30)) (wr.heap.size) [.bool xg,.slice xp xn xc,.bool xh,.slice xo xm xe]:=by have:=Bx.new wr [.bool xg,.slice xp xn xc,.bool xh,.slice xo xm xe] 30;simpa using this
      have xx:=(hx.alloc (.cells #[.bool xg,.slice xp xn xc,.bool xh,.slice xo xm xe] 30)).drew
      have Sx:(fun w':World=>w'.cell? ⟨wr.heap.size,0,none⟩=some (.bool xg)/\w'.cell? ⟨wr.heap.size,1,none⟩=some (.slice xp xn xc)/\w'.cell? ⟨wr.heap.size,2,none⟩=some (.bool xh)/\w'.cell? ⟨wr.heap.size,3,none⟩=some (.slice xo xm xe)/\wr.heap.size<w'.heap.size) (wr.alloc (.cells #[.bool xg,.slice xp xn xc,.bool xh,.slice xo xm xe] 30)).drew:=⟨qx.c0,qx.c1,qx.c2,qx.c3,qx.1⟩
      have Kx:∀ A B:World,(fun w':World=>w'.cell? ⟨wr.heap.size,0,none⟩=some (.bool xg)/\w'.cell? ⟨wr.heap.size,1,none⟩=some (.slice xp xn xc)/\w'.cell? ⟨wr.heap.size,2,none⟩=some (.bool xh)/\w'.cell? ⟨wr.heap.size,3,none⟩=some (.slice xo xm xe)/\wr.heap.size<w'.heap.size) A->Below A.heap.size A B->(fun w':World=>w'.cell? ⟨wr.heap.size,0,none⟩=some (.bool xg)/\w'.cell? ⟨wr.heap.size,1,none⟩=some (.slice xp xn xc)/\w'.cell? ⟨wr.heap.size,2,none⟩=some (.bool xh)/\w'.cell? ⟨wr.heap.size,3,none⟩=some (.slice xo xm xe)/\wr.heap.size<w'.heap.size) B:=by
       rintro A B ⟨a0,a1,a2,a3,a4⟩ hb
       have hs:=hb.size
       exact⟨dR hb a4 a0,dR hb a4 a1,dR hb a4 a2,dR hb a4 a3,by omega⟩
      go_wp2_with fail
      have tk1:True:=trivial
      have tk2:True:=trivial
      go_region_held3 (fun w':World=>w'.cell? ⟨wr.heap.size,0,none⟩=some (.bool xg)/\w'.cell? ⟨wr.heap.size,1,none⟩=some (.slice xp xn xc)/\w'.cell? ⟨wr.heap.size,2,none⟩=some (.bool xh)/\w'.cell? ⟨wr.heap.size,3,none⟩=some (.slice xo xm xe)/\wr.heap.size<w'.heap.size) (first|with_reducible exact Sx|with_reducible exact Kx _ _ (by assumption) (by assumption)|(simp;done))
       (first
        | (((have:=tk1;clear tk1;(with_reducible refine(kC 0 _ (by omega) (by omega)).mono ?_);rintro x wx1 ⟨v1,rfl,hwx,a7E⟩;have xxx:=xx.below a7E)))
        | (((have:=tk2;clear tk2;(with_reducible refine(qQ _ _ _ _ _ xxx hwx (by omega) b2i).mono ?_);rintro x wx2 ⟨rfl,hbx2⟩))))
      have b1L:Below wo.heap.size wo wx2:=Below.tr (Below.tr (Below.al hBo (.cells #[.bool xg,.slice xp xn xc,.bool xh,.slice xo xm xe] 30)).drew a7E) hbx2
      have HBx:=Lib.hid b1L
      have hgl:g k l=pU (e k) (e l) 3:=HGG.out k l
      have hcz:=rD (g k l) (0:Rat)
      have hid:idE k l=(0:Rat):=by unfold idE;rw[if_neg hkl.out]
      have hiff:iL e k l=true↔qP (g k l) (0:Rat)=0:=by rw[hcz,hgl];unfold iL;rw[hid];simp
      clear hcz hid hgl
      by_cases hok:iL e k l=true
      ·have hc0:(qP (g k l) (0:Rat)==0)=true:=by simpa using hiff.1 hok
       have hc1:(qP (g k l) (0:Rat) != 0)=false:=by simpa using hiff.1 hok
       have HC:=Lib.hid hok
       clear hok hiff
       go_wp2_with fail
       go_roundw
       case rel=>exact⟨l+1,by omega,by go_num,Lib.hid (fun j hj=>if e:j<l then HJ.out j e else by rw[show j=l by omega];exact HC.out),HBx.out⟩
       case measure=>simp[intOf];omega
      ·have hok2:iL e k l=false:=by simpa using hok
       have hc0:(qP (g k l) (0:Rat)==0)=false:=by simpa using mt hiff.2 hok
       have hc1:(qP (g k l) (0:Rat) != 0)=true:=by simpa using mt hiff.2 hok
       have HN:Hid (jT e=false):=Lib.hid (by unfold jT;rw[vV (ok:=fun i=>allB 3 (iL e i)) hk3 (vV hl3 hok2)];rfl)
       clear hok hiff hok2
       go_wp2_with fail
       go_ret
       exact⟨fA HN.out.symm,Below.tr hBw HBx.out⟩
    ·have he:l=3:=by omega
     subst he
     have HA:Hid (allB 3 (iL e k)=true):=Lib.hid (gJ.2 HJ.out)
     go_wp2_with fail
     go_roundw
     case rel=>exact⟨k+1,by omega,by go_num,Lib.hid (fun j hj=>if e:j<k then HI.out j e else by rw[show j=k by omega];exact HA.out),Below.tr hBw hBo,Below.tr hBp hBo⟩
     case measure=>simp[intOf];omega
  ·have he:k=3:=by omega
   subst he
   have HA:Hid (allB 3 (fun i=>allB 3 (iL e i))=true):=Lib.hid (gJ.2 HI.out)
   go_wp2_with fail
   refine(KW _ 3 K e _ (h.below hBw) (by omega) (by omega) hK1 (by show K*125<=99999999;omega)).mono ?_
   rintro x w5 ⟨v5,rfl,hi5,hb5⟩
   obtain⟨dg,dp,dn,dc,dh,do_,dm,de,rfl⟩:=hi5.form
   have hdz:=a8S (e:=e) (K:=K) (fun i j hi hj=>h.rsz hi hj)
   have hB5:=Below.tr hBw hb5
   have b8h:rsz (((1:Int)):Rat)<=400000000:=by decide +kernel
   have qd:Bx (w5.alloc (.cells #[.bool dg,.slice dp dn dc,.bool dh,.slice do_ dm de] 30)) (w5.heap.size) [.bool dg,.slice dp dn dc,.bool dh,.slice do_ dm de]:=by have:=Bx.new w5 [.bool dg,.slice dp dn dc,.bool dh,.slice do_ dm de] 30;simpa using this
   have xd:=(hi5.alloc (.cells #[.bool dg,.slice dp dn dc,.bool dh,.slice do_ dm de] 30)).drew
   have Sd:(fun w':World=>w'.cell? ⟨w5.heap.size,0,none⟩=some (.bool dg)/\w'.cell? ⟨w5.heap.size,1,none⟩=some (.slice dp dn dc)/\w'.cell? ⟨w5.heap.size,2,none⟩=some (.bool dh)/\w'.cell? ⟨w5.heap.size,3,none⟩=some (.slice do_ dm de)/\w5.heap.size<w'.heap.size) (w5.alloc (.cells #[.bool dg,.slice dp dn dc,.bool dh,.slice do_ dm de] 30)).drew:=⟨qd.c0,qd.c1,qd.c2,qd.c3,qd.1⟩
   have Kd:∀ A B:World,(fun w':World=>w'.cell? ⟨w5.heap.size,0,none⟩=some (.bool dg)/\w'.cell? ⟨w5.heap.size,1,none⟩=some (.slice dp dn dc)/\w'.cell? ⟨w5.heap.size,2,none⟩=some (.bool dh)/\w'.cell? ⟨w5.heap.size,3,none⟩=some (.slice do_ dm de)/\w5.heap.size<w'.heap.size) A->Below A.heap.size A B->(fun w':World=>w'.cell? ⟨w5.heap.size,0,none⟩=some (.bool dg)/\w'.cell? ⟨w5.heap.size,1,none⟩=some (.slice dp dn dc)/\w'.cell? ⟨w5.heap.size,2,none⟩=some (.bool dh)/\w'.cell? ⟨w5.heap.size,3,none⟩=some (.slice do_ dm de)/\w5.heap.size<w'.heap.size) B:=by
    rintro A B ⟨a0,a1,a2,a3,a4⟩ hb
    have hs:=hb.size
    exact⟨dR hb a4 a0,dR hb a4 a1,dR hb a4 a2,dR hb a4 a3,by omega⟩
   go_wp2_with fail
   have tk1:True:=trivial
   have tk2:True:=trivial
   go_region_held3 (fun w':World=>w'.cell? ⟨w5.heap.size,0,none⟩=some (.bool dg)/\w'.cell? ⟨w5.heap.size,1,none⟩=some (.slice dp dn dc)/\w'.cell? ⟨w5.heap.size,2,none⟩=some (.bool dh)/\w'.cell? ⟨w5.heap.size,3,none⟩=some (.slice do_ dm de)/\w5.heap.size<w'.heap.size) (first|with_reducible exact Sd|with_reducible exact Kd _ _ (by assumption) (by assumption)|(simp;done))
    (first
     | (((have:=tk1;clear tk1;(with_reducible refine(kC 1 _ (by omega) (by omega)).mono ?_);rintro x wd1 ⟨v1,rfl,hwd,hbd1⟩;have xxd:=xd.below hbd1)))
     | (((have:=tk2;clear tk2;(with_reducible refine(qQ _ _ _ _ _ xxd hwd (by omega) b8h).mono ?_);rintro x wd2 ⟨rfl,hbd2⟩))))
   have b6i:Below w.heap.size w wd2:=Below.tr (Below.tr (Below.al hB5 (.cells #[.bool dg,.slice dp dn dc,.bool dh,.slice do_ dm de] 30)).drew hbd1) hbd2
   have hcz:=rD (det 3 e) (1:Rat)
   have HT:Hid ((qP (det 3 e) (1:Rat)==0)=jT e):=Lib.hid (by
    unfold jT
    rw[HA.out,Bool.true_and,Bool.eq_iff_iff]
    simp only[beq_iff_eq,decide_eq_true_eq]
    exact hcz)
   have HBd:=Lib.hid b6i
   clear hcz b6i
   go_wp2_with fail
   go_ret
   exact⟨fA HT.out,HBd.out⟩
set_option maxHeartbeats 2000000
theorem LD {P:Program} {ops:Array Oper} {o:Oper} {a:Act} {w:World} {K:Act->World->Prop} {Q:Exit->Act->World->Prop} {E:Prop}
  (hg:o.guard=none) (s x:Operand) (t:TypeId) (hop:o.op=Op.call { callee:=Callee.builtin Builtin.append,args:=#[s,x],argTypes:=#[t,t] })
  (base:Nat) (e:TypeId) (i:TypeInfo) (z:Value) (size bytes:Nat) (h1:P.underlying t=some (.slice e)) (h2:P.info? e=some i) (h3:i.zero=some z) (h4:i.size=size) (h5:i.bytes=bytes) (h6:z.cells.size=size) (h7:0<size)
  (v:Value) (n:Nat) (xs:List Value) (hs:a.eval s=v) (hown:w.ownsRow base e size v n xs)
  (ad:Addr) (m c:Nat) (news:List Value) (hx:a.eval x=.slice (some ad) m c) (hn:news.length=m*size) (hc:∀ j u,news[j]?=some u->w.cell? (ad.add j)=some u) (h1c:∀ u ∈ news,u.oneCell'=true)
  (b1:n+m<=maxLen) (b2:(n+m)*bytes<=140737488355328) (hbase:base<=w.heap.size)
  (hK:∀ v' w',w'.ownsRow base e size v' (n+m) (xs++news)->w.grownBy w' v.ownBlock->(v'=.slice none 0 0↔v=.slice none 0 0/\m=0)->K (a.put o.dst v') w') :
  if Region.wanted o (yielded ops a.tmps)=true then Oper.wp P o a w K Q else E:=by
 have hw:Region.wanted o (yielded ops a.tmps)=true:=by simp[Region.wanted,hg]
 rw[if_pos hw]
 exact wp_append_own w s x t hop base e i z size bytes h1 h2 h3 h4 h5 h6 h7 v n xs hs hown ad m c news hx hn hc h1c b1 b2 hbase hK
theorem FW {P:Program} {ops:Array Oper} {o:Oper} {a:Act} {w:World} {K:Act->World->Prop} {Q:Exit->Act->World->Prop} {E:Prop}
  (hg:o.guard=none) (s x:Operand) (t:TypeId) (hop:o.op=Op.call { callee:=Callee.builtin Builtin.append,args:=#[s,x],argTypes:=#[t,t] })
  (e:TypeId) (i:TypeInfo) (h1:P.underlying t=some (.slice e)) (h2:P.info? e=some i)
  (b:Addr) (hs:a.eval s=.slice (some b) 0 0) {q:Option Addr} (hx:a.eval x=.slice q 0 0)
  (hK:K (a.put o.dst (.slice (some b) 0 0)) w) :
  if Region.wanted o (yielded ops a.tmps)=true then Oper.wp P o a w K Q else E:=by
 have hw:Region.wanted o (yielded ops a.tmps)=true:=by simp[Region.wanted,hg]
 rw[if_pos hw]
 have hrun:(Builtin.append_ #[t,t] o.type #[.slice (some b) 0 0,.slice q 0 0]).run P w=.ok (.slice (some b) 0 0) w:=by
  cases q<;>simp[Builtin.append_,run_underlying h1,sizeOf,typeInfo,h2,Builtin.lenOf,Builtin.firstCells,loadCells,loadCellsFrom,Sem.run_bind,storeCells]
 unfold Oper.wp
 simp[execOp,hop,resolve,invoke,builtin,hs,hx,hrun,Result.andThen]
 exact hK
theorem a6v {neg:Bool} {l:List Nat} {k:Nat} (hk:k<l.length) (h:1000000000<=gr l k):GH neg l=false:=by
 cases hv:GH neg l with
 | false=>rfl
 | true =>
  have:=(GK.1 hv).1.1 _ (a7u hk)
  rw[bG] at this
  omega
theorem a6u {neg:Bool} {l:List Nat} (hl:l≠[]) (h:∀ j,j<l.length->gr l j<1000000000):GH neg l=((gr l (l.length-1):Int) != 0):=by
 rw[YS hl]
 have:(l.any fun g=>decide (1000000000<=g))=false:=by
  rw[List.any_eq_false]
  intro g hg
  obtain⟨i,hi,rfl⟩:=List.getElem_of_mem hg
  have:=h i hi
  rw[oD hi] at this
  simp;omega
 rw[this,Bool.eq_iff_iff]
 simp
theorem jD (v:Value) (ok:Bool) (x:Int) (w:World) (h:fJ w v ok x) :
  Calls Tryz.prog 123 #[v] w fun e w'=>e=.returned (.bool ok)/\Below w.heap.size w w':=by
 obtain⟨neg,s,l,rfl,hs,hb,hx,hok⟩:=h
 have HOK:=Lib.hid hok
 clear hok hx hb
 rcases hs with⟨p,rfl,rfl⟩|⟨b,o,c,rfl,h2,h3,h4,h5⟩
 ·go_enter Tryz.func123,Tryz.ntmps123
  go_wp2
  go_loop [4,8,9,10,11,12,13,14,15,16,17,18] (fun i _ _ _ _ _ _ _ _ _ _ _=>i=.int .i64 0) (fun _ _ _ _ _ _ _ _ _ _ _ _=>0)
  case atStart=>rfl
  case round =>
   subst hrel
   go_wp2
   go_ret
   exact⟨fA (by rw[HOK.out,vS]),(Below.refl _ _).alloc (Nat.le_refl _) _⟩
 ·have H5:=Lib.hid h5
  have hl:l.length<=9223372036854775807:=by omega
  clear h5
  go_enter Tryz.func123,Tryz.ntmps123
  go_wp2
  go_loop [4,8,9,10,11,12,13,14,15,16,17,18] (fun i _ _ _ _ _ _ _ _ _ _ _=>∃ k:Nat,k<=l.length/\i=.int .i64 k/\Hid (∀ j,j<k->gr l j<1000000000)) (fun i _ _ _ _ _ _ _ _ _ _ _=>l.length-(intOf i).toNat)
  case atStart=>exact⟨0,by omega,rfl,fun j hj=>by omega⟩
  case round =>
   obtain⟨k,hk,rfl,hj⟩:=hrel
   by_cases hlt:k<l.length
   ·have hc:=H5.out k hlt
    by_cases hg:1000000000<=gr l k
    ·have HF:=Lib.hid (a6v (neg:=neg) hlt hg)
     have hg2:decide ((1000000000:Int)<=gr l k)=true:=by simp;omega
     go_wp2
     go_ret
     exact⟨fA (by rw[HOK.out,HF.out]),(Below.refl _ _).alloc (Nat.le_refl _) _⟩
    ·have hg3:gr l k<1000000000:=by omega
     have hg2:decide ((1000000000:Int)<=gr l k)=false:=by simp;omega
     have HG:=Lib.hid hg3
     clear hg
     go_wp2
     go_round
     case rel=>exact⟨k+1,by omega,by go_num,fun j h=>if e:j<k then hj.out j e else by rw[show j=k by omega];exact HG.out⟩
     case measure=>simp[intOf]<;>omega
   ·obtain rfl:k=l.length:=by omega
    by_cases hz:l=[]
    ·subst hz
     go_wp2
     go_ret
     exact⟨fA (by rw[HOK.out];rfl),(Below.refl _ _).alloc (Nat.le_refl _) _⟩
    ·have hp:0<l.length:=List.length_pos_iff.2 hz
     have HD:=Lib.hid (a6u (neg:=neg) hz hj.out)
     have hc:=H5.out (l.length-1) (by omega)
     have hidx:((l.length:Int)-1).toNat=l.length-1:=by omega
     have hne:((l.length:Int)==0)=false:=by simp;omega
     go_wp2
     go_ret
     exact⟨fA (by rw[HOK.out,HD.out]),(Below.refl _ _).alloc (Nat.le_refl _) _⟩
theorem bU.YW {w:World} {b:Nat} (h:b<w.heap.size):bU w (.agg #[.bool false,.slice (some ⟨b,0,none⟩) 0 0]) 0:=by
 refine⟨.slice (some ⟨b,0,none⟩) 0 0,by simp,.inr ⟨b,0,0,by simp[dQ],by simp[dQ],by omega,h,fun i hi=>?_⟩⟩
 simp[dQ] at hi
theorem a6h (v:Value) (x:Int) (w:World) (h:fJ w v false x) :
  Calls Tryz.prog 120 #[v] w (kP x w):=by
 obtain⟨b,p,n,c,rfl⟩:=h.raw.form
 have HX:=Lib.hid h.zero
 have aY:Below w.heap.size w w:=Below.refl _ _
 go_enter Tryz.func120,Tryz.ntmps120
 go_wp2_with fail
 obtain⟨hA1,h0,f0⟩:=bx2 w rfl [.bool b,.slice p n c] 28 [.bool false,.slice none 0 0] 28
 have g0:=(h.below hA1)
 (with_reducible refine(jD _ _ _ _ g0).mono ?_)
 rintro e w1 ⟨rfl,hb1⟩
 have dF:=(f0.to hb1)
 obtain⟨a0,c0,b0,d0⟩:=dF.cf2
 have e0:=(Below.tr (Below.tr aY hA1) hb1)
 go_wp2_with fail
 exact bodyPost_ret (v:=.agg #[.bool false,.slice none 0 0]) (by simp[results,Tryz.results120,go_sem,a0,c0,b0,d0]) rfl ⟨_,rfl,by rw[HX.out];exact bU.zero _,(Below.aF e0 (b:=w.heap.size+1) (by omega) (.bool false) (.slice none 0 0))⟩
theorem a6g (x:Int) (w:World) (b:Bool) (g o n c:Nat) (h:bU w (.agg #[.bool b,.slice (some ⟨g,o,none⟩) n c]) x) (hg:g<w.heap.size) (hc:∀ i,i<(dig x.natAbs).length->w.cell? ⟨g,o+i,none⟩=some (.int .u32 (gr (dig x.natAbs) i:Nat))) (hx:b=decide (x<0)) (hn:n=(dig x.natAbs).length) (hl:n<=1000000000) :
  Calls Tryz.prog 120 #[.agg #[.bool b,.slice (some ⟨g,o,none⟩) n c]] w (kP x w):=by
 obtain⟨i0,hi,hz0,hz1,hz2⟩:=info_parts iI
 have HC:=Lib.hid hc
 have HX:=Lib.hid hx
 have HN:=Lib.hid hn
 clear hc hx hn
 have aY:Below w.heap.size w w:=Below.refl _ _
 go_enter Tryz.func120,Tryz.ntmps120
 go_wp2_with fail
 obtain⟨hA1,e0,g0⟩:=bx2 w rfl [.bool b,.slice (some ⟨g,o,none⟩) n c] 28 [.bool false,.slice none 0 0] 28
 have j0:=(h.below hA1).QG
 (with_reducible refine(jD _ _ _ _ j0).mono ?_)
 rintro e w1 ⟨rfl,hb1⟩
 have bF:=(e0.to hb1)
 have dF:=(g0.to hb1)
 have b0:=(Below.tr (Below.tr aY hA1) hb1)
 have h_1:=((h.below hA1).below hb1)
 have q0d:=(bF).drew
 have q1d:=(dF).drew
 have hBd:=(b0).drew
 have q1a:=((dF).alloc (.cells #[] 118)).drew
 have a0:=q1a.c0
 have a1:=q1a.c1
 have a2:=q1a.f0
 have a3:=q1a.f1
 have d0:=(dF).c0
 have d1:=(dF).c1
 have d2:=(dF).f0
 have d3:=(dF).f1
 have d4:=(dF).1
 have d5:=(bF).1
 have hRd:=(h_1).drew
 have S0:(fun w':World=>w'.cell? ⟨w.heap.size,0,none⟩=some (.bool b)/\w'.cell? ⟨w.heap.size,1,none⟩=some (.slice (some ⟨g,o,none⟩) n c)/\w.heap.size+1<w'.heap.size) w1.drew:=⟨q0d.c0,q0d.c1,q1d.1⟩
 have S1:(fun w':World=>w'.cell? ⟨w.heap.size,0,none⟩=some (.bool b)/\w'.cell? ⟨w.heap.size,1,none⟩=some (.slice (some ⟨g,o,none⟩) n c)/\w.heap.size+1<w'.heap.size) (w1.alloc (.cells #[] 118)).drew:=⟨((bF).alloc (.cells #[] 118)).drew.c0,((bF).alloc (.cells #[] 118)).drew.c1,((dF).alloc (.cells #[] 118)).drew.1⟩
 have S2:∀ x0 x1:Value,(fun w':World=>w'.cell? ⟨w.heap.size,0,none⟩=some (.bool b)/\w'.cell? ⟨w.heap.size,1,none⟩=some (.slice (some ⟨g,o,none⟩) n c)/\w.heap.size+1<w'.heap.size) (((w1.setCell ⟨w.heap.size+1,0,none⟩ x0).setCell ⟨w.heap.size+1,1,none⟩ x1).alloc (.cells #[] 118)).drew:=fun x0 x1=>⟨(((bF).aJ (b:=w.heap.size+1) (by omega) x0 x1).alloc (.cells #[] 118)).drew.c0,(((bF).aJ (b:=w.heap.size+1) (by omega) x0 x1).alloc (.cells #[] 118)).drew.c1,(((dF).store2 x0 x1).alloc (.cells #[] 118)).drew.1⟩
 have K:∀ A B:World,(fun w':World=>w'.cell? ⟨w.heap.size,0,none⟩=some (.bool b)/\w'.cell? ⟨w.heap.size,1,none⟩=some (.slice (some ⟨g,o,none⟩) n c)/\w.heap.size+1<w'.heap.size) A->Below A.heap.size A B->(fun w':World=>w'.cell? ⟨w.heap.size,0,none⟩=some (.bool b)/\w'.cell? ⟨w.heap.size,1,none⟩=some (.slice (some ⟨g,o,none⟩) n c)/\w.heap.size+1<w'.heap.size) B:=by
  rintro A B ⟨h0,h1,h2⟩ hb
  have hs:=hb.size
  exact⟨by rw[(eX hb).1 _ _ (by omega)];exact h0,by rw[(eX hb).1 _ _ (by omega)];exact h1,by omega⟩
 have KS:∀ (A:World) (x0 x1:Value),(fun w':World=>w'.cell? ⟨w.heap.size,0,none⟩=some (.bool b)/\w'.cell? ⟨w.heap.size,1,none⟩=some (.slice (some ⟨g,o,none⟩) n c)/\w.heap.size+1<w'.heap.size) A->(fun w':World=>w'.cell? ⟨w.heap.size,0,none⟩=some (.bool b)/\w'.cell? ⟨w.heap.size,1,none⟩=some (.slice (some ⟨g,o,none⟩) n c)/\w.heap.size+1<w'.heap.size) ((A.setCell ⟨w.heap.size+1,0,none⟩ x0).setCell ⟨w.heap.size+1,1,none⟩ x1):=by
  rintro A x0 x1 ⟨h0,h1,h2⟩
  simp[go_sem,h0,h1,h2]
 go_wp2_with fail
 have tk1:True:=trivial
 go_region_held3 (fun w':World=>w'.cell? ⟨w.heap.size,0,none⟩=some (.bool b)/\w'.cell? ⟨w.heap.size,1,none⟩=some (.slice (some ⟨g,o,none⟩) n c)/\w.heap.size+1<w'.heap.size) (first|with_reducible exact S0|with_reducible exact S1|with_reducible exact S2 _ _|with_reducible exact K _ _ S0 (by assumption)|with_reducible exact K _ _ (by assumption) ((Below.refl _ _).alloc (Nat.le_refl _) _)|with_reducible exact KS _ _ _ (by assumption)|(simp;done))
  (first
   | ((have:=tk1);clear tk1;refine LD rfl _ _ 26 rfl w1.drew.heap.size 118 i0 (.int .u32 0) 1 4 Tryz.underlying26 hi hz0 hz1 hz2 rfl (by decide) _ _ _ rfl (World.ownsRow_made w1.drew #[] 0 (Nat.le_refl _) (by simp[maxLen]) (by simp)) ⟨g,o,none⟩ n c (cells32 (dig x.natAbs)) rfl (by rw[HN.out];exact jA _) (mM fun i hi=>(World.cell?_alloc_lt _ _ ⟨g,o+i,none⟩ (Nat.lt_of_lt_of_le hg hBd.size)).trans ((hBd.cell (p:=⟨g,o+i,none⟩) hg).trans (HC.out i hi))) (kR _) (by unfold maxLen;omega) (by omega) (by simp) ?_;intro v2 w2 hown hgrow _;have hbw:Below w1.drew.heap.size w1.drew w2:=((Below.refl _ _).alloc (Nat.le_refl _) _).grown hgrow (by simp) (fun j e=>Nat.le_of_eq (Option.some.inj e));have hR2:=Rd.bZ (l:=dig x.natAbs) (by rw[<-HN.out];simpa using hown);obtain⟨p2,c2,rfl,_,_⟩:=hR2.form;have q1w:=q1d.to hbw;have r0:=q1w.c0;have r1:=q1w.c1;have f0:=q1w.f0;have f1:=q1w.f1))
 go_wp2_with fail
 exact bodyPost_ret (v:=.agg #[.bool b,.slice p2 (dig x.natAbs).length c2]) (by simp[results,Tryz.results120,go_sem,r0,r1]) rfl ⟨_,rfl,bU.aF ⟨_,by rw[HX.out],hR2⟩ q1w rfl rfl _ _,Below.aF (Below.tr hBd hbw) (by omega) _ _⟩
theorem a2X (p:Option Addr) (w:World) (h:bU w (.agg #[.bool false,.slice p 0 0]) 0) :
  Calls Tryz.prog 120 #[.agg #[.bool false,.slice p 0 0]] w (kP 0 w):=by
 obtain⟨i0,hi,hz0,hz1,hz2⟩:=info_parts iI
 have aY:Below w.heap.size w w:=Below.refl _ _
 go_enter Tryz.func120,Tryz.ntmps120
 go_wp2_with fail
 obtain⟨hA1,e0,g0⟩:=bx2 w rfl [.bool false,.slice p 0 0] 28 [.bool false,.slice none 0 0] 28
 have j0:=(h.below hA1).QG
 (with_reducible refine(jD _ _ (0:Int) _ j0).mono ?_)
 rintro e w1 ⟨rfl,hb1⟩
 have bF:=(e0.to hb1)
 have dF:=(g0.to hb1)
 have b0:=(Below.tr (Below.tr aY hA1) hb1)
 have h_1:=((h.below hA1).below hb1)
 have q0d:=(bF).drew
 have q1d:=(dF).drew
 have hBd:=(b0).drew
 have q1a:=((dF).alloc (.cells #[] 118)).drew
 have a0:=q1a.c0
 have a1:=q1a.c1
 have a2:=q1a.f0
 have a3:=q1a.f1
 have d0:=(dF).c0
 have d1:=(dF).c1
 have d2:=(dF).f0
 have d3:=(dF).f1
 have d4:=(dF).1
 have d5:=(bF).1
 have hRd:=(h_1).drew
 have S0:(fun w':World=>w'.cell? ⟨w.heap.size,0,none⟩=some (.bool false)/\w'.cell? ⟨w.heap.size,1,none⟩=some (.slice p 0 0)/\w.heap.size+1<w'.heap.size) w1.drew:=⟨q0d.c0,q0d.c1,q1d.1⟩
 have S1:(fun w':World=>w'.cell? ⟨w.heap.size,0,none⟩=some (.bool false)/\w'.cell? ⟨w.heap.size,1,none⟩=some (.slice p 0 0)/\w.heap.size+1<w'.heap.size) (w1.alloc (.cells #[] 118)).drew:=⟨((bF).alloc (.cells #[] 118)).drew.c0,((bF).alloc (.cells #[] 118)).drew.c1,((dF).alloc (.cells #[] 118)).drew.1⟩
 have S2:∀ x0 x1:Value,(fun w':World=>w'.cell? ⟨w.heap.size,0,none⟩=some (.bool false)/\w'.cell? ⟨w.heap.size,1,none⟩=some (.slice p 0 0)/\w.heap.size+1<w'.heap.size) (((w1.setCell ⟨w.heap.size+1,0,none⟩ x0).setCell ⟨w.heap.size+1,1,none⟩ x1).alloc (.cells #[] 118)).drew:=fun x0 x1=>⟨(((bF).aJ (b:=w.heap.size+1) (by omega) x0 x1).alloc (.cells #[] 118)).drew.c0,(((bF).aJ (b:=w.heap.size+1) (by omega) x0 x1).alloc (.cells #[] 118)).drew.c1,(((dF).store2 x0 x1).alloc (.cells #[] 118)).drew.1⟩
 have K:∀ A B:World,(fun w':World=>w'.cell? ⟨w.heap.size,0,none⟩=some (.bool false)/\w'.cell? ⟨w.heap.size,1,none⟩=some (.slice p 0 0)/\w.heap.size+1<w'.heap.size) A->Below A.heap.size A B->(fun w':World=>w'.cell? ⟨w.heap.size,0,none⟩=some (.bool false)/\w'.cell? ⟨w.heap.size,1,none⟩=some (.slice p 0 0)/\w.heap.size+1<w'.heap.size) B:=by
  rintro A B ⟨h0,h1,h2⟩ hb
  have hs:=hb.size
  exact⟨by rw[(eX hb).1 _ _ (by omega)];exact h0,by rw[(eX hb).1 _ _ (by omega)];exact h1,by omega⟩
 have KS:∀ (A:World) (x0 x1:Value),(fun w':World=>w'.cell? ⟨w.heap.size,0,none⟩=some (.bool false)/\w'.cell? ⟨w.heap.size,1,none⟩=some (.slice p 0 0)/\w.heap.size+1<w'.heap.size) A->(fun w':World=>w'.cell? ⟨w.heap.size,0,none⟩=some (.bool false)/\w'.cell? ⟨w.heap.size,1,none⟩=some (.slice p 0 0)/\w.heap.size+1<w'.heap.size) ((A.setCell ⟨w.heap.size+1,0,none⟩ x0).setCell ⟨w.heap.size+1,1,none⟩ x1):=by
  rintro A x0 x1 ⟨h0,h1,h2⟩
  simp[go_sem,h0,h1,h2]
 go_wp2_with fail
 go_region_held3 (fun w':World=>w'.cell? ⟨w.heap.size,0,none⟩=some (.bool false)/\w'.cell? ⟨w.heap.size,1,none⟩=some (.slice p 0 0)/\w.heap.size+1<w'.heap.size) (first|with_reducible exact S0|with_reducible exact S1|with_reducible exact S2 _ _|with_reducible exact K _ _ S0 (by assumption)|with_reducible exact K _ _ (by assumption) ((Below.refl _ _).alloc (Nat.le_refl _) _)|with_reducible exact KS _ _ _ (by assumption)|(simp;done))
  (refine FW rfl _ _ 26 rfl 118 i0 Tryz.underlying26 hi _ rfl rfl ?_)
 go_wp2_with fail
 exact bodyPost_ret (v:=.agg #[.bool false,.slice (some ⟨w1.heap.size,0,none⟩) 0 0]) (by simp[results,Tryz.results120,go_sem,d0,d1,d2,d3,d4]) rfl ⟨_,rfl,bU.YW (by simp[World.setCell]),(Below.al (Below.aF b0 (by omega) _ _) _).drew⟩
theorem a2Y (v:Value) (ok:Bool) (x:Int) (w:World) (h:fJ w v ok x) (hl:isz x<=1000000000) :
  Calls Tryz.prog 120 #[v] w (kP x w):=by
 cases ok
 ·exact a6h v x w h
 ·have hi:=h.int
  obtain⟨s,rfl,hs⟩:=hi
  rcases hs with⟨p,rfl,h0⟩|⟨b,o,c,rfl,h2,h3,h4,h5⟩
  ·have hx:x=0:=by have:=jB.1 h0;omega
   subst hx
   exact a2X p w (h.int)
  ·exact a6g x w _ b o _ c h.int h4 h5 rfl rfl hl
theorem Raw.toV {w:World} {v:Value} {x:Int} (h:Raw w v x):∃ ok,fJ w v ok x:=by
 obtain⟨neg,s,l,h1,h2,h3,h4⟩:=h
 exact⟨_,neg,s,l,h1,h2,h3,h4,rfl⟩
theorem fB (v:Value) (x:Int) (w:World) (h:Raw w v x) (hl:isz x<=1000000000) :
  Calls Tryz.prog 120 #[v] w (kP x w):=by
 obtain⟨ok,h⟩:=h.toV
 exact a2Y v ok x w h hl
theorem qM {P:Program} {w:World} {ops:Array Oper} {rest:List Oper} {o:Oper} {a:Act} {Q:Exit->Act->World->Prop} (hgd:o.guard=none) (s x:Operand) (t:TypeId)
  (hop:o.op=Op.call { callee:=Callee.builtin Builtin.append,args:=#[s,x],argTypes:=#[t,t] })
  (e:TypeId) (i:TypeInfo) (h1:P.underlying t=some (.slice e)) (h2:P.info? e=some i)
  (b:Addr) (hs:a.eval s=.slice (some b) 0 0) {q:Option Addr} (hx:a.eval x=.slice q 0 0)
  (h:wpList P ops Q rest (a.put o.dst (.slice (some b) 0 0)) w):wpList P ops Q (o::rest) a w :=
 wpList_plain hgd fun _ hK=>by
  have hrun:(Builtin.append_ #[t,t] o.type #[.slice (some b) 0 0,.slice q 0 0]).run P w=.ok (.slice (some b) 0 0) w:=by
   cases q<;>simp[Builtin.append_,run_underlying h1,sizeOf,typeInfo,h2,Builtin.lenOf,Builtin.firstCells,loadCells,loadCellsFrom,Sem.run_bind,storeCells]
  unfold Oper.wp
  simp[execOp,hop,resolve,invoke,builtin,hs,hx,hrun,Result.andThen]
  exact hK _ _ h
theorem AA (W:World):(W.alloc (.cells #[] 118)).ownsRow W.heap.size 118 1 (.slice (some ⟨W.heap.size,0,none⟩) 0 0) 0 []:=World.ownsRow_made W #[] 0 (Nat.le_refl _) (by simp[maxLen]) (by simp)
theorem uZ (w:World) (cs:List Value) (T:TypeId):((w.alloc (.cells cs.toArray T)).alloc (.cells #[] 118)).ownsRow (w.heap.size+1) 118 1 (.slice (some ⟨w.heap.size+1,0,none⟩) 0 0) 0 []:=by simpa using AA (w.alloc (.cells cs.toArray T))
theorem AX {w:World} {p:Option Addr} {c k:Nat} {l:List Nat} {flag neg:Bool} {L:List Nat} (hLq:l.take k=L) (hR:Rd w (.slice p L.length c) L) (hL:Low l) (hz:val (l.take k)=val l) (hf:(k=0/\flag=false)\/(0<k/\k<=l.length/\gr l (k-1)≠0/\flag=neg)) :
  bU w (.agg #[.bool flag,.slice p L.length c]) (sg neg (val l)):=by
 subst hLq
 have ht:dig (val l)=l.take k:=by
  rcases hf with⟨rfl,_⟩|⟨h0,h1,h2,_⟩
  ·exact wU hL (Nat.zero_le _) hz (.inl rfl)
  ·exact wU hL h1 hz (.inr h2)
 refine⟨_,?_,by rw[a3b,ht];exact hR⟩
 rcases hf with⟨rfl,rfl⟩|⟨h0,h1,h2,rfl⟩
 ·have:val l=0:=by rw[<-hz];simp[val]
  rw[this,YL];simp
 ·have:val l≠0:=fun e=>by
   rw[e,dQ] at ht
   have:=congrArg List.length ht
   rw[List.length_take] at this
   simp at this;omega
  rw[a8V this]
def a6A (x:Int) (w:World) (e:Ending) (w':World):Prop:=∃ g p n c,e=.returned (.agg #[.bool g,.slice p n c])/\bU w' (.agg #[.bool g,.slice p n c]) x/\(∀ k,(Value.slice p n c).ownBlock=some k->w.heap.size<=k)/\Below w.heap.size w w'
def a9r (l:List Nat) (w:World) (e:Ending) (w':World):Prop:=∃ s,e=.returned s/\Rd w' s l/\(∀ k,s.ownBlock=some k->w.heap.size<=k)/\Below w.heap.size w w'
theorem a2S (s:Value) (l:List Nat) (w:World) (hs:Rd w s l) (hl:Low l) (hn:l.length<=2000000001) :
  Calls Tryz.prog 127 #[.bool true,s] w (a6A (sg true (val l)) w):=by
 obtain⟨i0,hi,hz0,hz1,hz2⟩:=info_parts iI
 have HL:=Lib.hid hl
 clear hl
 rcases hs with⟨p,rfl,rfl⟩|⟨b,o,c,rfl,h2,h3,h4,h5⟩
 ·go_enter Tryz.func127,Tryz.ntmps127
  go_wp2
  go_loop [5,8,9,10,11,12,13,14,15,16,17,18,19] (fun n _ _ _ _ _ _ _ _ _ _ _ _=>n=.int .i64 0) (fun n _ _ _ _ _ _ _ _ _ _ _ _=>0)
  case atStart=>rfl
  case round =>
   subst hrel
   go_wp2_with (at_builtin;refine qM rfl _ _ 26 rfl 118 i0 Tryz.underlying26 hi _ rfl rfl ?_)
   exact bodyPost_ret (v:=.agg #[.bool false,.slice (some ⟨w.heap.size+1,0,none⟩) 0 0]) (by simp[results,Tryz.results127,go_sem]) rfl ⟨_,_,_,_,rfl,by simpa [val,sg] using bU.YW (by simp),fun k hk=>by simp[Value.ownBlock] at hk;omega,((Below.refl _ _).alloc (Nat.le_refl _) _).alloc (by simp) _⟩
 ·have H5:=Lib.hid h5
  clear h5
  go_enter Tryz.func127,Tryz.ntmps127
  go_wp2
  go_loop [5,8,9,10,11,12,13,14,15,16,17,18,19] (fun n _ _ _ _ _ _ _ _ _ _ _ _=>∃ k:Nat,k<=l.length/\n=.int .i64 (k:Nat)/\Hid (val (l.take k)=val l)) (fun n _ _ _ _ _ _ _ _ _ _ _ _=>(intOf n).toNat)
  case atStart=>exact⟨l.length,Nat.le_refl _,rfl,by simp[Hid]⟩
  case round =>
   obtain⟨k,hk,rfl,hz⟩:=hrel
   cases k with
   | zero =>
    have HK:Hid ((l.take 0).length=0):=by unfold Hid;simp
    obtain⟨L,hL⟩:∃ L,l.take (0)=L:=⟨_,rfl⟩
    have HLn:Hid (L.length=0):=by rw[<-hL];exact HK.out
    have HCL:Hid (∀ i,i<L.length->w.cell? ⟨b,o+i,none⟩=some (.int .u32 (gr L i:Nat))):=fun i hi=>by
     have hi2:i<0:=by have:=HLn.out;omega
     rw[<-hL,AL hi2]
     exact H5.out i (by omega)
    have HLq:=Lib.hid hL
    clear hL HK
    go_wp2_with (at_builtin;refine wpList_append_own _ rfl _ _ 26 rfl (w.heap.size+1) 118 i0 (.int .u32 0) 1 4 Tryz.underlying26 hi hz0 hz1 hz2 rfl (by decide) _ _ _ rfl (uZ w [.bool false,.slice none 0 0] 28) ⟨b,o,none⟩ (0) c (cells32 L) rfl (by rw[jA,HLn.out]) (mM fun i hi=>(World.cell?_alloc_lt _ _ ⟨b,o+i,none⟩ (by simp;omega)).trans ((World.cell?_alloc_lt _ _ ⟨b,o+i,none⟩ h4).trans (HCL.out i hi))) (kR _) (by unfold maxLen;omega) (by omega) (by simp) ?_)
    intro v' w1 hown hgrow _
    have hbw:Below (w.heap.size+1) (w.alloc (.cells #[.bool false,.slice none 0 0] 28)) w1:=((Below.refl _ _).alloc (by simp) _).grown hgrow (by simp) (fun j e=>Nat.le_of_eq (Option.some.inj e))
    have hR:=Rd.bZ (l:=L) (by rw[HLn.out];simpa using rE hown (Nat.zero_le _))
    obtain⟨p2,c2,rfl,_,_⟩:=hR.form
    have q1:=(Bx.new w [.bool false,.slice none 0 0] 28).below hbw (by omega)
    have r0:=q1.c0
    have r1:=q1.c1
    have f0:=q1.f0
    have f1:=q1.f1
    go_wp2
    exact bodyPost_ret (v:=.agg #[.bool false,.slice p2 L.length c2]) (by simp[results,Tryz.results127,go_sem,r0,r1]) rfl ⟨_,_,_,_,rfl,bU.aF (AX (neg:=true) (flag:=false) HLq.out hR HL.out hz.out (.inl ⟨rfl,rfl⟩)) q1 rfl rfl _ _,fun k hk=>Nat.le_of_succ_le (hown.lt k hk).1,Below.aF (((Below.refl _ _).alloc (Nat.le_refl _) _).trans (hbw.mono (by simp))) (Nat.le_refl _) _ _⟩
   | succ k =>
    have hc:=H5.out k (by omega)
    by_cases hg:gr l k=0
    ·have HV:=Lib.hid (uX (by omega) hg)
     rw[hg] at hc
     have HG:=Lib.hid hg
     clear hg
     go_wp2
     go_round
     case rel=>exact⟨k,by omega,by go_num,by unfold Hid;rw[HV.out,hz.out]⟩
     case measure=>simp[intOf]
    ·have hg':((gr l k:Int)==0)=false:=by simp;omega
     have HG:=Lib.hid hg
     clear hg
     have HK:Hid ((l.take (k+1)).length=k+1):=by unfold Hid;rw[List.length_take];omega
     obtain⟨L,hL⟩:∃ L,l.take (k+1)=L:=⟨_,rfl⟩
     have HLn:Hid (L.length=k+1):=by rw[<-hL];exact HK.out
     have HCL:Hid (∀ i,i<L.length->w.cell? ⟨b,o+i,none⟩=some (.int .u32 (gr L i:Nat))):=fun i hi=>by
      have hi2:i<k+1:=by have:=HLn.out;omega
      rw[<-hL,AL hi2]
      exact H5.out i (by omega)
     have HLq:=Lib.hid hL
     clear hL HK
     go_wp2_with (at_builtin;refine wpList_append_own _ rfl _ _ 26 rfl (w.heap.size+1) 118 i0 (.int .u32 0) 1 4 Tryz.underlying26 hi hz0 hz1 hz2 rfl (by decide) _ _ _ rfl (uZ w [.bool false,.slice none 0 0] 28) ⟨b,o,none⟩ (k+1) c (cells32 L) rfl (by rw[jA,HLn.out]) (mM fun i hi=>(World.cell?_alloc_lt _ _ ⟨b,o+i,none⟩ (by simp;omega)).trans ((World.cell?_alloc_lt _ _ ⟨b,o+i,none⟩ h4).trans (HCL.out i hi))) (kR _) (by unfold maxLen;omega) (by omega) (by simp) ?_)
     intro v' w1 hown hgrow _
     have hbw:Below (w.heap.size+1) (w.alloc (.cells #[.bool false,.slice none 0 0] 28)) w1:=((Below.refl _ _).alloc (by simp) _).grown hgrow (by simp) (fun j e=>Nat.le_of_eq (Option.some.inj e))
     have hR:=Rd.bZ (l:=L) (by rw[HLn.out];simpa using rE hown (Nat.zero_le _))
     obtain⟨p2,c2,rfl,_,_⟩:=hR.form
     have q1:=(Bx.new w [.bool false,.slice none 0 0] 28).below hbw (by omega)
     have r0:=q1.c0
     have r1:=q1.c1
     have f0:=q1.f0
     have f1:=q1.f1
     go_wp2
     exact bodyPost_ret (v:=.agg #[.bool true,.slice p2 L.length c2]) (by simp[results,Tryz.results127,go_sem,r0,r1]) rfl ⟨_,_,_,_,rfl,bU.aF (AX (neg:=true) (flag:=true) HLq.out hR HL.out hz.out (.inr ⟨by omega,hk,HG.out,rfl⟩)) q1 rfl rfl _ _,fun k hk=>Nat.le_of_succ_le (hown.lt k hk).1,Below.aF (((Below.refl _ _).alloc (Nat.le_refl _) _).trans (hbw.mono (by simp))) (Nat.le_refl _) _ _⟩
theorem a0Y (s:Value) (l:List Nat) (w:World) (hs:Rd w s l) (hl:Low l) (hn:l.length<=2000000001) :
  Calls Tryz.prog 127 #[.bool false,s] w (a6A (sg false (val l)) w):=by
 obtain⟨i0,hi,hz0,hz1,hz2⟩:=info_parts iI
 have HL:=Lib.hid hl
 clear hl
 rcases hs with⟨p,rfl,rfl⟩|⟨b,o,c,rfl,h2,h3,h4,h5⟩
 ·go_enter Tryz.func127,Tryz.ntmps127
  go_wp2
  go_loop [5,8,9,10,11,12,13,14,15,16,17,18,19] (fun n _ _ _ _ _ _ _ _ _ _ _ _=>n=.int .i64 0) (fun n _ _ _ _ _ _ _ _ _ _ _ _=>0)
  case atStart=>rfl
  case round =>
   subst hrel
   go_wp2_with (at_builtin;refine qM rfl _ _ 26 rfl 118 i0 Tryz.underlying26 hi _ rfl rfl ?_)
   exact bodyPost_ret (v:=.agg #[.bool false,.slice (some ⟨w.heap.size+1,0,none⟩) 0 0]) (by simp[results,Tryz.results127,go_sem]) rfl ⟨_,_,_,_,rfl,by simpa [val,sg] using bU.YW (by simp),fun k hk=>by simp[Value.ownBlock] at hk;omega,((Below.refl _ _).alloc (Nat.le_refl _) _).alloc (by simp) _⟩
 ·have H5:=Lib.hid h5
  clear h5
  go_enter Tryz.func127,Tryz.ntmps127
  go_wp2
  go_loop [5,8,9,10,11,12,13,14,15,16,17,18,19] (fun n _ _ _ _ _ _ _ _ _ _ _ _=>∃ k:Nat,k<=l.length/\n=.int .i64 (k:Nat)/\Hid (val (l.take k)=val l)) (fun n _ _ _ _ _ _ _ _ _ _ _ _=>(intOf n).toNat)
  case atStart=>exact⟨l.length,Nat.le_refl _,rfl,by simp[Hid]⟩
  case round =>
   obtain⟨k,hk,rfl,hz⟩:=hrel
   cases k with
   | zero =>
    have HK:Hid ((l.take 0).length=0):=by unfold Hid;simp
    obtain⟨L,hL⟩:∃ L,l.take (0)=L:=⟨_,rfl⟩
    have HLn:Hid (L.length=0):=by rw[<-hL];exact HK.out
    have HCL:Hid (∀ i,i<L.length->w.cell? ⟨b,o+i,none⟩=some (.int .u32 (gr L i:Nat))):=fun i hi=>by
     have hi2:i<0:=by have:=HLn.out;omega
     rw[<-hL,AL hi2]
     exact H5.out i (by omega)
    have HLq:=Lib.hid hL
    clear hL HK
    go_wp2_with (at_builtin;refine wpList_append_own _ rfl _ _ 26 rfl (w.heap.size+1) 118 i0 (.int .u32 0) 1 4 Tryz.underlying26 hi hz0 hz1 hz2 rfl (by decide) _ _ _ rfl (uZ w [.bool false,.slice none 0 0] 28) ⟨b,o,none⟩ (0) c (cells32 L) rfl (by rw[jA,HLn.out]) (mM fun i hi=>(World.cell?_alloc_lt _ _ ⟨b,o+i,none⟩ (by simp;omega)).trans ((World.cell?_alloc_lt _ _ ⟨b,o+i,none⟩ h4).trans (HCL.out i hi))) (kR _) (by unfold maxLen;omega) (by omega) (by simp) ?_)
    intro v' w1 hown hgrow _
    have hbw:Below (w.heap.size+1) (w.alloc (.cells #[.bool false,.slice none 0 0] 28)) w1:=((Below.refl _ _).alloc (by simp) _).grown hgrow (by simp) (fun j e=>Nat.le_of_eq (Option.some.inj e))
    have hR:=Rd.bZ (l:=L) (by rw[HLn.out];simpa using rE hown (Nat.zero_le _))
    obtain⟨p2,c2,rfl,_,_⟩:=hR.form
    have q1:=(Bx.new w [.bool false,.slice none 0 0] 28).below hbw (by omega)
    have r0:=q1.c0
    have r1:=q1.c1
    have f0:=q1.f0
    have f1:=q1.f1
    go_wp2
    exact bodyPost_ret (v:=.agg #[.bool false,.slice p2 L.length c2]) (by simp[results,Tryz.results127,go_sem,r0,r1]) rfl ⟨_,_,_,_,rfl,bU.aF (AX (neg:=false) (flag:=false) HLq.out hR HL.out hz.out (.inl ⟨rfl,rfl⟩)) q1 rfl rfl _ _,fun k hk=>Nat.le_of_succ_le (hown.lt k hk).1,Below.aF (((Below.refl _ _).alloc (Nat.le_refl _) _).trans (hbw.mono (by simp))) (Nat.le_refl _) _ _⟩
   | succ k =>
    have hc:=H5.out k (by omega)
    by_cases hg:gr l k=0
    ·have HV:=Lib.hid (uX (by omega) hg)
     rw[hg] at hc
     have HG:=Lib.hid hg
     clear hg
     go_wp2
     go_round
     case rel=>exact⟨k,by omega,by go_num,by unfold Hid;rw[HV.out,hz.out]⟩
     case measure=>simp[intOf]
    ·have hg':((gr l k:Int)==0)=false:=by simp;omega
     have HG:=Lib.hid hg
     clear hg
     have HK:Hid ((l.take (k+1)).length=k+1):=by unfold Hid;rw[List.length_take];omega
     obtain⟨L,hL⟩:∃ L,l.take (k+1)=L:=⟨_,rfl⟩
     have HLn:Hid (L.length=k+1):=by rw[<-hL];exact HK.out
     have HCL:Hid (∀ i,i<L.length->w.cell? ⟨b,o+i,none⟩=some (.int .u32 (gr L i:Nat))):=fun i hi=>by
      have hi2:i<k+1:=by have:=HLn.out;omega
      rw[<-hL,AL hi2]
      exact H5.out i (by omega)
     have HLq:=Lib.hid hL
     clear hL HK
     go_wp2_with (at_builtin;refine wpList_append_own _ rfl _ _ 26 rfl (w.heap.size+1) 118 i0 (.int .u32 0) 1 4 Tryz.underlying26 hi hz0 hz1 hz2 rfl (by decide) _ _ _ rfl (uZ w [.bool false,.slice none 0 0] 28) ⟨b,o,none⟩ (k+1) c (cells32 L) rfl (by rw[jA,HLn.out]) (mM fun i hi=>(World.cell?_alloc_lt _ _ ⟨b,o+i,none⟩ (by simp;omega)).trans ((World.cell?_alloc_lt _ _ ⟨b,o+i,none⟩ h4).trans (HCL.out i hi))) (kR _) (by unfold maxLen;omega) (by omega) (by simp) ?_)
     intro v' w1 hown hgrow _
     have hbw:Below (w.heap.size+1) (w.alloc (.cells #[.bool false,.slice none 0 0] 28)) w1:=((Below.refl _ _).alloc (by simp) _).grown hgrow (by simp) (fun j e=>Nat.le_of_eq (Option.some.inj e))
     have hR:=Rd.bZ (l:=L) (by rw[HLn.out];simpa using rE hown (Nat.zero_le _))
     obtain⟨p2,c2,rfl,_,_⟩:=hR.form
     have q1:=(Bx.new w [.bool false,.slice none 0 0] 28).below hbw (by omega)
     have r0:=q1.c0
     have r1:=q1.c1
     have f0:=q1.f0
     have f1:=q1.f1
     go_wp2
     exact bodyPost_ret (v:=.agg #[.bool false,.slice p2 L.length c2]) (by simp[results,Tryz.results127,go_sem,r0,r1]) rfl ⟨_,_,_,_,rfl,bU.aF (AX (neg:=false) (flag:=false) HLq.out hR HL.out hz.out (.inr ⟨by omega,hk,HG.out,rfl⟩)) q1 rfl rfl _ _,fun k hk=>Nat.le_of_succ_le (hown.lt k hk).1,Below.aF (((Below.refl _ _).alloc (Nat.le_refl _) _).trans (hbw.mono (by simp))) (Nat.le_refl _) _ _⟩
theorem oW (neg:Bool) (s:Value) (l:List Nat) (w:World) (hs:Rd w s l) (hl:Low l) (hn:l.length<=2000000001) :
  Calls Tryz.prog 127 #[.bool neg,s] w (a6A (sg neg (val l)) w):=by
 cases neg
 ·exact a0Y s l w hs hl hn
 ·exact a2S s l w hs hl hn
theorem iC (neg:Bool) (s:Value) (l:List Nat) (w:World) (hs:Rd w s l) (hl:Low l) (hn:l.length<=2000000001) :
  Calls Tryz.prog 127 #[.bool neg,s] w (kP (sg neg (val l)) w) :=
 (oW neg s l w hs hl hn).mono fun e w' ⟨g,p,n,c,h1,h2,_,h4⟩=>⟨_,h1,h2,h4⟩
theorem zO (o:List Nat) (r:Nat):val (o++[r])=val o+BB ^ o.length*r:=by rw[val_append];simp[bY,val]
theorem yV {o:List Nat} {r:Nat} (h:Low o) (hr:r<=999999999):Low (o++[r]):=Low.append.2 ⟨h,Low.cons.2 ⟨by rw[bG];omega,Low.nil⟩⟩
structure VY (a b o:List Nat) (k c:Nat):Prop where
 len:o.length=k
 low:Low o
 vl:val o+BB ^ k*c=val (a.take k)+val (b.take k)
 car:c<=1
theorem VY.zero (a b:List Nat):VY a b [] 0 0:=⟨rfl,Low.nil,by simp[val],by omega⟩
theorem VY.step {a b o:List Nat} {k c r q:Nat} (h:VY a b o k c) (ha:gr a k<=999999999) (hb:gr b k<=999999999) (hs:gr a k+gr b k+c=r+1000000000*q) (hr:r<=999999999):VY a b (o++[r]) (k+1) q:=by
 have hc:=h.car
 refine⟨by simp[h.len],yV h.low hr,?_,by omega⟩
 rw[zO,aZ,aZ,h.len,Nat.pow_succ]
 have:=h.vl
 simp only[bG] at *
 have e:1000000000 ^ k*(gr a k+gr b k+c)=1000000000 ^ k*(r+1000000000*q):=by rw[hs]
 grind
theorem VY.done {a b o:List Nat} {k c:Nat} (h:VY a b o k c) (h1:a.length<=k) (h2:b.length<=k):Low (o++[c])/\val (o++[c])=val a+val b:=by
 have hc:=h.car
 have hv:=h.vl
 rw[dY h1,dY h2] at hv
 exact⟨yV h.low (by omega),by rw[zO,h.len];exact hv⟩
structure WA (a o:List Nat) (d k c:Nat):Prop where
 len:o.length=k
 low:Low o
 vl:val o+BB ^ k*c=val (a.take k)*d
 car:c<=999999999
theorem WA.zero (a:List Nat) (d:Nat):WA a [] d 0 0:=⟨rfl,Low.nil,by simp[val],by omega⟩
theorem WA.step {a o:List Nat} {d k c r q:Nat} (h:WA a o d k c) (hs:gr a k*d+c=r+1000000000*q) (hr:r<=999999999) (hq:q<=999999999):WA a (o++[r]) d (k+1) q:=by
 refine⟨by simp[h.len],yV h.low hr,?_,hq⟩
 rw[zO,aZ,h.len,Nat.pow_succ]
 have:=h.vl
 simp only[bG] at *
 have e:1000000000 ^ k*(gr a k*d+c)=1000000000 ^ k*(r+1000000000*q):=by rw[hs]
 grind
theorem WA.done {a o:List Nat} {d k c:Nat} (h:WA a o d k c) (h1:a.length<=k):Low (o++[c])/\val (o++[c])=val a*d:=by
 have hv:=h.vl
 rw[dY h1] at hv
 exact⟨yV h.low h.car,by rw[zO,h.len];exact hv⟩
structure MInv (a b o:List Nat) (k c:Nat):Prop where
 len:o.length=k
 low:Low o
 vl:val o+val (b.take k)=val (a.take k)+BB ^ k*c
 car:c<=1
theorem MInv.zero (a b:List Nat):MInv a b [] 0 0:=⟨rfl,Low.nil,by simp[val],by omega⟩
theorem MInv.step {a b o:List Nat} {k c r c':Nat} (h:MInv a b o k c) (hs:r+gr b k+c=gr a k+1000000000*c') (hr:r<=999999999) (hc:c'<=1):MInv a b (o++[r]) (k+1) c':=by
 refine⟨by simp[h.len],yV h.low hr,?_,hc⟩
 rw[zO,aZ,aZ,h.len,Nat.pow_succ]
 have:=h.vl
 simp only[bG] at *
 have e:1000000000 ^ k*(r+gr b k+c)=1000000000 ^ k*(gr a k+1000000000*c'):=by rw[hs]
 grind
theorem MInv.done {a b o:List Nat} {k c:Nat} (h:MInv a b o k c) (h1:a.length<=k) (h2:b.length<=k) (hle:val b<=val a):val o=val a-val b:=by
 have hv:=h.vl
 rw[dY h1,dY h2] at hv
 have hl:=nU h.low
 rw[h.len] at hl
 have hc:=h.car
 rcases Nat.eq_zero_or_pos c with h0|h0
 ·subst h0;simp at hv;omega
 ·have:c=1:=by omega
  subst this
  simp at hv
  omega
structure VZ (a o:List Nat) (d k r:Nat):Prop where
 len:o.length=a.length
 low:Low (o.drop k)
 vl:val (a.drop k)=val (o.drop k)*d+r
 rest:r<d
theorem kK {a:List Nat} {k:Nat} (hk:k<a.length):val (a.drop k)=gr a k+BB*val (a.drop (k+1)):=by
 rw[List.drop_eq_getElem_cons hk,bY,oD hk]
theorem VZ.start (a:List Nat) {d:Nat} (hd:0<d):VZ a (List.replicate a.length 0) d a.length 0:=⟨by simp,by simp[Low.nil],by simp[val],hd⟩
theorem VZ.step {a o:List Nat} {d k r q r':Nat} (h:VZ a o d (k+1) r) (hk:k<a.length) (hn:r*1000000000+gr a k=q*d+r') (hr:r'<d) (ha:gr a k<=999999999):VZ a (o.set k q) d k r'/\q<=999999999:=by
 have hq:q<=999999999:=by
  rcases Nat.lt_or_ge 999999999 q with h1|h1
  ·exfalso
   have e1:1000000000*d<=q*d:=Nat.mul_le_mul_right _ h1
   have e2:=h.rest
   have e3:(r+1)*1000000000<=d*1000000000:=Nat.mul_le_mul_right _ e2
   rw[Nat.add_mul] at e3
   rw[Nat.mul_comm d] at e3
   omega
  ·exact h1
 have hl:k<o.length:=by rw[h.len];exact hk
 have hs:(o.set k q).drop k=q::o.drop (k+1):=by
  rw[List.drop_eq_getElem_cons (by simpa using hl),List.drop_set_of_lt (by omega)]
  simp
 refine⟨⟨by simp[h.len],?_,?_,hr⟩,hq⟩
 ·rw[hs];exact Low.cons.2 ⟨by rw[bG];omega,h.low⟩
 ·rw[hs,kK hk,h.vl,bY,bG]
  grind
theorem VZ.done {a o:List Nat} {d r:Nat} (h:VZ a o d 0 r):Low o/\val o=val a / d/\r=val a%d:=by
 have h1:=h.vl
 simp at h1
 have hr:=h.rest
 have hl:=h.low
 simp at hl
 refine⟨hl,?_,?_⟩
 ·rw[h1,Nat.mul_comm,Nat.mul_add_div (by omega),Nat.div_eq_of_lt hr];simp
 ·rw[h1,Nat.mul_comm,Nat.mul_add_mod,Nat.mod_eq_of_lt hr]
end Go.Proofs.YtidfgdchcpmnfaaGreat
