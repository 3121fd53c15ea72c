/-
  Lemmas for the theorem vofmatrices_holds, part 11 of 32.
-/
import Derived.Test.YtidfgdchcpmnfaaGreatOm06
import Derived.Test.YtidfgdchcpmnfaaGreatOm08
import Derived.Test.YtidfgdchcpmnfaaGreatOm09
import Derived.Test.YtidfgdchcpmnfaaGreatOm10
namespace Go.Proofs.YtidfgdchcpmnfaaGreat
open Go.RowKit
set_option maxRecDepth 100000
set_option maxHeartbeats 8000000
set_option linter.unusedSimpArgs false
set_option linter.unusedVariables false
def pU (e f:Nat->Rat):Nat->Rat
 | 0=>0
 | k+1=>pU e f k+e k*f k
theorem NT {e f:Nat->Rat} {K:Nat}:∀ k,(∀ i,i<k->rsz (e i)<=K/\rsz (f i)<=K)->rsz (pU e f k)<=k*(2*K+1)+1
 | 0,_=>by show rsz 0<=_;rw[QW];omega
 | k+1,h=>by
  have ih:=NT k (fun i hi=>h i (by omega))
  have h1:=fP (e k) (f k)
  have h2:=mJ (pU e f k) (e k*f k)
  have h3:=h k (by omega)
  show rsz (pU e f k+e k*f k)<=_
  rw[Nat.succ_mul]
  omega
theorem IX {q:Rat} (h:q≠0):(sgn q.num==0)=false:=by
 have:=JE (fun e=>h (Rat.num_eq_zero.1 e));simpa using this
theorem EY {q:Rat} (h:q≠0):(sgn q.num != 0)=true:=by
 have:=JE (fun e=>h (Rat.num_eq_zero.1 e));simpa using this
theorem dR {m:Nat} {w w':World} {b o:Nat} {v:Value} (h:Below m w w') (hb:b<m) (hc:w.cell? ⟨b,o,none⟩=some v):w'.cell? ⟨b,o,none⟩=some v:=by
 rw[(eX h).1 _ _ hb];exact hc
theorem a9D (pa pb:Option Addr) (n ca cb K:Nat) (e f:Nat->Rat) (w:World) (ha:KU w (.slice pa n ca) n K e) (hb:KU w (.slice pb n cb) n K f) (hK:n*(2*K+1)+K<=99999999) :
  Calls Tryz.prog 144 #[.slice pa n ca,.slice pb n cb] w (GQ (pU e f n) w):=by
 obtain⟨_,_,he,h1,h2⟩:=ha.form
 cases he
 obtain⟨_,_,he,h3,h4⟩:=hb.form
 cases he
 have HS:Hid (∀ k,k<=n->rsz (pU e f k)<=100000000):=Lib.hid (fun k hk=>by
  have hle:k*(2*K+1)<=n*(2*K+1):=Nat.mul_le_mul_right _ hk
  exact Nat.le_trans (NT k (fun i hi=>⟨(ha.rsz (by omega)),(hb.rsz (by omega))⟩)) (by omega))
 have hK2:K<=99999999:=by omega
 clear hK
 have aY:Below w.heap.size w w:=Below.refl _ _
 go_enter Tryz.func144,Tryz.ntmps144
 go_wp2_with fail
 (with_reducible refine(kC _ _ (by omega) (by omega)).mono ?_)
 rintro e w1 ⟨v1,rfl,hi1,hb1⟩
 obtain⟨g1,p1,n1,c1,h1,o1,m1,e1,rfl⟩:=hi1.form
 obtain⟨hA1,b0⟩:=bx1 w rfl [.bool false,.slice none 0 0,.bool false,.slice none 0 0] 30
 have bF:=(b0.to hb1)
 have w2:=(bF).1
 obtain⟨hA2,l1⟩:=bx1 w1 rfl [.bool g1,.slice p1 n1 c1,.bool h1,.slice o1 m1 e1] 30
 have l0:=(Below.tr (Below.tr aY hA1) hb1)
 go_wp2_with fail
 have hQS:w.heap.size<w1.heap.size:=by have a1:=hb1.size;simp only[World.size_alloc] at a1;omega
 go_loopw [11,6,7,12,13,14,15,16,17,18,19,20,21,22,23,24,25,26,27,28,29,30,31,32,33,34,35] (fun i _ _ _ _ _ _ _ _ _ _ _ _ _ _ _ _ _ _ _ _ _ _ _ _ _ _ wr=>∃ (k:Nat) (sg sh:Bool) (sp so:Option Addr) (sn sc sm se:Nat),k<=n/\i=.int .i64 (k:Nat)/\Bx wr w.heap.size [.bool false,.slice none 0 0,.bool false,.slice none 0 0]/\Bx wr (w1.heap.size) [.bool sg,.slice sp sn sc,.bool sh,.slice so sm se]/\RQ wr (.agg #[.bool sg,.slice sp sn sc,.bool sh,.slice so sm se]) (pU e f k)/\Below w.heap.size w wr) (fun i _ _ _ _ _ _ _ _ _ _ _ _ _ _ _ _ _ _ _ _ _ _ _ _ _ _ _=>n-(intOf i).toNat)
 case atStart=>exact⟨0,_,_,_,_,_,_,_,_,by omega,rfl,(bF.to hA2),l1,(hi1.below hA2),(Below.tr l0 hA2)⟩
 case round =>
  obtain⟨k,sg,sh,sp,so,sn,sc,sm,se,hk,rfl,hqr,hqs,hs,hB⟩:=hrel
  have hzB:=hB.size
  have b9o:=hqr.1
  have b9p:=hqs.1
  by_cases hlt:k<n
  ·obtain⟨ba,oa,xg,xp,xn,xc,xh,xo,xm,xe,rfl,hla,xc0,xc1,xc2,xc3,hxq,hxn⟩:=(ha.below hB).at_ hlt
   obtain⟨bb,ob,yg,yp,yn,yc,yh,yo,ym,ye,rfl,hlb,yc0,yc1,yc2,yc3,hyq,hyn⟩:=(hb.below hB).at_ hlt
   have hW:Below wr.heap.size wr wr:=Below.refl _ _
   have hx:=hxq.rq
   have hy:=hyq.rq
   have lx:=hx.iV hxn
   have ly:=hy.iV hyn
   have ls:rsz (pU e f k)<=100000000:=HS.out k (by omega)
   have lxy:=fP (e k) (f k)
   have hkd:decide (k<n)=true:=by simpa using hlt
   by_cases hx0:e k=0
   ·have HD:Hid (pU e f (k+1)=pU e f k):=Lib.hid (by show pU e f k+e k*f k=_;rw[hx0];grind)
    have hsg:(sgn (e k).num==0)=true:=by rw[hx0];rfl
    have KY:(sgn (e k).num != 0)=false:=by rw[hx0];rfl
    have HX0:=Lib.hid hx0
    clear hx0
    go_wp2_with fail
    obtain⟨hA1,b0⟩:=bx1 wr rfl [.bool xg,.slice xp xn xc,.bool xh,.slice xo xm xe] 30
    have a0:=(hx.below hA1)
    (with_reducible refine(lQ _ (e k) _ a0 (by omega)).mono ?_)
    rintro e w11 ⟨rfl,vG⟩
    have a0N:=((hqr.to hA1).to vG)
    have b8S:=((hqs.to hA1).to vG)
    have b8a:=((hs.below hA1).below vG)
    have lS:=(Below.tr (Below.tr hB hA1) vG)
    go_wp2_with fail
    go_roundw
    case rel=>exact⟨k+1,_,_,_,_,_,_,_,_,by omega,by go_num,a0N,b8S,by rw[HD.out];exact b8a,lS⟩
    case measure=>simp[intOf];omega
   ·have hsg:=IX hx0
    have KY:=EY hx0
    have HX0:=Lib.hid hx0
    clear hx0
    by_cases hy0:f k=0
    ·have HD:Hid (pU e f (k+1)=pU e f k):=Lib.hid (by show pU e f k+e k*f k=_;rw[hy0];grind)
     have hsh:(sgn (f k).num==0)=true:=by rw[hy0];rfl
     have hsh2:(sgn (f k).num != 0)=false:=by rw[hy0];rfl
     have HY0:=Lib.hid hy0
     clear hy0
     go_wp2_with fail
     obtain⟨hA1,b0⟩:=bx1 wr rfl [.bool xg,.slice xp xn xc,.bool xh,.slice xo xm xe] 30
     have a0:=(hx.below hA1)
     (with_reducible refine(lQ _ (e k) _ a0 (by omega)).mono ?_)
     rintro e w11 ⟨rfl,vG⟩
     have a7B:=(Below.tr (Below.tr hW hA1) vG)
     have XB:=a7B
     have q0:=dR XB hlb yc0
     have s0:=dR XB hlb yc1
     have u0:=dR XB hlb yc2
     have w0:=dR XB hlb yc3
     go_wp2_with fail
     have a9Y:=((hy.below hA1).below vG)
     have c0:=a9Y
     (with_reducible refine(lQ _ (f k) _ c0 (by omega)).mono ?_)
     rintro e w12 ⟨rfl,EL⟩
     have b1Q:=(Below.tr a7B EL)
     have XC:=b1Q
     have r0:=dR XC hlb yc0
     have t0:=dR XC hlb yc1
     have v0:=dR XC hlb yc2
     have x0:=dR XC hlb yc3
     have a5R:=(((hqr.to hA1).to vG).to EL)
     have b0x:=(((hqs.to hA1).to vG).to EL)
     have b8b:=(((hs.below hA1).below vG).below EL)
     have pW:=(Below.tr (Below.tr (Below.tr hB hA1) vG) EL)
     go_wp2_with fail
     go_roundw
     case rel=>exact⟨k+1,_,_,_,_,_,_,_,_,by omega,by go_num,a5R,b0x,by rw[HD.out];exact b8b,pW⟩
     case measure=>simp[intOf];omega
    ·have hsh:=IX hy0
     have hsh2:=EY hy0
     have HY0:=Lib.hid hy0
     clear hy0
     go_wp2_with fail
     obtain⟨hA1,b0⟩:=bx1 wr rfl [.bool xg,.slice xp xn xc,.bool xh,.slice xo xm xe] 30
     have a0:=(hx.below hA1)
     (with_reducible refine(lQ _ (e k) _ a0 (by omega)).mono ?_)
     rintro e w11 ⟨rfl,vG⟩
     have a7B:=(Below.tr (Below.tr hW hA1) vG)
     have XB:=a7B
     have q0:=dR XB hlb yc0
     have s0:=dR XB hlb yc1
     have u0:=dR XB hlb yc2
     have w0:=dR XB hlb yc3
     go_wp2_with fail
     have a9Y:=((hy.below hA1).below vG)
     have c0:=a9Y
     (with_reducible refine(lQ _ (f k) _ c0 (by omega)).mono ?_)
     rintro e w12 ⟨rfl,EL⟩
     have b1Q:=(Below.tr a7B EL)
     have XC:=b1Q
     have r0:=dR XC hlb yc0
     have t0:=dR XC hlb yc1
     have v0:=dR XC hlb yc2
     have x0:=dR XC hlb yc3
     go_wp2_with fail
     have b0x:=(((hqs.to hA1).to vG).to EL)
     obtain⟨s1,k2,y1,n2,c2,q2,g2,t2⟩:=b0x.drew.cf4
     have q1:=((b0.to vG).to EL)
     obtain⟨y0,f1,z0,i1,b1,j1,d1,k1⟩:=q1.drew.cf4
     have tk1:True:=trivial
     have tk2:True:=trivial
     go_region_with
      (first
       | (((have:=tk1);clear tk1;have b8i:=(((hx.below hA1).below vG).below EL);have m0:=b8i.drew;have b8j:=(a9Y.below EL);have n0:=b8j.drew;go_at_call 53;(with_reducible refine(EW _ _ (e k) (f k) _ m0 n0 (by omega) (by omega)).mono ?_);rintro e w13 ⟨v13,rfl,b6v,a9L⟩;obtain⟨g13,p13,n13,c13,h13,o13,m13,e13,rfl⟩:=b6v.form;have b6Y:=(b0x.drew.to a9L);obtain⟨t1,l2,z1,o2,d2,r2,i2,u2⟩:=b6Y.cf4))
       | (((have:=tk2);clear tk2;have b8c:=((((hs.below hA1).below vG).below EL).drew.below a9L);have o0:=b8c;have p0:=b6v;go_at_call 52;(with_reducible refine(YZ _ _ (pU e f k) ((e k)*(f k)) _ o0 p0 (by omega) (by omega)).mono ?_);rintro e w14 ⟨v14,rfl,b6w,b1R⟩;obtain⟨g14,p14,n14,c14,h14,o14,m14,e14,rfl⟩:=b6w.form;have b2C:=(b6Y.to b1R);obtain⟨u1,m2,a2,p2,e2,s2,j2,v2⟩:=b2C.cf4)))
     all_goals
      skip
      have b8R:=(((((hqr.to hA1).to vG).to EL).drew.to a9L).to b1R)
      have uQ:=(Below.tr (Below.tr (Below.tr (Below.tr (Below.tr hB hA1) vG) EL).drew a9L) b1R)
      go_wp2_with fail
      go_roundw
      case rel=>exact⟨k+1,_,_,_,_,_,_,_,_,by omega,by go_num,(b8R.dI (b:=w1.heap.size) (by omega) (.bool g14) (.slice p14 n14 c14) (.bool h14) (.slice o14 m14 e14)),(b2C.jS (.bool g14) (.slice p14 n14 c14) (.bool h14) (.slice o14 m14 e14)),(b6w.aT b2C rfl rfl rfl rfl (.bool g14) (.slice p14 n14 c14) (.bool h14) (.slice o14 m14 e14)),(Below.aT uQ (b:=w1.heap.size) (by omega) (.bool g14) (.slice p14 n14 c14) (.bool h14) (.slice o14 m14 e14))⟩
      case measure=>simp[intOf];omega
  ·have he:k=n:=by omega
   subst he
   have hkd:decide (k<k)=false:=by simp
   obtain⟨r1,x1,b2,f2⟩:=hqs.cs4
   obtain⟨d0,h0,e0,i0,f0,j0,g0,k0⟩:=hqr.cf4
   go_wp2_with fail
   exact bodyPost_ret (v:=.agg #[.bool sg,.slice sp sn sc,.bool sh,.slice so sm se]) (by simp[results,Tryz.results144,go_sem,d0,h0,e0,i0,f0,j0,g0,k0]) rfl ⟨_,rfl,(hs.aT hqr rfl rfl rfl rfl (.bool sg) (.slice sp sn sc) (.bool sh) (.slice so sm se)),(Below.aT hB (b:=w.heap.size) (by omega) (.bool sg) (.slice sp sn sc) (.bool sh) (.slice so sm se))⟩
theorem qN.rsz {w:World} {v:Value} {R C K:Nat} {e:Nat->Nat->Rat} (h:qN w v R C K e) {i j:Nat} (hi:i<R) (hj:j<C):Go.Proofs.YtidfgdchcpmnfaaGreat.rsz (e i j)<=K:=by
 obtain⟨p,c,rfl,_,_⟩:=h.form
 obtain⟨b,o,q,d,_,_,_,hr⟩:=h.at_ hi
 exact hr.rsz hj
theorem jW.base {w:World} {base base' b R C K m:Nat} {rb:Nat->Nat} {e:Nat->Nat->Rat} (h:jW w base b R C K m rb e) (hb:base'<=base):jW w base' b R C K m rb e :=
 ⟨h.outer,Nat.le_trans hb h.hb,h.rows,fun i hi=>⟨Nat.le_trans hb (h.hrb i hi).1,(h.hrb i hi).2⟩,h.inj⟩
theorem ZR (B b o R C c K i j:Nat) (e:Nat->Nat->Rat) (w:World) (hB:w.cell? ⟨B,0,none⟩=some (.slice (some ⟨b,o,none⟩) R c)) (hBl:B<w.heap.size) (h:qN w (.slice (some ⟨b,o,none⟩) R c) R C K e) (hi:i<R) (hj:j<C) :
  Calls Tryz.prog 167 #[.int .i64 (i:Nat),.int .i64 (j:Nat),.pointer (some ⟨B,0,none⟩)] w (GQ (e i j) w):=by
 obtain⟨_,_,he,h1,h2⟩:=h.form
 cases he
 obtain⟨_,_,q,d,he,hbl,c0,hr⟩:=h.at_ hi
 cases he
 obtain⟨_,_,he,h3,h4⟩:=hr.form
 cases he
 obtain⟨rb,ro,g,p,n,cc,g',p',n',c',he,hrl,d0,d1,d2,d3,hq,hn⟩:=hr.at_ hj
 subst he
 have hx:=hq.rq
 go_enter Tryz.func167,Tryz.ntmps167
 go_wp2_with fail
 exact bodyPost_ret (v:=.agg #[.bool g,.slice p n cc,.bool g',.slice p' n' c']) (by simp[results,Tryz.results167,go_sem]) rfl ⟨_,rfl,hx.alloc _,(Below.refl _ _).alloc (Nat.le_refl _) _⟩
theorem a1u (B b o R C c K i j:Nat) (e:Nat->Nat->Rat) (w:World) (hB:w.cell? ⟨B,0,none⟩=some (.slice (some ⟨b,o,none⟩) R c)) (hBl:B<w.heap.size) (h:qN w (.slice (some ⟨b,o,none⟩) R c) R C K e) (hi:j<R) (hj:i<C) :
  Calls Tryz.prog 166 #[.int .i64 (i:Nat),.int .i64 (j:Nat),.pointer (some ⟨B,0,none⟩)] w (GQ (e j i) w):=by
 obtain⟨_,_,he,h1,h2⟩:=h.form
 cases he
 obtain⟨_,_,q,d,he,hbl,c0,hr⟩:=h.at_ hi
 cases he
 obtain⟨_,_,he,h3,h4⟩:=hr.form
 cases he
 obtain⟨rb,ro,g,p,n,cc,g',p',n',c',he,hrl,d0,d1,d2,d3,hq,hn⟩:=hr.at_ hj
 subst he
 have hx:=hq.rq
 go_enter Tryz.func166,Tryz.ntmps166
 go_wp2_with fail
 exact bodyPost_ret (v:=.agg #[.bool g,.slice p n cc,.bool g',.slice p' n' c']) (by simp[results,Tryz.results166,go_sem]) rfl ⟨_,rfl,hx.alloc _,(Below.refl _ _).alloc (Nat.le_refl _) _⟩
theorem a1W (v:Value) (R C K:Nat) (e:Nat->Nat->Rat) (w:World) (h:qN w v R C K e) (hR:0<R) (hR2:R<=1000000) (hC2:C<=1000000) :
  Calls Tryz.prog 146 #[v] w (a3u w.heap.size R C K e w):=by
 obtain⟨p,c,rfl,h1,h2⟩:=h.form
 obtain⟨b,o,q,d,rfl,hbl,c0,hr⟩:=h.at_ hR
 obtain⟨_,_,he,h3,h4⟩:=hr.form
 cases he
 rw[Nat.add_zero] at c0
 have hB1:Below w.heap.size w (w.alloc (.cells #[.slice (some ⟨b,o,none⟩) R c] 23)):=(Below.refl _ _).alloc (Nat.le_refl _) _
 have hM:=h.below hB1
 have hcB:(w.alloc (.cells #[.slice (some ⟨b,o,none⟩) R c] 23)).cell? ⟨w.heap.size,0,none⟩=some (.slice (some ⟨b,o,none⟩) R c):=by rw[World.cell?_alloc_at _ _ _ _ rfl];rfl
 have c1:(w.alloc (.cells #[.slice (some ⟨b,o,none⟩) R c] 23)).cell? ⟨b,o,none⟩=some (.slice q C d):=dR hB1 hbl c0
 have hsz:w.heap.size<(w.alloc (.cells #[.slice (some ⟨b,o,none⟩) R c] 23)).heap.size:=by simp
 have S0:(fun w':World=>w'.cell? ⟨w.heap.size,0,none⟩=some (.slice (some ⟨b,o,none⟩) R c)/\w'.cell? ⟨b,o,none⟩=some (.slice q C d)/\w.heap.size<w'.heap.size) (w.alloc (.cells #[.slice (some ⟨b,o,none⟩) R c] 23)).drew:=⟨hcB,c1,hsz⟩
 have KK:∀ A B:World,(fun w':World=>w'.cell? ⟨w.heap.size,0,none⟩=some (.slice (some ⟨b,o,none⟩) R c)/\w'.cell? ⟨b,o,none⟩=some (.slice q C d)/\w.heap.size<w'.heap.size) A->Below A.heap.size A B->(fun w':World=>w'.cell? ⟨w.heap.size,0,none⟩=some (.slice (some ⟨b,o,none⟩) R c)/\w'.cell? ⟨b,o,none⟩=some (.slice q C d)/\w.heap.size<w'.heap.size) B:=by
  rintro A B ⟨k0,k1,k2⟩ hb
  have hs:=hb.size
  exact⟨dR hb (by omega) k0,dR hb (by omega) k1,by omega⟩
 have b7I:b<(w.alloc (.cells #[.slice (some ⟨b,o,none⟩) R c] 23)).heap.size:=by simp;omega
 have hF:∀ (i j:Nat) (w':World),i<R->j<C->Below (w.alloc (.cells #[.slice (some ⟨b,o,none⟩) R c] 23)).drew.heap.size (w.alloc (.cells #[.slice (some ⟨b,o,none⟩) R c] 23)).drew w'->Calls Tryz.prog 167 #[.int .i64 (i:Nat),.int .i64 (j:Nat),.pointer (some ⟨w.heap.size,0,none⟩)] w' (GQ (e i j) w'):=fun i j w' hi hj hb =>
  ZR w.heap.size b o R C c K i j e w' (dR hb hsz hcB) (Nat.lt_of_lt_of_le hsz hb.size) ((hM.below (Below.refl _ _).drew).below hb) hi hj
 have hT:=UD R C K 167 (.pointer (some ⟨w.heap.size,0,none⟩)) e (w.alloc (.cells #[.slice (some ⟨b,o,none⟩) R c] 23)).drew (by omega) (by omega) (fun i j hi hj=>h.rsz hi hj) (fun _ _ _ _=>rfl) hF
 have HT:=Lib.hid hT
 clear hF hT
 have HcB:=Lib.hid hcB
 have Hc1:=Lib.hid c1
 clear hcB c1
 go_enter Tryz.func146,Tryz.ntmps146
 go_wp2_with fail
 have tk1:True:=trivial
 go_region_held3 (fun w':World=>w'.cell? ⟨w.heap.size,0,none⟩=some (.slice (some ⟨b,o,none⟩) R c)/\w'.cell? ⟨b,o,none⟩=some (.slice q C d)/\w.heap.size<w'.heap.size) (first|with_reducible exact S0|with_reducible exact KK _ _ (by assumption) (by assumption)|(simp;done))
  (first
   | (((have:=tk1;clear tk1;(with_reducible refine HT.out.mono ?_);rintro e w1 ⟨b1,rb1,rfl,hM1,hb1⟩)))
  )
 go_wp2_with fail
 go_ret
 exact⟨_,_,rfl,hM1.base (by simp),Below.tr hB1.drew (by simpa using hb1)⟩
theorem RH (v:Value) (R C K:Nat) (e:Nat->Nat->Rat) (w:World) (h:qN w v R C K e) (hR:0<R) (hR2:R<=1000000) (hC2:C<=1000000) :
  Calls Tryz.prog 140 #[v] w (a3u w.heap.size C R K (fun i j=>e j i) w):=by
 obtain⟨p,c,rfl,h1,h2⟩:=h.form
 obtain⟨b,o,q,d,rfl,hbl,c0,hr⟩:=h.at_ hR
 obtain⟨_,_,he,h3,h4⟩:=hr.form
 cases he
 rw[Nat.add_zero] at c0
 have hB1:Below w.heap.size w (w.alloc (.cells #[.slice (some ⟨b,o,none⟩) R c] 23)):=(Below.refl _ _).alloc (Nat.le_refl _) _
 have hM:=h.below hB1
 have hcB:(w.alloc (.cells #[.slice (some ⟨b,o,none⟩) R c] 23)).cell? ⟨w.heap.size,0,none⟩=some (.slice (some ⟨b,o,none⟩) R c):=by rw[World.cell?_alloc_at _ _ _ _ rfl];rfl
 have c1:(w.alloc (.cells #[.slice (some ⟨b,o,none⟩) R c] 23)).cell? ⟨b,o,none⟩=some (.slice q C d):=dR hB1 hbl c0
 have hsz:w.heap.size<(w.alloc (.cells #[.slice (some ⟨b,o,none⟩) R c] 23)).heap.size:=by simp
 have S0:(fun w':World=>w'.cell? ⟨w.heap.size,0,none⟩=some (.slice (some ⟨b,o,none⟩) R c)/\w'.cell? ⟨b,o,none⟩=some (.slice q C d)/\w.heap.size<w'.heap.size) (w.alloc (.cells #[.slice (some ⟨b,o,none⟩) R c] 23)).drew:=⟨hcB,c1,hsz⟩
 have KK:∀ A B:World,(fun w':World=>w'.cell? ⟨w.heap.size,0,none⟩=some (.slice (some ⟨b,o,none⟩) R c)/\w'.cell? ⟨b,o,none⟩=some (.slice q C d)/\w.heap.size<w'.heap.size) A->Below A.heap.size A B->(fun w':World=>w'.cell? ⟨w.heap.size,0,none⟩=some (.slice (some ⟨b,o,none⟩) R c)/\w'.cell? ⟨b,o,none⟩=some (.slice q C d)/\w.heap.size<w'.heap.size) B:=by
  rintro A B ⟨k0,k1,k2⟩ hb
  have hs:=hb.size
  exact⟨dR hb (by omega) k0,dR hb (by omega) k1,by omega⟩
 have b7I:b<(w.alloc (.cells #[.slice (some ⟨b,o,none⟩) R c] 23)).heap.size:=by simp;omega
 have hF:∀ (i j:Nat) (w':World),i<C->j<R->Below (w.alloc (.cells #[.slice (some ⟨b,o,none⟩) R c] 23)).drew.heap.size (w.alloc (.cells #[.slice (some ⟨b,o,none⟩) R c] 23)).drew w'->Calls Tryz.prog 166 #[.int .i64 (i:Nat),.int .i64 (j:Nat),.pointer (some ⟨w.heap.size,0,none⟩)] w' (GQ ((fun i j=>e j i) i j) w'):=fun i j w' hi hj hb =>
  a1u w.heap.size b o R C c K i j e w' (dR hb hsz hcB) (Nat.lt_of_lt_of_le hsz hb.size) ((hM.below (Below.refl _ _).drew).below hb) hj hi
 have hT:=UD C R K 166 (.pointer (some ⟨w.heap.size,0,none⟩)) (fun i j=>e j i) (w.alloc (.cells #[.slice (some ⟨b,o,none⟩) R c] 23)).drew (by omega) (by omega) (fun i j hi hj=>h.rsz hj hi) (fun _ _ _ _=>rfl) hF
 have HT:=Lib.hid hT
 clear hF hT
 have HcB:=Lib.hid hcB
 have Hc1:=Lib.hid c1
 clear hcB c1
 go_enter Tryz.func140,Tryz.ntmps140
 go_wp2_with fail
 have tk1:True:=trivial
 go_region_held3 (fun w':World=>w'.cell? ⟨w.heap.size,0,none⟩=some (.slice (some ⟨b,o,none⟩) R c)/\w'.cell? ⟨b,o,none⟩=some (.slice q C d)/\w.heap.size<w'.heap.size) (first|with_reducible exact S0|with_reducible exact KK _ _ (by assumption) (by assumption)|(simp;done))
  (first
   | (((have:=tk1;clear tk1;(with_reducible refine HT.out.mono ?_);rintro e w1 ⟨b1,rb1,rfl,hM1,hb1⟩)))
  )
 go_wp2_with fail
 go_ret
 exact⟨_,_,rfl,hM1.base (by simp),Below.tr hB1.drew (by simpa using hb1)⟩
set_option maxRecDepth 20000
def NU (w:World) (g:Nat):Prop:=∀ i u,w.cell? ⟨g,i,none⟩=some u->aS u=true
theorem Rd.grown {w w':World} {s:Value} {l:List Nat} (h:Rd w s l) {g:Nat} (hg:w.grownBy w' (some g)) (hn:NU w g):Rd w' s l:=by
 rcases h with h|⟨b,o,c,h1,h2,h3,h4,h5⟩
 ·exact .inl h
 ·refine .inr ⟨b,o,c,h1,h2,h3,Nat.lt_of_lt_of_le h4 hg.size,fun i hi=>?_⟩
  have hc:=h5 i hi
  have hne:b≠g:=fun e=>by
   subst e
   have:=hn _ _ hc
   simp[aS] at this
  rw[World.cell?_of_block (w:=w) (hg.block b h4 (by simpa using hne))]
  exact hc
theorem fJ.grown {w w':World} {v:Value} {ok:Bool} {x:Int} (h:fJ w v ok x) {g:Nat} (hg:w.grownBy w' (some g)) (hn:NU w g):fJ w' v ok x:=by
 obtain⟨neg,s,l,k1,k2,k3,k4⟩:=h;exact⟨neg,s,l,k1,k2.grown hg hn,k3,k4⟩
theorem bU.grown {w w':World} {v:Value} {x:Int} (h:bU w v x) {g:Nat} (hg:w.grownBy w' (some g)) (hn:NU w g):bU w' v x:=by
 obtain⟨s,k1,k2⟩:=h;exact⟨s,k1,k2.grown hg hn⟩
theorem RQ.grown {w w':World} {v:Value} {q:Rat} (h:RQ w v q) {g:Nat} (hg:w.grownBy w' (some g)) (hn:NU w g):RQ w' v q:=by
 obtain⟨b,s,c,t,e,k1,k2⟩:=h;exact⟨b,s,c,t,e,k1.grown hg hn,k2.grown hg hn⟩
theorem fE.grown {w w':World} {v:Value} {ok:Bool} {q:Rat} (h:fE w v ok q) {g:Nat} (hg:w.grownBy w' (some g)) (hn:NU w g):fE w' v ok q:=by
 obtain⟨b,s,c,t,o1,o2,m,d,e,k1,k2,k3⟩:=h;exact⟨b,s,c,t,o1,o2,m,d,e,k1.grown hg hn,k2.grown hg hn,k3⟩
theorem QC.grown {w w':World} {u0 u1 u2 u3:Value} {K:Nat} {ok:Bool} {q:Rat} (h:QC w u0 u1 u2 u3 K ok q) {g:Nat} (hg:w.grownBy w' (some g)) (hn:NU w g):QC w' u0 u1 u2 u3 K ok q:=by
 obtain⟨g',p,n,c,h,p',n',c',e0,e1,e2,e3,hq,k⟩:=h
 exact⟨g',p,n,c,h,p',n',c',e0,e1,e2,e3,hq.grown hg hn,k⟩
theorem jE.nu {w:World} {b n K:Nat} {ok:Nat->Bool} {e:Nat->Rat} (h:jE w b n K ok e):NU w b:=by
 obtain⟨f,h1,h2⟩:=h
 intro i u hc
 obtain⟨c,hb,hs,hcs⟩:=h1
 have hi:i<n*4:=by
  rcases Nat.lt_or_ge i (n*4) with h|h
  ·exact h
  ·exfalso
   simp[World.cell?,hb,Array.getElem?_eq_none (by omega:c.size<=i)] at hc
 have h1:w.cell? ⟨b,i,none⟩=some (f i):=by simp[World.cell?,hb,hcs i hi]
 rw[h1] at hc
 cases hc
 have N:=(h2 (i / 4) (by omega)).nu
 obtain e|e|e|e:i=i / 4*4\/i=i / 4*4+1\/i=i / 4*4+2\/i=i / 4*4+3:=by omega
 ·rw[e];exact N.1
 ·rw[e];exact N.2.1
 ·rw[e];exact N.2.2.1
 ·rw[e];exact N.2.2.2
theorem jE.grown {w w':World} {b n K:Nat} {ok:Nat->Bool} {e:Nat->Rat} (h:jE w b n K ok e) {g:Nat} (hne:b≠g) (hg:w.grownBy w' (some g)) (hn:NU w g):jE w' b n K ok e:=by
 obtain⟨f,h1,h2⟩:=h
 exact⟨f,h1.of_block (hg.block b h1.lt (by simpa using hne)),fun j hj=>(h2 j hj).grown hg hn⟩
theorem jE.mono {w:World} {b n K K':Nat} {ok:Nat->Bool} {e:Nat->Rat} (h:jE w b n K ok e) (hK:K<=K'):jE w b n K' ok e:=by
 obtain⟨f,h1,h2⟩:=h
 exact⟨f,h1,fun j hj=>(h2 j hj).mono hK⟩
theorem grown_below {w w1 w2:World} {g:Nat} (h:w.grownBy w1 (some g)) (hb:Below w1.heap.size w1 w2):w.grownBy w2 (some g) :=
 ⟨hb.os.trans h.os,hb.tape.trans h.tape,hb.output.trans h.output,Nat.le_trans h.size hb.size,fun k hk hne=>(hb.block k (Nat.lt_of_lt_of_le hk h.size)).trans (h.block k hk hne)⟩
theorem a2e (w:World) (g:Nat):w.grownBy w (some g):=⟨rfl,rfl,rfl,Nat.le_refl _,fun _ _ _=>rfl⟩
theorem AP {w w1:World} {g:Nat} (h:w.grownBy w1 (some g)) (o:Nat) (x:Value):w.grownBy (w1.setCell ⟨g,o,none⟩ x) (some g) :=
 ⟨h.os,h.tape,h.output,by simpa [World.setCell] using h.size,fun k hk hne=>(Below.heap_setCell w1 _ x k (fun e=>hne (by rw[e]))).trans (h.block k hk hne)⟩
theorem a2f {w w1:World} {g:Nat} (h:w.grownBy w1 (some g)) (o:Nat) (x0 x1 x2 x3:Value):w.grownBy (st4 w1 g o x0 x1 x2 x3) (some g) :=
 AP (AP (AP (AP h _ _) _ _) _ _) _ _
theorem jW.mono {w:World} {base b R C K K' m:Nat} {rb:Nat->Nat} {e:Nat->Nat->Rat} (h:jW w base b R C K m rb e) (hK:K<=K'):jW w base b R C K' m rb e :=
 ⟨h.outer,h.hb,fun i hi=>(h.rows i hi).mono hK,h.hrb,h.inj⟩
theorem jW.row {w w':World} {base b R C K:Nat} {rb:Nat->Nat} {e:Nat->Nat->Rat} (h:jW w base b R C K R rb e) {i:Nat} (hi:i<R) (hg:w.grownBy w' (some (rb i))) {x:Nat->Rat} (hr:jE w' (rb i) C K (fun _=>true) x):jW w' base b R C K R rb (fun r=>if r=i then x else e r):=by
 have hn:=(h.rows i hi).nu
 refine⟨h.outer.of_block (hg.block b h.outer.lt (fun e1=>(h.hrb i hi).2 (by simpa using e1.symm))),h.hb,fun r hr'=>?_,h.hrb,h.inj⟩
 by_cases e1:r=i
 ·subst e1;simp only[if_true];exact hr
 ·simp only[if_neg e1]
  exact(h.rows r hr').grown (fun e2=>e1 (h.inj r i hr' hi e2)) hg hn
end Go.Proofs.YtidfgdchcpmnfaaGreat
namespace Go.Proofs.YtidfgdchcpmnfaaGreat
open Go Go.RowKit
set_option linter.unusedSimpArgs false
set_option linter.unusedVariables false
set_option maxRecDepth 20000
def CA (p:Value->Bool) (w:World) (g:Nat):Prop:=∀ i u,w.cell? ⟨g,i,none⟩=some u->p u=true
section
variable {P:Program} {p:Value->Bool} (w:World)
def CAv (p:Value->Bool) (w:World) (v:Value):Prop:=∀ g,v.ownBlock=some g->CA p w g
theorem CA.of_cells {p:Value->Bool} {w:World} {g:Nat} {cur:Array Value} {e:TypeId} (hg:w.heap[g]?=some (.cells cur e (0,0))) (h:∀ u ∈ cur.toList,p u=true):CA p w g:=by
 intro i u hc
 rw[cell_of_row w g i cur e (0,0) hg] at hc
 exact h u (by rw[Array.mem_toList_iff];exact Array.mem_of_getElem? hc)
theorem CA.cells {w:World} {g:Nat} {cur:Array Value} {e:TypeId} (hg:w.heap[g]?=some (.cells cur e (0,0))) (h:CA p w g):∀ u ∈ cur.toList,p u=true:=by
 intro u hu
 rw[Array.mem_toList_iff] at hu
 obtain⟨i,hi,rfl⟩:=Array.mem_iff_getElem.1 hu
 exact h i _ (by rw[cell_of_row w g i cur e (0,0) hg];exact Array.getElem?_eq_getElem hi)
theorem YV {z:Array Value} (hz:∀ u ∈ z.toList,p u=true) (n:Nat):∀ u ∈ (Builtin.zeroCells z n).toList,p u=true:=by
 intro u hu
 rw[Array.mem_toList_iff] at hu
 obtain⟨i,hi,rfl⟩:=Array.mem_iff_getElem.1 hu
 simp only[Builtin.zeroCells,Array.size_map,Array.size_range] at hi
 simp only[Builtin.zeroCells,Array.getElem_map,Array.getElem_range]
 have hs:0<z.size:=by
  rcases Nat.eq_zero_or_pos z.size with h|h
  ·rw[h] at hi;simp at hi
  ·exact h
 have hlt:i%z.size<z.size:=Nat.mod_lt _ hs
 rw[getElem!_pos z (i%z.size) hlt]
 exact hz _ (by rw[Array.mem_toList_iff];exact Array.getElem_mem hlt)
theorem BZ (base:Nat) (t ty e:TypeId) (i:TypeInfo) (z:Value) (size bytes:Nat) (ht:P.underlying t=some (.slice e)) (hi:P.info? e=some i) (hz:i.zero=some z)
  (hsize:i.size=size) (hby:i.bytes=bytes) (hzs:z.cells.size=size) (hsz:0<size) (hzn:∀ u ∈ z.cells.toList,p u=true)
  (v:Value) (n:Nat) (xs:List Value) (hown:w.ownsRow base e size v n xs) (hv:CAv p w v)
  (a:Addr) (m c:Nat) (news:List Value) (hl:news.length=m*size) (hnews:∀ j u,news[j]?=some u->w.cell? (a.add j)=some u) (h1:∀ u ∈ news,u.oneCell'=true) (hnn:∀ u ∈ news,p u=true) (hm:0<m)
  (h63:n+m<=maxLen) (hbytes:(n+m)*bytes<=140737488355328) (hbase:base<=w.heap.size) :
  ∃ g cap w',(Builtin.append_ #[t,t] ty #[v,.slice (some a) m c]).run P w=.ok (.slice (some ⟨g,0,none⟩) (n+m) cap) w'/\w'.ownsRow base e size (.slice (some ⟨g,0,none⟩) (n+m) cap) (n+m) (xs++news)/\w.grownBy w' v.ownBlock/\CA p w' g/\(v.ownBlock=some g\/g=w.heap.size):=by
 obtain⟨v',w',hr,h2,h3,h4⟩:=run_append_own (P:=P) w base t ty e i z size bytes ht hi hz hsize hby hzs hsz v n xs hown a m c news hl hnews h1 h63 hbytes hbase
 subst hsize
 subst hby
 have hsmall:n+m<=9223372036854775807:=by simp only[maxLen] at h63;omega
 have hz0:=fun k=>YV (z:=z.cells) hzn k
 rcases hown.2 with⟨rfl,rfl⟩|⟨g,cap,cur,rfl,hbg,hg,hnc,hcm,hcs,htake⟩
 ·have hrun:=run_append_nil (P:=P) w t ty e i z ht hi hz a m c news hl hnews hm (by omega) (by have hb:=hbytes;simp only[Nat.zero_add] at hb;omega)
  rw[hrun] at hr
  simp only[Result.ok.injEq] at hr
  obtain⟨rfl,rfl⟩:=hr
  refine⟨w.heap.size,_,_,by rw[Nat.zero_add];exact hrun,by simpa using h2,h3,?_,.inr rfl⟩
  refine CA.of_cells (heap_alloc_new w.drew _) (fun u hu=>?_)
  simp only[Array.toList_append,List.mem_append] at hu
  rcases hu with hu|hu
  ·exact hnn u hu
  ·exact hz0 _ u hu
 ·by_cases hroom:n+m<=cap
  ·have hfit:n*i.size+news.length<=cur.size:=by rw[hl,hcs,<-Nat.add_mul];exact Nat.mul_le_mul_right _ hroom
   have hrun:=run_append_room (P:=P) w t ty e i ht hi g n cap cur hg a m c news hl hnews h1 hroom hfit
   rw[hrun] at hr
   simp only[Result.ok.injEq] at hr
   obtain⟨rfl,rfl⟩:=hr
   refine⟨g,cap,_,hrun,h2,h3,?_,.inl rfl⟩
   have hcn:=CA.cells hg (hv g rfl)
   refine CA.of_cells (setRow_heap w g cur _ e _ hg) (fun u hu=>?_)
   simp only[List.mem_append] at hu
   rcases hu with(hu|hu)|hu
   ·exact hcn u (List.mem_of_mem_take hu)
   ·exact hnn u hu
   ·exact hcn u (List.mem_of_mem_drop hu)
  ·have holds:∀ j u,xs[j]?=some u->w.cell? ((⟨g,0,none⟩:Addr).add j)=some u:=hown.cells (g:=g) rfl
   have hrun:=run_append_grow (P:=P) w t ty e i z ht hi hz ⟨g,0,none⟩ n cap xs hown.1 holds a m c news hl hnews (by omega) (by omega) (growslice_fits (by omega) hbytes)
   rw[hrun] at hr
   simp only[Result.ok.injEq] at hr
   obtain⟨rfl,rfl⟩:=hr
   refine⟨w.heap.size,_,_,hrun,h2,h3,?_,.inr rfl⟩
   have hcn:=CA.cells hg (hv g rfl)
   refine CA.of_cells (heap_alloc_new w.drew _) (fun u hu=>?_)
   simp only[Array.toList_append,List.mem_append] at hu
   rcases hu with(hu|hu)|hu
   ·rw[<-htake] at hu;exact hcn u (List.mem_of_mem_take hu)
   ·exact hnn u hu
   ·exact hz0 _ u hu
end
def iR (F:Nat->Prop) (w:World) (c:List Value) (p:Part):Prop:=rep F w p.t c p.x/\p.t.still=true
def Env.has (E:Env) (r:Nat):Nat->Nat->Prop
 | 0,q=>E.blk r=some q
 | i+1,q=>bT (E.inn r i)=some q
theorem qJ {w:World} {E:Env} {q:Nat} (h:fz w E q) (r j:Nat):¬ E.has r j q:=by
 cases j with
 | zero=>exact h.2.1 r
 | succ i=>exact h.2.2 r i
theorem yL {w:World} {E:Env} {q:Nat} (h1:q<w.heap.size) (h2:E.base q) (h3:∀ r j,¬ E.has r j q):fz w E q:=⟨⟨h1,h2⟩,fun r=>h3 r 0,fun r i=>h3 r (i+1)⟩
def dW {α:Type} (ids:Option (List Nat)) (xss:List α):List Nat:=match ids with
 | some l=>l
 | none=>List.range xss.length
def K.one:K->Bool
 | .val t _=>!t.agg&&t.still&&decide (t.n=1)
 | .nil=>true
 | .ptr _ _=>true
 | .own _ _=>true
 | _=>false
def lU (E:Env) (w:World) (r:Nat):Res->Prop
 | .none=>E.blk r=none
 | .gone=>E.blk r=none
 | .box ps=>∃ b cs e,E.blk r=some b/\w.heap[b]?=some (.cells cs.toArray e (0,0))/\chunks (iR (fz w E) w) cs ps
 | .row e t xs _=>E.blk r=bT (E.sl r)/\t.still=true/\∃ cs,w.ownsRow 0 e t.n (E.sl r) xs.length cs/\chunks (rep (fz w E) w t) cs xs/\CAv cZ w (E.sl r)
 | .fro t xs _=>E.blk r=none/\iZ (fz w E) w (.list t) (E.sl r) xs
 | .mat e e2 t ids xss _=>E.blk r=bT (E.sl r)/\t.still=true/\(∃ cs,w.ownsRow 0 e 1 (E.sl r) (dW ids xss).length cs/\cs=(dW ids xss).map (E.inn r)/\CAv cZ w (E.sl r))/\(∀ i ∈ dW ids xss,i<xss.length)/\(∀ i,xss.length<=i->bT (E.inn r i)=none) /\
  ∀ i xs,xss[i]?=some xs->∃ cs,w.ownsRow 0 e2 t.n (E.inn r i) xs.length cs/\chunks (rep (fz w E) w t) cs xs/\CAv cZ w (E.inn r i)
 | .kT _=>True
def KZ (ρ:Nat->Res):K0->Prop
 | .val _ _=>True
 | .own r v=>Res.eP v (ρ r)
 | .ptr r _=>(ρ r).fQ
 | .lJ r=>(ρ r).BI
def K.wf (ρ:Nat->Res):K->Prop
 | .ptr r _=>(ρ r).fQ
 | .own r v=>Res.eP v (ρ r)
 | .when b k=>b=true->k.wf ρ
 | .cell r v _=>Res.eP v (ρ r)
 | .mrow r v i=>Res.eP v (ρ r)/\(Res.lX v (ρ r)->i<(ρ r).cnt)
 | .mpos r v i _=>Res.eP v (ρ r)/\(Res.lX v (ρ r)->i<(ρ r).cnt)
 | .lJ r=>(ρ r).BI
 | .mix ks=>∀ k ∈ ks,KZ ρ k
 | .fn _ ks=>∀ k ∈ ks,KZ ρ k
 | .sng r v=>Res.eP v (ρ r)
 | _=>True
theorem XH {ρ:Nat->Res} {k:K0}:KZ ρ k↔(k0K k).wf ρ:=by cases k<;>exact Iff.rfl
def a1H (E:Env) (ρ:Nat->Res) (w:World) (r:Nat) (k:K):Prop:=k.wf ρ/\k.one=true/\∃ b v e,E.blk r=some b/\w.heap[b]?=some (.cells #[v] e (0,0))/\cZ v=true/\k.holds E ρ w v
structure Under (M:Nat->Prop) (W w:World):Prop where
 os:w.os=W.os
 tape:w.tape=W.tape
 output:w.output=W.output
 size:W.heap.size<=w.heap.size
 blk:∀ k,k<W.heap.size->¬ M k->w.heap[k]?=W.heap[k]?
theorem Under.below {M:Nat->Prop} {W w:World} (h:Under M W w) (hM:∀ q,¬ M q):Below W.heap.size W w:=⟨h.os,h.tape,h.output,h.size,fun k hk=>h.blk k hk (hM k)⟩
theorem Under.trans {M:Nat->Prop} {W w w':World} (h:Under M W w) (hb:Below w.heap.size w w'):Under M W w':=⟨hb.os.trans h.os,hb.tape.trans h.tape,hb.output.trans h.output,Nat.le_trans h.size hb.size,fun k hk hm=>(hb.block k (Nat.lt_of_lt_of_le hk h.size)).trans (h.blk k hk hm)⟩
structure Mem (E:Env) (ρ:Nat->Res) (W w:World):Prop where
 below:Under E.sW W w
 res:∀ r,lU E w r (ρ r)
 inj:∀ r j r' j' b,E.has r j b->E.has r' j' b->r=r'/\j=j'
 mine:∀ r j b,E.has r j b->E.sW b\/W.heap.size<=b
 base:∀ q,E.sW q\/W.heap.size<=q->E.base q
 inner:∀ r i,(ρ r).cnt<=i->bT (E.inn r i)=none
 kbx:∀ r k,ρ r=.kT k->a1H E ρ w r k
 dig:∀ b o n,W.cell? ⟨b,o,none⟩=some (.int .u32 n)->w.cell? ⟨b,o,none⟩=some (.int .u32 n)
structure kD (E:Env) (w w':World) (S:Nat->Prop):Prop where
 os:w'.os=w.os
 tape:w'.tape=w.tape
 output:w'.output=w.output
 size:w.heap.size<=w'.heap.size
 blk:∀ b,b<w.heap.size->(∀ r j,S r->¬ E.has r j b)->w'.heap[b]?=w.heap[b]?
 dig:∀ b o n,w.cell? ⟨b,o,none⟩=some (.int .u32 n)->w'.cell? ⟨b,o,none⟩=some (.int .u32 n)
theorem kD.below {E:Env} {w w':World} (h:Below w.heap.size w w') (S:Nat->Prop):kD E w w' S:=⟨h.os,h.tape,h.output,h.size,fun b hb _=>h.block b hb,fun b o n hc=>(h.cell (p:=⟨b,o,none⟩) (cell_lt hc)).trans hc⟩
theorem kD.stay {E:Env} {w w':World} {S:Nat->Prop} (h:kD E w w' S):jG (fz w E) w w':=⟨fun b hb=>h.blk b hb.1.1 (fun r j _=>qJ hb r j),h.dig,h.size⟩
theorem kD.more {E:Env} {w w':World} {S S':Nat->Prop} (h:kD E w w' S) (hs:∀ r,S r->S' r):kD E w w' S':=⟨h.os,h.tape,h.output,h.size,fun b hb hn=>h.blk b hb (fun r j hr=>hn r j (hs r hr)),h.dig⟩
def bM {α:Type} (f:Nat->α) (r:Nat) (x:α):Nat->α:=fun q=>if q=r then x else f q
theorem aC {α:Type} (f:Nat->α) (r:Nat) (x:α):bM f r x r=x:=if_pos rfl
theorem aU {α:Type} (f:Nat->α) {r q:Nat} (x:α) (h:q≠r):bM f r x q=f q:=if_neg h
def Env.uT (E:Env) (r:Nat) (b:Option Nat) (s:Value) (I:Nat->Value):Env:=⟨bM E.blk r b,bM E.sl r s,E.base,bM E.inn r I,E.sW,E.par⟩
def Env.put (E:Env) (r:Nat) (b:Option Nat) (s:Value):Env:=E.uT r b s (fun _=>undef)
theorem iR.mono {F F':Nat->Prop} {w w':World} (hF:∀ b,F b->F' b) (hs:jG F w w') {c:List Value} {p:Part} (h:iR F w c p):iR F' w' c p:=⟨dA hF hs _ _ _ h.1,h.2⟩
theorem fC {w w':World} {base:Nat} {e:TypeId} {n m:Nat} {v:Value} {cs:List Value} (h:w.ownsRow base e n v m cs) (hb:∀ b,bT v=some b->w'.heap[b]?=w.heap[b]?):w'.ownsRow base e n v m cs:=by
 obtain⟨j1,j2⟩:=h
 refine⟨j1,j2.imp id ?_⟩
 rintro⟨g,cap,cur,e1,e2,e3,e4⟩
 exact⟨g,cap,cur,e1,e2,(hb g (by rw[e1];rfl)).trans e3,e4⟩
theorem kG {w w':World} {v:Value} {p:Value->Bool} (h:CAv p w v) (hb:∀ b,bT v=some b->w'.heap[b]?=w.heap[b]?):CAv p w' v:=by
 intro g hg i u hu
 have hg':bT v=some g:=by
  cases v<;>try (simp[Value.ownBlock] at hg;done)
  rename_i a _ _
  cases a<;>first|(simp[Value.ownBlock] at hg;done)|exact hg
 rw[World.cell?_of_block (w:=w) (hb g hg')] at hu
 exact h g hg i u hu
theorem oH (v:Value):bT v=v.ownBlock:=by
 cases v<;>try rfl
theorem lU.keep {E E':Env} {w w':World} {r:Nat} {x:Res} (hF:∀ b,fz w E b->fz w' E' b) (hs:jG (fz w E) w w') (h1:E'.blk r=E.blk r) (h2:E'.sl r=E.sl r) (h3:E'.inn r=E.inn r) (hb:∀ j b,E.has r j b->w'.heap[b]?=w.heap[b]?) (h:lU E w r x):lU E' w' r x:=by
 cases x with
 | none=>exact h1.trans h
 | gone=>exact h1.trans h
 | kT k=>trivial
 | box ps =>
  obtain⟨b,cs,e,k1,k3,k4⟩:=h
  exact⟨b,cs,e,h1.trans k1,(hb 0 b k1).trans k3,bC (fun c p=>iR.mono hF hs) _ _ k4⟩
 | row e t xs v =>
  obtain⟨k1,k2,cs,k3,k4,k5⟩:=h
  have hb':∀ b,bT (E.sl r)=some b->w'.heap[b]?=w.heap[b]?:=fun b e=>hb 0 b (k1.trans e)
  exact⟨by rw[h1,h2];exact k1,k2,cs,by rw[h2];exact fC k3 hb',bC (fun c y=>dA hF hs t c y) _ _ k4,by rw[h2];exact kG k5 hb'⟩
 | fro t xs v =>
  obtain⟨k1,k2⟩:=h
  exact⟨h1.trans k1,by rw[h2];exact gQ hF hs k2⟩
 | mat e e2 t ids xss v =>
  obtain⟨k1,k2,⟨cs,k3,k4,k5⟩,k6,k7,k8⟩:=h
  have hb':∀ b,bT (E.sl r)=some b->w'.heap[b]?=w.heap[b]?:=fun b e=>hb 0 b (k1.trans e)
  refine⟨by rw[h1,h2];exact k1,k2,⟨cs,by rw[h2];exact fC k3 hb',by rw[h3];exact k4,by rw[h2];exact kG k5 hb'⟩,k6,by rw[h3];exact k7,fun i xs hi=>?_⟩
  obtain⟨ds,q1,q2,q3⟩:=k8 i xs hi
  have hb2:∀ b,bT (E.inn r i)=some b->w'.heap[b]?=w.heap[b]?:=fun b e=>hb (i+1) b e
  exact⟨ds,by rw[h3];exact fC q1 hb2,bC (fun c y=>dA hF hs t c y) _ _ q2,by rw[h3];exact kG q3 hb2⟩
structure Ext (E:Env) (ρ:Nat->Res) (w:World) (E':Env) (ρ':Nat->Res) (w':World):Prop where
 fz:∀ b,fz w E b->Go.Proofs.YtidfgdchcpmnfaaGreat.fz w' E' b
 stay:jG (Go.Proofs.YtidfgdchcpmnfaaGreat.fz w E) w w'
 ptr:∀ r,(ρ r).fQ->(ρ' r).fQ/\E'.blk r=E.blk r
 kp:∀ r,(ρ r).BI->(ρ' r).BI/\((ρ' r).lT->(ρ r).lT/\E'.blk r=E.blk r)
 ver:∀ r v,Res.eP v (ρ r)->Res.eP v (ρ' r)
 own:∀ r v,Res.eP v (ρ r)->Res.isRow v (ρ' r)->Res.isRow v (ρ r)/\E'.sl r=E.sl r/\(ρ' r).esz=(ρ r).esz
 mat:∀ r v,Res.eP v (ρ r)->Res.lX v (ρ' r)->Res.lX v (ρ r)/\(ρ' r).msz=(ρ r).msz/\(ρ r).cnt<=(ρ' r).cnt/\∀ i,i<(ρ r).cnt->E'.inn r i=E.inn r i
 base:E'.base=E.base
 sW:E'.sW=E.sW
 par:E'.par=E.par
theorem Ext.fix {E E':Env} {ρ ρ':Nat->Res} {w w':World} (h:Ext E ρ w E' ρ' w'):E'.fix=E.fix:=by
 unfold Env.fix
 rw[h.base,h.sW,h.par]
theorem Ext.wf0 {E E':Env} {ρ ρ':Nat->Res} {w w':World} (h:Ext E ρ w E' ρ' w'):(k:K0)->KZ ρ k->KZ ρ' k
 | .val _ _,_=>trivial
 | .own r v,hk=>h.ver r v hk
 | .ptr r _,hk=>(h.ptr r hk).1
 | .lJ r,hk=>(h.kp r hk).1
theorem Ext.wf {E E':Env} {ρ ρ':Nat->Res} {w w':World} (h:Ext E ρ w E' ρ' w'):(k:K)->k.wf ρ->k.wf ρ'
 | .any,_=>trivial
 | .val _ _,_=>trivial
 | .nil,_=>trivial
 | .ptr r _,hk=>(h.ptr r hk).1
 | .own r v,hk=>h.ver r v hk
 | .when _ k,hk=>fun hb=>h.wf k (hk hb)
 | .tup _ _,_=>trivial
 | .cell r v _,hk=>h.ver r v hk
 | .mrow r v i,hk=>⟨h.ver r v hk.1,fun hm=>by
  obtain⟨a,_,b,_⟩:=h.mat r v hk.1 hm
  exact Nat.lt_of_lt_of_le (hk.2 a) b⟩
 | .mpos r v i _,hk=>⟨h.ver r v hk.1,fun hm=>by
  obtain⟨a,_,b,_⟩:=h.mat r v hk.1 hm
  exact Nat.lt_of_lt_of_le (hk.2 a) b⟩
 | .lJ r,hk=>(h.kp r hk).1
 | .mix ks,hk=>fun k hm=>h.wf0 k (hk k hm)
 | .fn _ ks,hk=>fun k hm=>h.wf0 k (hk k hm)
 | .sng r v,hk=>h.ver r v hk
theorem Ext.mix {E E':Env} {ρ ρ':Nat->Res} {w w':World} (h:Ext E ρ w E' ρ' w'):∀ (ks:List K0) (vs:List Value),(∀ k ∈ ks,KZ ρ k)->mO (Go.Proofs.YtidfgdchcpmnfaaGreat.fz w E) E ρ w ks vs->mO (Go.Proofs.YtidfgdchcpmnfaaGreat.fz w' E') E' ρ' w' ks vs
 | [],_,_,hh=>hh
 | k::ks,_,hw,⟨v,vs',h1,h2,h3⟩=>by
  refine⟨v,vs',h1,?_,h.mix ks vs' (fun k hk=>hw k (List.mem_cons_of_mem _ hk)) h3⟩
  have hk:=hw k (List.mem_cons_self ..)
  cases k with
  | val t x=>exact gQ h.fz h.stay h2
  | own r ver =>
   intro hb
   obtain⟨a,b,_⟩:=h.own r ver hk hb
   rw[b];exact h2 a
  | ptr r o =>
   obtain⟨b,h3,h4⟩:=h2
   exact⟨b,(h.ptr r hk).2.trans h3,h4⟩
  | lJ r =>
   intro hb
   obtain⟨a1,a2⟩:=(h.kp r hk).2 hb
   obtain⟨b,h3,h4⟩:=h2 a1
   exact⟨b,a2.trans h3,h4⟩
theorem Ext.holds {E E':Env} {ρ ρ':Nat->Res} {w w':World} (h:Ext E ρ w E' ρ' w'):(k:K)->(v:Value)->k.wf ρ->k.holds E ρ w v->k.holds E' ρ' w' v
 | .any,_,_,_=>trivial
 | .val _ _,_,_,hh=>gQ h.fz h.stay hh
 | .nil,_,_,hh=>hh
 | .ptr r _,v,hk,⟨b,h3,h4⟩=>⟨b,(h.ptr r hk).2.trans h3,h4⟩
 | .own r ver,v,hk,hh=>fun hb=>by
  obtain⟨h1,h2,_⟩:=h.own r ver hk hb
  rw[h2];exact hh h1
 | .when _ k,v,hk,hh=>fun hb=>h.holds k v (hk hb) (hh hb)
 | .tup ts x,v,_,⟨vs,h1,h2⟩=>⟨vs,h1,jV h.fz h.stay ts vs x h2⟩
 | .cell r ver i,v,hk,hh=>fun hb=>by
  obtain⟨h1,h2,h3⟩:=h.own r ver hk hb
  obtain⟨b,h4,h5⟩:=hh h1
  exact⟨b,by rw[h2];exact h4,by rw[h3];exact h5⟩
 | .mrow r ver i,v,hk,hh=>fun hb=>by
  obtain⟨h1,h2,h3,h4⟩:=h.mat r ver hk.1 hb
  rw[h4 i (hk.2 h1)];exact hh h1
 | .mpos r ver i j,v,hk,hh=>fun hb=>by
  obtain⟨h1,h2,h3,h4⟩:=h.mat r ver hk.1 hb
  obtain⟨b,h5,h6⟩:=hh h1
  exact⟨b,by rw[h4 i (hk.2 h1)];exact h5,by rw[h2];exact h6⟩
 | .lJ r,v,hk,hh=>fun hb=>by
  obtain⟨h1,h2⟩:=(h.kp r hk).2 hb
  obtain⟨b,h3,h4⟩:=hh h1
  exact⟨b,h2.trans h3,h4⟩
 | .mix ks,v,hk,⟨vs,h1,h2⟩=>⟨vs,h1,h.mix ks vs hk h2⟩
 | .fn _ ks,v,hk,⟨vs,h1,h2⟩=>⟨vs,h1,h.mix ks vs hk h2⟩
 | .sng r ver,v,hk,hh=>fun hb=>by
  obtain⟨a1,a2,_⟩:=h.own r ver hk hb
  obtain⟨b,h3,h4,h5⟩:=hh a1
  exact⟨b,h3,h.fz b h4,by rw[a2];exact DI h.stay h4 h5⟩
theorem Ext.refl (E:Env) (ρ:Nat->Res) (w:World):Ext E ρ w E ρ w:=⟨fun _ h=>h,jG.refl _ _,fun _ h=>⟨h,rfl⟩,fun _ h=>⟨h,fun h=>⟨h,rfl⟩⟩,fun _ _ h=>h,fun _ _ _ h=>⟨h,rfl,rfl⟩,fun _ _ _ h=>⟨h,rfl,Nat.le_refl _,fun _ _=>rfl⟩,rfl,rfl,rfl⟩
theorem Ext.trans {E E' E'':Env} {ρ ρ' b7m:Nat->Res} {w w' w'':World} (h:Ext E ρ w E' ρ' w') (k:Ext E' ρ' w' E'' b7m w''):Ext E ρ w E'' b7m w'' :=
 ⟨fun b hb=>k.fz b (h.fz b hb),h.stay.trans (k.stay.less h.fz),
  fun r hr=>⟨(k.ptr r (h.ptr r hr).1).1,(k.ptr r (h.ptr r hr).1).2.trans (h.ptr r hr).2⟩,
  fun r hr=>⟨(k.kp r (h.kp r hr).1).1,fun hb=>by
    obtain⟨a,b⟩:=(k.kp r (h.kp r hr).1).2 hb
    obtain⟨c,d⟩:=(h.kp r hr).2 a
    exact⟨c,b.trans d⟩⟩,
  fun r v hr=>k.ver r v (h.ver r v hr),
  fun r v hr hb=>by
   obtain⟨h1,h2,h5⟩:=k.own r v (h.ver r v hr) hb
   obtain⟨h3,h4,h6⟩:=h.own r v hr h1
   exact⟨h3,h2.trans h4,h5.trans h6⟩,
  fun r v hr hb=>by
   obtain⟨h1,h2,h3,h4⟩:=k.mat r v (h.ver r v hr) hb
   obtain⟨g1,g2,g3,g4⟩:=h.mat r v hr h1
   exact⟨g1,h2.trans g2,Nat.le_trans g3 h3,fun i hi=>(h4 i (Nat.lt_of_lt_of_le hi g3)).trans (g4 i hi)⟩,
  k.base.trans h.base,k.sW.trans h.sW,k.par.trans h.par⟩
theorem Mem.lt {E:Env} {ρ:Nat->Res} {W w:World} (h:Mem E ρ W w) {r j b:Nat} (hr:E.has r j b):b<w.heap.size:=by
 have h1:=h.res r
 have PZ:∀ {e n v m cs},w.ownsRow 0 e n v m cs->bT v=some b->b<w.heap.size:=fun {e n v m cs} hw hv=>by
  rcases hw.2 with⟨j2,_⟩|⟨g,cap,cur,e1,e2,e3,_⟩
  ·rw[j2] at hv;cases hv
  ·rw[e1] at hv;cases hv
   exact(Array.getElem?_eq_some_iff.1 e3).1
 cases j with
 | zero =>
  have hr:E.blk r=some b:=hr
  cases hx:ρ r with
  | none=>rw[hx] at h1;rw[show E.blk r=none from h1] at hr;cases hr
  | gone=>rw[hx] at h1;rw[show E.blk r=none from h1] at hr;cases hr
  | kT k =>
   obtain⟨_,_,b',v,e,k1,k2,_⟩:=h.kbx r k hx
   rw[k1] at hr;cases hr
   exact(Array.getElem?_eq_some_iff.1 k2).1
  | box ps =>
   rw[hx] at h1
   obtain⟨b',cs,e,k1,k3,k4⟩:=h1
   rw[k1] at hr;cases hr
   exact(Array.getElem?_eq_some_iff.1 k3).1
  | row e t xs v =>
   rw[hx] at h1
   obtain⟨k1,k2,cs,k3,k4,k5⟩:=h1
   exact PZ k3 (k1.symm.trans hr)
  | fro t xs v=>rw[hx] at h1;rw[h1.1] at hr;cases hr
  | mat e e2 t ids xss v =>
   rw[hx] at h1
   obtain⟨k1,k2,⟨cs,k3,_⟩,_⟩:=h1
   exact PZ k3 (k1.symm.trans hr)
 | succ i =>
  have hr:bT (E.inn r i)=some b:=hr
  by_cases hc:i<(ρ r).cnt
  ·cases hx:ρ r with
   | mat e e2 t ids xss v =>
    rw[hx] at h1 hc
    obtain⟨k1,k2,_,_,_,k8⟩:=h1
    obtain⟨cs,q1,_⟩:=k8 i (xss[i]'hc) (List.getElem?_eq_getElem hc)
    exact PZ q1 hr
   | _=>rw[hx] at hc;simp[Res.cnt] at hc
  ·rw[h.inner r i (by omega)] at hr;cases hr
theorem vC {E E':Env} {w w':World} {S:Nat->Prop} (hsz:w.heap.size<=w'.heap.size) (hb:E'.base=E.base)
  (hE:∀ r,¬ S r->E'.blk r=E.blk r/\E'.inn r=E.inn r)
  (hown:∀ r j b,S r->E'.has r j b->(∃ r0 j0,E.has r0 j0 b)\/w.heap.size<=b):∀ q,fz w E q->fz w' E' q:=fun q hq=>by
 refine yL (Nat.lt_of_lt_of_le hq.1.1 hsz) (by rw[hb];exact hq.1.2) (fun r j hr=>?_)
 by_cases hs:S r
 ·rcases hown r j q hs hr with⟨r0,j0,h0⟩|h0
  ·exact qJ hq r0 j0 h0
  ·have:=hq.1.1;omega
 ·obtain⟨e1,e2⟩:=hE r hs
  cases j with
  | zero=>exact qJ hq r 0 (by show E.blk r=some q;rw[<-e1];exact hr)
  | succ i=>exact qJ hq r (i+1) (by show bT (E.inn r i)=some q;rw[<-e2];exact hr)
theorem Mem.turns {E E':Env} {ρ ρ':Nat->Res} {W w w':World} (h:Mem E ρ W w) (S:Nat->Prop) (hg:kD E w w' S)
  (hE:∀ r,¬ S r->E'.blk r=E.blk r/\E'.sl r=E.sl r/\E'.inn r=E.inn r/\ρ' r=ρ r) (hb:E'.base=E.base) (hm:E'.sW=E.sW) (hpa:E'.par=E.par)
  (hown:∀ r j b,S r->E'.has r j b->(∃ r0 j0,S r0/\E.has r0 j0 b)\/w.heap.size<=b)
  (hinj:∀ r j r' j' b,S r->S r'->E'.has r j b->E'.has r' j' b->r=r'/\j=j')
  (a2i:∀ r i,S r->(ρ' r).cnt<=i->bT (E'.inn r i)=none)
  (b7Y:∀ r,S r->(ρ r).fQ->(ρ' r).fQ/\E'.blk r=E.blk r)
  (hkp:∀ r,S r->(ρ r).BI->(ρ' r).BI/\((ρ' r).lT->(ρ r).lT/\E'.blk r=E.blk r))
  (a9X:∀ r v,S r->Res.eP v (ρ r)->Res.eP v (ρ' r))
  (hrow:∀ r v,S r->Res.eP v (ρ r)->Res.isRow v (ρ' r)->Res.isRow v (ρ r)/\E'.sl r=E.sl r/\(ρ' r).esz=(ρ r).esz)
  (CV:∀ r v,S r->Res.eP v (ρ r)->Res.lX v (ρ' r)->Res.lX v (ρ r)/\(ρ' r).msz=(ρ r).msz/\(ρ r).cnt<=(ρ' r).cnt/\∀ i,i<(ρ r).cnt->E'.inn r i=E.inn r i)
  (hx:∀ r,S r->lU E' w' r (ρ' r)) (hk:Ext E ρ w E' ρ' w'->∀ r k,S r->ρ' r=.kT k->a1H E' ρ' w' r k) :
  Mem E' ρ' W w'/\Ext E ρ w E' ρ' w':=by
 have hs:=hg.stay
 have hF:=vC (S:=S) hg.size hb (fun r hr=>⟨(hE r hr).1,(hE r hr).2.2.1⟩) (fun r j b hr hh=>(hown r j b hr hh).imp (fun⟨r0,j0,_,h0⟩=>⟨r0,j0,h0⟩) id)
 have hhas:∀ r j b,¬ S r->(E'.has r j b↔E.has r j b):=fun r j b hr=>by
  obtain⟨e1,_,e3,_⟩:=hE r hr
  cases j with
  | zero=>show E'.blk r=some b↔E.blk r=some b;rw[e1]
  | succ i=>show bT (E'.inn r i)=some b↔bT (E.inn r i)=some b;rw[e3]
 have hX:Ext E ρ w E' ρ' w':=by
  refine⟨hF,hs,fun r hr=>?_,fun r hr=>?_,fun r v hr=>?_,fun r v hr hr'=>?_,fun r v hr hr'=>?_,hb,hm,hpa⟩
  all_goals by_cases e:S r
  ·exact b7Y r e hr
  ·obtain⟨e1,e2,e3,e4⟩:=hE r e;rw[e4,e1];exact⟨hr,rfl⟩
  ·exact hkp r e hr
  ·obtain⟨e1,e2,e3,e4⟩:=hE r e;rw[e4,e1];exact⟨hr,fun h=>⟨h,rfl⟩⟩
  ·exact a9X r v e hr
  ·obtain⟨e1,e2,e3,e4⟩:=hE r e;rw[e4];exact hr
  ·exact hrow r v e hr hr'
  ·obtain⟨e1,e2,e3,e4⟩:=hE r e;rw[e4] at hr' ⊢;exact⟨hr',e2,rfl⟩
  ·exact CV r v e hr hr'
  ·obtain⟨e1,e2,e3,e4⟩:=hE r e;rw[e4] at hr' ⊢;exact⟨hr',rfl,Nat.le_refl _,fun i _=>by rw[e3]⟩
 have a7G:∀ r j r' j' b,S r->¬ S r'->E'.has r j b->E'.has r' j' b->False:=fun r j r' j' b h1 h2 h3 h4=>by
  have h5:=(hhas r' j' b h2).1 h4
  rcases hown r j b h1 h3 with⟨r0,j0,k1,k2⟩|k1
  ·have:=(h.inj _ _ _ _ _ k2 h5).1
   subst this;exact h2 k1
  ·have:=h.lt h5;omega
 refine⟨⟨?_,fun r=>?_,fun r j r' j' b h1 h2=>?_,fun r j b h1=>?_,?_,fun r i hi=>?_,fun r k hk'=>?_,fun b o n hc=>hg.dig b o n (h.dig b o n hc)⟩,hX⟩
 ·refine⟨hg.os.trans h.below.os,hg.tape.trans h.below.tape,hg.output.trans h.below.output,Nat.le_trans h.below.size hg.size,fun k hk hmk=>?_⟩
  rw[hm] at hmk
  refine(hg.blk k (Nat.lt_of_lt_of_le hk h.below.size) (fun r j _ e=>?_)).trans (h.below.blk k hk hmk)
  rcases h.mine r j k e with e|e
  ·exact hmk e
  ·omega
 ·by_cases e:S r
  ·exact hx r e
  ·obtain⟨e1,e2,e3,e4⟩:=hE r e
   rw[e4]
   refine(h.res r).keep hF hs e1 e2 e3 (fun j b hb'=>hg.blk b (h.lt hb') (fun r' j' hr' e'=>?_))
   have:=(h.inj _ _ _ _ _ hb' e').1
   subst this;exact e hr'
 ·by_cases e1:S r
  ·by_cases e2:S r'
   ·exact hinj r j r' j' b e1 e2 h1 h2
   ·exact(a7G r j r' j' b e1 e2 h1 h2).elim
  ·by_cases e2:S r'
   ·exact(a7G r' j' r j b e2 e1 h2 h1).elim
   ·exact h.inj r j r' j' b ((hhas r j b e1).1 h1) ((hhas r' j' b e2).1 h2)
 ·rw[hm]
  by_cases e:S r
  ·rcases hown r j b e h1 with⟨r0,j0,_,k2⟩|k
   ·exact h.mine r0 j0 b k2
   ·exact .inr (Nat.le_trans h.below.size k)
  ·exact h.mine r j b ((hhas r j b e).1 h1)
 ·rw[hb,hm];exact h.base
 ·by_cases e:S r
  ·exact a2i r i e hi
  ·obtain⟨e1,e2,e3,e4⟩:=hE r e
   rw[e4] at hi;rw[e3];exact h.inner r i hi
 ·by_cases e:S r
  ·exact hk hX r k e hk'
  ·obtain⟨e1,e2,e3,e4⟩:=hE r e
   rw[e4] at hk'
   obtain⟨q1,q2,b,v,t,q3,q4,q5,q6⟩:=h.kbx r k hk'
   refine⟨hX.wf k q1,q2,b,v,t,e1.trans q3,?_,q5,hX.holds k v q1 q6⟩
   refine(hg.blk b (h.lt (j:=0) q3) (fun r' j' hr' e'=>?_)).trans q4
   have:=(h.inj _ 0 _ _ _ q3 e').1
   subst this;exact e hr'
theorem Mem.grows {E:Env} {ρ:Nat->Res} {W w w':World} (h:Mem E ρ W w) (hb:Below w.heap.size w w'):Mem E ρ W w'/\Ext E ρ w E ρ w' :=
 h.turns (fun _=>False) (kD.below hb _) (fun _ _=>⟨rfl,rfl,rfl,rfl⟩) rfl rfl rfl (fun _ _ _ h=>h.elim) (fun _ _ _ _ _ h=>h.elim) (fun _ _ h=>h.elim) (fun _ h=>h.elim) (fun _ h=>h.elim) (fun _ _ h=>h.elim) (fun _ _ h=>h.elim) (fun _ _ h=>h.elim) (fun _ h=>h.elim) (fun _ _ _ h=>h.elim)
theorem pX {E:Env} {r:Nat} {b:Option Nat} {s:Value} {I:Nat->Value} {r' j q:Nat}:(E.uT r b s I).has r' j q↔(if r'=r then (match j with|0=>b=some q|i+1=>bT (I i)=some q) else E.has r' j q):=by
 cases j with
 | zero =>
  show bM E.blk r b r'=some q↔_
  unfold bM
  split<;>exact Iff.rfl
 | succ i =>
  show bT (bM E.inn r I r' i)=some q↔_
  unfold bM
  split<;>exact Iff.rfl
theorem Mem.FX {E:Env} {ρ:Nat->Res} {W w w':World} (h:Mem E ρ W w) (r:Nat) (hg:kD E w w' (fun q=>q=r)) (b:Option Nat) (s:Value) (I:Nat->Value) (x:Res) (hx:lU (E.uT r b s I) w' r x)
  (hown:∀ q,(b=some q\/∃ i,bT (I i)=some q)->(∃ j0,E.has r j0 q)\/w.heap.size<=q)
  (b1b:∀ q i,b=some q->bT (I i)≠some q) (b6x:∀ i i' q,bT (I i)=some q->bT (I i')=some q->i=i')
  (a2i:∀ i,x.cnt<=i->bT (I i)=none)
  (hp:(ρ r).fQ->x.fQ/\b=E.blk r) (hkp:(ρ r).BI->x.BI/\(x.lT->(ρ r).lT/\b=E.blk r)) (hv:∀ v,Res.eP v (ρ r)->Res.eP v x)
  (ho:∀ v,Res.eP v (ρ r)->Res.isRow v x->Res.isRow v (ρ r)/\s=E.sl r/\x.esz=(ρ r).esz)
  (CV:∀ v,Res.eP v (ρ r)->Res.lX v x->Res.lX v (ρ r)/\x.msz=(ρ r).msz/\(ρ r).cnt<=x.cnt/\∀ i,i<(ρ r).cnt->I i=E.inn r i)
  (hk:Ext E ρ w (E.uT r b s I) (bM ρ r x) w'->∀ k,x=.kT k->a1H (E.uT r b s I) (bM ρ r x) w' r k) :
  Mem (E.uT r b s I) (bM ρ r x) W w'/\Ext E ρ w (E.uT r b s I) (bM ρ r x) w':=by
 refine h.turns (fun q=>q=r) hg (fun q hq=>⟨aU _ _ hq,aU _ _ hq,aU _ _ hq,aU _ _ hq⟩) rfl rfl rfl (fun r' j q e hh=>?_) (fun r1 j r2 j' q e1 e2 h1 h2=>?_) (fun r' i e hi=>?_) (fun r' e hr=>?_) (fun r' e hr=>?_) (fun r' v e hr=>?_) (fun r' v e hr hr'=>?_) (fun r' v e hr hr'=>?_) (fun r' e=>?_) (fun hX r' k e hr=>?_)
 ·subst e
  rw[pX,if_pos rfl] at hh
  rcases hown q (by cases j with|zero=>exact .inl hh|succ i=>exact .inr ⟨i,hh⟩) with⟨j0,h0⟩|h0
  ·exact .inl ⟨r',j0,rfl,h0⟩
  ·exact .inr h0
 ·subst e1 e2
  rw[pX,if_pos rfl] at h1 h2
  refine⟨rfl,?_⟩
  cases j with
  | zero=>cases j' with
   | zero=>rfl
   | succ i=>exact(b1b q i h1 h2).elim
  | succ i=>cases j' with
   | zero=>exact(b1b q i h2 h1).elim
   | succ i'=>rw[b6x i i' q h1 h2]
 ·subst e;rw[aC] at hi;show bT (bM E.inn r' I r' i)=none;rw[aC];exact a2i i hi
 ·subst e;rw[aC];obtain⟨a,c⟩:=hp hr;exact⟨a,by show bM E.blk r' b r'=_;rw[aC];exact c⟩
 ·subst e;rw[aC];obtain⟨a,c⟩:=hkp hr;exact⟨a,fun hh=>⟨(c hh).1,by show bM E.blk r' b r'=_;rw[aC];exact(c hh).2⟩⟩
 ·subst e;rw[aC];exact hv v hr
 ·subst e;rw[aC] at hr' ⊢;obtain⟨a,c,d⟩:=ho v hr hr';exact⟨a,by show bM E.sl r' s r'=_;rw[aC];exact c,d⟩
 ·subst e;rw[aC] at hr' ⊢;obtain⟨a,c,d,f⟩:=CV v hr hr';exact⟨a,c,d,fun i hi=>by show bM E.inn r' I r' i=_;rw[aC];exact f i hi⟩
 ·subst e;rw[aC];exact hx
 ·subst e;rw[aC] at hr;exact hk hX k hr
theorem Mem.turn {E:Env} {ρ:Nat->Res} {W w w':World} (h:Mem E ρ W w) (r:Nat) (hg:kD E w w' (fun q=>q=r)) (b:Option Nat) (s:Value) (x:Res) (hx:lU (E.put r b s) w' r x)
  (hb:b=none\/b=E.blk r\/b=some w.heap.size) (hc:x.cnt=0) (hkb:∀ k,x≠.kT k) (hkg:¬ (ρ r).BI)
  (hp:(ρ r).fQ->x.fQ/\b=E.blk r) (hv:∀ v,Res.eP v (ρ r)->Res.eP v x)
  (ho:∀ v,Res.eP v (ρ r)->Res.isRow v x->Res.isRow v (ρ r)/\s=E.sl r/\x.esz=(ρ r).esz) (hnm:∀ v,¬ Res.lX v x) :
  Mem (E.put r b s) (bM ρ r x) W w'/\Ext E ρ w (E.put r b s) (bM ρ r x) w' :=
 h.FX r hg b s (fun _=>undef) x hx (fun q hq=>by
  rcases hq with hq|⟨i,hq⟩
  ·rcases hb with e|e|e
   ·rw[e] at hq;cases hq
   ·exact .inl ⟨0,by show E.blk r=some q;rw[<-e];exact hq⟩
   ·rw[e] at hq;cases hq;exact .inr (Nat.le_refl _)
  ·cases hq) (fun q i _ hq=>by cases hq) (fun i i' q hq=>by cases hq) (fun i _=>rfl) hp (fun hh=>(hkg hh).elim) hv ho (fun v _ hh=>(hnm v hh).elim) (fun _ k e=>(hkb k e).elim)
theorem CS {E:Env} {ρ:Nat->Res} {w w':World} {r:Nat} {b:Option Nat} {s:Value} (hsz:w.heap.size<=w'.heap.size) (hb:b=none\/b=E.blk r\/b=some w.heap.size):∀ q,fz w E q->fz w' (E.put r b s) q :=
 vC (S:=fun q=>q=r) hsz rfl (fun q hq=>⟨aU _ _ hq,aU _ _ hq⟩) (fun r' j q e hh=>by
  subst e
  unfold Env.put at hh
  rw[pX,if_pos rfl] at hh
  cases j with
  | zero =>
   rcases hb with e|e|e
   ·rw[e] at hh;cases hh
   ·exact .inl ⟨r',0,by show E.blk r'=some q;rw[<-e];exact hh⟩
   ·rw[e] at hh;cases hh;exact .inr (Nat.le_refl _)
  | succ i=>cases hh)
end Go.Proofs.YtidfgdchcpmnfaaGreat
