/-
  Lemmas for the theorem vofmatrices_holds, part 22 of 32.
-/
import Derived.Deep.CutBlock
import Derived.Deep.DeepCutAuto
import Derived.Deep.LoopGhost
import Derived.Test.YtidfgdchcpmnfaaGreatOm06
import Derived.Test.YtidfgdchcpmnfaaGreatOm11
import Derived.Test.YtidfgdchcpmnfaaGreatOm21
namespace Go.Proofs.YtidfgdchcpmnfaaGreat
open Go.RowKit
set_option maxRecDepth 100000
set_option maxHeartbeats 8000000
set_option linter.unusedSimpArgs false
set_option linter.unusedVariables false
theorem b0k {R C:Nat} (h1:1<=R) (h2:R<=64) (h3:1<=C) (h4:C<=64):xI R (fun _=>C) (fun _ _=>true)=0:=by
 unfold xI
 rw[if_pos ⟨h1,h2,h3,h4,gJ.2 (fun i hi=>by simp[rowOk,gJ.2 (fun j hj=>rfl:∀ j,j<C->(fun _=>true) j=true)])⟩]
theorem yZ (v:Value) (R C K:Nat) (e:Nat->Nat->Rat) (w:World) (h:qN w v R C K e) (hK:K<=1000000000) (h1:1<=R) (h2:R<=64) (h3:1<=C) (h4:C<=64) :
  Calls Tryz.prog 48 #[v] w (GI 0 w):=by
 have:=PN v R K _ _ e w h hK
 rw[b0k h1 h2 h3 h4] at this
 exact this
theorem a0C (b o n c:Nat) (w:World) (hn:n<=c) (hc:c<=9223372036854775807) (hb:b<w.heap.size)
  (hall:∀ k,k<n->∃ p R C cc K e,w.cell? ⟨b,o+k,none⟩=some (.slice p R cc)/\qN w (.slice p R cc) R C K e/\K<=1000000000/\1<=R/\R<=64/\1<=C/\C<=64) :
  Calls Tryz.prog 141 #[.slice (some ⟨b,o,none⟩) n c] w (GI 0 w):=by
 have HA:=Lib.hid hall
 have hB0:Below w.heap.size w w:=Below.refl _ _
 clear hall
 go_enter Tryz.func141,Tryz.ntmps141
 go_wp2_with fail
 go_loopw [8,4,5,9,10,11,12,13,14,15,16,17] (fun i _ _ _ _ _ _ _ _ _ _ _ wr=>∃ k:Nat,k<=n/\i=.int .i64 (k:Nat)/\Below w.heap.size w wr) (fun i _ _ _ _ _ _ _ _ _ _ _ _=>n-(intOf i).toNat)
 case atStart=>exact⟨0,by omega,rfl,hB0⟩
 case round =>
  obtain⟨k,hk,rfl,hB⟩:=hrel
  by_cases hlt:k<n
  ·obtain⟨p,R,C,cc,K,e,c0,hM,hK,h1,h2,h3,h4⟩:=HA.out k hlt
   have c1:=dR hB hb c0
   have hkd:decide (k<n)=true:=by simpa using hlt
   go_wp2_with fail
   refine(yZ _ R C K e _ (hM.below hB) hK h1 h2 h3 h4).mono ?_
   rintro e w1 ⟨rfl,hb1⟩
   go_wp2_with fail
   go_roundw
   case rel=>exact⟨k+1,by omega,by go_num,Below.tr hB hb1⟩
   case measure=>simp[intOf];omega
  ·have he:k=n:=by omega
   subst he
   have hkd:decide (k<k)=false:=by simp
   go_wp2_with fail
   go_ret
   exact⟨rfl,hB⟩
def a6B (base R C K:Nat) (e:Nat->Nat->Rat) (w:World) (x:Ending) (w':World):Prop:=∃ b rb,x=.returned (.tuple #[.slice (some ⟨b,0,none⟩) R R,.int .i64 0])/\jW w' base b R C K R rb e/\Below base w w'
theorem TF (v:Value) (R C K:Nat) (e:Nat->Nat->Rat) (w:World) (h:qN w v R C K e) (hK:K<=1000000000) (h1:1<=R) (h2:R<=64) (h3:1<=C) (h4:C<=64) :
  Calls Tryz.prog 102 #[v] w (a6B w.heap.size C R K (fun i j=>e j i) w):=by
 obtain⟨p,c,rfl,hl1,hl2⟩:=h.form
 go_enter Tryz.func102,Tryz.ntmps102
 go_wp2_with fail
 refine(yZ _ R C K e _ h hK h1 h2 h3 h4).mono ?_
 rintro x w1 ⟨rfl,hb1⟩
 go_wp2_with fail
 refine(RH _ R C K e _ (h.below hb1) (by omega) (by omega) (by omega)).mono ?_
 rintro x w2 ⟨b2,rb2,rfl,hM2,hb2⟩
 go_wp2_with fail
 go_ret2
 exact⟨_,_,rfl,hM2.base hb1.size,Below.tr hb1 hb2⟩
theorem a3e (v:Value) (R K:Nat) (e:Nat->Nat->Rat) (w:World) (h:qN w v R R K e) (hK:K<=1000000000) (h1:1<=R) (h2:R<=64) :
  Calls Tryz.prog 145 #[v] w (GI 0 w):=by
 obtain⟨p,c,rfl,hl1,hl2⟩:=h.form
 obtain⟨b,o,q,d,rfl,hbl,c0,hr⟩:=h.at_ h1
 rw[Nat.add_zero] at c0
 go_enter Tryz.func145,Tryz.ntmps145
 go_wp2_with fail
 refine(yZ _ R R K e _ h hK h1 h2 h1 h2).mono ?_
 rintro x w1 ⟨rfl,hb1⟩
 have c1:=dR hb1 hbl c0
 go_wp2_with fail
 go_ret
 exact⟨rfl,hb1⟩
theorem a8o (B1 B2 b1 o1 b2 o2 R C M c1 c2 K i j:Nat) (e f:Nat->Nat->Rat) (w:World) (hB1:w.cell? ⟨B1,0,none⟩=some (.slice (some ⟨b1,o1,none⟩) R c1)) (b6g:B1<w.heap.size) (ha:qN w (.slice (some ⟨b1,o1,none⟩) R c1) R M K e) (hi:i<R)
  (hB2:w.cell? ⟨B2,0,none⟩=some (.slice (some ⟨b2,o2,none⟩) C c2)) (b6h:B2<w.heap.size) (hb:qN w (.slice (some ⟨b2,o2,none⟩) C c2) C M K f) (hj:j<C) (hK:M*(2*K+1)+K<=99999999) :
  Calls Tryz.prog 143 #[.int .i64 (i:Nat),.int .i64 (j:Nat),.pointer (some ⟨B1,0,none⟩),.pointer (some ⟨B2,0,none⟩)] w (GQ (pU (e i) (f j) M) w):=by
 obtain⟨_,_,he,hl1,hl2⟩:=ha.form
 cases he
 obtain⟨_,_,he,hl3,hl4⟩:=hb.form
 cases he
 obtain⟨_,_,qa,da,he,hal,ca,hra⟩:=ha.at_ hi
 cases he
 obtain⟨_,_,qb,db,he,hbl,cb,hrb⟩:=hb.at_ hj
 cases he
 have hW:Below w.heap.size w (w.alloc (.cells #[.bool false,.slice none 0 0,.bool false,.slice none 0 0] 30)):=(Below.refl _ _).alloc (Nat.le_refl _) _
 have hsz:w.heap.size<(w.alloc (.cells #[.bool false,.slice none 0 0,.bool false,.slice none 0 0] 30)).heap.size:=by simp
 have S0:(fun w':World=>w'.cell? ⟨B1,0,none⟩=some (.slice (some ⟨b1,o1,none⟩) R c1)/\w'.cell? ⟨B2,0,none⟩=some (.slice (some ⟨b2,o2,none⟩) C c2)/\w'.cell? ⟨b1,o1+i,none⟩=some (.slice qa M da)/\w'.cell? ⟨b2,o2+j,none⟩=some (.slice qb M db)/\w.heap.size<w'.heap.size) (w.alloc (.cells #[.bool false,.slice none 0 0,.bool false,.slice none 0 0] 30)).drew:=⟨dR hW.drew b6g hB1,dR hW.drew b6h hB2,dR hW.drew hal ca,dR hW.drew hbl cb,hsz⟩
 have KK:∀ A B:World,(fun w':World=>w'.cell? ⟨B1,0,none⟩=some (.slice (some ⟨b1,o1,none⟩) R c1)/\w'.cell? ⟨B2,0,none⟩=some (.slice (some ⟨b2,o2,none⟩) C c2)/\w'.cell? ⟨b1,o1+i,none⟩=some (.slice qa M da)/\w'.cell? ⟨b2,o2+j,none⟩=some (.slice qb M db)/\w.heap.size<w'.heap.size) A->Below A.heap.size A B->(fun w':World=>w'.cell? ⟨B1,0,none⟩=some (.slice (some ⟨b1,o1,none⟩) R c1)/\w'.cell? ⟨B2,0,none⟩=some (.slice (some ⟨b2,o2,none⟩) C c2)/\w'.cell? ⟨b1,o1+i,none⟩=some (.slice qa M da)/\w'.cell? ⟨b2,o2+j,none⟩=some (.slice qb M db)/\w.heap.size<w'.heap.size) B:=by
  rintro A B ⟨k0,k1,k2,k3,k4⟩ hb
  have hs:=hb.size
  exact⟨dR hb (by omega) k0,dR hb (by omega) k1,dR hb (by omega) k2,dR hb (by omega) k3,by omega⟩
 have KS:∀ (A:World) (x0 x1 x2 x3:Value),(fun w':World=>w'.cell? ⟨B1,0,none⟩=some (.slice (some ⟨b1,o1,none⟩) R c1)/\w'.cell? ⟨B2,0,none⟩=some (.slice (some ⟨b2,o2,none⟩) C c2)/\w'.cell? ⟨b1,o1+i,none⟩=some (.slice qa M da)/\w'.cell? ⟨b2,o2+j,none⟩=some (.slice qb M db)/\w.heap.size<w'.heap.size) A->(fun w':World=>w'.cell? ⟨B1,0,none⟩=some (.slice (some ⟨b1,o1,none⟩) R c1)/\w'.cell? ⟨B2,0,none⟩=some (.slice (some ⟨b2,o2,none⟩) C c2)/\w'.cell? ⟨b1,o1+i,none⟩=some (.slice qa M da)/\w'.cell? ⟨b2,o2+j,none⟩=some (.slice qb M db)/\w.heap.size<w'.heap.size) ((((A.setCell ⟨w.heap.size,0,none⟩ x0).setCell ⟨w.heap.size,1,none⟩ x1).setCell ⟨w.heap.size,2,none⟩ x2).setCell ⟨w.heap.size,3,none⟩ x3):=by
  rintro A x0 x1 x2 x3 ⟨k0,k1,k2,k3,k4⟩
  have far:∀ (b o:Nat) (v:Value),b<w.heap.size->A.cell? ⟨b,o,none⟩=some v->((((A.setCell ⟨w.heap.size,0,none⟩ x0).setCell ⟨w.heap.size,1,none⟩ x1).setCell ⟨w.heap.size,2,none⟩ x2).setCell ⟨w.heap.size,3,none⟩ x3).cell? ⟨b,o,none⟩=some v:=by
   intro b o v hb hc
   have hne:w.heap.size≠b:=by omega
   rw[World.cell?_setCell_far _ _ _ _ (by simpa using hne),World.cell?_setCell_far _ _ _ _ (by simpa using hne),World.cell?_setCell_far _ _ _ _ (by simpa using hne),World.cell?_setCell_far _ _ _ _ (by simpa using hne)]
   exact hc
  exact⟨far _ _ _ b6g k0,far _ _ _ b6h k1,far _ _ _ hal k2,far _ _ _ hbl k3,by simpa using k4⟩
 have hx0:Bx (w.alloc (.cells #[.bool false,.slice none 0 0,.bool false,.slice none 0 0] 30)) w.heap.size [.bool false,.slice none 0 0,.bool false,.slice none 0 0]:=by have:=Bx.new w [.bool false,.slice none 0 0,.bool false,.slice none 0 0] 30;simpa using this
 have hD:=a9D qa qb M da db K (e i) (f j) (w.alloc (.cells #[.bool false,.slice none 0 0,.bool false,.slice none 0 0] 30)).drew ((hra.below hW).below (Below.refl _ _).drew) ((hrb.below hW).below (Below.refl _ _).drew) hK
 have HD:=Lib.hid hD
 have hB0:=hW.drew
 clear hD ca cb hB1 hB2 hK
 go_enter Tryz.func143,Tryz.ntmps143
 go_wp2_with fail
 have tk1:True:=trivial
 go_region_held3 (fun w':World=>w'.cell? ⟨B1,0,none⟩=some (.slice (some ⟨b1,o1,none⟩) R c1)/\w'.cell? ⟨B2,0,none⟩=some (.slice (some ⟨b2,o2,none⟩) C c2)/\w'.cell? ⟨b1,o1+i,none⟩=some (.slice qa M da)/\w'.cell? ⟨b2,o2+j,none⟩=some (.slice qb M db)/\w.heap.size<w'.heap.size) (first|with_reducible exact S0|with_reducible exact KK _ _ (by assumption) (by assumption)|with_reducible exact KS _ _ _ _ _ (by assumption)|(simp;done))
  (first
   | (((have:=tk1;clear tk1;(with_reducible refine HD.out.mono ?_);rintro e w1 ⟨v1,rfl,hi1,hb1⟩;obtain⟨g1,p1,n1,c1,h1,o1,m1,e1,rfl⟩:=hi1.form;have hx1:=hx0.drew.to hb1;have d0:=hx1.c0;have d1:=hx1.c1;have d2:=hx1.c2;have d3:=hx1.c3;have f0:=hx1.f0;have f1:=hx1.f1;have f2:=hx1.f2;have f3:=hx1.f3)))
  )
 go_wp2_with fail
 exact bodyPost_ret (v:=.agg #[.bool g1,.slice p1 n1 c1,.bool h1,.slice o1 m1 e1]) (by simp[results,Tryz.results143,go_sem,d0,d1,d2,d3,f0,f1,f2,f3]) rfl ⟨_,rfl,hi1.aT hx1 rfl rfl rfl rfl _ _ _ _,Below.aT (Below.tr hB0 hb1) (b:=w.heap.size) (Nat.le_refl _) _ _ _ _⟩
theorem a8n (v u:Value) (R M C K:Nat) (e f:Nat->Nat->Rat) (w:World) (ha:qN w v R M K e) (hb:qN w u M C K f) (hK:M*(2*K+1)+K<=99999999) (h1:1<=R) (h2:R<=64) (h3:1<=M) (h4:M<=64) (h5:1<=C) (h6:C<=64) :
  Calls Tryz.prog 103 #[v,u] w (a6B w.heap.size R C (M*(2*K+1)+1) (fun i j=>pU (e i) (fun k=>f k j) M) w):=by
 obtain⟨p1,c1,rfl,hl1,hl2⟩:=ha.form
 obtain⟨p2,c2,rfl,hl3,hl4⟩:=hb.form
 obtain⟨b1,o1,qa,da,rfl,hal,ca,hra⟩:=ha.at_ h1
 obtain⟨b2,o2,qb,db,rfl,hbl,cb,hrb⟩:=hb.at_ h3
 rw[Nat.add_zero] at ca cb
 have h1':0<R:=h1
 have h3':0<M:=h3
 have h5':0<C:=h5
 have hBw1:Below w.heap.size w (w.alloc (.cells #[.slice (some ⟨b1,o1,none⟩) R c1] 23)):=(Below.refl _ _).alloc (Nat.le_refl _) _
 have hBw2:Below w.heap.size w ((w.alloc (.cells #[.slice (some ⟨b1,o1,none⟩) R c1] 23)).alloc (.cells #[.slice (some ⟨b1,o1,none⟩) R c1,.slice (some ⟨b2,o2,none⟩) M c2] 23)):=Below.al hBw1 _
 have x0:Bx (w.alloc (.cells #[.slice (some ⟨b1,o1,none⟩) R c1] 23)) w.heap.size [.slice (some ⟨b1,o1,none⟩) R c1]:=by have:=Bx.new w [.slice (some ⟨b1,o1,none⟩) R c1] 23;simpa using this
 have x1:Bx ((w.alloc (.cells #[.slice (some ⟨b1,o1,none⟩) R c1] 23)).alloc (.cells #[.slice (some ⟨b1,o1,none⟩) R c1,.slice (some ⟨b2,o2,none⟩) M c2] 23)) w.heap.size [.slice (some ⟨b1,o1,none⟩) R c1]:=x0.alloc _
 have y1:Bx ((w.alloc (.cells #[.slice (some ⟨b1,o1,none⟩) R c1] 23)).alloc (.cells #[.slice (some ⟨b1,o1,none⟩) R c1,.slice (some ⟨b2,o2,none⟩) M c2] 23)) (w.heap.size+1) [.slice (some ⟨b1,o1,none⟩) R c1,.slice (some ⟨b2,o2,none⟩) M c2]:=by have:=Bx.new (w.alloc (.cells #[.slice (some ⟨b1,o1,none⟩) R c1] 23)) [.slice (some ⟨b1,o1,none⟩) R c1,.slice (some ⟨b2,o2,none⟩) M c2] 23;simpa using this
 have hCk:=a0C (w.heap.size+1) 0 2 2 ((w.alloc (.cells #[.slice (some ⟨b1,o1,none⟩) R c1] 23)).alloc (.cells #[.slice (some ⟨b1,o1,none⟩) R c1,.slice (some ⟨b2,o2,none⟩) M c2] 23)) (by omega) (by omega) (by simp) (fun k hk=>by
  obtain rfl|rfl:k=0\/k=1:=by omega
  ·exact⟨_,R,M,c1,K,e,y1.c0,ha.below hBw2,by omega,h1,h2,h3,h4⟩
  ·exact⟨_,M,C,c2,K,f,y1.c1,hb.below hBw2,by omega,h3,h4,h5,h6⟩)
 have HCk:=Lib.hid hCk
 have HK:=Lib.hid hK
 have Hra:=Lib.hid ca
 have Hrb:=Lib.hid cb
 clear hCk hK ca cb
 go_enter Tryz.func103,Tryz.ntmps103
 go_wp2_with fail
 refine HCk.out.mono ?_
 rintro x w1 ⟨rfl,hb1⟩
 have x2:=x1.to hb1
 have d0:=x2.c0
 have hB1:=Below.tr hBw2 hb1
 have ca:=dR hB1 hal Hra.out
 go_wp2_with fail
 refine(RH _ M C K f _ (hb.below hB1) (by omega) (by omega) (by omega)).mono ?_
 rintro x w2 ⟨b3,rb3,rfl,hM3,hb2⟩
 have hB2:=Below.tr hB1 hb2
 have x3:=x2.to hb2
 have hc3:=hM3.toR (by omega) (by omega)
 have hlt2:=x3.1
 have a9J:Below w.heap.size w (w2.alloc (.cells #[.slice (some ⟨b3,0,none⟩) C C] 23)):=Below.al hB2 _
 have x5:=(x3.alloc (.cells #[.slice (some ⟨b3,0,none⟩) C C] 23))
 have y5:Bx (w2.alloc (.cells #[.slice (some ⟨b3,0,none⟩) C C] 23)) w2.heap.size [.slice (some ⟨b3,0,none⟩) C C]:=by have:=Bx.new w2 [.slice (some ⟨b3,0,none⟩) C C] 23;simpa using this
 have hc5:=hc3.below (w':=(w2.alloc (.cells #[.slice (some ⟨b3,0,none⟩) C C] 23))) ((Below.refl _ _).alloc (Nat.le_refl _) _)
 have S0:(fun w':World=>w'.cell? ⟨w.heap.size,0,none⟩=some (.slice (some ⟨b1,o1,none⟩) R c1)/\w'.cell? ⟨b2,o2,none⟩=some (.slice qb C db)/\w.heap.size<w'.heap.size) (w2.alloc (.cells #[.slice (some ⟨b3,0,none⟩) C C] 23)).drew:=⟨x5.c0,dR a9J.drew hbl Hrb.out,by simp;omega⟩
 have KK:∀ A B:World,(fun w':World=>w'.cell? ⟨w.heap.size,0,none⟩=some (.slice (some ⟨b1,o1,none⟩) R c1)/\w'.cell? ⟨b2,o2,none⟩=some (.slice qb C db)/\w.heap.size<w'.heap.size) A->Below A.heap.size A B->(fun w':World=>w'.cell? ⟨w.heap.size,0,none⟩=some (.slice (some ⟨b1,o1,none⟩) R c1)/\w'.cell? ⟨b2,o2,none⟩=some (.slice qb C db)/\w.heap.size<w'.heap.size) B:=by
  rintro A B ⟨k0,k1,k2⟩ hb
  have hs:=hb.size
  exact⟨dR hb (by omega) k0,dR hb (by omega) k1,by omega⟩
 have hF:∀ (i j:Nat) (w':World),i<R->j<C->Below (w2.alloc (.cells #[.slice (some ⟨b3,0,none⟩) C C] 23)).drew.heap.size (w2.alloc (.cells #[.slice (some ⟨b3,0,none⟩) C C] 23)).drew w'->Calls Tryz.prog 143 #[.int .i64 (i:Nat),.int .i64 (j:Nat),.pointer (some ⟨w.heap.size,0,none⟩),.pointer (some ⟨w2.heap.size,0,none⟩)] w' (GQ ((fun i j=>pU (e i) (fun k=>f k j) M) i j) w'):=fun i j w' hi hj hb =>
  a8o w.heap.size w2.heap.size b1 o1 b3 0 R C M c1 C K i j e (fun i j=>f j i) w' (dR hb x5.1 x5.c0) (Nat.lt_of_lt_of_le x5.1 hb.size) ((ha.below a9J.drew).below hb) hi (dR hb y5.1 y5.c0) (Nat.lt_of_lt_of_le y5.1 hb.size) ((hc5.below (Below.refl _ _).drew).below hb) hj HK.out
 have hT:=a5E R C (M*(2*K+1)+1) 143 (.pointer (some ⟨w.heap.size,0,none⟩)) (.pointer (some ⟨w2.heap.size,0,none⟩)) (fun i j=>pU (e i) (fun k=>f k j) M) (w2.alloc (.cells #[.slice (some ⟨b3,0,none⟩) C C] 23)).drew (by omega) (by omega) (fun i j hi hj=>NT M (fun k hk=>⟨ha.rsz hi hk,hb.rsz hk hj⟩)) (fun _ _ _ _ _=>rfl) hF
 have HT:=Lib.hid hT
 clear hF hT
 go_wp2_with fail
 have tk1:True:=trivial
 go_region_held3 (fun w':World=>w'.cell? ⟨w.heap.size,0,none⟩=some (.slice (some ⟨b1,o1,none⟩) R c1)/\w'.cell? ⟨b2,o2,none⟩=some (.slice qb C db)/\w.heap.size<w'.heap.size) (first|with_reducible exact S0|with_reducible exact KK _ _ (by assumption) (by assumption)|(simp;done))
  (first
   | (((have:=tk1;clear tk1;(with_reducible refine HT.out.mono ?_);rintro x w6 ⟨b6,rb6,rfl,hM6,hb6⟩)))
  )
 go_wp2_with fail
 go_ret2
 exact⟨_,_,rfl,hM6.base (by simpa using a9J.size),Below.tr a9J.drew (by simpa using hb6)⟩
theorem XV (v u:Value) (x y:Rat) (w:World) (fa:RQ w v x) (fb:RQ w u y) (hl:rsz x<=400000000) (hl2:rsz y<=400000000) (hy:y≠0) :
  Calls Tryz.prog 148 #[v,u] w (GQ (x / y) w):=by
 obtain⟨b,p,n,c,d,o,m,e,rfl⟩:=fa.form
 obtain⟨f,i,j,k,g,r,t,a,rfl⟩:=fb.form
 have hb1:=dL x
 have hb2:=cO x
 have hb3:=dL y
 have hb4:=cO y
 have aY:Below w.heap.size w w:=Below.refl _ _
 go_enter Tryz.func148,Tryz.ntmps148
 go_wp2_with fail
 obtain⟨hA1,m0,n0,o0⟩:=bx3 w rfl [.bool b,.slice p n c,.bool d,.slice o m e] 30 [.bool f,.slice i j k,.bool g,.slice r t a] 30 [.bool false,.slice none 0 0,.bool false,.slice none 0 0] 30
 have p0:=(fa.below hA1)
 have q0:=(fb.below hA1)
 (with_reducible refine(a3N _ _ (x) (y) _ p0 q0 hl hl2 hy).mono ?_)
 rintro e w1 ⟨v1,rfl,hi1,hb1⟩
 obtain⟨g1,p1,n1,c1,h1,o1,m1,e1,rfl⟩:=hi1.form
 have DF:=(o0.to hb1)
 obtain⟨a0,e0,b0,f0,c0,g0,d0,h0⟩:=DF.cf4
 have bF:=(m0.to hb1)
 have i0:=(bF).1
 have dF:=(n0.to hb1)
 have j0:=(dF).1
 have k0:=(DF).1
 obtain⟨hA2,r0⟩:=bx1 w1 rfl [.bool g1,.slice p1 n1 c1,.bool h1,.slice o1 m1 e1] 30
 obtain⟨hA3,s0⟩:=bx1 ((((w1.setCell ⟨w.heap.size+1+1,0,none⟩ (.bool g1)).setCell ⟨w.heap.size+1+1,1,none⟩ (.slice p1 n1 c1)).setCell ⟨w.heap.size+1+1,2,none⟩ (.bool h1)).setCell ⟨w.heap.size+1+1,3,none⟩ (.slice o1 m1 e1)) (by simp:_=w1.heap.size) [.bool g1,.slice p1 n1 c1,.bool h1,.slice o1 m1 e1] 30
 have l0:=(Below.tr (Below.tr aY hA1) hb1)
 go_wp2_with fail
 exact bodyPost_ret (v:=.agg #[.bool g1,.slice p1 n1 c1,.bool h1,.slice o1 m1 e1]) (by simp[results,Tryz.results148,go_sem,i0,j0,k0,a0,e0,b0,f0,c0,g0,d0,h0]) rfl ⟨_,rfl,((hi1.aT DF rfl rfl rfl rfl (.bool g1) (.slice p1 n1 c1) (.bool h1) (.slice o1 m1 e1)).below hA3),(Below.tr (Below.aT l0 (b:=w.heap.size+1+1) (by omega) (.bool g1) (.slice p1 n1 c1) (.bool h1) (.slice o1 m1 e1)) hA3)⟩
def DL (e f:Nat->Rat) (k:Rat) (a j:Nat):Nat->Rat:=fun c=>if a<=c/\c<j then e c-k*f c else e c
theorem a6o (e f:Nat->Rat) (k:Rat) {a j:Nat} (ha:a<=j):(fun c=>if c=j then e j-k*f j else DL e f k a j c)=DL e f k a (j+1):=by
 funext c
 unfold DL
 by_cases e1:c=j
 ·subst e1;rw[if_pos rfl,if_pos ⟨ha,by omega⟩]
 ·rw[if_neg e1]
  by_cases e2:a<=c/\c<j
  ·rw[if_pos e2,if_pos ⟨e2.1,by omega⟩]
  ·rw[if_neg e2,if_neg (by omega)]
theorem a6n (e f:Nat->Rat) (k:Rat) {a j:Nat} (h:f j=0):DL e f k a j=DL e f k a (j+1):=by
 funext c
 unfold DL
 by_cases e1:c=j
 ·subst e1
  rw[if_neg (by omega),h]
  split
  ·grind
  ·rfl
 ·by_cases e2:a<=c/\c<j
  ·rw[if_pos e2,if_pos ⟨e2.1,by omega⟩]
  ·rw[if_neg e2,if_neg (by omega)]
theorem b0O (e f:Nat->Rat) (k:Rat) (a j:Nat):DL e f k a j j=e j:=by unfold DL;rw[if_neg (by omega)]
def KM:Nat:=99999999
def b7n (br n:Nat) (x:Nat->Rat) (w:World) (e:Ending) (w':World):Prop:=e=.returned (.tuple #[])/\jE w' br n KM (fun _=>true) x/\w.grownBy w' (some br)
theorem YM (br bo n a KA:Nat) (e f:Nat->Rat) (kv:Value) (k:Rat) (w:World) (hr:jE w br n KM (fun _=>true) e) (ho:jE w bo n KM (fun _=>true) f) (hne:bo≠br) (hk:RQ w kv k)
  (hkK:rsz k<=2*KA) (he:∀ c,c<n->rsz (e c)<=KA) (hf:∀ c,c<n->rsz (f c)<=KA) (hKA:4*KA+1<=KM) (hn:n<=1000000) (ha:a<=n) :
  Calls Tryz.prog 147 #[.slice (some ⟨br,0,none⟩) n n,.slice (some ⟨bo,0,none⟩) n n,kv,.int .i64 (a:Nat)] w (b7n br n (DL e f k a n) w):=by
 obtain⟨kg,kp,kn,kc,kh,ko,km,ke,rfl⟩:=hk.form
 have hKM:KM<=99999999:=Nat.le_refl _
 have HE:=Lib.hid he
 have HF:=Lib.hid hf
 have hlr:=hr.lt
 have hlo:=ho.lt
 have hnu:=hr.nu
 have q0:Bx (w.alloc (.cells #[.bool kg,.slice kp kn kc,.bool kh,.slice ko km ke] 30)) w.heap.size [.bool kg,.slice kp kn kc,.bool kh,.slice ko km ke]:=by have:=Bx.new w [.bool kg,.slice kp kn kc,.bool kh,.slice ko km ke] 30;simpa using this
 have hB0:Below w.heap.size w (w.alloc (.cells #[.bool kg,.slice kp kn kc,.bool kh,.slice ko km ke] 30)):=(Below.refl _ _).alloc (Nat.le_refl _) _
 have hG0:w.grownBy (w.alloc (.cells #[.bool kg,.slice kp kn kc,.bool kh,.slice ko km ke] 30)) (some br):=grown_below (a2e w br) hB0
 have hr0:jE (w.alloc (.cells #[.bool kg,.slice kp kn kc,.bool kh,.slice ko km ke] 30)) br n KM (fun _=>true) (DL e f k a a):=(hr.below (m:=0) hB0).congr (fun _ _=>rfl) (fun c _=>by unfold DL;rw[if_neg (by omega)])
 clear he hf
 go_enter Tryz.func147,Tryz.ntmps147
 go_wp2_with fail
 go_loopw [8,10,11,12,13,14,15,16,17,18,19,20,21,22,23,24,25,26,27,28,29,30,31,32,33,34,35] (fun i _ _ _ _ _ _ _ _ _ _ _ _ _ _ _ _ _ _ _ _ _ _ _ _ _ _ wr=>∃ (j:Nat),a<=j/\j<=n/\i=.int .i64 (j:Nat)/\jE wr br n KM (fun _=>true) (DL e f k a j)/\Bx wr w.heap.size [.bool kg,.slice kp kn kc,.bool kh,.slice ko km ke]/\w.grownBy wr (some br)) (fun i _ _ _ _ _ _ _ _ _ _ _ _ _ _ _ _ _ _ _ _ _ _ _ _ _ _ _=>n-(intOf i).toNat)
 case atStart=>exact⟨a,by omega,ha,rfl,hr0,q0,hG0⟩
 case round =>
  obtain⟨j,hj1,hj,rfl,hR,hq,hG⟩:=hrel
  have hzB:=hG.size
  have hlq:=hq.1
  by_cases hlt:j<n
  ·have hkd:decide (j<n)=true:=by simpa using hlt
   have hO:=ho.grown hne hG hnu
   obtain⟨yg,yp,yn,yc,yh,yo,ym,ye,y0,y1,y2,y3,hyq,hyn⟩:=hO.cells hlt
   have hy:=hyq.rq
   have ly:=HF.out j hlt
   have hlo1:bo<wr.heap.size:=by omega
   have b7V:br<wr.heap.size:=by omega
   have hW:Below wr.heap.size wr wr:=Below.refl _ _
   go_wp2_with fail
   refine(lQ _ _ _ hy (by omega)).mono ?_
   rintro x w1 ⟨rfl,hb1⟩
   by_cases hy0:f j=0
   ·have HD:Hid (DL e f k a j=DL e f k a (j+1)):=Lib.hid (a6n e f k hy0)
    have hsg:(sgn (f j).num==0)=true:=by rw[hy0];rfl
    have KY:(sgn (f j).num != 0)=false:=by rw[hy0];rfl
    have HY0:=Lib.hid hy0
    clear hy0
    go_wp2_with fail
    go_roundw
    case rel=>exact⟨j+1,by omega,by omega,by go_num,by rw[<-HD.out];exact hR.below (m:=0) hb1,hq.to hb1,grown_below hG hb1⟩
    case measure=>simp[intOf];omega
   ·have hsg:=IX hy0
    have KY:=EY hy0
    have HY0:=Lib.hid hy0
    clear hy0
    have hlo2:bo<w1.heap.size:=Nat.lt_of_lt_of_le hlo1 hb1.size
    have a9Q:br<w1.heap.size:=Nat.lt_of_lt_of_le b7V hb1.size
    have z0:=dR hb1 hlo1 y0
    have z1:=dR hb1 hlo1 y1
    have z2:=dR hb1 hlo1 y2
    have z3:=dR hb1 hlo1 y3
    have hR1:=hR.below (m:=0) hb1
    obtain⟨xg,xp,xn,xc,xh,xo,xm,xe,x0,x1,x2,x3,hxq,hxn⟩:=hR1.cells hlt
    have hx:=hxq.rq
    have hq1:=hq.to hb1
    have v0:=hq1.c0
    have v1:=hq1.c1
    have v2:=hq1.c2
    have v3:=hq1.c3
    have b9n:=hq1.1
    have hky:=((hk.grown hG hnu).below hb1).drew
    have hyd:=(hy.below hb1).drew
    have hxd:=hx.drew
    rw[b0O] at hxd
    have lx:=HE.out j hlt
    have l1:=fP k (f j)
    have l2:=uG (e j) (k*f j)
    have l3:rsz (k*f j)<=400000000:=by omega
    have l4:rsz (e j-k*f j)<=KM:=by omega
    have hM:=EW _ _ _ _ _ hky hyd (by omega) (by omega)
    have HM:=Lib.hid hM
    clear hM
    go_wp2_with fail
    have tk1:True:=trivial
    have tk2:True:=trivial
    go_region_with
     (first
      | (((have:=tk1;clear tk1;(with_reducible refine HM.out.mono ?_);rintro x w2 ⟨v2,rfl,hi2,hb2⟩;obtain⟨g2,p2,n2,c2,h2,o2,m2,e2,rfl⟩:=hi2.form;have t0:=dR hb2 a9Q x0;have t1:=dR hb2 a9Q x1;have t2:=dR hb2 a9Q x2;have t3:=dR hb2 a9Q x3;have hxe:=hxd.below hb2)))
      | (((have:=tk2;clear tk2;(with_reducible refine(a1o _ _ _ _ _ hxe hi2 (by omega) l3).mono ?_);rintro x w3 ⟨v3,rfl,hi3,hb3⟩;obtain⟨g3,p3,n3,c3,h3,o3,m3,e3,rfl⟩:=hi3.form;have hR3:=((hR1.below (m:=0) (Below.refl _ _).drew).below (m:=0) hb2).below (m:=0) hb3;obtain⟨_,_,_,_,_,_,_,_,s0,s1,s2,s3,_,_⟩:=hR3.cells hlt;have f0:=hR3.frozen (j*4);have f1:=hR3.frozen (j*4+1);have f2:=hR3.frozen (j*4+2);have f3:=hR3.frozen (j*4+3)))))
    all_goals
     go_wp2_with fail
     go_roundw
     case rel=>exact⟨j+1,by omega,by omega,by go_num,by rw[<-a6o e f k hj1];exact(hR3.QX hlt (QC.of hi3 l4)).congr (fun c _=>by simp) (fun c _=>rfl),(((hq1.drew.to hb2).to hb3).uD (b:=br) (by omega) (j*4) _).uD (b:=br) (by omega) (j*4+1) _ |>.uD (b:=br) (by omega) (j*4+2) _ |>.uD (b:=br) (by omega) (j*4+3) _,a2f (grown_below (grown_below (grown_below (grown_below hG hb1) (Below.refl _ _).drew) hb2) hb3) _ _ _ _ _⟩
     case measure=>simp[intOf];omega
  ·have he:j=n:=by omega
   subst he
   have hkd:decide (j<j)=false:=by simp
   go_wp2_with fail
   go_end0
   exact⟨rfl,hR,hG⟩
set_option maxRecDepth 20000
structure nV (w0 w:World) (b D n:Nat) (rb:Nat->Nat) (e:Nat->Nat->Rat) (u0 u1 u2 u3:Value) (d:Rat):Prop where
 q2:Bx w w0.heap.size [.bool false,.slice none 0 0,.bool false,.slice none 0 0]
 qd:Bx w D [u0,u1,u2,u3]
 hd:RQ w (.agg #[u0,u1,u2,u3]) d
 hM:jW w w0.heap.size b n n KM n rb e
 hbD:b≠D
 hrD:∀ i,i<n->rb i≠D
 hD:w0.heap.size<D
 hr2:∀ i,i<n->rb i≠w0.heap.size
 hB:Below w0.heap.size w0 w
section
variable {w0 w w':World} {b D n:Nat} {rb:Nat->Nat} {e:Nat->Nat->Rat} {u0 u1 u2 u3:Value} {d:Rat}
theorem nV.below (h:nV w0 w b D n rb e u0 u1 u2 u3 d) (hb:Below w.heap.size w w'):nV w0 w' b D n rb e u0 u1 u2 u3 d :=
 ⟨h.q2.to hb,h.qd.to hb,h.hd.below hb,h.hM.below hb,h.hbD,h.hrD,h.hD,h.hr2,Below.tr h.hB hb⟩
theorem nV.drew (h:nV w0 w b D n rb e u0 u1 u2 u3 d):nV w0 w.drew b D n rb e u0 u1 u2 u3 d:=h.below (Below.refl _ _).drew
theorem RQ.nus (h:RQ w (.agg #[u0,u1,u2,u3]) d):aS u0=true/\aS u1=true/\aS u2=true/\aS u3=true:=by
 obtain⟨_,_,_,_,_,_,_,_,e⟩:=h.form
 cases e
 exact⟨rfl,rfl,rfl,rfl⟩
theorem nV.b7j (h:nV w0 w b D n rb e u0 u1 u2 u3 d) {x0 x1 x2 x3:Value} {q:Rat} (hq:RQ w (.agg #[x0,x1,x2,x3]) q) :
  nV w0 ((((w.setCell ⟨D,0,none⟩ x0).setCell ⟨D,1,none⟩ x1).setCell ⟨D,2,none⟩ x2).setCell ⟨D,3,none⟩ x3) b D n rb e x0 x1 x2 x3 q:=by
 have N:=h.hd.nus
 have hlt:w0.heap.size<=D:=Nat.le_of_lt h.hD
 exact⟨h.q2.dI (b:=D) (Nat.ne_of_lt h.hD) _ _ _ _,h.qd.jS _ _ _ _,hq.aT h.qd N.1 N.2.1 N.2.2.1 N.2.2.2 _ _ _ _,h.hM.WH h.hbD h.hrD h.qd N.1 N.2.1 N.2.2.1 N.2.2.2 _ _ _ _,h.hbD,h.hrD,h.hD,h.hr2,Below.aT h.hB (b:=D) hlt _ _ _ _⟩
theorem nV.row (h:nV w0 w b D n rb e u0 u1 u2 u3 d) {i:Nat} (hi:i<n) {x:Nat->Rat} (hg:w.grownBy w' (some (rb i))) (hr:jE w' (rb i) n KM (fun _=>true) x) :
  nV w0 w' b D n rb (fun r=>if r=i then x else e r) u0 u1 u2 u3 d:=by
 have hn:=(h.hM.rows i hi).nu
 have hlow:=(h.hM.hrb i hi).1
 exact⟨h.q2.grown (fun e=>h.hr2 i hi e.symm) hg,h.qd.grown (fun e=>h.hrD i hi e.symm) hg,h.hd.grown hg hn,h.hM.row hi hg hr,h.hbD,h.hrD,h.hD,h.hr2,h.hB.grown hg h.hB.size (fun k hk=>by cases hk;exact hlow)⟩
theorem nV.congr {e':Nat->Nat->Rat} (h:nV w0 w b D n rb e u0 u1 u2 u3 d) (he:∀ r c,r<n->c<n->e r c=e' r c):nV w0 w b D n rb e' u0 u1 u2 u3 d :=
 ⟨h.q2,h.qd,h.hd,h.hM.congr he,h.hbD,h.hrD,h.hD,h.hr2,h.hB⟩
theorem nV.swap (h:nV w0 w b D n rb e u0 u1 u2 u3 d) {j k:Nat} (hj:j<n) (hk:k<n) (hne:j≠k)
  (hw:w'=(w.setCell ⟨b,k,none⟩ (hdr n (rb j))).setCell ⟨b,j,none⟩ (hdr n (rb k))\/w'=(w.setCell ⟨b,j,none⟩ (hdr n (rb k))).setCell ⟨b,k,none⟩ (hdr n (rb j))) (h2b:b≠w0.heap.size) :
  nV w0 w' b D n (fun i=>if i=j then rb k else if i=k then rb j else rb i) (swp e j k) u0 u1 u2 u3 d:=by
 have hck:∀ i,i<n->w.cell? ⟨b,i,none⟩=some (hdr n (rb i)):=fun i hi=>(h.hM.hd hi).1
 have hM:=h.hM.swap hj hk (w':=w') (hw.elim .inl (fun a=>.inr ⟨hne,a⟩))
 have hb:=h.hM.hb
 have hrr:∀ (P:Nat->Prop),(∀ i,i<n->P (rb i))->∀ i,i<n->P (if i=j then rb k else if i=k then rb j else rb i):=fun P hP i hi=>by
  split
  ·exact hP k hk
  ·split
   ·exact hP j hj
   ·exact hP i hi
 have far:∀ {X:Nat} {cs:List Value},X≠b->Bx w X cs->Bx w' X cs:=fun hX q=>by
  rcases hw with rfl|rfl
  ·exact(q.uD hX _ _).uD hX _ _
  ·exact(q.uD hX _ _).uD hX _ _
 refine⟨far (fun e=>h2b e.symm) h.q2,far (fun e=>h.hbD e.symm) h.qd,?_,hM,h.hbD,hrr (fun r=>r≠D) h.hrD,h.hD,hrr (fun r=>r≠w0.heap.size) h.hr2,?_⟩
 ·rcases hw with rfl|rfl
  ·exact(h.hd.fZ (hck k hk) rfl _).fZ (a:=⟨b,j,none⟩) (u:=hdr n (rb j)) (by rw[World.cell?_setCell_other _ _ _ _ (by simp;try omega)];exact hck j hj) rfl _
  ·exact(h.hd.fZ (hck j hj) rfl _).fZ (a:=⟨b,k,none⟩) (u:=hdr n (rb k)) (by rw[World.cell?_setCell_other _ _ _ _ (by simp;try omega)];exact hck k hk) rfl _
 ·rcases hw with rfl|rfl
  ·exact(h.hB.setCell (p:=⟨b,k,none⟩) hb _).setCell (p:=⟨b,j,none⟩) hb _
  ·exact(h.hB.setCell (p:=⟨b,j,none⟩) hb _).setCell (p:=⟨b,k,none⟩) hb _
theorem nV.at_ (h:nV w0 w b D n rb e u0 u1 u2 u3 d) {i j:Nat} (hi:i<n) (hj:j<n) :
  ∃ g q m c g' q' m' c',w.cell? ⟨rb i,j*4,none⟩=some (.bool g)/\w.cell? ⟨rb i,j*4+1,none⟩=some (.slice q m c)/\w.cell? ⟨rb i,j*4+2,none⟩=some (.bool g')/\w.cell? ⟨rb i,j*4+3,none⟩=some (.slice q' m' c') /\
   RQ w (.agg #[.bool g,.slice q m c,.bool g',.slice q' m' c']) (e i j):=by
 obtain⟨g,q,m,c,g',q',m',c',c0,c1,c2,c3,hq,_⟩:=(h.hM.rows i hi).cells hj
 exact⟨g,q,m,c,g',q',m',c',c0,c1,c2,c3,hq.rq⟩
end
theorem UR {B n j:Nat} (hj:j<n):B*5 ^ (n-j)=5*B*5 ^ (n-(j+1)):=by
 rw[show n-j=n-(j+1)+1 by omega,Nat.pow_succ,Nat.mul_comm (5 ^ (n-(j+1))) 5,<-Nat.mul_assoc,Nat.mul_comm B 5]
theorem a4C (B m:Nat):B<=B*5 ^ m:=Nat.le_mul_of_pos_right _ (Nat.pow_pos (by omega))
set_option maxRecDepth 100000
set_option maxHeartbeats 16000000
theorem b0J:rsz 1=1:=by decide +kernel
theorem KW (v:Value) (n K:Nat) (e0:Nat->Nat->Rat) (w:World) (h:qN w v n n K e0) (h1:1<=n) (h2:n<=64) (hK1:1<=K) (hK:K*5 ^ n<=KM) :
  Calls Tryz.prog 104 #[v] w (GQC (det n e0) 0 w):=by
 have a0l:Tryz.prog.follows .mixedOrders=true:=by kernel_rfl
 obtain⟨p,c,rfl,hl1,hl2⟩:=h.form
 have hKM:KM<=99999999:=Nat.le_refl _
 have hKK:K<=KM:=Nat.le_trans (a4C K n) hK
 have HK:=Lib.hid hK
 clear hK
 have q0:Bx (w.alloc (.cells #[.bool false,.slice none 0 0,.bool false,.slice none 0 0] 30)) w.heap.size [.bool false,.slice none 0 0,.bool false,.slice none 0 0]:=by have:=Bx.new w [.bool false,.slice none 0 0,.bool false,.slice none 0 0] 30;simpa using this
 have hB0:Below w.heap.size w (w.alloc (.cells #[.bool false,.slice none 0 0,.bool false,.slice none 0 0] 30)):=(Below.refl _ _).alloc (Nat.le_refl _) _
 go_enter Tryz.func104,Tryz.ntmps104
 go_wp2_with fail
 refine(a3e _ n K e0 _ (h.below hB0) (by omega) h1 h2).mono ?_
 rintro x w1 ⟨rfl,hb1⟩
 have hB1:=Below.tr hB0 hb1
 go_wp2_with fail
 refine(a1W _ n n K e0 _ (h.below hB1) h1 (by omega) (by omega)).mono ?_
 rintro x w2 ⟨b2,rb2,rfl,hM2,hb2⟩
 have hB2:=Below.tr hB1 hb2
 go_wp2_with fail
 refine(kC 1 _ (by omega) (by omega)).mono ?_
 rintro x w3 ⟨v3,rfl,hi3,hb3⟩
 obtain⟨g3,p3,n3,c3,r3,o3,m3,t3,rfl⟩:=hi3.form
 have hB3:=Below.tr hB2 hb3
 have HI:Hid (nV w (w3.alloc (.cells #[.bool g3,.slice p3 n3 c3,.bool r3,.slice o3 m3 t3] 30)) b2 w3.heap.size n rb2 e0 (.bool g3) (.slice p3 n3 c3) (.bool r3) (.slice o3 m3 t3) 1):=by
  have q3:=((q0.to hb1).to hb2).to hb3
  have l1:=(q0.to hb1).1
  have l2:=hb3.size
  have l3:=hM2.outer.lt
  have l4:=hM2.hb
  have s1:=hb1.size
  simp only[World.size_alloc] at s1
  refine⟨q3.alloc _,by have:=Bx.new w3 [.bool g3,.slice p3 n3 c3,.bool r3,.slice o3 m3 t3] 30;simpa using this,by have:=hi3.alloc (.cells #[.bool g3,.slice p3 n3 c3,.bool r3,.slice o3 m3 t3] 30);simpa using this,(((hM2.mono hKK).base (by omega)).below hb3).below ((Below.refl _ _).alloc (Nat.le_refl _) _),by omega,fun i hi=>?_,by have:=q3.1;omega,fun i hi=>?_,Below.al hB3 _⟩
  ·have:=(hM2.rows i hi).lt;omega
  ·have:=(hM2.hrb i hi).1;omega
 have b6m:b2≠w.heap.size:=by
  have l4:=hM2.hb
  have s1:=hb1.size
  simp only[World.size_alloc] at s1
  omega
 have b5P:=Lib.hid b6m
 clear b6m
 go_wp2_with fail
 go_loopg [21,7,8,9,22,23,24,25,26,27,28,29,30,31,32,33,34,35,36,37,38,39,40,41,42,43,44,45,46,47,48,49,50,51,52,53,54,55,56,57,58,59,60,61,62,63,64,65,66,67,68,69,70,71,72,73,74,75,76,77,78,79,80,81,82,83,84,85,86,87,88,89,90,91,92,93,94,95,96,97,98,99,100,101,102,103,104,105,106,107,108,109,110,111,112,113,114,115,116,117] n (fun gk i _ _ _ _ _ _ _ _ _ _ _ _ _ _ _ _ _ _ _ _ _ _ _ _ _ _ _ _ _ _ _ _ _ _ _ _ _ _ _ _ _ _ _ _ _ _ _ _ _ _ _ _ _ _ _ _ _ _ _ _ _ _ _ _ _ _ _ _ _ _ _ _ _ _ _ _ _ _ _ _ _ _ _ _ _ _ _ _ _ _ _ _ _ _ _ _ _ _ _ wr=>∃ (j:Nat) (rb:Nat->Nat) (e:Nat->Nat->Rat) (u0 u1 u2 u3:Value) (d:Rat) (B:Nat),j<=n/\gk=n-j/\i=.int .i64 (j:Nat)/\1<=B/\Hid (B*5 ^ (n-j)<=KM)/\Hid (pR n (n-j) j e d=det n e0)/\Hid (∀ r c,r<n->c<n->rsz (e r c)<=B)/\Hid (rsz d<=B)/\nV w wr b2 w3.heap.size n rb e u0 u1 u2 u3 d)
 case atStart=>exact⟨0,rb2,e0,_,_,_,_,1,K,by omega,rfl,rfl,hK1,HK,Lib.hid rfl,Lib.hid (fun r c hr hc=>h.rsz hr hc),Lib.hid (by rw[b0J];exact hK1),HI.out⟩
 case round =>
  obtain⟨j,rb,e,u0,u1,u2,u3,d,B,hj,rfl,rfl,hB1,HBn,HGO,HSZ,HD,hS⟩:=hrel
  clear HI
  by_cases hlt:j<n
  ·have hkd:decide (j<n)=true:=by simpa using hlt
   have hB5:5*B<=KM:=by have h9:=HBn.out;rw[UR hlt] at h9;exact Nat.le_trans (a4C _ _) h9
   have hB4:4*B+1<=KM:=by omega
   go_wp2_with fail
   obtain⟨wo,rfl⟩:∃ wo:World,wo=wr:=⟨_,rfl⟩
   go_loopw [8,25,26,27,28,29,30,31,32,33,34,35,36,37,38,39,40,41] (fun i _ _ _ _ _ _ _ _ _ _ _ _ _ _ _ _ _ wq=>∃ (k:Nat),j<=k/\k<=n/\i=.int .i64 (k:Nat)/\Hid (pv n e j=find (fun k=>decide (e k j≠0)) (n-k) k)/\nV w wq b2 w3.heap.size n rb e u0 u1 u2 u3 d) (fun i _ _ _ _ _ _ _ _ _ _ _ _ _ _ _ _ _ _=>n-(intOf i).toNat)
   case atStart=>exact⟨j,by omega,by omega,rfl,Lib.hid rfl,hS⟩
   case round =>
    obtain⟨k,hk1,hk2,rfl,HP,hT⟩:=hrel
    by_cases hlk:k<n
    ·have b7T:decide (k<n)=true:=by simpa using hlk
     obtain⟨xg,xp,xn,xc,xh,xo,xm,xe,x0,x1,x2,x3,hxq⟩:=hT.at_ hlk hlt
     have xhd:=(hT.hM.hd hlk).1
     have xhl:=(hT.hM.hd hlk).2
     have lx:=HSZ.out k j hlk hlt
     go_wp2_with fail
     refine(lQ _ _ _ hxq (by omega)).mono ?_
     rintro x w5 ⟨rfl,hb5⟩
     have hT5:=hT.below hb5
     by_cases hx0:e k j=0
     ·have HP2:Hid (pv n e j=find (fun k=>decide (e k j≠0)) (n-(k+1)) (k+1)):=Lib.hid (by rw[HP.out];exact a9I (by simp[hx0]) hlk)
      have hsg:(sgn (e k j).num==0)=true:=by rw[hx0];rfl
      have HX0:=Lib.hid hx0
      clear hx0
      go_wp2_with fail
      go_roundw
      case rel=>exact⟨k+1,by omega,by omega,by go_num,HP2,hT5⟩
      case measure=>simp[intOf];omega
     ·have HPK:Hid (pv n e j=k):=Lib.hid (by rw[HP.out];exact a7q (by simp[hx0]) (by omega))
      have hsg:=IX hx0
      have HX0:=Lib.hid hx0
      have hkn:¬ ((k:Int)=(n:Int)):=by omega
      have b9k:(k==n)=false:=by simp;omega
      clear hx0 x0 x1 x2 x3 xhd
      go_upto_if 49 with(fail)
      go_cut [8] from 22 to 117 (fun _ wx=>∃ (rb1:Nat->Nat) (e1:Nat->Nat->Rat) (v0 v1 v2 v3:Value) (d1:Rat),Hid (pR n (n-(j+1)) (j+1) (clr e1 j) (d1*e1 j j)=det n e0)/\Hid (e1 j j≠0)/\Hid (∀ r c,r<n->c<n->rsz (e1 r c)<=B)/\Hid (rsz d1<=B)/\nV w wx b2 w3.heap.size n rb1 e1 v0 v1 v2 v3 d1)
      case first =>
       by_cases hkj:k=j
       ·subst hkj
        have a6C:Hid (pR n (n-(k+1)) (k+1) (clr e k) (d*e k k)=det n e0):=Lib.hid (by have h9:=HGO.out;rw[TN hlt hlk HPK.out,a9g,if_pos rfl] at h9;exact h9)
        go_wp2_with fail
        go_meet
        exact⟨rb,e,u0,u1,u2,u3,d,a6C,HX0,HSZ,HD,hT5⟩
       ·have a6C:Hid (pR n (n-(j+1)) (j+1) (clr (swp e j k) j) (-d*swp e j k j j)=det n e0):=Lib.hid (by have h9:=HGO.out;rw[TN hlt hlk HPK.out,if_neg hkj] at h9;exact h9)
        have b7r:Hid (swp e j k j j≠0):=Lib.hid (by unfold swp;rw[if_pos rfl];exact HX0.out)
        have VX:Hid (∀ r c,r<n->c<n->rsz (swp e j k r c)<=B):=Lib.hid (b0K HSZ.out hlt hlk)
        have HD1:Hid (rsz (-d)<=B):=Lib.hid (by rw[FP];exact HD.out)
        have ldd:=HD.out
        have hSa:nV w (((w5.setCell ⟨b2,k,none⟩ (.slice (some ⟨rb j,0,none⟩) n n)).setCell ⟨b2,j,none⟩ (.slice (some ⟨rb k,0,none⟩) n n)).drew) b2 w3.heap.size n (fun i=>if i=j then rb k else if i=k then rb j else rb i) (swp e j k) u0 u1 u2 u3 d:=(hT5.swap hlt hlk (fun e=>hkj e.symm) (.inl rfl) b5P.out).drew
        have hSb:nV w (((w5.setCell ⟨b2,j,none⟩ (.slice (some ⟨rb k,0,none⟩) n n)).setCell ⟨b2,k,none⟩ (.slice (some ⟨rb j,0,none⟩) n n)).drew) b2 w3.heap.size n (fun i=>if i=j then rb k else if i=k then rb j else rb i) (swp e j k) u0 u1 u2 u3 d:=(hT5.swap hlt hlk (fun e=>hkj e.symm) (.inr rfl) b5P.out).drew
        have HSa:=Lib.hid hSa
        have HSb:=Lib.hid hSb
        clear hSa hSb
        have b9g:¬ ((k:Int)=(j:Int)):=by omega
        have b9h:(k==j)=false:=by simpa using hkj
        have b9i:¬ k=j:=hkj
        have b9j:¬ j=k:=fun e=>hkj e.symm
        have hq5:=hT5.qd
        have D0:=hq5.c0
        have D1:=hq5.c1
        have D2:=hq5.c2
        have D3:=hq5.c3
        have ck:=(hT5.hM.hd hlk).1
        have cj:=(hT5.hM.hd hlt).1
        have fk:=hT5.hM.outer.frozen k
        have fj:=hT5.hM.outer.frozen j
        have b8Z:¬ b2=w3.heap.size:=hT5.hbD
        have b9a:¬ w3.heap.size=b2:=fun e=>hT5.hbD e.symm
        clear hkj
        go_wp2_with fail
        go_region_with (fail)
        all_goals
         go_wp2_with fail
         (first
          | ((with_reducible refine(a0D _ _ _ HSa.out.hd (by omega)).mono ?_);have hS2:=HSa.out)
          | ((with_reducible refine(a0D _ _ _ HSb.out.hd (by omega)).mono ?_);have hS2:=HSb.out))
         rintro x w7 ⟨v7,rfl,hi7,hb7⟩
         obtain⟨g7,p7,n7,c7,h7,o7,m7,e7,rfl⟩:=hi7.form
         have hS7:=hS2.below hb7
         have HS7:=Lib.hid (hS7.b7j hi7)
         have E0:=hS7.qd.c0
         have E1:=hS7.qd.c1
         have E2:=hS7.qd.c2
         have E3:=hS7.qd.c3
         have F0:=hS7.qd.f0
         have F1:=hS7.qd.f1
         have F2:=hS7.qd.f2
         have F3:=hS7.qd.f3
         clear hS2 D0 D1 D2 D3 ck cj fk fj
         go_wp2_with fail
         go_meet
         exact⟨_,_,_,_,_,_,-d,a6C,b7r,VX,HD1,HS7.out⟩
      case rest =>
       obtain⟨rb1,e1,v0,v1,v2,v3,d1,a6C,HPV,VX,HD1,hS1⟩:=hcut
       have a2k:=hS1.drew
       obtain⟨kg,kp,kn,kc,kh,ko,km,ke,k0,k1,k2,k3,hkq⟩:=a2k.at_ hlt hlt
       have khd:=(a2k.hM.hd hlt).1
       have khl:=(a2k.hM.hd hlt).2
       have hDc:=a2k.qd
       have D0:=hDc.c0
       have D1:=hDc.c1
       have D2:=hDc.c2
       have D3:=hDc.c3
       have lk:=VX.out j j hlt hlt
       have ldd:=HD1.out
       have lkd:=fP d1 (e1 j j)
       have hMl:=EW _ _ _ _ _ a2k.hd hkq (by omega) (by omega)
       have HMl:=Lib.hid hMl
       clear hMl lkd
       go_upto_region 17 with(fail)
       go_cut [8] from 22 to 117 (fun _ wx=>∃ x0 x1 x2 x3:Value,nV w wx b2 w3.heap.size n rb1 e1 x0 x1 x2 x3 (d1*e1 j j))
       case first =>
        have tk1:True:=trivial
        go_region_with
         (first
          | (((have:=tk1;clear tk1;(with_reducible refine HMl.out.mono ?_);rintro x w6 ⟨v6,rfl,hi6,hb6⟩;obtain⟨g6,p6,n6,c6,h6,o6,m6,e6,rfl⟩:=hi6.form;have hS6:=a2k.below hb6;have E0:=hS6.qd.c0;have E1:=hS6.qd.c1;have E2:=hS6.qd.c2;have E3:=hS6.qd.c3;have F0:=hS6.qd.f0;have F1:=hS6.qd.f1;have F2:=hS6.qd.f2;have F3:=hS6.qd.f3))))
        all_goals
         have HS7:=Lib.hid (hS6.b7j hi6)
         clear E0 E1 E2 E3 F0 F1 F2 F3 k0 k1 k2 k3 khd D0 D1 D2 D3 hS6 hi6
         go_wp2_with fail
         go_meet
         exact⟨_,_,_,_,HS7.out⟩
       case rest =>
        clear k0 k1 k2 k3 khd khl D0 D1 D2 D3 hDc HMl a2k hkq lk ldd
        obtain⟨x0,x1,x2,x3,hS7⟩:=hcut
        have hj1:IntKind.i64.wrap ((j:Int)+1)=((j+1:Nat):Int):=by rw[IntWalk.i64_in _ (by omega)];omega
        go_wp2_with fail
        obtain⟨wp,rfl⟩:∃ wp:World,wp=wc:=⟨_,rfl⟩
        go_loopw [9,77,78,79,80,81,82,83,84,85,86,87,88,89,90,91,92,93,94,95,96,97,98,99,100,101,102,103,104,105,106,107,108,109,110,111,112,113,114,115,116] (fun i _ _ _ _ _ _ _ _ _ _ _ _ _ _ _ _ _ _ _ _ _ _ _ _ _ _ _ _ _ _ _ _ _ _ _ _ _ _ _ _ wq=>∃ (ii:Nat),j+1<=ii/\ii<=n/\i=.int .i64 (ii:Nat)/\nV w wq b2 w3.heap.size n rb1 (pO e1 j ii) x0 x1 x2 x3 (d1*e1 j j)) (fun i _ _ _ _ _ _ _ _ _ _ _ _ _ _ _ _ _ _ _ _ _ _ _ _ _ _ _ _ _ _ _ _ _ _ _ _ _ _ _ _ _=>n-(intOf i).toNat)
        case atStart=>exact⟨j+1,by omega,by omega,by go_num,by rw[ZP];exact hS7⟩
        case round =>
         clear hj1
         obtain⟨ii,hi1,hi2,rfl,hT⟩:=hrel
         by_cases hli:ii<n
         ·have b7S:decide (ii<n)=true:=by simpa using hli
          obtain⟨xg,xp,xn,xc,xh,xo,xm,xe,s0,s1,s2,s3,hxq⟩:=hT.at_ hli hlt
          have xhd:=(hT.hM.hd hli).1
          have xhl:=(hT.hM.hd hli).2
          rw[DZ] at hxq
          have lx:=VX.out ii j hli hlt
          go_wp2_with fail
          refine(lQ _ _ _ hxq (by omega)).mono ?_
          rintro x w8 ⟨rfl,hb8⟩
          have hT8:=hT.below hb8
          by_cases hx0:e1 ii j=0
          ·have HCL:Hid (pO e1 j (ii+1)=pO e1 j ii):=Lib.hid (a1T hx0)
           have hsg:(sgn (e1 ii j).num==0)=true:=by rw[hx0];rfl
           have KY:(sgn (e1 ii j).num != 0)=false:=by rw[hx0];rfl
           have HX0:=Lib.hid hx0
           clear hx0
           go_wp2_with fail
           go_roundw
           case rel=>exact⟨ii+1,by omega,by omega,by go_num,by rw[HCL.out];exact hT8⟩
           case measure=>simp[intOf];omega
          ·have hsg:=IX hx0
           have KY:=EY hx0
           have HX0:=Lib.hid hx0
           clear hx0
           obtain⟨yg,yp,yn,yc,yh,yo,ym,ye,y0,y1,y2,y3,hyq⟩:=hT8.at_ hli hlt
           have yhd:=(hT8.hM.hd hli).1
           have yhl:=(hT8.hM.hd hli).2
           obtain⟨zg,zp,zn,zc,zh,zo,zm,ze,z0,z1,z2,z3,hzq⟩:=hT8.at_ hlt hlt
           have zhd:=(hT8.hM.hd hlt).1
           have zhl:=(hT8.hM.hd hlt).2
           rw[DZ] at hyq
           rw[GX] at hzq
           have hbl:=hT8.hM.outer.lt
           have lpv:=VX.out j j hlt hlt
           have lq:rsz (e1 ii j / e1 j j)<=2*B:=by have:=a4H (e1 ii j) (e1 j j) HPV.out;omega
           have hne:rb1 j≠rb1 ii:=fun e=>by have:=hT8.hM.inj j ii hlt hli e;omega
           have HNE:=Lib.hid hne
           clear hne s0 s1 s2 s3 xhd hsg KY
           have hsg:=IX HX0.out
           have KY:=EY HX0.out
           have hW:Below w8.heap.size w8 w8:=Below.refl _ _
           have hj0:(0:Int)<=(j:Int):=by omega
           have hi0:(0:Int)<=(ii:Int):=by omega
           go_wp2_with fail
           have a0:=BC.of hW hbl yhd
           have b0:=BC.of hW hbl zhd
           have h0:=BC.of hW yhl y0
           have i0:=BC.of hW yhl y1
           have j0:=BC.of hW yhl y2
           have l0:=BC.of hW yhl y3
           have m0:=BC.of hW zhl z0
           have n0:=BC.of hW zhl z1
           have o0:=BC.of hW zhl z2
           have p0:=BC.of hW zhl z3
           have r0:=hyq
           have t0:=hzq
           refine YB 24 25 rfl (by decide) a0l w8 [some 92,some 93,some 94,some 95,some 96,some 97,some 98,some 99,some 100,some 101,some 102,some 103,some 104,some 105,some 106,some 107,some 108,some 109,some 110,some 111,some 112,some 113,some 114,some 115,some 116] [.eq (.slice (some ⟨b2,0,none⟩) n n),.eq (.int .i64 (ii:Nat)),.eq (.pointer (some ⟨b2,ii,none⟩)),.eq (.slice (some ⟨rb1 ii,0,none⟩) n n),.eq (.slice (some ⟨b2,0,none⟩) n n),.eq (.int .i64 (j:Nat)),.eq (.pointer (some ⟨b2,j,none⟩)),.eq (.slice (some ⟨rb1 j,0,none⟩) n n),.eq (.slice (some ⟨b2,0,none⟩) n n),.eq (.int .i64 (ii:Nat)),.eq (.pointer (some ⟨b2,ii,none⟩)),.eq (.slice (some ⟨rb1 ii,0,none⟩) n n),.eq (.int .i64 (j:Nat)),.eq (.pointer (some ⟨rb1 ii,j*4,none⟩)),.rq (e1 ii j),.eq (.slice (some ⟨b2,0,none⟩) n n),.eq (.int .i64 (j:Nat)),.eq (.pointer (some ⟨b2,j,none⟩)),.eq (.slice (some ⟨rb1 j,0,none⟩) n n),.eq (.int .i64 (j:Nat)),.eq (.pointer (some ⟨rb1 j,j*4,none⟩)),.rq (e1 j j),.rq ((e1 ii j) / (e1 j j)),.eq (.int .i64 (j:Nat)),.any] [0,1,2,3,4,5,6,7,8,9,10,11,12,13,14,15,16,17,18,19,20,21,22,23,24] (fun A=>A.tmps[5]?.getD undef=.slice (some ⟨b2,0,none⟩) n n/\A.tmps[9]?.getD undef=.int .i64 (ii:Nat)/\A.tmps[7]?.getD undef=.int .i64 (j:Nat)) (by kernel_rfl) rfl ⟨rfl,rfl⟩ rfl rfl (by kernel_rfl) (by kernel_rfl) (Below.refl _ _).drew (fun A hA=>⟨(hA 5 (by decide)).trans rfl,(hA 9 (by decide)).trans rfl,(hA 7 (by decide)).trans rfl⟩) ?hend ?hstep
           case hend =>
            intro t b8W b6n hf
            have a1:t 3=_:=hf 3 (by omega) rfl rfl
            have b1:t 7=_:=hf 7 (by omega) rfl rfl
            have w0:t 23=_:=hf 23 (by omega) rfl rfl
            have d0:RQ b8W _ _:=hf 22 (by omega) rfl rfl
            obtain⟨j1,r1,o1,g1,m1,p1,n1,i1,g0⟩:=d0.form
            rw[g0] at d0
            clear hf
            simp only[fV,List.getD_cons_zero,List.getD_cons_succ,List.toList_toArray,List.drop_succ_cons,List.drop_zero,a1,b1,w0,g0]
            clear a1 b1 w0 g0
            have b8k:=b6n.size
            (try simp only[World.size_alloc,World.size_setCell,World.size_drew] at b8k)
            clear t0 r0 p0 o0 n0 m0 l0 j0 i0 h0 b0 a0
            have hT9:=hT8.below b6n
            go_wp2_with fail
            (with_reducible refine(YM _ _ n j B _ _ _ _ _ (hT9.hM.rows ii hli) (hT9.hM.rows j hlt) HNE.out d0 lq (fun c hc=>by rw[DZ];exact VX.out ii c hli hc) (fun c hc=>by rw[GX];exact VX.out j c hlt hc) hB4 (by omega) (by omega)).mono ?_)
            rintro e9 w9 ⟨rfl,hrA,hgA⟩
            have hTA:=(hT9.row hli hgA hrA).congr (e':=pO e1 j (ii+1)) (fun r c hr hc=>by
             by_cases e9:r=ii
             ·rw[if_pos e9,e9]
              unfold DL
              rw[DZ,GX]
              unfold pO
              by_cases e8:j<=c
              ·rw[if_pos ⟨e8,hc⟩,if_pos ⟨by omega,by omega,e8⟩]
              ·rw[if_neg (by omega),if_neg (by omega)]
             ·rw[if_neg e9]
              unfold pO
              by_cases e8:j<r/\r<ii/\j<=c
              ·rw[if_pos e8,if_pos ⟨e8.1,by omega,e8.2.2⟩]
              ·rw[if_neg e8,if_neg (by omega)])
            have HTA:=Lib.hid hTA
            clear hTA
            go_wp2_with fail
            go_roundw
            case rel=>exact⟨ii+1,by omega,by omega,by go_num,HTA.out⟩
            case measure=>simp[intOf];omega
           case hstep =>
            intro t w9 L i o A hEA hin hBf hf hi ho gY
            obtain⟨eo5,eo9,eo7⟩:=hEA
            obtain rfl|rfl|rfl|rfl|rfl|rfl|rfl|rfl|rfl|rfl|rfl|rfl|rfl|rfl|rfl|rfl|rfl|rfl|rfl|rfl|rfl|rfl|rfl|rfl:i=0\/i=1\/i=2\/i=3\/i=4\/i=5\/i=6\/i=7\/i=8\/i=9\/i=10\/i=11\/i=12\/i=13\/i=14\/i=15\/i=16\/i=17\/i=18\/i=19\/i=20\/i=21\/i=22\/i=23:=by omega
            all_goals cases ho
            all_goals simp[Region.binds] at gY
            ·exact .val _ (by simp[execOp,eo5,go_sem]) rfl
            ·exact .val _ (by simp[execOp,eo9,go_sem]) rfl
            ·have q0:t 0=_:=hf 0 rfl rfl (by simp[gY])
             have q1:t 1=_:=hf 1 rfl rfl (by simp[gY])
             exact .val _ (by simp[execOp,hin 0 rfl,q0,hin 1 rfl,q1,hi0,hj0,hli,hlt,go_sem]) rfl
            ·have hc0:=a0.at hBf
             have q2:t 2=_:=hf 2 rfl rfl (by simp[gY])
             exact .val _ (by simp[execOp,hin 2 rfl,q2,hc0,go_sem]) rfl
            ·exact .val _ (by simp[execOp,eo5,go_sem]) rfl
            ·exact .val _ (by simp[execOp,eo7,go_sem]) rfl
            ·have q4:t 4=_:=hf 4 rfl rfl (by simp[gY])
             have q5:t 5=_:=hf 5 rfl rfl (by simp[gY])
             exact .val _ (by simp[execOp,hin 4 rfl,q4,hin 5 rfl,q5,hi0,hj0,hli,hlt,go_sem]) rfl
            ·have hc1:=b0.at hBf
             have q6:t 6=_:=hf 6 rfl rfl (by simp[gY])
             exact .val _ (by simp[execOp,hin 6 rfl,q6,hc1,go_sem]) rfl
            ·exact .val _ (by simp[execOp,eo5,go_sem]) rfl
            ·exact .val _ (by simp[execOp,eo9,go_sem]) rfl
            ·have q8:t 8=_:=hf 8 rfl rfl (by simp[gY])
             have q9:t 9=_:=hf 9 rfl rfl (by simp[gY])
             exact .val _ (by simp[execOp,hin 8 rfl,q8,hin 9 rfl,q9,hi0,hj0,hli,hlt,go_sem]) rfl
            ·have hc0:=a0.at hBf
             have q10:t 10=_:=hf 10 rfl rfl (by simp[gY])
             exact .val _ (by simp[execOp,hin 10 rfl,q10,hc0,go_sem]) rfl
            ·exact .val _ (by simp[execOp,eo7,go_sem]) rfl
            ·have q11:t 11=_:=hf 11 rfl rfl (by simp[gY])
             have q12:t 12=_:=hf 12 rfl rfl (by simp[gY])
             exact .val _ (by simp[execOp,hin 11 rfl,q11,hin 12 rfl,q12,hi0,hj0,hli,hlt,go_sem]) rfl
            ·have hc2:=h0.at hBf
             have hc3:=i0.at hBf
             have hc4:=j0.at hBf
             have hc5:=l0.at hBf
             have q13:t 13=_:=hf 13 rfl rfl (by simp[gY])
             exact .val _ (by simp[execOp,hin 13 rfl,q13,hc2,hc3,hc4,hc5,go_sem]) (r0.below hBf)
            ·exact .val _ (by simp[execOp,eo5,go_sem]) rfl
            ·exact .val _ (by simp[execOp,eo7,go_sem]) rfl
            ·have q15:t 15=_:=hf 15 rfl rfl (by simp[gY])
             have q16:t 16=_:=hf 16 rfl rfl (by simp[gY])
             exact .val _ (by simp[execOp,hin 15 rfl,q15,hin 16 rfl,q16,hi0,hj0,hli,hlt,go_sem]) rfl
            ·have hc1:=b0.at hBf
             have q17:t 17=_:=hf 17 rfl rfl (by simp[gY])
             exact .val _ (by simp[execOp,hin 17 rfl,q17,hc1,go_sem]) rfl
            ·exact .val _ (by simp[execOp,eo7,go_sem]) rfl
            ·have q18:t 18=_:=hf 18 rfl rfl (by simp[gY])
             have q19:t 19=_:=hf 19 rfl rfl (by simp[gY])
             exact .val _ (by simp[execOp,hin 18 rfl,q18,hin 19 rfl,q19,hi0,hj0,hli,hlt,go_sem]) rfl
            ·have hc6:=m0.at hBf
             have hc7:=n0.at hBf
             have hc8:=o0.at hBf
             have hc9:=p0.at hBf
             have q20:t 20=_:=hf 20 rfl rfl (by simp[gY])
             exact .val _ (by simp[execOp,hin 20 rfl,q20,hc6,hc7,hc8,hc9,go_sem]) (t0.below hBf)
            ·have b8m:=hf 14 rfl rfl (by simp[gY])
             have b8n:=hf 21 rfl rfl (by simp[gY])
             exact .call _ _ (by simp[execOp,hin 14 rfl,hin 21 rfl,go_sem]) (XV _ _ _ _ _ b8m b8n (by omega) (by omega) HPV.out)
            ·exact .val _ (by simp[execOp,eo7,go_sem]) rfl
         ·have he:ii=n:=by omega
          subst he
          have b7S:decide (ii<ii)=false:=by simp
          have hTE:=hT.congr (e':=clr e1 j) (fun r c hr hc=>a5g e1 j ii r c hr)
          have HTE:=Lib.hid hTE
          clear hTE
          go_wp2_with fail
          go_roundg (ii-(j+1))
          case rel=>exact⟨j+1,rb1,clr e1 j,_,_,_,_,d1*e1 j j,5*B,by omega,rfl,by go_num,by omega,Lib.hid (by rw[<-UR hlt];exact HBn.out),a6C,Lib.hid (b0I VX.out hB1 hlt HPV.out),Lib.hid (by have:=fP d1 (e1 j j);have:=HD1.out;have:=VX.out j j hlt hlt;omega),HTE.out⟩
          case measure=>omega
    ·have he:k=n:=by omega
     subst he
     have b7T:decide (k<k)=false:=by simp
     have HZ:Hid (det k e0=0):=Lib.hid (by have h9:=HGO.out;rw[a7m hlt (by rw[HP.out,Nat.sub_self];rfl)] at h9;exact h9.symm)
     go_wp2_with fail
     refine(kC 0 _ (by omega) (by omega)).mono ?_
     rintro x w6 ⟨v6,rfl,hi6,hb6⟩
     obtain⟨g6,p6,n6,c6,h6,o6,m6,e6,rfl⟩:=hi6.form
     have hT6:=hT.below hb6
     have hq6:=hT6.q2
     have E0:=hq6.c0
     have E1:=hq6.c1
     have E2:=hq6.c2
     have E3:=hq6.c3
     have F0:=hq6.f0
     have F1:=hq6.f1
     have F2:=hq6.f2
     have F3:=hq6.f3
     go_wp2_with fail
     exact bodyPost_ret (v:=.tuple #[.agg #[.bool g6,.slice p6 n6 c6,.bool h6,.slice o6 m6 e6],.int .i64 0]) (by simp[results,Tryz.results104,go_sem,E0,E1,E2,E3,F0,F1,F2,F3]) rfl ⟨_,rfl,by rw[HZ.out];exact hi6.aT hq6 rfl rfl rfl rfl _ _ _ _,Below.aT hT6.hB (b:=w.heap.size) (Nat.le_refl _) _ _ _ _⟩
  ·have he:j=n:=by omega
   subst he
   have hkd:decide (j<j)=false:=by simp
   have HDD:Hid (det j e0=d):=Lib.hid (by have h9:=HGO.out;rw[Nat.sub_self] at h9;exact h9.symm)
   obtain⟨g6,p6,n6,c6,h6,o6,m6,e6,hform⟩:=hS.hd.form
   cases hform
   have hq6:=hS.q2
   have hqd:=hS.qd
   have D0:=hqd.c0
   have D1:=hqd.c1
   have D2:=hqd.c2
   have D3:=hqd.c3
   have E0:=hq6.c0
   have E1:=hq6.c1
   have E2:=hq6.c2
   have E3:=hq6.c3
   have F0:=hq6.f0
   have F1:=hq6.f1
   have F2:=hq6.f2
   have F3:=hq6.f3
   go_wp2_with fail
   exact bodyPost_ret (v:=.tuple #[.agg #[.bool g6,.slice p6 n6 c6,.bool h6,.slice o6 m6 e6],.int .i64 0]) (by simp[results,Tryz.results104,go_sem,E0,E1,E2,E3,F0,F1,F2,F3]) rfl ⟨_,rfl,by rw[HDD.out];exact hS.hd.aT hq6 rfl rfl rfl rfl _ _ _ _,Below.aT hS.hB (b:=w.heap.size) (Nat.le_refl _) _ _ _ _⟩
end Go.Proofs.YtidfgdchcpmnfaaGreat
