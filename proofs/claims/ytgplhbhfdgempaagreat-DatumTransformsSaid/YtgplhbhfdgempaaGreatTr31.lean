/-
  Lemmas for the theorem vtransforms_holds, part 31 of 39.
-/
import Derived.Test.YtgplhbhfdgempaaGreatTr30
namespace Go.Proofs.YtgplhbhfdgempaaGreat
open Go Go.RowKit
set_option maxRecDepth 100000
set_option maxHeartbeats 8000000
set_option linter.unusedSimpArgs false
set_option linter.unusedVariables false
theorem a0h (x y:Int) {q:Int} (h:q=x.fdiv y):q=x.fdiv y/\x-q*y=x.fmod y:=by
 refine⟨h,?_⟩
 have:=Int.fmod_add_mul_fdiv x y
 rw[<-h,Int.mul_comm] at this
 omega
theorem TG {x:Int} {b:Bool} {k:Nat} (h:isz x<=k) (m n:Nat) (hm:m=x.natAbs):isz (sg b (m / n))<=k:=by
 refine jg (TI ?_) h
 rw[a4O,hm];exact Bf _ _
theorem QY {g1 g2:Bool} {x y:Int} {r:Bool} (h1:g1=decide (x<0)) (h2:g2=decide (y<0)) (h:(decide (x<0) != decide (y<0))=r):(g1 != g2)=r/\(!g1==g2)=r:=by
 subst h1;subst h2
 refine⟨h,?_⟩
 rw[<-h];cases decide (x<0)<;>cases decide (y<0)<;>rfl
theorem a0N (v u:Value) (x y:Int) (w:World) (hv:Raw w v x) (hu:Raw w u y) (hl:isz x<=400000000) (hl2:isz y<=400000000) (hy:y≠0) (hfl:(decide (x<0) != decide (y<0))=false) :
  Calls Tryz.prog 126 #[v,u] w (ZH (x.fdiv y) (x.fmod y) w):=by
 obtain⟨b,p,n,c,rfl⟩:=hv.form
 obtain⟨d,o,m,e,rfl⟩:=hu.form
 have hfi:=iP
 have hx1:=wH x
 have hy1:=wH y
 have hyp:0<y.natAbs:=by omega
 obtain⟨Q,hQ⟩:∃ Q,sg false (val (dig (val (dig x.natAbs) / val (dig y.natAbs))))=Q:=⟨_,rfl⟩
 have HQ:=bn hQ
 simp only[aJ] at hQ
 have hqf:Q=x.fdiv y:=by
  have hfe:decide (x<0)=decide (y<0):=by simpa using hfl
  have e1:=LZ (decide (x<0)) x.natAbs y.natAbs hyp
  rw[hfe] at e1 hx1
  rw[hx1,hy1] at e1
  rw[e1.1,<-hQ]
  simp[sg]
 have HX:=bn (a0h x y hqf)
 have hq0:isz Q<=400000000:=by rw[<-hQ];exact TG hl _ _ rfl
 have hone:isz 1<=1000000000:=jg (yT (k:=1) (by rw[dG];decide)) (by omega)
 have hq1:isz Q<=1000000000:=by omega
 have hq4:isz Q<=400000002:=by omega
 have hq2:isz Q<=1000000000:=by omega
 have hq3:isz (Q*y)<=1000000000:=by have:=eH Q y;omega
 have hl0:isz x<=1000000000:=by omega
 have a2b:isz y<=1000000000:=by omega
 have hlx:(dig x.natAbs).length<=1000000000:=hl0
 have hyn:=qX hy
 have hy0:0<(dig y.natAbs).length:=qp.2 hyn
 have hyz:(((dig y.natAbs).length:Int)==0)=false:=by simp;omega
 have hlq:Hid ((dig (val (dig x.natAbs) / val (dig y.natAbs))).length<=2000000001):=by unfold Hid;simp only[aJ];exact jg (aN (Bf _ _)) (by omega)
 skip
 skip
 skip
 skip
 skip
 have HFL:=bn hfl
 clear hQ hqf hx1 hy1 hyp hy hfl
 have bZ:Below w.heap.size w w:=dn _ _
 go_enter Tryz.func126,Tryz.ntmps126
 go_wp2_with fail
 obtain⟨hA1,u0,v0,a1,b1⟩:=bx4 w rfl [.bool b,.slice p n c] 62 [.bool d,.slice o m e] 62 [.bool false,.slice none 0 0] 62 [.bool false,.slice none 0 0] 62
 obtain⟨u1,i2,b2,k2⟩:=u0.drew.cf2
 obtain⟨m2,a3,t2,e3⟩:=v0.drew.cf2
 have tk1:True:=trivial
 have tk2:True:=trivial
 go_region_with
  (first
   | (((have:=tk1);clear tk1;have f1:=(hv.below hA1).drew;go_at_call 127;(with_reducible refine(iF _ (x) _ f1 hl0).mono ?_);rintro e w1 ⟨v1,rfl,hi1,hb1⟩;obtain⟨g1,p1,n1,c1,rfl⟩:=hi1.form;obtain rfl:n1=(dig x.natAbs).length:=hi1.len;have hf1:=bn (dR.flag hi1);have dW:=(v0.drew.to hb1);obtain⟨o2,b3,u2,f3⟩:=dW.cf2;have dP:=(u0.drew.to hb1);obtain⟨x1,j2,d2,l2⟩:=dP.cf2))
   | (((have:=tk2);clear tk2;have jZ:=((hu.below hA1).drew.below hb1);have h1:=jZ;go_at_call 127;(with_reducible refine(iF _ (y) _ h1 a2b).mono ?_);rintro e w2 ⟨v2,rfl,hi2,hb2⟩;obtain⟨g2,p2,n2,c2,rfl⟩:=hi2.form;obtain rfl:n2=(dig y.natAbs).length:=hi2.len;have hf2:=bn (dR.flag hi2);obtain⟨hbd,hbd2⟩:=QY hf1.out hf2.out HFL.out;have dL:=(dP.to hb2);obtain⟨a0,c0,b0,d0⟩:=dL.cf2;have dM:=(dW.to hb2);obtain⟨e0,g0,f0,h0⟩:=dM.cf2)))
 all_goals
  obtain⟨q2,x2⟩:=((dM.aO (b:=w.heap.size) (by omega) (.bool g1) (.slice p1 (dig x.natAbs).length c1)).store2 (.bool g2) (.slice p2 (dig y.natAbs).length c2)).cs2
  obtain⟨y1,e2⟩:=((dL.store2 (.bool g1) (.slice p1 (dig x.natAbs).length c1)).aO (b:=w.heap.size+1) (by omega) (.bool g2) (.slice p2 (dig y.natAbs).length c2)).cs2
  go_wp2_with fail
  have w0:=(hi1.below hb2)
  have i1:=((w0.aI dL rfl rfl (.bool g1) (.slice p1 (dig x.natAbs).length c1)).aI (dM.aO (b:=w.heap.size) (by omega) (.bool g1) (.slice p1 (dig x.natAbs).length c1)) rfl rfl (.bool g2) (.slice p2 (dig y.natAbs).length c2)).rd
  have j1:=((hi2.aI dL rfl rfl (.bool g1) (.slice p1 (dig x.natAbs).length c1)).aI (dM.aO (b:=w.heap.size) (by omega) (.bool g1) (.slice p1 (dig x.natAbs).length c1)) rfl rfl (.bool g2) (.slice p2 (dig y.natAbs).length c2)).rd
  (with_reducible refine(vF _ _ _ _ _ i1 j1 (cZ _) (cZ _) hlx hyn).mono ?_)
  rintro e w3 ⟨s3,t3,rfl,hs3,ht3,hb3⟩
  obtain⟨p3,c3,rfl,VX,VY⟩:=hs3.form
  obtain⟨o3,d3,rfl,hlo3,a0q⟩:=ht3.form
  have lH:=(((dL.store2 (.bool g1) (.slice p1 (dig x.natAbs).length c1)).aO (b:=w.heap.size+1) (by omega) (.bool g2) (.slice p2 (dig y.natAbs).length c2)).to hb3)
  obtain⟨z1,f2⟩:=lH.cs2
  have pJ:=(((dM.aO (b:=w.heap.size) (by omega) (.bool g1) (.slice p1 (dig x.natAbs).length c1)).store2 (.bool g2) (.slice p2 (dig y.natAbs).length c2)).to hb3)
  obtain⟨r2,y2⟩:=pJ.cs2
  go_wp2_with fail
  have k1:=hs3
  (with_reducible refine(iM _ _ _ _ k1 (dB _) hlq.out).mono ?_)
  rw[HQ.out]
  rintro e w4 ⟨v4,rfl,hi4,hb4⟩
  obtain⟨g4,p4,n4,c4,rfl⟩:=hi4.form
  have mV:=(lH.to hb4)
  obtain⟨a2,h2⟩:=mV.cs2
  have kR:=(pJ.to hb4)
  obtain⟨s2,z2⟩:=kR.cs2
  have q0:=(mV).1
  have r0:=(kR).1
  have oV:=((((((a1.drew.to hb1).to hb2).aO (b:=w.heap.size) (by omega) (.bool g1) (.slice p1 (dig x.natAbs).length c1)).aO (b:=w.heap.size+1) (by omega) (.bool g2) (.slice p2 (dig y.natAbs).length c2)).to hb3).to hb4)
  have s0:=(oV).1
  have xY:=((((((b1.drew.to hb1).to hb2).aO (b:=w.heap.size) (by omega) (.bool g1) (.slice p1 (dig x.natAbs).length c1)).aO (b:=w.heap.size+1) (by omega) (.bool g2) (.slice p2 (dig y.natAbs).length c2)).to hb3).to hb4)
  have t0:=(xY).1
  go_wp2_with fail
  obtain⟨hA2,d1⟩:=bx1 w4 rfl [.bool g4,.slice p4 n4 c4] 62
  have LP:=(aK.mk (d1.drew).bs2 (aK.mk ((mV.to hA2).drew).bs2 ((kR.to hA2).drew).bs2))
  have x0:dQ (w.heap.size+1+1) (aK (BS2 w4.heap.size (.bool g4) (.slice p4 n4 c4)) (aK (BS2 w.heap.size (.bool g1) (.slice p1 (dig x.natAbs).length c1)) (BS2 (w.heap.size+1) (.bool g2) (.slice p2 (dig y.natAbs).length c2)))):=(aK.hc (BS2.hc (by omega)) (aK.hc (BS2.hc (by omega)) (BS2.hc (by omega))))
  have y0:dQ (w.heap.size+1+1+1) (aK (BS2 w4.heap.size (.bool g4) (.slice p4 n4 c4)) (aK (BS2 w.heap.size (.bool g1) (.slice p1 (dig x.natAbs).length c1)) (BS2 (w.heap.size+1) (.bool g2) (.slice p2 (dig y.natAbs).length c2)))):=(aK.hc (BS2.hc (by omega)) (aK.hc (BS2.hc (by omega)) (BS2.hc (by omega))))
  have tk3:True:=trivial
  have tk4:True:=trivial
  go_region_held3 (aK (BS2 w4.heap.size (.bool g4) (.slice p4 n4 c4)) (aK (BS2 w.heap.size (.bool g1) (.slice p1 (dig x.natAbs).length c1)) (BS2 (w.heap.size+1) (.bool g2) (.slice p2 (dig y.natAbs).length c2)))) (first|with_reducible exact LP|with_reducible exact iC.go (aK.hk BS2.hk (aK.hk BS2.hk BS2.hk)) (by assumption) (by assumption)|with_reducible exact dQ.go2 x0 (by assumption)|with_reducible exact dQ.go2 y0 (by assumption)|(simp;done))
   (first
    | (((have:=tk3);clear tk3;have l1:=(hi4.below hA2).drew.raw;have s1:=((((hi2.aI dL rfl rfl (.bool g1) (.slice p1 (dig x.natAbs).length c1)).aI (dM.aO (b:=w.heap.size) (by omega) (.bool g1) (.slice p1 (dig x.natAbs).length c1)) rfl rfl (.bool g2) (.slice p2 (dig y.natAbs).length c2)).below hb3).below hb4);have m1:=(s1.below hA2).drew.raw;go_at_call 85;(with_reducible refine(oD _ _ (Q) (y) _ l1 m1 hq2 a2b).mono ?_);rintro e w5 ⟨v5,rfl,hi5,hb5⟩;obtain⟨g5,p5,n5,c5,rfl⟩:=hi5.form))
    | (((have:=tk4);clear tk4;have r1:=((((((w0.aI dL rfl rfl (.bool g1) (.slice p1 (dig x.natAbs).length c1)).aI (dM.aO (b:=w.heap.size) (by omega) (.bool g1) (.slice p1 (dig x.natAbs).length c1)) rfl rfl (.bool g2) (.slice p2 (dig y.natAbs).length c2)).below hb3).below hb4).below hA2).drew.below hb5);have o1:=r1.raw;have q1:=hi5.raw;go_at_call 155;(with_reducible refine(DT _ _ (x) ((Q)*(y)) _ o1 q1 hl0 hq3).mono ?_);rintro e w6 ⟨v6,rfl,hi6,hb6⟩;obtain⟨g6,p6,n6,c6,rfl⟩:=hi6.form;have sH:=(((oV.to hA2).drew.to hb5).to hb6);obtain⟨i0,k0,j0,l0⟩:=sH.cf2;have vO:=(((xY.to hA2).drew.to hb5).to hb6);obtain⟨m0,o0,n0,p0⟩:=vO.cf2)))
  have t1:=(((hi4.below hA2).drew.below hb5).below hb6)
  have z0:=(Below.tr (Below.tr (Below.tr (Below.tr (Below.tr (Below.aI (Below.aI (Below.tr (Below.tr (Below.tr bZ hA1).drew hb1) hb2) (b:=w.heap.size) (by omega) (.bool g1) (.slice p1 (dig x.natAbs).length c1)) (b:=w.heap.size+1) (by omega) (.bool g2) (.slice p2 (dig y.natAbs).length c2)) hb3) hb4) hA2).drew hb5) hb6)
  go_wp2_with fail
  exact jh (v:=.tuple #[.agg #[.bool g4,.slice p4 n4 c4],.agg #[.bool g6,.slice p6 n6 c6],.int .i64 0]) (by simp[results,Tryz.results126,go_sem,a0,c0,b0,d0,e0,g0,f0,h0,q0,r0,s0,t0,i0,k0,j0,l0,m0,o0,n0,p0]) rfl ⟨_,_,rfl,dX ((t1.aI sH rfl rfl (.bool g4) (.slice p4 n4 c4)).aI (vO.aO (b:=w.heap.size+1+1) (by omega) (.bool g4) (.slice p4 n4 c4)) rfl rfl (.bool g6) (.slice p6 n6 c6)) HX.out.1,dX ((hi6.aI sH rfl rfl (.bool g4) (.slice p4 n4 c4)).aI (vO.aO (b:=w.heap.size+1+1) (by omega) (.bool g4) (.slice p4 n4 c4)) rfl rfl (.bool g6) (.slice p6 n6 c6)) HX.out.2,(Below.aI (Below.aI z0 (b:=w.heap.size+1+1) (by omega) (.bool g4) (.slice p4 n4 c4)) (b:=w.heap.size+1+1+1) (by omega) (.bool g6) (.slice p6 n6 c6))⟩
theorem WI (v u:Value) (x y:Int) (w:World) (hv:Raw w v x) (hu:Raw w u y) (hl:isz x<=400000000) (hl2:isz y<=400000000) (hy:y≠0) (hr:x.natAbs%y.natAbs=0) (hfl:(decide (x<0) != decide (y<0))=true) :
  Calls Tryz.prog 126 #[v,u] w (ZH (x.fdiv y) (x.fmod y) w):=by
 obtain⟨b,p,n,c,rfl⟩:=hv.form
 obtain⟨d,o,m,e,rfl⟩:=hu.form
 have hfi:=iP
 have hx1:=wH x
 have hy1:=wH y
 have hyp:0<y.natAbs:=by omega
 obtain⟨Q,hQ⟩:∃ Q,sg true (val (dig (val (dig x.natAbs) / val (dig y.natAbs))))=Q:=⟨_,rfl⟩
 have HQ:=bn hQ
 simp only[aJ] at hQ
 have hqf:Q=x.fdiv y:=by
  have e1:=SA (decide (x<0)) (decide (y<0)) _ _ hyp hfl hr
  skip
  skip
  rw[hx1,hy1] at e1
  rw[e1.1,<-hQ]
  skip
 have HX:=bn (a0h x y hqf)
 have hq0:isz Q<=400000000:=by rw[<-hQ];exact TG hl _ _ rfl
 have hone:isz 1<=1000000000:=jg (yT (k:=1) (by rw[dG];decide)) (by omega)
 have hq1:isz Q<=1000000000:=by omega
 have hq4:isz Q<=400000002:=by omega
 have hq2:isz Q<=1000000000:=by omega
 have hq3:isz (Q*y)<=1000000000:=by have:=eH Q y;omega
 have hl0:isz x<=1000000000:=by omega
 have a2b:isz y<=1000000000:=by omega
 have hlx:(dig x.natAbs).length<=1000000000:=hl0
 have hyn:=qX hy
 have hy0:0<(dig y.natAbs).length:=qp.2 hyn
 have hyz:(((dig y.natAbs).length:Int)==0)=false:=by simp;omega
 have hlq:Hid ((dig (val (dig x.natAbs) / val (dig y.natAbs))).length<=2000000001):=by unfold Hid;simp only[aJ];exact jg (aN (Bf _ _)) (by omega)
 skip
 have SY:(dig (val (dig x.natAbs)%val (dig y.natAbs))).length=0:=by simp only[aJ];rw[hr,dY];rfl
 have hr1:decide (0<(dig (val (dig x.natAbs)%val (dig y.natAbs))).length)=false:=by simp only[SY];rfl
 have hr2:decide ((0:Int)<((dig (val (dig x.natAbs)%val (dig y.natAbs))).length:Int))=false:=by simp only[SY];rfl
 clear SY
 have HFL:=bn hfl
 clear hQ hqf hx1 hy1 hyp hy hfl hr
 have bZ:Below w.heap.size w w:=dn _ _
 go_enter Tryz.func126,Tryz.ntmps126
 go_wp2_with fail
 obtain⟨hA1,u0,v0,a1,b1⟩:=bx4 w rfl [.bool b,.slice p n c] 62 [.bool d,.slice o m e] 62 [.bool false,.slice none 0 0] 62 [.bool false,.slice none 0 0] 62
 obtain⟨u1,i2,b2,k2⟩:=u0.drew.cf2
 obtain⟨m2,a3,t2,e3⟩:=v0.drew.cf2
 have tk1:True:=trivial
 have tk2:True:=trivial
 go_region_with
  (first
   | (((have:=tk1);clear tk1;have f1:=(hv.below hA1).drew;go_at_call 127;(with_reducible refine(iF _ (x) _ f1 hl0).mono ?_);rintro e w1 ⟨v1,rfl,hi1,hb1⟩;obtain⟨g1,p1,n1,c1,rfl⟩:=hi1.form;obtain rfl:n1=(dig x.natAbs).length:=hi1.len;have hf1:=bn (dR.flag hi1);have dW:=(v0.drew.to hb1);obtain⟨o2,b3,u2,f3⟩:=dW.cf2;have dP:=(u0.drew.to hb1);obtain⟨x1,j2,d2,l2⟩:=dP.cf2))
   | (((have:=tk2);clear tk2;have jZ:=((hu.below hA1).drew.below hb1);have h1:=jZ;go_at_call 127;(with_reducible refine(iF _ (y) _ h1 a2b).mono ?_);rintro e w2 ⟨v2,rfl,hi2,hb2⟩;obtain⟨g2,p2,n2,c2,rfl⟩:=hi2.form;obtain rfl:n2=(dig y.natAbs).length:=hi2.len;have hf2:=bn (dR.flag hi2);obtain⟨hbd,hbd2⟩:=QY hf1.out hf2.out HFL.out;have dL:=(dP.to hb2);obtain⟨a0,c0,b0,d0⟩:=dL.cf2;have dM:=(dW.to hb2);obtain⟨e0,g0,f0,h0⟩:=dM.cf2)))
 all_goals
  obtain⟨q2,x2⟩:=((dM.aO (b:=w.heap.size) (by omega) (.bool g1) (.slice p1 (dig x.natAbs).length c1)).store2 (.bool g2) (.slice p2 (dig y.natAbs).length c2)).cs2
  obtain⟨y1,e2⟩:=((dL.store2 (.bool g1) (.slice p1 (dig x.natAbs).length c1)).aO (b:=w.heap.size+1) (by omega) (.bool g2) (.slice p2 (dig y.natAbs).length c2)).cs2
  go_wp2_with fail
  have w0:=(hi1.below hb2)
  have i1:=((w0.aI dL rfl rfl (.bool g1) (.slice p1 (dig x.natAbs).length c1)).aI (dM.aO (b:=w.heap.size) (by omega) (.bool g1) (.slice p1 (dig x.natAbs).length c1)) rfl rfl (.bool g2) (.slice p2 (dig y.natAbs).length c2)).rd
  have j1:=((hi2.aI dL rfl rfl (.bool g1) (.slice p1 (dig x.natAbs).length c1)).aI (dM.aO (b:=w.heap.size) (by omega) (.bool g1) (.slice p1 (dig x.natAbs).length c1)) rfl rfl (.bool g2) (.slice p2 (dig y.natAbs).length c2)).rd
  (with_reducible refine(vF _ _ _ _ _ i1 j1 (cZ _) (cZ _) hlx hyn).mono ?_)
  rintro e w3 ⟨s3,t3,rfl,hs3,ht3,hb3⟩
  obtain⟨p3,c3,rfl,VX,VY⟩:=hs3.form
  obtain⟨o3,d3,rfl,hlo3,a0q⟩:=ht3.form
  have lH:=(((dL.store2 (.bool g1) (.slice p1 (dig x.natAbs).length c1)).aO (b:=w.heap.size+1) (by omega) (.bool g2) (.slice p2 (dig y.natAbs).length c2)).to hb3)
  obtain⟨z1,f2⟩:=lH.cs2
  have pJ:=(((dM.aO (b:=w.heap.size) (by omega) (.bool g1) (.slice p1 (dig x.natAbs).length c1)).store2 (.bool g2) (.slice p2 (dig y.natAbs).length c2)).to hb3)
  obtain⟨r2,y2⟩:=pJ.cs2
  go_wp2_with fail
  have k1:=hs3
  (with_reducible refine(iM _ _ _ _ k1 (dB _) hlq.out).mono ?_)
  rw[HQ.out]
  rintro e w4 ⟨v4,rfl,hi4,hb4⟩
  obtain⟨g4,p4,n4,c4,rfl⟩:=hi4.form
  have mV:=(lH.to hb4)
  obtain⟨a2,h2⟩:=mV.cs2
  have kR:=(pJ.to hb4)
  obtain⟨s2,z2⟩:=kR.cs2
  have q0:=(mV).1
  have r0:=(kR).1
  have oV:=((((((a1.drew.to hb1).to hb2).aO (b:=w.heap.size) (by omega) (.bool g1) (.slice p1 (dig x.natAbs).length c1)).aO (b:=w.heap.size+1) (by omega) (.bool g2) (.slice p2 (dig y.natAbs).length c2)).to hb3).to hb4)
  have s0:=(oV).1
  have xY:=((((((b1.drew.to hb1).to hb2).aO (b:=w.heap.size) (by omega) (.bool g1) (.slice p1 (dig x.natAbs).length c1)).aO (b:=w.heap.size+1) (by omega) (.bool g2) (.slice p2 (dig y.natAbs).length c2)).to hb3).to hb4)
  have t0:=(xY).1
  go_wp2_with fail
  obtain⟨hA2,d1⟩:=bx1 w4 rfl [.bool g4,.slice p4 n4 c4] 62
  have LP:=(aK.mk (d1.drew).bs2 (aK.mk ((mV.to hA2).drew).bs2 ((kR.to hA2).drew).bs2))
  have x0:dQ (w.heap.size+1+1) (aK (BS2 w4.heap.size (.bool g4) (.slice p4 n4 c4)) (aK (BS2 w.heap.size (.bool g1) (.slice p1 (dig x.natAbs).length c1)) (BS2 (w.heap.size+1) (.bool g2) (.slice p2 (dig y.natAbs).length c2)))):=(aK.hc (BS2.hc (by omega)) (aK.hc (BS2.hc (by omega)) (BS2.hc (by omega))))
  have y0:dQ (w.heap.size+1+1+1) (aK (BS2 w4.heap.size (.bool g4) (.slice p4 n4 c4)) (aK (BS2 w.heap.size (.bool g1) (.slice p1 (dig x.natAbs).length c1)) (BS2 (w.heap.size+1) (.bool g2) (.slice p2 (dig y.natAbs).length c2)))):=(aK.hc (BS2.hc (by omega)) (aK.hc (BS2.hc (by omega)) (BS2.hc (by omega))))
  have tk3:True:=trivial
  have tk4:True:=trivial
  go_region_held3 (aK (BS2 w4.heap.size (.bool g4) (.slice p4 n4 c4)) (aK (BS2 w.heap.size (.bool g1) (.slice p1 (dig x.natAbs).length c1)) (BS2 (w.heap.size+1) (.bool g2) (.slice p2 (dig y.natAbs).length c2)))) (first|with_reducible exact LP|with_reducible exact iC.go (aK.hk BS2.hk (aK.hk BS2.hk BS2.hk)) (by assumption) (by assumption)|with_reducible exact dQ.go2 x0 (by assumption)|with_reducible exact dQ.go2 y0 (by assumption)|(simp;done))
   (first
    | (((have:=tk3);clear tk3;have l1:=(hi4.below hA2).drew.raw;have s1:=((((hi2.aI dL rfl rfl (.bool g1) (.slice p1 (dig x.natAbs).length c1)).aI (dM.aO (b:=w.heap.size) (by omega) (.bool g1) (.slice p1 (dig x.natAbs).length c1)) rfl rfl (.bool g2) (.slice p2 (dig y.natAbs).length c2)).below hb3).below hb4);have m1:=(s1.below hA2).drew.raw;go_at_call 85;(with_reducible refine(oD _ _ (Q) (y) _ l1 m1 hq2 a2b).mono ?_);rintro e w5 ⟨v5,rfl,hi5,hb5⟩;obtain⟨g5,p5,n5,c5,rfl⟩:=hi5.form))
    | (((have:=tk4);clear tk4;have r1:=((((((w0.aI dL rfl rfl (.bool g1) (.slice p1 (dig x.natAbs).length c1)).aI (dM.aO (b:=w.heap.size) (by omega) (.bool g1) (.slice p1 (dig x.natAbs).length c1)) rfl rfl (.bool g2) (.slice p2 (dig y.natAbs).length c2)).below hb3).below hb4).below hA2).drew.below hb5);have o1:=r1.raw;have q1:=hi5.raw;go_at_call 155;(with_reducible refine(DT _ _ (x) ((Q)*(y)) _ o1 q1 hl0 hq3).mono ?_);rintro e w6 ⟨v6,rfl,hi6,hb6⟩;obtain⟨g6,p6,n6,c6,rfl⟩:=hi6.form;have sH:=(((oV.to hA2).drew.to hb5).to hb6);obtain⟨i0,k0,j0,l0⟩:=sH.cf2;have vO:=(((xY.to hA2).drew.to hb5).to hb6);obtain⟨m0,o0,n0,p0⟩:=vO.cf2)))
  have t1:=(((hi4.below hA2).drew.below hb5).below hb6)
  have z0:=(Below.tr (Below.tr (Below.tr (Below.tr (Below.tr (Below.aI (Below.aI (Below.tr (Below.tr (Below.tr bZ hA1).drew hb1) hb2) (b:=w.heap.size) (by omega) (.bool g1) (.slice p1 (dig x.natAbs).length c1)) (b:=w.heap.size+1) (by omega) (.bool g2) (.slice p2 (dig y.natAbs).length c2)) hb3) hb4) hA2).drew hb5) hb6)
  go_wp2_with fail
  exact jh (v:=.tuple #[.agg #[.bool g4,.slice p4 n4 c4],.agg #[.bool g6,.slice p6 n6 c6],.int .i64 0]) (by simp[results,Tryz.results126,go_sem,a0,c0,b0,d0,e0,g0,f0,h0,q0,r0,s0,t0,i0,k0,j0,l0,m0,o0,n0,p0]) rfl ⟨_,_,rfl,dX ((t1.aI sH rfl rfl (.bool g4) (.slice p4 n4 c4)).aI (vO.aO (b:=w.heap.size+1+1) (by omega) (.bool g4) (.slice p4 n4 c4)) rfl rfl (.bool g6) (.slice p6 n6 c6)) HX.out.1,dX ((hi6.aI sH rfl rfl (.bool g4) (.slice p4 n4 c4)).aI (vO.aO (b:=w.heap.size+1+1) (by omega) (.bool g4) (.slice p4 n4 c4)) rfl rfl (.bool g6) (.slice p6 n6 c6)) HX.out.2,(Below.aI (Below.aI z0 (b:=w.heap.size+1+1) (by omega) (.bool g4) (.slice p4 n4 c4)) (b:=w.heap.size+1+1+1) (by omega) (.bool g6) (.slice p6 n6 c6))⟩
theorem a0M (v u:Value) (x y:Int) (w:World) (hv:Raw w v x) (hu:Raw w u y) (hl:isz x<=400000000) (hl2:isz y<=400000000) (hy:y≠0) (hr:x.natAbs%y.natAbs≠0) (hfl:(decide (x<0) != decide (y<0))=true) :
  Calls Tryz.prog 126 #[v,u] w (ZH (x.fdiv y) (x.fmod y) w):=by
 obtain⟨b,p,n,c,rfl⟩:=hv.form
 obtain⟨d,o,m,e,rfl⟩:=hu.form
 have hfi:=iP
 have hx1:=wH x
 have hy1:=wH y
 have hyp:0<y.natAbs:=by omega
 obtain⟨Q,hQ⟩:∃ Q,sg true (val (dig (val (dig x.natAbs) / val (dig y.natAbs))))=Q:=⟨_,rfl⟩
 have HQ:=bn hQ
 simp only[aJ] at hQ
 have hqf:(Q-1)=x.fdiv y:=by
  have e1:=XG (decide (x<0)) (decide (y<0)) _ _ hyp hfl hr
  skip
  skip
  rw[hx1,hy1] at e1
  rw[e1.1,<-hQ]
  simp[sg];omega
 have HX:=bn (a0h x y hqf)
 have hq0:isz Q<=400000000:=by rw[<-hQ];exact TG hl _ _ rfl
 have hone:isz 1<=1000000000:=jg (yT (k:=1) (by rw[dG];decide)) (by omega)
 have hq1:isz Q<=1000000000:=by omega
 have hq4:isz (Q-1)<=400000002:=by have h1:=a0v Q 1;have h2:isz 1<=1:=yT (k:=1) (by rw[dG];decide);omega
 have hq2:isz (Q-1)<=1000000000:=by omega
 have hq3:isz ((Q-1)*y)<=1000000000:=by have:=eH (Q-1) y;omega
 have hl0:isz x<=1000000000:=by omega
 have a2b:isz y<=1000000000:=by omega
 have hlx:(dig x.natAbs).length<=1000000000:=hl0
 have hyn:=qX hy
 have hy0:0<(dig y.natAbs).length:=qp.2 hyn
 have hyz:(((dig y.natAbs).length:Int)==0)=false:=by simp;omega
 have hlq:Hid ((dig (val (dig x.natAbs) / val (dig y.natAbs))).length<=2000000001):=by unfold Hid;simp only[aJ];exact jg (aN (Bf _ _)) (by omega)
 have hr0:0<(dig (val (dig x.natAbs)%val (dig y.natAbs))).length:=by simp only[aJ];exact qp.2 (fun e=>hr (kF.1 e))
 skip
 skip
 skip
 skip
 have HFL:=bn hfl
 clear hQ hqf hx1 hy1 hyp hy hfl hr
 have bZ:Below w.heap.size w w:=dn _ _
 go_enter Tryz.func126,Tryz.ntmps126
 go_wp2_with fail
 obtain⟨hA1,z0,a1,x1,y1⟩:=bx4 w rfl [.bool b,.slice p n c] 62 [.bool d,.slice o m e] 62 [.bool false,.slice none 0 0] 62 [.bool false,.slice none 0 0] 62
 obtain⟨t2,h3,a3,j3⟩:=z0.drew.cf2
 obtain⟨l3,a4,u3,d4⟩:=a1.drew.cf2
 have tk1:True:=trivial
 have tk2:True:=trivial
 go_region_with
  (first
   | (((have:=tk1);clear tk1;have z1:=(hv.below hA1).drew;go_at_call 127;(with_reducible refine(iF _ (x) _ z1 hl0).mono ?_);rintro e w1 ⟨v1,rfl,hi1,hb1⟩;obtain⟨g1,p1,n1,c1,rfl⟩:=hi1.form;obtain rfl:n1=(dig x.natAbs).length:=hi1.len;have hf1:=bn (dR.flag hi1);have dW:=(a1.drew.to hb1);obtain⟨m3,b4,v3,e4⟩:=dW.cf2;have dP:=(z0.drew.to hb1);obtain⟨u2,i3,b3,k3⟩:=dP.cf2))
   | (((have:=tk2);clear tk2;have jZ:=((hu.below hA1).drew.below hb1);have a2:=jZ;go_at_call 127;(with_reducible refine(iF _ (y) _ a2 a2b).mono ?_);rintro e w2 ⟨v2,rfl,hi2,hb2⟩;obtain⟨g2,p2,n2,c2,rfl⟩:=hi2.form;obtain rfl:n2=(dig y.natAbs).length:=hi2.len;have hf2:=bn (dR.flag hi2);obtain⟨hbd,hbd2⟩:=QY hf1.out hf2.out HFL.out;have dL:=(dP.to hb2);obtain⟨f0,h0,g0,i0⟩:=dL.cf2;have dM:=(dW.to hb2);obtain⟨j0,l0,k0,m0⟩:=dM.cf2)))
 all_goals
  obtain⟨n3,x3⟩:=((dM.aO (b:=w.heap.size) (by omega) (.bool g1) (.slice p1 (dig x.natAbs).length c1)).store2 (.bool g2) (.slice p2 (dig y.natAbs).length c2)).cs2
  obtain⟨x2,e3⟩:=((dL.store2 (.bool g1) (.slice p1 (dig x.natAbs).length c1)).aO (b:=w.heap.size+1) (by omega) (.bool g2) (.slice p2 (dig y.natAbs).length c2)).cs2
  go_wp2_with fail
  have d1:=(hi1.below hb2)
  have b2:=((d1.aI dL rfl rfl (.bool g1) (.slice p1 (dig x.natAbs).length c1)).aI (dM.aO (b:=w.heap.size) (by omega) (.bool g1) (.slice p1 (dig x.natAbs).length c1)) rfl rfl (.bool g2) (.slice p2 (dig y.natAbs).length c2)).rd
  have d2:=((hi2.aI dL rfl rfl (.bool g1) (.slice p1 (dig x.natAbs).length c1)).aI (dM.aO (b:=w.heap.size) (by omega) (.bool g1) (.slice p1 (dig x.natAbs).length c1)) rfl rfl (.bool g2) (.slice p2 (dig y.natAbs).length c2)).rd
  (with_reducible refine(vF _ _ _ _ _ b2 d2 (cZ _) (cZ _) hlx hyn).mono ?_)
  rintro e w3 ⟨s3,t3,rfl,hs3,ht3,hb3⟩
  obtain⟨p3,c3,rfl,VX,VY⟩:=hs3.form
  obtain⟨o3,d3,rfl,hlo3,a0q⟩:=ht3.form
  have lH:=(((dL.store2 (.bool g1) (.slice p1 (dig x.natAbs).length c1)).aO (b:=w.heap.size+1) (by omega) (.bool g2) (.slice p2 (dig y.natAbs).length c2)).to hb3)
  obtain⟨y2,f3⟩:=lH.cs2
  have pJ:=(((dM.aO (b:=w.heap.size) (by omega) (.bool g1) (.slice p1 (dig x.natAbs).length c1)).store2 (.bool g2) (.slice p2 (dig y.natAbs).length c2)).to hb3)
  obtain⟨q3,y3⟩:=pJ.cs2
  go_wp2_with fail
  have e2:=hs3
  (with_reducible refine(iM _ _ _ _ e2 (dB _) hlq.out).mono ?_)
  rw[HQ.out]
  rintro e w4 ⟨v4,rfl,hi4,hb4⟩
  obtain⟨g4,p4,n4,c4,rfl⟩:=hi4.form
  have mV:=(lH.to hb4)
  obtain⟨z2,g3⟩:=mV.cs2
  have kR:=(pJ.to hb4)
  obtain⟨r3,z3⟩:=kR.cs2
  have v0:=(mV).1
  have w0:=(kR).1
  have oV:=((((((x1.drew.to hb1).to hb2).aO (b:=w.heap.size) (by omega) (.bool g1) (.slice p1 (dig x.natAbs).length c1)).aO (b:=w.heap.size+1) (by omega) (.bool g2) (.slice p2 (dig y.natAbs).length c2)).to hb3).to hb4)
  have x0:=(oV).1
  have xY:=((((((y1.drew.to hb1).to hb2).aO (b:=w.heap.size) (by omega) (.bool g1) (.slice p1 (dig x.natAbs).length c1)).aO (b:=w.heap.size+1) (by omega) (.bool g2) (.slice p2 (dig y.natAbs).length c2)).to hb3).to hb4)
  have y0:=(xY).1
  go_wp2_with fail
  obtain⟨hA2,b1⟩:=bx1 w4 rfl [.bool g4,.slice p4 n4 c4] 62
  obtain⟨l1,r1,o1,t1⟩:=b1.drew.cf2
  have tk3:True:=trivial
  have tk4:True:=trivial
  go_region_with
   (first
    | (((have:=tk3);clear tk3;go_at_call 125;(with_reducible refine(a6u _ _ (by omega) (by omega)).mono ?_);rintro e w5 ⟨v5,rfl,hi5,hb5⟩;obtain⟨g5,p5,n5,c5,rfl⟩:=hi5.form;have f1:=(b1.drew.to hb5);obtain⟨m1,s1,q1,u1⟩:=f1.cf2))
    | (((have:=tk4);clear tk4;have r2:=((hi4.below hA2).drew.below hb5);have f2:=r2.raw;have i2:=hi5.raw;go_at_call 155;(with_reducible refine(DT _ _ (Q) (1) _ f2 i2 hq1 hone).mono ?_);rintro e w6 ⟨v6,rfl,hi6,hb6⟩;obtain⟨g6,p6,n6,c6,rfl⟩:=hi6.form;have a0:=(f1.to hb6);obtain⟨b0,d0,c0,e0⟩:=a0.cf2)))
  all_goals
   go_wp2_with fail
   have b0P:=(((mV.to hA2).drew.to hb5).to hb6)
   have a4u:=(((kR.to hA2).drew.to hb5).to hb6)
   have LP:=(aK.mk ((a0.store2 (.bool g6) (.slice p6 n6 c6)).drew).bs2 (aK.mk ((b0P.aO (b:=w4.heap.size) (by omega) (.bool g6) (.slice p6 n6 c6)).drew).bs2 ((a4u.aO (b:=w4.heap.size) (by omega) (.bool g6) (.slice p6 n6 c6)).drew).bs2))
   have i1:dQ (w.heap.size+1+1) (aK (BS2 w4.heap.size (.bool g6) (.slice p6 n6 c6)) (aK (BS2 w.heap.size (.bool g1) (.slice p1 (dig x.natAbs).length c1)) (BS2 (w.heap.size+1) (.bool g2) (.slice p2 (dig y.natAbs).length c2)))):=(aK.hc (BS2.hc (by omega)) (aK.hc (BS2.hc (by omega)) (BS2.hc (by omega))))
   have j1:dQ (w.heap.size+1+1+1) (aK (BS2 w4.heap.size (.bool g6) (.slice p6 n6 c6)) (aK (BS2 w.heap.size (.bool g1) (.slice p1 (dig x.natAbs).length c1)) (BS2 (w.heap.size+1) (.bool g2) (.slice p2 (dig y.natAbs).length c2)))):=(aK.hc (BS2.hc (by omega)) (aK.hc (BS2.hc (by omega)) (BS2.hc (by omega))))
   have tk5:True:=trivial
   have tk6:True:=trivial
   go_region_held3 (aK (BS2 w4.heap.size (.bool g6) (.slice p6 n6 c6)) (aK (BS2 w.heap.size (.bool g1) (.slice p1 (dig x.natAbs).length c1)) (BS2 (w.heap.size+1) (.bool g2) (.slice p2 (dig y.natAbs).length c2)))) (first|with_reducible exact LP|with_reducible exact iC.go (aK.hk BS2.hk (aK.hk BS2.hk BS2.hk)) (by assumption) (by assumption)|with_reducible exact dQ.go2 i1 (by assumption)|with_reducible exact dQ.go2 j1 (by assumption)|(simp;done))
    (first
     | (((have:=tk5);clear tk5;have j2:=(hi6.aI a0 rfl rfl (.bool g6) (.slice p6 n6 c6)).drew.raw;have q2:=(((((((hi2.aI dL rfl rfl (.bool g1) (.slice p1 (dig x.natAbs).length c1)).aI (dM.aO (b:=w.heap.size) (by omega) (.bool g1) (.slice p1 (dig x.natAbs).length c1)) rfl rfl (.bool g2) (.slice p2 (dig y.natAbs).length c2)).below hb3).below hb4).below hA2).drew.below hb5).below hb6);have k2:=(q2.aI a0 rfl rfl (.bool g6) (.slice p6 n6 c6)).drew.raw;go_at_call 85;(with_reducible refine(oD _ _ ((Q)-(1)) (y) _ j2 k2 hq2 a2b).mono ?_);rintro e w7 ⟨v7,rfl,hi7,hb7⟩;obtain⟨g7,p7,n7,c7,rfl⟩:=hi7.form))
     | (((have:=tk6);clear tk6;have o2:=(((((((((d1.aI dL rfl rfl (.bool g1) (.slice p1 (dig x.natAbs).length c1)).aI (dM.aO (b:=w.heap.size) (by omega) (.bool g1) (.slice p1 (dig x.natAbs).length c1)) rfl rfl (.bool g2) (.slice p2 (dig y.natAbs).length c2)).below hb3).below hb4).below hA2).drew.below hb5).below hb6).aI a0 rfl rfl (.bool g6) (.slice p6 n6 c6)).drew.below hb7);have l2:=o2.raw;have m2:=hi7.raw;go_at_call 155;(with_reducible refine(DT _ _ (x) (((Q)-(1))*(y)) _ l2 m2 hl0 hq3).mono ?_);rintro e w8 ⟨v8,rfl,hi8,hb8⟩;obtain⟨g8,p8,n8,c8,rfl⟩:=hi8.form;have a4v:=((((((oV.to hA2).drew.to hb5).to hb6).aO (b:=w4.heap.size) (by omega) (.bool g6) (.slice p6 n6 c6)).drew.to hb7).to hb8);obtain⟨n0,p0,o0,q0⟩:=a4v.cf2;have a4w:=((((((xY.to hA2).drew.to hb5).to hb6).aO (b:=w4.heap.size) (by omega) (.bool g6) (.slice p6 n6 c6)).drew.to hb7).to hb8);obtain⟨r0,t0,s0,u0⟩:=a4w.cf2)))
   have s2:=(((hi6.aI a0 rfl rfl (.bool g6) (.slice p6 n6 c6)).drew.below hb7).below hb8)
   have k1:=(Below.tr (Below.tr (Below.aI (Below.tr (Below.tr (Below.tr (Below.tr (Below.tr (Below.aI (Below.aI (Below.tr (Below.tr (Below.tr bZ hA1).drew hb1) hb2) (b:=w.heap.size) (by omega) (.bool g1) (.slice p1 (dig x.natAbs).length c1)) (b:=w.heap.size+1) (by omega) (.bool g2) (.slice p2 (dig y.natAbs).length c2)) hb3) hb4) hA2).drew hb5) hb6) (b:=w4.heap.size) (by omega) (.bool g6) (.slice p6 n6 c6)).drew hb7) hb8)
   go_wp2_with fail
   exact jh (v:=.tuple #[.agg #[.bool g6,.slice p6 n6 c6],.agg #[.bool g8,.slice p8 n8 c8],.int .i64 0]) (by simp[results,Tryz.results126,go_sem,f0,h0,g0,i0,j0,l0,k0,m0,v0,w0,x0,y0,b0,d0,c0,e0,n0,p0,o0,q0,r0,t0,s0,u0]) rfl ⟨_,_,rfl,dX ((s2.aI a4v rfl rfl (.bool g6) (.slice p6 n6 c6)).aI (a4w.aO (b:=w.heap.size+1+1) (by omega) (.bool g6) (.slice p6 n6 c6)) rfl rfl (.bool g8) (.slice p8 n8 c8)) HX.out.1,dX ((hi8.aI a4v rfl rfl (.bool g6) (.slice p6 n6 c6)).aI (a4w.aO (b:=w.heap.size+1+1) (by omega) (.bool g6) (.slice p6 n6 c6)) rfl rfl (.bool g8) (.slice p8 n8 c8)) HX.out.2,(Below.aI (Below.aI k1 (b:=w.heap.size+1+1) (by omega) (.bool g6) (.slice p6 n6 c6)) (b:=w.heap.size+1+1+1) (by omega) (.bool g8) (.slice p8 n8 c8))⟩
theorem wF (v u:Value) (x y:Int) (w:World) (hv:Raw w v x) (hu:Raw w u y) (hl:isz x<=400000000) (hl2:isz y<=400000000) (hy:y≠0) :
  Calls Tryz.prog 126 #[v,u] w (ZH (x.fdiv y) (x.fmod y) w):=by
 cases hfl:(decide (x<0) != decide (y<0))
 ·exact a0N v u x y w hv hu hl hl2 hy hfl
 ·by_cases hr:x.natAbs%y.natAbs=0
  ·exact WI v u x y w hv hu hl hl2 hy hr hfl
  ·exact a0M v u x y w hv hu hl hl2 hy hr hfl
set_option maxHeartbeats 4000000
theorem b9O (w:World) (r q:Nat):Rd (w.alloc (.cells #[.int .u32 (r:Nat),.int .u32 (q:Nat)] 133)) (.slice (some ⟨w.heap.size,0,none⟩) 2 2) [r,q] :=
 Rd.dO (l:=[r,q]) (World.ownsRow_lit (size:=1) w #[.int .u32 (r:Nat),.int .u32 (q:Nat)] 2 (aj _) (by simp[maxLen]) (by simp))
theorem UM (v u:Value) (x y:Int) (w:World) (hv:Raw w v x) (hu:Raw w u y) (hl:isz x<=1000000000) (hl2:isz y<=1000000000) :
  Calls Tryz.prog 123 #[v,u] w (sO ((Int.gcd x y:Nat):Int) w):=by
 obtain⟨b,p,n,c,rfl⟩:=hv.form
 obtain⟨d,o,m,e,rfl⟩:=hu.form
 have hlx:(dig x.natAbs).length<=1000000000:=hl
 have hly:(dig y.natAbs).length<=1000000000:=hl2
 have hfi:=iP
 have k0:=iP
 have bZ:Below w.heap.size w w:=dn _ _
 go_enter Tryz.func123,Tryz.ntmps123
 go_wp2_with fail
 obtain⟨hA1,l0,m0,n0⟩:=bx3 w rfl [.bool b,.slice p n c] 62 [.bool d,.slice o m e] 62 [.bool false,.slice none 0 0] 62
 have yG:=(aK.mk (l0.drew).bs2 (m0.drew).bs2)
 have tk1:True:=trivial
 have tk2:True:=trivial
 go_region_held3 (aK (BS2 w.heap.size (.bool b) (.slice p n c)) (BS2 (w.heap.size+1) (.bool d) (.slice o m e))) (first|with_reducible exact yG|with_reducible exact iC.go (aK.hk BS2.hk BS2.hk) (by assumption) (by assumption)|(simp;done))
  (first
   | (((have:=tk1);clear tk1;have a0:=(hv.below hA1).drew;go_at_call 127;(with_reducible refine(iF _ (x) _ a0 (by omega)).mono ?_);rintro e w1 ⟨v1,rfl,hi1,hb1⟩;obtain⟨g1,p1,n1,c1,rfl⟩:=hi1.form;obtain rfl:n1=(dig x.natAbs).length:=hi1.len))
   | (((have:=tk2);clear tk2;have jZ:=((hu.below hA1).drew.below hb1);have d0:=jZ;go_at_call 127;(with_reducible refine(iF _ (y) _ d0 (by omega)).mono ?_);rintro e w2 ⟨v2,rfl,hi2,hb2⟩;obtain⟨g2,p2,n2,c2,rfl⟩:=hi2.form;obtain rfl:n2=(dig y.natAbs).length:=hi2.len)))
 have o0:=(hi1.below hb2)
 have lS:=((n0.drew.to hb1).to hb2)
 have j0:=(Below.tr (Below.tr (Below.tr bZ hA1).drew hb1) hb2)
 go_wp2_with fail
 clear hl hl2
 go_loopg [5,6,7,8,17,18,19,20,21,22,23,24,25,26,27,28,29,30,31,32,33,34,35,36,37] (val (dig y.natAbs)) (fun k a b _ _ _ _ _ _ _ _ _ _ _ _ _ _ _ _ _ _ _ _ _ _ _ wr=>∃ (l1 l2:List Nat) (pa pb:Option Addr) (ca cb:Nat),a=.slice pa l1.length ca/\b=.slice pb l2.length cb/\Rd wr (.slice pa l1.length ca) l1/\Rd wr (.slice pb l2.length cb) l2/\Canon l1/\Canon l2/\l1.length<=1000000000/\l2.length<=1000000000/\Hid (Nat.gcd (val l1) (val l2)=Int.gcd x y)/\Hid (k=val l2)/\Bx wr (w.heap.size+1+1) [.bool false,.slice none 0 0]/\Below w.heap.size w wr)
 case atStart=>exact⟨_,_,_,_,_,_,rfl,rfl,o0.rd,hi2.rd,cZ _,cZ _,hlx,hly,XJ x y,rfl,lS,j0⟩
 case round =>
  obtain⟨l1,l2,pa,pb,ca,cb,rfl,rfl,ha,hb,ca1,cb1,la,lb,hg,hk,hq,hB⟩:=hrel
  have hzB:=hB.size
  have cl1:Low l1:=ca1.1
  have cl2:Low l2:=cb1.1
  by_cases hne:l2=[]
  ·subst hne
   have HX:Hid (sg false (val l1)=((Int.gcd x y:Nat):Int)):=gcd_zero hg.out
   go_wp2_with fail
   have b0:=ha
   (with_reducible refine(iM _ _ _ _ b0 cl1 (by omega)).mono ?_)
   rintro e w1 ⟨v1,rfl,hi1,hb1⟩
   obtain⟨g1,p1,n1,c1,rfl⟩:=hi1.form
   have a7P:=(hq.to hb1)
   obtain⟨e0,h0,g0,i0⟩:=a7P.cf2
   have qY:=(Below.tr hB hb1)
   go_wp2_with fail
   exact jh (v:=.agg #[.bool g1,.slice p1 n1 c1]) (by simp[results,Tryz.results123,go_sem,e0,h0,g0,i0]) rfl ⟨_,rfl,dX (hi1.aI a7P rfl rfl (.bool g1) (.slice p1 n1 c1)) HX.out,(Below.aI qY (b:=w.heap.size+1+1) (by omega) (.bool g1) (.slice p1 n1 c1))⟩
  ·have hl0:0<l2.length:=qp.2 hne
   have hlz:((l2.length:Int)==0)=false:=by simp;omega
   have HLE:Hid ((dig (val l1%val l2)).length<=1000000000):=by
    unfold Hid
    have:=aN (Nat.le_of_lt (yg (val l1) (cb1.pos hne)))
    rw[fE cb1] at this
    omega
   by_cases h1:2<l1.length
   ·skip
    go_wp2_with fail
    have a0:=ha
    have b0:=hb
    (with_reducible refine(vF _ _ _ _ _ a0 b0 ca1 cb1 la hne).mono ?_)
    rintro e w1 ⟨s1,t1,rfl,hs1,ht1,hb1⟩
    obtain⟨p1,c1,rfl,a2c,a2d⟩:=hs1.form
    obtain⟨o1,d1,rfl,hlo1,c3P⟩:=ht1.form
    have JZ:=(hb.below hb1)
    have a7P:=(hq.to hb1)
    have qY:=(Below.tr hB hb1)
    go_wp2_with fail
    go_roundg (val (dig (val l1%val l2)))
    case measure=>rw[hk.out,aJ];exact yg _ (cb1.pos hne)
    case rel=>exact⟨_,_,_,_,_,_,rfl,rfl,JZ,ht1,cb1,cZ _,lb,HLE.out,by unfold Hid;rw[aJ];exact uQ hg.out,rfl,a7P,qY⟩
   ·by_cases h2:2<l2.length
    ·skip
     go_wp2_with fail
     have a0:=ha
     have b0:=hb
     (with_reducible refine(vF _ _ _ _ _ a0 b0 ca1 cb1 la hne).mono ?_)
     rintro e w1 ⟨s1,t1,rfl,hs1,ht1,hb1⟩
     obtain⟨p1,c1,rfl,a2c,a2d⟩:=hs1.form
     obtain⟨o1,d1,rfl,hlo1,c3P⟩:=ht1.form
     have JZ:=(hb.below hb1)
     have a7P:=(hq.to hb1)
     have qY:=(Below.tr hB hb1)
     go_wp2_with fail
     go_roundg (val (dig (val l1%val l2)))
     case measure=>rw[hk.out,aJ];exact yg _ (cb1.pos hne)
     case rel=>exact⟨_,_,_,_,_,_,rfl,rfl,JZ,ht1,cb1,cZ _,lb,HLE.out,by unfold Hid;rw[aJ];exact uQ hg.out,rfl,a7P,qY⟩
    ·skip
     go_wp2_with fail
     have a0:=ha
     (with_reducible refine(YK _ _ _ a0 cl1 (by omega)).mono ?_)
     rintro e w' ⟨rfl,rfl⟩
     go_wp2_with fail
     have d0:=hb
     (with_reducible refine(YK _ _ _ d0 cl2 (by omega)).mono ?_)
     rintro e w' ⟨rfl,rfl⟩
     go_wp2_with fail
     have hM:=ER ca1 (by omega)
     have hK:=ER cb1 (by omega)
     clear ha hb
     go_loopw [9,10,47,48,49,50,51,52] (fun m n _ _ _ _ _ _ wr=>∃ M K:Nat,m=.int .u64 (M:Nat)/\n=.int .u64 (K:Nat)/\M<=999999999999999999/\K<=999999999999999999/\Hid (Nat.gcd M K=Int.gcd x y)/\Bx wr (w.heap.size+1+1) [.bool false,.slice none 0 0]/\Below w.heap.size w wr) (fun _ n _ _ _ _ _ _ _=>(intOf n).toNat)
     case atStart=>exact⟨_,_,rfl,rfl,hM,hK,hg,hq,hB⟩
     case round =>
      obtain⟨M,K,rfl,rfl,hM,hK,hg2,hq2,hB2⟩:=hrel
      by_cases hk0:0<K
      ·obtain⟨R,hR⟩:∃ R,M%K=R:=⟨_,rfl⟩
       have b5G:R<K:=by rw[<-hR];exact yg _ hk0
       have i2:(M:Int)%K=R:=by rw[<-hR];simp
       have i3:(M:Int).tmod K=R:=by rw[Bz (by omega)];exact i2
       have w2':IntKind.u64.wrap (R:Int)=R:=wrap_u64 (by omega)
       have hdz:((K:Int)==0)=false:=by simp;omega
       have hdn:¬ K=0:=by omega
       have HG:Hid (Nat.gcd K R=Int.gcd x y):=by unfold Hid;rw[<-hR];exact uQ hg2.out
       have a9P:=fun w=>KW (n:=M) (d:=K) (v:=R) (by omega) hM i2 w2' w
       clear hR
       go_wp2_with fail
       go_quiet (fail)
       go_wp2_with fail
       go_roundw
       case rel=>exact⟨K,R,rfl,rfl,hK,by omega,HG,hq2.drewN _,Below.qN hB2 _⟩
       case measure=>simp[intOf];omega
      ·obtain rfl:K=0:=by omega
       obtain⟨r,hr⟩:∃ r,M%1000000000=r:=⟨_,rfl⟩
       obtain⟨q,hq'⟩:∃ q,M / 1000000000=q:=⟨_,rfl⟩
       have HX:Hid (sg false (val [r,q])=((Int.gcd x y:Nat):Int)):=by
        have:=hg2.out
        unfold Hid
        rw[<-this,Nat.gcd_zero_right]
        have e:val [r,q]=M:=by simp[dH,val,dG];omega
        rw[e];rfl
       have i1:(M:Int)%1000000000=r:=by omega
       have i2:(M:Int) / 1000000000=q:=by omega
       have hr9:r<=999999999:=by omega
       have hq9:q<=999999999:=by omega
       have hlow:Low [r,q]:=Low.cons.2 ⟨by rw[dG];omega,Low.cons.2 ⟨by rw[dG];omega,Low.nil⟩⟩
       have hR:=b9O wr r q
       have c3W:=hB2.size
       clear hr hq'
       go_wp2_with fail
       refine(iM false _ _ _ hR hlow (by simp)).mono ?_
       rw[HX.out]
       rintro e2 w7 ⟨v2,rfl,hi2,hb7⟩
       obtain⟨g2,p2,n2,c2,rfl⟩:=hi2.form
       have q7:=(hq2.alloc (.cells #[.int .u32 (r:Nat),.int .u32 (q:Nat)] 133)).to hb7
       have r0:=q7.c0
       have r1:=q7.c1
       have f0:=q7.f0
       have f1:=q7.f1
       have hB7:=Below.tr (Below.al hB2 (.cells #[.int .u32 (r:Nat),.int .u32 (q:Nat)] 133)) hb7
       go_wp2_with fail
       exact jh (v:=.agg #[.bool g2,.slice p2 n2 c2]) (by simp[results,Tryz.results123,go_sem,r0,r1]) rfl ⟨_,rfl,dR.aI hi2 q7 rfl rfl _ _,Below.aI hB7 (by omega) _ _⟩
end Go.Proofs.YtgplhbhfdgempaaGreat
