/-
  Lemmas for the theorem vinliers_holds, part 25 of 32.
-/
import Derived.Test.YtbkocjmmbkifjaaGreatQi24
namespace Go.Proofs.YtbkocjmmbkifjaaGreat
open Go Go.RowKit
set_option maxRecDepth 100000
set_option maxHeartbeats 8000000
set_option linter.unusedSimpArgs false
set_option linter.unusedVariables false
theorem XP (x y:Int) {q:Int} (h:q=x.fdiv y):q=x.fdiv y/\x-q*y=x.fmod y:=by
 refine⟨h,?_⟩
 have:=Int.fmod_add_mul_fdiv x y
 rw[<-h,Int.mul_comm] at this
 omega
theorem OV {x:Int} {b:Bool} {k:Nat} (h:isz x<=k) (m n:Nat) (hm:m=x.natAbs):isz (sg b (m / n))<=k:=by
 refine iq (OW ?_) h
 rw[a2R,hm];exact Ad _ _
theorem NJ {g1 g2:Bool} {x y:Int} {r:Bool} (h1:g1=decide (x<0)) (h2:g2=decide (y<0)) (h:(decide (x<0) != decide (y<0))=r):(g1 != g2)=r/\(!g1==g2)=r:=by
 subst h1;subst h2
 refine⟨h,?_⟩
 rw[<-h];cases decide (x<0)<;>cases decide (y<0)<;>rfl
theorem YX (v u:Value) (x y:Int) (w:World) (hv:Raw w v x) (hu:Raw w u y) (hl:isz x<=400000000) (hl2:isz y<=400000000) (hy:y≠0) (hfl:(decide (x<0) != decide (y<0))=false) :
  Calls Tryz.prog 200 #[v,u] w (RV (x.fdiv y) (x.fmod y) w):=by
 obtain⟨b,p,n,c,rfl⟩:=hv.form
 obtain⟨d,o,m,e,rfl⟩:=hu.form
 have hfi:=fZ
 have hx1:=uH x
 have hy1:=uH y
 have hyp:0<y.natAbs:=by omega
 obtain⟨Q,hQ⟩:∃ Q,sg false (val (dig (val (dig x.natAbs) / val (dig y.natAbs))))=Q:=⟨_,rfl⟩
 have HQ:=bn hQ
 simp only[aH] at hQ
 have hqf:Q=x.fdiv y:=by
  have hfe:decide (x<0)=decide (y<0):=by simpa using hfl
  have e1:=II (decide (x<0)) x.natAbs y.natAbs hyp
  rw[hfe] at e1 hx1
  rw[hx1,hy1] at e1
  rw[e1.1,<-hQ]
  simp[sg]
 have HX:=bn (XP x y hqf)
 have hq0:isz Q<=400000000:=by rw[<-hQ];exact OV hl _ _ rfl
 have hone:isz 1<=1000000000:=iq (qI (k:=1) (by rw[bI];decide)) (by omega)
 have hq1:isz Q<=1000000000:=by omega
 have hq4:isz Q<=400000002:=by omega
 have hq2:isz Q<=1000000000:=by omega
 have hq3:isz (Q*y)<=1000000000:=by have:=dK Q y;omega
 have hl0:isz x<=1000000000:=by omega
 have a0J:isz y<=1000000000:=by omega
 have hlx:(dig x.natAbs).length<=1000000000:=hl0
 have hyn:=oL hy
 have hy0:0<(dig y.natAbs).length:=oq.2 hyn
 have hyz:(((dig y.natAbs).length:Int)==0)=false:=by simp;omega
 have hlq:Hid ((dig (val (dig x.natAbs) / val (dig y.natAbs))).length<=2000000001):=by unfold Hid;simp only[aH];exact iq (aJ (Ad _ _)) (by omega)
 skip
 skip
 skip
 skip
 skip
 have HFL:=bn hfl
 clear hQ hqf hx1 hy1 hyp hy hfl
 have aZ:Below w.heap.size w w:=bg _ _
 go_enter Tryz.func200,Tryz.ntmps200
 go_wp2_with fail
 obtain⟨hA1,u0,v0,a1,b1⟩:=bx4 w rfl [.bool b,.slice p n c] 45 [.bool d,.slice o m e] 45 [.bool false,.slice none 0 0] 45 [.bool false,.slice none 0 0] 45
 obtain⟨u1,i2,b2,k2⟩:=u0.drew.cf2
 obtain⟨m2,a3,t2,e3⟩:=v0.drew.cf2
 have tk1:True:=trivial
 have tk2:True:=trivial
 go_region_with
  (first
   | (((have:=tk1);clear tk1;have f1:=(hv.below hA1).drew;go_at_call 164;(with_reducible refine(fM _ (x) _ f1 hl0).mono ?_);rintro e w1 ⟨v1,rfl,hi1,hb1⟩;obtain⟨g1,p1,n1,c1,rfl⟩:=hi1.form;obtain rfl:n1=(dig x.natAbs).length:=hi1.len;have hf1:=bn (bW.flag hi1);have dA:=(v0.drew.to hb1);obtain⟨o2,b3,u2,f3⟩:=dA.cf2;have bT:=(u0.drew.to hb1);obtain⟨x1,j2,d2,l2⟩:=bT.cf2))
   | (((have:=tk2);clear tk2;have iF:=((hu.below hA1).drew.below hb1);have h1:=iF;go_at_call 164;(with_reducible refine(fM _ (y) _ h1 a0J).mono ?_);rintro e w2 ⟨v2,rfl,hi2,hb2⟩;obtain⟨g2,p2,n2,c2,rfl⟩:=hi2.form;obtain rfl:n2=(dig y.natAbs).length:=hi2.len;have hf2:=bn (bW.flag hi2);obtain⟨hbd,hbd2⟩:=NJ hf1.out hf2.out HFL.out;have bM:=(bT.to hb2);obtain⟨a0,c0,b0,d0⟩:=bM.cf2;have bJ:=(dA.to hb2);obtain⟨e0,g0,f0,h0⟩:=bJ.cf2)))
 all_goals
  obtain⟨q2,x2⟩:=((bJ.aI (b:=w.heap.size) (by omega) (.bool g1) (.slice p1 (dig x.natAbs).length c1)).store2 (.bool g2) (.slice p2 (dig y.natAbs).length c2)).cs2
  obtain⟨y1,e2⟩:=((bM.store2 (.bool g1) (.slice p1 (dig x.natAbs).length c1)).aI (b:=w.heap.size+1) (by omega) (.bool g2) (.slice p2 (dig y.natAbs).length c2)).cs2
  go_wp2_with fail
  have w0:=(hi1.below hb2)
  have i1:=((w0.aG bM rfl rfl (.bool g1) (.slice p1 (dig x.natAbs).length c1)).aG (bJ.aI (b:=w.heap.size) (by omega) (.bool g1) (.slice p1 (dig x.natAbs).length c1)) rfl rfl (.bool g2) (.slice p2 (dig y.natAbs).length c2)).rd
  have j1:=((hi2.aG bM rfl rfl (.bool g1) (.slice p1 (dig x.natAbs).length c1)).aG (bJ.aI (b:=w.heap.size) (by omega) (.bool g1) (.slice p1 (dig x.natAbs).length c1)) rfl rfl (.bool g2) (.slice p2 (dig y.natAbs).length c2)).rd
  (with_reducible refine(sK _ _ _ _ _ i1 j1 (aY _) (aY _) hlx hyn).mono ?_)
  rintro e w3 ⟨s3,t3,rfl,hs3,ht3,hb3⟩
  obtain⟨p3,c3,rfl,SH,SI⟩:=hs3.form
  obtain⟨o3,d3,rfl,hlo3,XY⟩:=ht3.form
  have iY:=(((bM.store2 (.bool g1) (.slice p1 (dig x.natAbs).length c1)).aI (b:=w.heap.size+1) (by omega) (.bool g2) (.slice p2 (dig y.natAbs).length c2)).to hb3)
  obtain⟨z1,f2⟩:=iY.cs2
  have lI:=(((bJ.aI (b:=w.heap.size) (by omega) (.bool g1) (.slice p1 (dig x.natAbs).length c1)).store2 (.bool g2) (.slice p2 (dig y.natAbs).length c2)).to hb3)
  obtain⟨r2,y2⟩:=lI.cs2
  go_wp2_with fail
  have k1:=hs3
  (with_reducible refine(fV _ _ _ _ k1 (bH _) hlq.out).mono ?_)
  rw[HQ.out]
  rintro e w4 ⟨v4,rfl,hi4,hb4⟩
  obtain⟨g4,p4,n4,c4,rfl⟩:=hi4.form
  have kJ:=(iY.to hb4)
  obtain⟨a2,h2⟩:=kJ.cs2
  have jJ:=(lI.to hb4)
  obtain⟨s2,z2⟩:=jJ.cs2
  have q0:=(kJ).1
  have r0:=(jJ).1
  have kV:=((((((a1.drew.to hb1).to hb2).aI (b:=w.heap.size) (by omega) (.bool g1) (.slice p1 (dig x.natAbs).length c1)).aI (b:=w.heap.size+1) (by omega) (.bool g2) (.slice p2 (dig y.natAbs).length c2)).to hb3).to hb4)
  have s0:=(kV).1
  have vO:=((((((b1.drew.to hb1).to hb2).aI (b:=w.heap.size) (by omega) (.bool g1) (.slice p1 (dig x.natAbs).length c1)).aI (b:=w.heap.size+1) (by omega) (.bool g2) (.slice p2 (dig y.natAbs).length c2)).to hb3).to hb4)
  have t0:=(vO).1
  go_wp2_with fail
  obtain⟨hA2,d1⟩:=bx1 w4 rfl [.bool g4,.slice p4 n4 c4] 45
  have GZ:=(aK.mk (d1.drew).bs2 (aK.mk ((kJ.to hA2).drew).bs2 ((jJ.to hA2).drew).bs2))
  have x0:dB (w.heap.size+1+1) (aK (BS2 w4.heap.size (.bool g4) (.slice p4 n4 c4)) (aK (BS2 w.heap.size (.bool g1) (.slice p1 (dig x.natAbs).length c1)) (BS2 (w.heap.size+1) (.bool g2) (.slice p2 (dig y.natAbs).length c2)))):=(aK.hc (BS2.hc (by omega)) (aK.hc (BS2.hc (by omega)) (BS2.hc (by omega))))
  have y0:dB (w.heap.size+1+1+1) (aK (BS2 w4.heap.size (.bool g4) (.slice p4 n4 c4)) (aK (BS2 w.heap.size (.bool g1) (.slice p1 (dig x.natAbs).length c1)) (BS2 (w.heap.size+1) (.bool g2) (.slice p2 (dig y.natAbs).length c2)))):=(aK.hc (BS2.hc (by omega)) (aK.hc (BS2.hc (by omega)) (BS2.hc (by omega))))
  have tk3:True:=trivial
  have tk4:True:=trivial
  go_region_held3 (aK (BS2 w4.heap.size (.bool g4) (.slice p4 n4 c4)) (aK (BS2 w.heap.size (.bool g1) (.slice p1 (dig x.natAbs).length c1)) (BS2 (w.heap.size+1) (.bool g2) (.slice p2 (dig y.natAbs).length c2)))) (first|with_reducible exact GZ|with_reducible exact fG.go (aK.hk BS2.hk (aK.hk BS2.hk BS2.hk)) (by assumption) (by assumption)|with_reducible exact dB.go2 x0 (by assumption)|with_reducible exact dB.go2 y0 (by assumption)|(simp;done))
   (first
    | (((have:=tk3);clear tk3;have l1:=(hi4.below hA2).drew.raw;have s1:=((((hi2.aG bM rfl rfl (.bool g1) (.slice p1 (dig x.natAbs).length c1)).aG (bJ.aI (b:=w.heap.size) (by omega) (.bool g1) (.slice p1 (dig x.natAbs).length c1)) rfl rfl (.bool g2) (.slice p2 (dig y.natAbs).length c2)).below hb3).below hb4);have m1:=(s1.below hA2).drew.raw;go_at_call 161;(with_reducible refine(kN _ _ (Q) (y) _ l1 m1 hq2 a0J).mono ?_);rintro e w5 ⟨v5,rfl,hi5,hb5⟩;obtain⟨g5,p5,n5,c5,rfl⟩:=hi5.form))
    | (((have:=tk4);clear tk4;have r1:=((((((w0.aG bM rfl rfl (.bool g1) (.slice p1 (dig x.natAbs).length c1)).aG (bJ.aI (b:=w.heap.size) (by omega) (.bool g1) (.slice p1 (dig x.natAbs).length c1)) rfl rfl (.bool g2) (.slice p2 (dig y.natAbs).length c2)).below hb3).below hb4).below hA2).drew.below hb5);have o1:=r1.raw;have q1:=hi5.raw;go_at_call 214;(with_reducible refine(zI _ _ (x) ((Q)*(y)) _ o1 q1 hl0 hq3).mono ?_);rintro e w6 ⟨v6,rfl,hi6,hb6⟩;obtain⟨g6,p6,n6,c6,rfl⟩:=hi6.form;have qA:=(((kV.to hA2).drew.to hb5).to hb6);obtain⟨i0,k0,j0,l0⟩:=qA.cf2;have sU:=(((vO.to hA2).drew.to hb5).to hb6);obtain⟨m0,o0,n0,p0⟩:=sU.cf2)))
  have t1:=(((hi4.below hA2).drew.below hb5).below hb6)
  have z0:=(Below.tr (Below.tr (Below.tr (Below.tr (Below.tr (Below.aG (Below.aG (Below.tr (Below.tr (Below.tr aZ hA1).drew hb1) hb2) (b:=w.heap.size) (by omega) (.bool g1) (.slice p1 (dig x.natAbs).length c1)) (b:=w.heap.size+1) (by omega) (.bool g2) (.slice p2 (dig y.natAbs).length c2)) hb3) hb4) hA2).drew hb5) hb6)
  go_wp2_with fail
  exact iw (v:=.tuple #[.agg #[.bool g4,.slice p4 n4 c4],.agg #[.bool g6,.slice p6 n6 c6],.int .i64 0]) (by simp[results,Tryz.results200,go_sem,a0,c0,b0,d0,e0,g0,f0,h0,q0,r0,s0,t0,i0,k0,j0,l0,m0,o0,n0,p0]) rfl ⟨_,_,rfl,dG ((t1.aG qA rfl rfl (.bool g4) (.slice p4 n4 c4)).aG (sU.aI (b:=w.heap.size+1+1) (by omega) (.bool g4) (.slice p4 n4 c4)) rfl rfl (.bool g6) (.slice p6 n6 c6)) HX.out.1,dG ((hi6.aG qA rfl rfl (.bool g4) (.slice p4 n4 c4)).aG (sU.aI (b:=w.heap.size+1+1) (by omega) (.bool g4) (.slice p4 n4 c4)) rfl rfl (.bool g6) (.slice p6 n6 c6)) HX.out.2,(Below.aG (Below.aG z0 (b:=w.heap.size+1+1) (by omega) (.bool g4) (.slice p4 n4 c4)) (b:=w.heap.size+1+1+1) (by omega) (.bool g6) (.slice p6 n6 c6))⟩
theorem SS (v u:Value) (x y:Int) (w:World) (hv:Raw w v x) (hu:Raw w u y) (hl:isz x<=400000000) (hl2:isz y<=400000000) (hy:y≠0) (hr:x.natAbs%y.natAbs=0) (hfl:(decide (x<0) != decide (y<0))=true) :
  Calls Tryz.prog 200 #[v,u] w (RV (x.fdiv y) (x.fmod y) w):=by
 obtain⟨b,p,n,c,rfl⟩:=hv.form
 obtain⟨d,o,m,e,rfl⟩:=hu.form
 have hfi:=fZ
 have hx1:=uH x
 have hy1:=uH y
 have hyp:0<y.natAbs:=by omega
 obtain⟨Q,hQ⟩:∃ Q,sg true (val (dig (val (dig x.natAbs) / val (dig y.natAbs))))=Q:=⟨_,rfl⟩
 have HQ:=bn hQ
 simp only[aH] at hQ
 have hqf:Q=x.fdiv y:=by
  have e1:=NZ (decide (x<0)) (decide (y<0)) _ _ hyp hfl hr
  skip
  skip
  rw[hx1,hy1] at e1
  rw[e1.1,<-hQ]
  skip
 have HX:=bn (XP x y hqf)
 have hq0:isz Q<=400000000:=by rw[<-hQ];exact OV hl _ _ rfl
 have hone:isz 1<=1000000000:=iq (qI (k:=1) (by rw[bI];decide)) (by omega)
 have hq1:isz Q<=1000000000:=by omega
 have hq4:isz Q<=400000002:=by omega
 have hq2:isz Q<=1000000000:=by omega
 have hq3:isz (Q*y)<=1000000000:=by have:=dK Q y;omega
 have hl0:isz x<=1000000000:=by omega
 have a0J:isz y<=1000000000:=by omega
 have hlx:(dig x.natAbs).length<=1000000000:=hl0
 have hyn:=oL hy
 have hy0:0<(dig y.natAbs).length:=oq.2 hyn
 have hyz:(((dig y.natAbs).length:Int)==0)=false:=by simp;omega
 have hlq:Hid ((dig (val (dig x.natAbs) / val (dig y.natAbs))).length<=2000000001):=by unfold Hid;simp only[aH];exact iq (aJ (Ad _ _)) (by omega)
 skip
 have OM:(dig (val (dig x.natAbs)%val (dig y.natAbs))).length=0:=by simp only[aH];rw[hr,dL];rfl
 have hr1:decide (0<(dig (val (dig x.natAbs)%val (dig y.natAbs))).length)=false:=by simp only[OM];rfl
 have hr2:decide ((0:Int)<((dig (val (dig x.natAbs)%val (dig y.natAbs))).length:Int))=false:=by simp only[OM];rfl
 clear OM
 have HFL:=bn hfl
 clear hQ hqf hx1 hy1 hyp hy hfl hr
 have aZ:Below w.heap.size w w:=bg _ _
 go_enter Tryz.func200,Tryz.ntmps200
 go_wp2_with fail
 obtain⟨hA1,u0,v0,a1,b1⟩:=bx4 w rfl [.bool b,.slice p n c] 45 [.bool d,.slice o m e] 45 [.bool false,.slice none 0 0] 45 [.bool false,.slice none 0 0] 45
 obtain⟨u1,i2,b2,k2⟩:=u0.drew.cf2
 obtain⟨m2,a3,t2,e3⟩:=v0.drew.cf2
 have tk1:True:=trivial
 have tk2:True:=trivial
 go_region_with
  (first
   | (((have:=tk1);clear tk1;have f1:=(hv.below hA1).drew;go_at_call 164;(with_reducible refine(fM _ (x) _ f1 hl0).mono ?_);rintro e w1 ⟨v1,rfl,hi1,hb1⟩;obtain⟨g1,p1,n1,c1,rfl⟩:=hi1.form;obtain rfl:n1=(dig x.natAbs).length:=hi1.len;have hf1:=bn (bW.flag hi1);have dA:=(v0.drew.to hb1);obtain⟨o2,b3,u2,f3⟩:=dA.cf2;have bT:=(u0.drew.to hb1);obtain⟨x1,j2,d2,l2⟩:=bT.cf2))
   | (((have:=tk2);clear tk2;have iF:=((hu.below hA1).drew.below hb1);have h1:=iF;go_at_call 164;(with_reducible refine(fM _ (y) _ h1 a0J).mono ?_);rintro e w2 ⟨v2,rfl,hi2,hb2⟩;obtain⟨g2,p2,n2,c2,rfl⟩:=hi2.form;obtain rfl:n2=(dig y.natAbs).length:=hi2.len;have hf2:=bn (bW.flag hi2);obtain⟨hbd,hbd2⟩:=NJ hf1.out hf2.out HFL.out;have bM:=(bT.to hb2);obtain⟨a0,c0,b0,d0⟩:=bM.cf2;have bJ:=(dA.to hb2);obtain⟨e0,g0,f0,h0⟩:=bJ.cf2)))
 all_goals
  obtain⟨q2,x2⟩:=((bJ.aI (b:=w.heap.size) (by omega) (.bool g1) (.slice p1 (dig x.natAbs).length c1)).store2 (.bool g2) (.slice p2 (dig y.natAbs).length c2)).cs2
  obtain⟨y1,e2⟩:=((bM.store2 (.bool g1) (.slice p1 (dig x.natAbs).length c1)).aI (b:=w.heap.size+1) (by omega) (.bool g2) (.slice p2 (dig y.natAbs).length c2)).cs2
  go_wp2_with fail
  have w0:=(hi1.below hb2)
  have i1:=((w0.aG bM rfl rfl (.bool g1) (.slice p1 (dig x.natAbs).length c1)).aG (bJ.aI (b:=w.heap.size) (by omega) (.bool g1) (.slice p1 (dig x.natAbs).length c1)) rfl rfl (.bool g2) (.slice p2 (dig y.natAbs).length c2)).rd
  have j1:=((hi2.aG bM rfl rfl (.bool g1) (.slice p1 (dig x.natAbs).length c1)).aG (bJ.aI (b:=w.heap.size) (by omega) (.bool g1) (.slice p1 (dig x.natAbs).length c1)) rfl rfl (.bool g2) (.slice p2 (dig y.natAbs).length c2)).rd
  (with_reducible refine(sK _ _ _ _ _ i1 j1 (aY _) (aY _) hlx hyn).mono ?_)
  rintro e w3 ⟨s3,t3,rfl,hs3,ht3,hb3⟩
  obtain⟨p3,c3,rfl,SH,SI⟩:=hs3.form
  obtain⟨o3,d3,rfl,hlo3,XY⟩:=ht3.form
  have iY:=(((bM.store2 (.bool g1) (.slice p1 (dig x.natAbs).length c1)).aI (b:=w.heap.size+1) (by omega) (.bool g2) (.slice p2 (dig y.natAbs).length c2)).to hb3)
  obtain⟨z1,f2⟩:=iY.cs2
  have lI:=(((bJ.aI (b:=w.heap.size) (by omega) (.bool g1) (.slice p1 (dig x.natAbs).length c1)).store2 (.bool g2) (.slice p2 (dig y.natAbs).length c2)).to hb3)
  obtain⟨r2,y2⟩:=lI.cs2
  go_wp2_with fail
  have k1:=hs3
  (with_reducible refine(fV _ _ _ _ k1 (bH _) hlq.out).mono ?_)
  rw[HQ.out]
  rintro e w4 ⟨v4,rfl,hi4,hb4⟩
  obtain⟨g4,p4,n4,c4,rfl⟩:=hi4.form
  have kJ:=(iY.to hb4)
  obtain⟨a2,h2⟩:=kJ.cs2
  have jJ:=(lI.to hb4)
  obtain⟨s2,z2⟩:=jJ.cs2
  have q0:=(kJ).1
  have r0:=(jJ).1
  have kV:=((((((a1.drew.to hb1).to hb2).aI (b:=w.heap.size) (by omega) (.bool g1) (.slice p1 (dig x.natAbs).length c1)).aI (b:=w.heap.size+1) (by omega) (.bool g2) (.slice p2 (dig y.natAbs).length c2)).to hb3).to hb4)
  have s0:=(kV).1
  have vO:=((((((b1.drew.to hb1).to hb2).aI (b:=w.heap.size) (by omega) (.bool g1) (.slice p1 (dig x.natAbs).length c1)).aI (b:=w.heap.size+1) (by omega) (.bool g2) (.slice p2 (dig y.natAbs).length c2)).to hb3).to hb4)
  have t0:=(vO).1
  go_wp2_with fail
  obtain⟨hA2,d1⟩:=bx1 w4 rfl [.bool g4,.slice p4 n4 c4] 45
  have GZ:=(aK.mk (d1.drew).bs2 (aK.mk ((kJ.to hA2).drew).bs2 ((jJ.to hA2).drew).bs2))
  have x0:dB (w.heap.size+1+1) (aK (BS2 w4.heap.size (.bool g4) (.slice p4 n4 c4)) (aK (BS2 w.heap.size (.bool g1) (.slice p1 (dig x.natAbs).length c1)) (BS2 (w.heap.size+1) (.bool g2) (.slice p2 (dig y.natAbs).length c2)))):=(aK.hc (BS2.hc (by omega)) (aK.hc (BS2.hc (by omega)) (BS2.hc (by omega))))
  have y0:dB (w.heap.size+1+1+1) (aK (BS2 w4.heap.size (.bool g4) (.slice p4 n4 c4)) (aK (BS2 w.heap.size (.bool g1) (.slice p1 (dig x.natAbs).length c1)) (BS2 (w.heap.size+1) (.bool g2) (.slice p2 (dig y.natAbs).length c2)))):=(aK.hc (BS2.hc (by omega)) (aK.hc (BS2.hc (by omega)) (BS2.hc (by omega))))
  have tk3:True:=trivial
  have tk4:True:=trivial
  go_region_held3 (aK (BS2 w4.heap.size (.bool g4) (.slice p4 n4 c4)) (aK (BS2 w.heap.size (.bool g1) (.slice p1 (dig x.natAbs).length c1)) (BS2 (w.heap.size+1) (.bool g2) (.slice p2 (dig y.natAbs).length c2)))) (first|with_reducible exact GZ|with_reducible exact fG.go (aK.hk BS2.hk (aK.hk BS2.hk BS2.hk)) (by assumption) (by assumption)|with_reducible exact dB.go2 x0 (by assumption)|with_reducible exact dB.go2 y0 (by assumption)|(simp;done))
   (first
    | (((have:=tk3);clear tk3;have l1:=(hi4.below hA2).drew.raw;have s1:=((((hi2.aG bM rfl rfl (.bool g1) (.slice p1 (dig x.natAbs).length c1)).aG (bJ.aI (b:=w.heap.size) (by omega) (.bool g1) (.slice p1 (dig x.natAbs).length c1)) rfl rfl (.bool g2) (.slice p2 (dig y.natAbs).length c2)).below hb3).below hb4);have m1:=(s1.below hA2).drew.raw;go_at_call 161;(with_reducible refine(kN _ _ (Q) (y) _ l1 m1 hq2 a0J).mono ?_);rintro e w5 ⟨v5,rfl,hi5,hb5⟩;obtain⟨g5,p5,n5,c5,rfl⟩:=hi5.form))
    | (((have:=tk4);clear tk4;have r1:=((((((w0.aG bM rfl rfl (.bool g1) (.slice p1 (dig x.natAbs).length c1)).aG (bJ.aI (b:=w.heap.size) (by omega) (.bool g1) (.slice p1 (dig x.natAbs).length c1)) rfl rfl (.bool g2) (.slice p2 (dig y.natAbs).length c2)).below hb3).below hb4).below hA2).drew.below hb5);have o1:=r1.raw;have q1:=hi5.raw;go_at_call 214;(with_reducible refine(zI _ _ (x) ((Q)*(y)) _ o1 q1 hl0 hq3).mono ?_);rintro e w6 ⟨v6,rfl,hi6,hb6⟩;obtain⟨g6,p6,n6,c6,rfl⟩:=hi6.form;have qA:=(((kV.to hA2).drew.to hb5).to hb6);obtain⟨i0,k0,j0,l0⟩:=qA.cf2;have sU:=(((vO.to hA2).drew.to hb5).to hb6);obtain⟨m0,o0,n0,p0⟩:=sU.cf2)))
  have t1:=(((hi4.below hA2).drew.below hb5).below hb6)
  have z0:=(Below.tr (Below.tr (Below.tr (Below.tr (Below.tr (Below.aG (Below.aG (Below.tr (Below.tr (Below.tr aZ hA1).drew hb1) hb2) (b:=w.heap.size) (by omega) (.bool g1) (.slice p1 (dig x.natAbs).length c1)) (b:=w.heap.size+1) (by omega) (.bool g2) (.slice p2 (dig y.natAbs).length c2)) hb3) hb4) hA2).drew hb5) hb6)
  go_wp2_with fail
  exact iw (v:=.tuple #[.agg #[.bool g4,.slice p4 n4 c4],.agg #[.bool g6,.slice p6 n6 c6],.int .i64 0]) (by simp[results,Tryz.results200,go_sem,a0,c0,b0,d0,e0,g0,f0,h0,q0,r0,s0,t0,i0,k0,j0,l0,m0,o0,n0,p0]) rfl ⟨_,_,rfl,dG ((t1.aG qA rfl rfl (.bool g4) (.slice p4 n4 c4)).aG (sU.aI (b:=w.heap.size+1+1) (by omega) (.bool g4) (.slice p4 n4 c4)) rfl rfl (.bool g6) (.slice p6 n6 c6)) HX.out.1,dG ((hi6.aG qA rfl rfl (.bool g4) (.slice p4 n4 c4)).aG (sU.aI (b:=w.heap.size+1+1) (by omega) (.bool g4) (.slice p4 n4 c4)) rfl rfl (.bool g6) (.slice p6 n6 c6)) HX.out.2,(Below.aG (Below.aG z0 (b:=w.heap.size+1+1) (by omega) (.bool g4) (.slice p4 n4 c4)) (b:=w.heap.size+1+1+1) (by omega) (.bool g6) (.slice p6 n6 c6))⟩
theorem YW (v u:Value) (x y:Int) (w:World) (hv:Raw w v x) (hu:Raw w u y) (hl:isz x<=400000000) (hl2:isz y<=400000000) (hy:y≠0) (hr:x.natAbs%y.natAbs≠0) (hfl:(decide (x<0) != decide (y<0))=true) :
  Calls Tryz.prog 200 #[v,u] w (RV (x.fdiv y) (x.fmod y) w):=by
 obtain⟨b,p,n,c,rfl⟩:=hv.form
 obtain⟨d,o,m,e,rfl⟩:=hu.form
 have hfi:=fZ
 have hx1:=uH x
 have hy1:=uH y
 have hyp:0<y.natAbs:=by omega
 obtain⟨Q,hQ⟩:∃ Q,sg true (val (dig (val (dig x.natAbs) / val (dig y.natAbs))))=Q:=⟨_,rfl⟩
 have HQ:=bn hQ
 simp only[aH] at hQ
 have hqf:(Q-1)=x.fdiv y:=by
  have e1:=TQ (decide (x<0)) (decide (y<0)) _ _ hyp hfl hr
  skip
  skip
  rw[hx1,hy1] at e1
  rw[e1.1,<-hQ]
  simp[sg];omega
 have HX:=bn (XP x y hqf)
 have hq0:isz Q<=400000000:=by rw[<-hQ];exact OV hl _ _ rfl
 have hone:isz 1<=1000000000:=iq (qI (k:=1) (by rw[bI];decide)) (by omega)
 have hq1:isz Q<=1000000000:=by omega
 have hq4:isz (Q-1)<=400000002:=by have h1:=YF Q 1;have h2:isz 1<=1:=qI (k:=1) (by rw[bI];decide);omega
 have hq2:isz (Q-1)<=1000000000:=by omega
 have hq3:isz ((Q-1)*y)<=1000000000:=by have:=dK (Q-1) y;omega
 have hl0:isz x<=1000000000:=by omega
 have a0J:isz y<=1000000000:=by omega
 have hlx:(dig x.natAbs).length<=1000000000:=hl0
 have hyn:=oL hy
 have hy0:0<(dig y.natAbs).length:=oq.2 hyn
 have hyz:(((dig y.natAbs).length:Int)==0)=false:=by simp;omega
 have hlq:Hid ((dig (val (dig x.natAbs) / val (dig y.natAbs))).length<=2000000001):=by unfold Hid;simp only[aH];exact iq (aJ (Ad _ _)) (by omega)
 have hr0:0<(dig (val (dig x.natAbs)%val (dig y.natAbs))).length:=by simp only[aH];exact oq.2 (fun e=>hr (iO.1 e))
 skip
 skip
 skip
 skip
 have HFL:=bn hfl
 clear hQ hqf hx1 hy1 hyp hy hfl hr
 have aZ:Below w.heap.size w w:=bg _ _
 go_enter Tryz.func200,Tryz.ntmps200
 go_wp2_with fail
 obtain⟨hA1,z0,a1,x1,y1⟩:=bx4 w rfl [.bool b,.slice p n c] 45 [.bool d,.slice o m e] 45 [.bool false,.slice none 0 0] 45 [.bool false,.slice none 0 0] 45
 obtain⟨t2,h3,a3,j3⟩:=z0.drew.cf2
 obtain⟨l3,a4,u3,d4⟩:=a1.drew.cf2
 have tk1:True:=trivial
 have tk2:True:=trivial
 go_region_with
  (first
   | (((have:=tk1);clear tk1;have z1:=(hv.below hA1).drew;go_at_call 164;(with_reducible refine(fM _ (x) _ z1 hl0).mono ?_);rintro e w1 ⟨v1,rfl,hi1,hb1⟩;obtain⟨g1,p1,n1,c1,rfl⟩:=hi1.form;obtain rfl:n1=(dig x.natAbs).length:=hi1.len;have hf1:=bn (bW.flag hi1);have dA:=(a1.drew.to hb1);obtain⟨m3,b4,v3,e4⟩:=dA.cf2;have bT:=(z0.drew.to hb1);obtain⟨u2,i3,b3,k3⟩:=bT.cf2))
   | (((have:=tk2);clear tk2;have iF:=((hu.below hA1).drew.below hb1);have a2:=iF;go_at_call 164;(with_reducible refine(fM _ (y) _ a2 a0J).mono ?_);rintro e w2 ⟨v2,rfl,hi2,hb2⟩;obtain⟨g2,p2,n2,c2,rfl⟩:=hi2.form;obtain rfl:n2=(dig y.natAbs).length:=hi2.len;have hf2:=bn (bW.flag hi2);obtain⟨hbd,hbd2⟩:=NJ hf1.out hf2.out HFL.out;have bM:=(bT.to hb2);obtain⟨f0,h0,g0,i0⟩:=bM.cf2;have bJ:=(dA.to hb2);obtain⟨j0,l0,k0,m0⟩:=bJ.cf2)))
 all_goals
  obtain⟨n3,x3⟩:=((bJ.aI (b:=w.heap.size) (by omega) (.bool g1) (.slice p1 (dig x.natAbs).length c1)).store2 (.bool g2) (.slice p2 (dig y.natAbs).length c2)).cs2
  obtain⟨x2,e3⟩:=((bM.store2 (.bool g1) (.slice p1 (dig x.natAbs).length c1)).aI (b:=w.heap.size+1) (by omega) (.bool g2) (.slice p2 (dig y.natAbs).length c2)).cs2
  go_wp2_with fail
  have d1:=(hi1.below hb2)
  have b2:=((d1.aG bM rfl rfl (.bool g1) (.slice p1 (dig x.natAbs).length c1)).aG (bJ.aI (b:=w.heap.size) (by omega) (.bool g1) (.slice p1 (dig x.natAbs).length c1)) rfl rfl (.bool g2) (.slice p2 (dig y.natAbs).length c2)).rd
  have d2:=((hi2.aG bM rfl rfl (.bool g1) (.slice p1 (dig x.natAbs).length c1)).aG (bJ.aI (b:=w.heap.size) (by omega) (.bool g1) (.slice p1 (dig x.natAbs).length c1)) rfl rfl (.bool g2) (.slice p2 (dig y.natAbs).length c2)).rd
  (with_reducible refine(sK _ _ _ _ _ b2 d2 (aY _) (aY _) hlx hyn).mono ?_)
  rintro e w3 ⟨s3,t3,rfl,hs3,ht3,hb3⟩
  obtain⟨p3,c3,rfl,SH,SI⟩:=hs3.form
  obtain⟨o3,d3,rfl,hlo3,XY⟩:=ht3.form
  have iY:=(((bM.store2 (.bool g1) (.slice p1 (dig x.natAbs).length c1)).aI (b:=w.heap.size+1) (by omega) (.bool g2) (.slice p2 (dig y.natAbs).length c2)).to hb3)
  obtain⟨y2,f3⟩:=iY.cs2
  have lI:=(((bJ.aI (b:=w.heap.size) (by omega) (.bool g1) (.slice p1 (dig x.natAbs).length c1)).store2 (.bool g2) (.slice p2 (dig y.natAbs).length c2)).to hb3)
  obtain⟨q3,y3⟩:=lI.cs2
  go_wp2_with fail
  have e2:=hs3
  (with_reducible refine(fV _ _ _ _ e2 (bH _) hlq.out).mono ?_)
  rw[HQ.out]
  rintro e w4 ⟨v4,rfl,hi4,hb4⟩
  obtain⟨g4,p4,n4,c4,rfl⟩:=hi4.form
  have kJ:=(iY.to hb4)
  obtain⟨z2,g3⟩:=kJ.cs2
  have jJ:=(lI.to hb4)
  obtain⟨r3,z3⟩:=jJ.cs2
  have v0:=(kJ).1
  have w0:=(jJ).1
  have kV:=((((((x1.drew.to hb1).to hb2).aI (b:=w.heap.size) (by omega) (.bool g1) (.slice p1 (dig x.natAbs).length c1)).aI (b:=w.heap.size+1) (by omega) (.bool g2) (.slice p2 (dig y.natAbs).length c2)).to hb3).to hb4)
  have x0:=(kV).1
  have vO:=((((((y1.drew.to hb1).to hb2).aI (b:=w.heap.size) (by omega) (.bool g1) (.slice p1 (dig x.natAbs).length c1)).aI (b:=w.heap.size+1) (by omega) (.bool g2) (.slice p2 (dig y.natAbs).length c2)).to hb3).to hb4)
  have y0:=(vO).1
  go_wp2_with fail
  obtain⟨hA2,b1⟩:=bx1 w4 rfl [.bool g4,.slice p4 n4 c4] 45
  obtain⟨l1,r1,o1,t1⟩:=b1.drew.cf2
  have tk3:True:=trivial
  have tk4:True:=trivial
  go_region_with
   (first
    | (((have:=tk3);clear tk3;go_at_call 33;(with_reducible refine(a4v _ _ (by omega) (by omega)).mono ?_);rintro e w5 ⟨v5,rfl,hi5,hb5⟩;obtain⟨g5,p5,n5,c5,rfl⟩:=hi5.form;have f1:=(b1.drew.to hb5);obtain⟨m1,s1,q1,u1⟩:=f1.cf2))
    | (((have:=tk4);clear tk4;have r2:=((hi4.below hA2).drew.below hb5);have f2:=r2.raw;have i2:=hi5.raw;go_at_call 214;(with_reducible refine(zI _ _ (Q) (1) _ f2 i2 hq1 hone).mono ?_);rintro e w6 ⟨v6,rfl,hi6,hb6⟩;obtain⟨g6,p6,n6,c6,rfl⟩:=hi6.form;have a0:=(f1.to hb6);obtain⟨b0,d0,c0,e0⟩:=a0.cf2)))
  all_goals
   go_wp2_with fail
   have a9m:=(((kJ.to hA2).drew.to hb5).to hb6)
   have a2y:=(((jJ.to hA2).drew.to hb5).to hb6)
   have GZ:=(aK.mk ((a0.store2 (.bool g6) (.slice p6 n6 c6)).drew).bs2 (aK.mk ((a9m.aI (b:=w4.heap.size) (by omega) (.bool g6) (.slice p6 n6 c6)).drew).bs2 ((a2y.aI (b:=w4.heap.size) (by omega) (.bool g6) (.slice p6 n6 c6)).drew).bs2))
   have i1:dB (w.heap.size+1+1) (aK (BS2 w4.heap.size (.bool g6) (.slice p6 n6 c6)) (aK (BS2 w.heap.size (.bool g1) (.slice p1 (dig x.natAbs).length c1)) (BS2 (w.heap.size+1) (.bool g2) (.slice p2 (dig y.natAbs).length c2)))):=(aK.hc (BS2.hc (by omega)) (aK.hc (BS2.hc (by omega)) (BS2.hc (by omega))))
   have j1:dB (w.heap.size+1+1+1) (aK (BS2 w4.heap.size (.bool g6) (.slice p6 n6 c6)) (aK (BS2 w.heap.size (.bool g1) (.slice p1 (dig x.natAbs).length c1)) (BS2 (w.heap.size+1) (.bool g2) (.slice p2 (dig y.natAbs).length c2)))):=(aK.hc (BS2.hc (by omega)) (aK.hc (BS2.hc (by omega)) (BS2.hc (by omega))))
   have tk5:True:=trivial
   have tk6:True:=trivial
   go_region_held3 (aK (BS2 w4.heap.size (.bool g6) (.slice p6 n6 c6)) (aK (BS2 w.heap.size (.bool g1) (.slice p1 (dig x.natAbs).length c1)) (BS2 (w.heap.size+1) (.bool g2) (.slice p2 (dig y.natAbs).length c2)))) (first|with_reducible exact GZ|with_reducible exact fG.go (aK.hk BS2.hk (aK.hk BS2.hk BS2.hk)) (by assumption) (by assumption)|with_reducible exact dB.go2 i1 (by assumption)|with_reducible exact dB.go2 j1 (by assumption)|(simp;done))
    (first
     | (((have:=tk5);clear tk5;have j2:=(hi6.aG a0 rfl rfl (.bool g6) (.slice p6 n6 c6)).drew.raw;have q2:=(((((((hi2.aG bM rfl rfl (.bool g1) (.slice p1 (dig x.natAbs).length c1)).aG (bJ.aI (b:=w.heap.size) (by omega) (.bool g1) (.slice p1 (dig x.natAbs).length c1)) rfl rfl (.bool g2) (.slice p2 (dig y.natAbs).length c2)).below hb3).below hb4).below hA2).drew.below hb5).below hb6);have k2:=(q2.aG a0 rfl rfl (.bool g6) (.slice p6 n6 c6)).drew.raw;go_at_call 161;(with_reducible refine(kN _ _ ((Q)-(1)) (y) _ j2 k2 hq2 a0J).mono ?_);rintro e w7 ⟨v7,rfl,hi7,hb7⟩;obtain⟨g7,p7,n7,c7,rfl⟩:=hi7.form))
     | (((have:=tk6);clear tk6;have o2:=(((((((((d1.aG bM rfl rfl (.bool g1) (.slice p1 (dig x.natAbs).length c1)).aG (bJ.aI (b:=w.heap.size) (by omega) (.bool g1) (.slice p1 (dig x.natAbs).length c1)) rfl rfl (.bool g2) (.slice p2 (dig y.natAbs).length c2)).below hb3).below hb4).below hA2).drew.below hb5).below hb6).aG a0 rfl rfl (.bool g6) (.slice p6 n6 c6)).drew.below hb7);have l2:=o2.raw;have m2:=hi7.raw;go_at_call 214;(with_reducible refine(zI _ _ (x) (((Q)-(1))*(y)) _ l2 m2 hl0 hq3).mono ?_);rintro e w8 ⟨v8,rfl,hi8,hb8⟩;obtain⟨g8,p8,n8,c8,rfl⟩:=hi8.form;have a2z:=((((((kV.to hA2).drew.to hb5).to hb6).aI (b:=w4.heap.size) (by omega) (.bool g6) (.slice p6 n6 c6)).drew.to hb7).to hb8);obtain⟨n0,p0,o0,q0⟩:=a2z.cf2;have a2A:=((((((vO.to hA2).drew.to hb5).to hb6).aI (b:=w4.heap.size) (by omega) (.bool g6) (.slice p6 n6 c6)).drew.to hb7).to hb8);obtain⟨r0,t0,s0,u0⟩:=a2A.cf2)))
   have s2:=(((hi6.aG a0 rfl rfl (.bool g6) (.slice p6 n6 c6)).drew.below hb7).below hb8)
   have k1:=(Below.tr (Below.tr (Below.aG (Below.tr (Below.tr (Below.tr (Below.tr (Below.tr (Below.aG (Below.aG (Below.tr (Below.tr (Below.tr aZ hA1).drew hb1) hb2) (b:=w.heap.size) (by omega) (.bool g1) (.slice p1 (dig x.natAbs).length c1)) (b:=w.heap.size+1) (by omega) (.bool g2) (.slice p2 (dig y.natAbs).length c2)) hb3) hb4) hA2).drew hb5) hb6) (b:=w4.heap.size) (by omega) (.bool g6) (.slice p6 n6 c6)).drew hb7) hb8)
   go_wp2_with fail
   exact iw (v:=.tuple #[.agg #[.bool g6,.slice p6 n6 c6],.agg #[.bool g8,.slice p8 n8 c8],.int .i64 0]) (by simp[results,Tryz.results200,go_sem,f0,h0,g0,i0,j0,l0,k0,m0,v0,w0,x0,y0,b0,d0,c0,e0,n0,p0,o0,q0,r0,t0,s0,u0]) rfl ⟨_,_,rfl,dG ((s2.aG a2z rfl rfl (.bool g6) (.slice p6 n6 c6)).aG (a2A.aI (b:=w.heap.size+1+1) (by omega) (.bool g6) (.slice p6 n6 c6)) rfl rfl (.bool g8) (.slice p8 n8 c8)) HX.out.1,dG ((hi8.aG a2z rfl rfl (.bool g6) (.slice p6 n6 c6)).aG (a2A.aI (b:=w.heap.size+1+1) (by omega) (.bool g6) (.slice p6 n6 c6)) rfl rfl (.bool g8) (.slice p8 n8 c8)) HX.out.2,(Below.aG (Below.aG k1 (b:=w.heap.size+1+1) (by omega) (.bool g6) (.slice p6 n6 c6)) (b:=w.heap.size+1+1+1) (by omega) (.bool g8) (.slice p8 n8 c8))⟩
theorem uG (v u:Value) (x y:Int) (w:World) (hv:Raw w v x) (hu:Raw w u y) (hl:isz x<=400000000) (hl2:isz y<=400000000) (hy:y≠0) :
  Calls Tryz.prog 200 #[v,u] w (RV (x.fdiv y) (x.fmod y) w):=by
 cases hfl:(decide (x<0) != decide (y<0))
 ·exact YX v u x y w hv hu hl hl2 hy hfl
 ·by_cases hr:x.natAbs%y.natAbs=0
  ·exact SS v u x y w hv hu hl hl2 hy hr hfl
  ·exact YW v u x y w hv hu hl hl2 hy hr hfl
set_option maxHeartbeats 4000000
theorem b7Y (w:World) (r q:Nat):Rd (w.alloc (.cells #[.int .u32 (r:Nat),.int .u32 (q:Nat)] 148)) (.slice (some ⟨w.heap.size,0,none⟩) 2 2) [r,q] :=
 Rd.bU (l:=[r,q]) (World.ownsRow_lit (size:=1) w #[.int .u32 (r:Nat),.int .u32 (q:Nat)] 2 (ak _) (by simp[maxLen]) (by simp))
theorem QM (v u:Value) (x y:Int) (w:World) (hv:Raw w v x) (hu:Raw w u y) (hl:isz x<=1000000000) (hl2:isz y<=1000000000) :
  Calls Tryz.prog 131 #[v,u] w (lU ((Int.gcd x y:Nat):Int) w):=by
 obtain⟨b,p,n,c,rfl⟩:=hv.form
 obtain⟨d,o,m,e,rfl⟩:=hu.form
 have hlx:(dig x.natAbs).length<=1000000000:=hl
 have hly:(dig y.natAbs).length<=1000000000:=hl2
 have hfi:=fZ
 have k0:=fZ
 have aZ:Below w.heap.size w w:=bg _ _
 go_enter Tryz.func131,Tryz.ntmps131
 go_wp2_with fail
 obtain⟨hA1,l0,m0,n0⟩:=bx3 w rfl [.bool b,.slice p n c] 45 [.bool d,.slice o m e] 45 [.bool false,.slice none 0 0] 45
 have vZ:=(aK.mk (l0.drew).bs2 (m0.drew).bs2)
 have tk1:True:=trivial
 have tk2:True:=trivial
 go_region_held3 (aK (BS2 w.heap.size (.bool b) (.slice p n c)) (BS2 (w.heap.size+1) (.bool d) (.slice o m e))) (first|with_reducible exact vZ|with_reducible exact fG.go (aK.hk BS2.hk BS2.hk) (by assumption) (by assumption)|(simp;done))
  (first
   | (((have:=tk1);clear tk1;have a0:=(hv.below hA1).drew;go_at_call 164;(with_reducible refine(fM _ (x) _ a0 (by omega)).mono ?_);rintro e w1 ⟨v1,rfl,hi1,hb1⟩;obtain⟨g1,p1,n1,c1,rfl⟩:=hi1.form;obtain rfl:n1=(dig x.natAbs).length:=hi1.len))
   | (((have:=tk2);clear tk2;have iF:=((hu.below hA1).drew.below hb1);have d0:=iF;go_at_call 164;(with_reducible refine(fM _ (y) _ d0 (by omega)).mono ?_);rintro e w2 ⟨v2,rfl,hi2,hb2⟩;obtain⟨g2,p2,n2,c2,rfl⟩:=hi2.form;obtain rfl:n2=(dig y.natAbs).length:=hi2.len)))
 have o0:=(hi1.below hb2)
 have jU:=((n0.drew.to hb1).to hb2)
 have j0:=(Below.tr (Below.tr (Below.tr aZ hA1).drew hb1) hb2)
 go_wp2_with fail
 clear hl hl2
 go_loopg [5,6,7,8,17,18,19,20,21,22,23,24,25,26,27,28,29,30,31,32,33,34,35,36,37] (val (dig y.natAbs)) (fun k a b _ _ _ _ _ _ _ _ _ _ _ _ _ _ _ _ _ _ _ _ _ _ _ wr=>∃ (l1 l2:List Nat) (pa pb:Option Addr) (ca cb:Nat),a=.slice pa l1.length ca/\b=.slice pb l2.length cb/\Rd wr (.slice pa l1.length ca) l1/\Rd wr (.slice pb l2.length cb) l2/\Canon l1/\Canon l2/\l1.length<=1000000000/\l2.length<=1000000000/\Hid (Nat.gcd (val l1) (val l2)=Int.gcd x y)/\Hid (k=val l2)/\Bx wr (w.heap.size+1+1) [.bool false,.slice none 0 0]/\Below w.heap.size w wr)
 case atStart=>exact⟨_,_,_,_,_,_,rfl,rfl,o0.rd,hi2.rd,aY _,aY _,hlx,hly,TT x y,rfl,jU,j0⟩
 case round =>
  obtain⟨l1,l2,pa,pb,ca,cb,rfl,rfl,ha,hb,ca1,cb1,la,lb,hg,hk,hq,hB⟩:=hrel
  have hzB:=hB.size
  have cl1:Low l1:=ca1.1
  have cl2:Low l2:=cb1.1
  by_cases hne:l2=[]
  ·subst hne
   have HX:Hid (sg false (val l1)=((Int.gcd x y:Nat):Int)):=gcd_zero hg.out
   go_wp2_with fail
   have b0:=ha
   (with_reducible refine(fV _ _ _ _ b0 cl1 (by omega)).mono ?_)
   rintro e w1 ⟨v1,rfl,hi1,hb1⟩
   obtain⟨g1,p1,n1,c1,rfl⟩:=hi1.form
   have a6e:=(hq.to hb1)
   obtain⟨e0,h0,g0,i0⟩:=a6e.cf2
   have oM:=(Below.tr hB hb1)
   go_wp2_with fail
   exact iw (v:=.agg #[.bool g1,.slice p1 n1 c1]) (by simp[results,Tryz.results131,go_sem,e0,h0,g0,i0]) rfl ⟨_,rfl,dG (hi1.aG a6e rfl rfl (.bool g1) (.slice p1 n1 c1)) HX.out,(Below.aG oM (b:=w.heap.size+1+1) (by omega) (.bool g1) (.slice p1 n1 c1))⟩
  ·have hl0:0<l2.length:=oq.2 hne
   have hlz:((l2.length:Int)==0)=false:=by simp;omega
   have HLE:Hid ((dig (val l1%val l2)).length<=1000000000):=by
    unfold Hid
    have:=aJ (Dy (wu (val l1) (cb1.pos hne)))
    rw[dN cb1] at this
    omega
   by_cases h1:2<l1.length
   ·skip
    go_wp2_with fail
    have a0:=ha
    have b0:=hb
    (with_reducible refine(sK _ _ _ _ _ a0 b0 ca1 cb1 la hne).mono ?_)
    rintro e w1 ⟨s1,t1,rfl,hs1,ht1,hb1⟩
    obtain⟨p1,c1,rfl,SG,XZ⟩:=hs1.form
    obtain⟨o1,d1,rfl,hlo1,c0Q⟩:=ht1.form
    have ER:=(hb.below hb1)
    have a6e:=(hq.to hb1)
    have oM:=(Below.tr hB hb1)
    go_wp2_with fail
    go_roundg (val (dig (val l1%val l2)))
    case measure=>rw[hk.out,aH];exact wu _ (cb1.pos hne)
    case rel=>exact⟨_,_,_,_,_,_,rfl,rfl,ER,ht1,cb1,aY _,lb,HLE.out,by unfold Hid;rw[aH];exact rV hg.out,rfl,a6e,oM⟩
   ·by_cases h2:2<l2.length
    ·skip
     go_wp2_with fail
     have a0:=ha
     have b0:=hb
     (with_reducible refine(sK _ _ _ _ _ a0 b0 ca1 cb1 la hne).mono ?_)
     rintro e w1 ⟨s1,t1,rfl,hs1,ht1,hb1⟩
     obtain⟨p1,c1,rfl,SG,XZ⟩:=hs1.form
     obtain⟨o1,d1,rfl,hlo1,c0Q⟩:=ht1.form
     have ER:=(hb.below hb1)
     have a6e:=(hq.to hb1)
     have oM:=(Below.tr hB hb1)
     go_wp2_with fail
     go_roundg (val (dig (val l1%val l2)))
     case measure=>rw[hk.out,aH];exact wu _ (cb1.pos hne)
     case rel=>exact⟨_,_,_,_,_,_,rfl,rfl,ER,ht1,cb1,aY _,lb,HLE.out,by unfold Hid;rw[aH];exact rV hg.out,rfl,a6e,oM⟩
    ·skip
     go_wp2_with fail
     have a0:=ha
     (with_reducible refine(VF _ _ _ a0 cl1 (by omega)).mono ?_)
     rintro e w' ⟨rfl,rfl⟩
     go_wp2_with fail
     have d0:=hb
     (with_reducible refine(VF _ _ _ d0 cl2 (by omega)).mono ?_)
     rintro e w' ⟨rfl,rfl⟩
     go_wp2_with fail
     have hM:=zZ ca1 (by omega)
     have hK:=zZ cb1 (by omega)
     clear ha hb
     go_loopw [9,10,47,48,49,50,51,52] (fun m n _ _ _ _ _ _ wr=>∃ M K:Nat,m=.int .u64 (M:Nat)/\n=.int .u64 (K:Nat)/\M<=999999999999999999/\K<=999999999999999999/\Hid (Nat.gcd M K=Int.gcd x y)/\Bx wr (w.heap.size+1+1) [.bool false,.slice none 0 0]/\Below w.heap.size w wr) (fun _ n _ _ _ _ _ _ _=>(intOf n).toNat)
     case atStart=>exact⟨_,_,rfl,rfl,hM,hK,hg,hq,hB⟩
     case round =>
      obtain⟨M,K,rfl,rfl,hM,hK,hg2,hq2,hB2⟩:=hrel
      by_cases hk0:0<K
      ·obtain⟨R,hR⟩:∃ R,M%K=R:=⟨_,rfl⟩
       have b3U:R<K:=by rw[<-hR];exact wu _ hk0
       have i2:(M:Int)%K=R:=by rw[<-hR];simp
       have i3:(M:Int).tmod K=R:=by rw[Bg (by omega)];exact i2
       have w2':IntKind.u64.wrap (R:Int)=R:=wrap_u64 (by omega)
       have hdz:((K:Int)==0)=false:=by simp;omega
       have hdn:¬ K=0:=by omega
       have HG:Hid (Nat.gcd K R=Int.gcd x y):=by unfold Hid;rw[<-hR];exact rV hg2.out
       have a7U:=fun w=>FP (n:=M) (d:=K) (v:=R) (by omega) hM i2 w2' w
       clear hR
       go_wp2_with fail
       go_quiet (fail)
       go_wp2_with fail
       go_roundw
       case rel=>exact⟨K,R,rfl,rfl,hK,by omega,HG,hq2.drewN _,Below.oD hB2 _⟩
       case measure=>simp[intOf];omega
      ·obtain rfl:K=0:=by omega
       obtain⟨r,hr⟩:∃ r,M%1000000000=r:=⟨_,rfl⟩
       obtain⟨q,hq'⟩:∃ q,M / 1000000000=q:=⟨_,rfl⟩
       have HX:Hid (sg false (val [r,q])=((Int.gcd x y:Nat):Int)):=by
        have:=hg2.out
        unfold Hid
        rw[<-this,Nat.gcd_zero_right]
        have e:val [r,q]=M:=by simp[bP,val,bI];omega
        rw[e];rfl
       have i1:(M:Int)%1000000000=r:=by omega
       have i2:(M:Int) / 1000000000=q:=by omega
       have hr9:r<=999999999:=by omega
       have hq9:q<=999999999:=by omega
       have hlow:Low [r,q]:=Low.cons.2 ⟨by rw[bI];omega,Low.cons.2 ⟨by rw[bI];omega,Low.nil⟩⟩
       have hR:=b7Y wr r q
       have c0Y:=hB2.size
       clear hr hq'
       go_wp2_with fail
       refine(fV false _ _ _ hR hlow (by simp)).mono ?_
       rw[HX.out]
       rintro e2 w7 ⟨v2,rfl,hi2,hb7⟩
       obtain⟨g2,p2,n2,c2,rfl⟩:=hi2.form
       have q7:=(hq2.alloc (.cells #[.int .u32 (r:Nat),.int .u32 (q:Nat)] 148)).to hb7
       have r0:=q7.c0
       have r1:=q7.c1
       have f0:=q7.f0
       have f1:=q7.f1
       have hB7:=Below.tr (Below.al hB2 (.cells #[.int .u32 (r:Nat),.int .u32 (q:Nat)] 148)) hb7
       go_wp2_with fail
       exact iw (v:=.agg #[.bool g2,.slice p2 n2 c2]) (by simp[results,Tryz.results131,go_sem,r0,r1]) rfl ⟨_,rfl,bW.aG hi2 q7 rfl rfl _ _,Below.aG hB7 (by omega) _ _⟩
end Go.Proofs.YtbkocjmmbkifjaaGreat
