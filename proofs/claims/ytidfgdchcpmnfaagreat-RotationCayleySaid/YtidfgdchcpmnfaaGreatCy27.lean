/-
  Lemmas for the theorem vcayley_holds, part 27 of 33.
-/
import Derived.Test.YtidfgdchcpmnfaaGreatCy06
import Derived.Test.YtidfgdchcpmnfaaGreatCy10
import Derived.Test.YtidfgdchcpmnfaaGreatCy25
import Derived.Test.YtidfgdchcpmnfaaGreatCy26
namespace Go.Proofs.YtidfgdchcpmnfaaGreat
open Go.RowKit
set_option maxRecDepth 100000
set_option maxHeartbeats 8000000
set_option linter.unusedSimpArgs false
set_option linter.unusedVariables false
theorem XK (v u:Value) (x y:Int) (w:World) (hv:Raw w v x) (hu:Raw w u y) (hl:isz x≤400000000) (hl2:isz y≤400000000) (hy:y ≠ 0) (hr:x.natAbs % y.natAbs ≠ 0) (hfl:(decide (x < 0) != decide (y < 0))=true) :
  Calls Tryz.prog 113 #[v,u] w (LV (x.fdiv y) (x.fmod y) w):=by
 obtain ⟨b,p,n,c,rfl⟩:=hv.form
 obtain ⟨d,o,m,e,rfl⟩:=hu.form
 have hfi:=gX
 have hx1:=qU x
 have hy1:=qU y
 have hyp:0 < y.natAbs:=by omega
 obtain ⟨Q,hQ⟩:∃ Q,sg true (val (dig (val (dig x.natAbs) / val (dig y.natAbs))))=Q:=⟨_,rfl⟩
 have HQ:=Lib.hid hQ
 simp only [aI] at hQ
 have hqf:(Q - 1)=x.fdiv y:=by
  have e1:=TB (decide (x < 0)) (decide (y < 0)) _ _ hyp hfl hr
  skip
  skip
  rw [hx1,hy1] at e1
  rw [e1.1,← hQ]
  simp [sg];omega
 have HX:=Lib.hid (WI x y hqf)
 have hq0:isz Q≤400000000:=by rw [← hQ];exact OH hl _ _ rfl
 have hone:isz 1≤1000000000:=Nat.le_trans (uM (k:=1) (by rw [bG];decide)) (by omega)
 have hq1:isz Q≤1000000000:=by omega
 have hq4:isz (Q - 1)≤400000002:=by have h1:=a3O Q 1;have h2:isz 1≤1:=uM (k:=1) (by rw [bG];decide);omega
 have hq2:isz (Q - 1)≤1000000000:=by omega
 have hq3:isz ((Q - 1) * y)≤1000000000:=by have:=dW (Q - 1) y;omega
 have hl0:isz x≤1000000000:=by omega
 have ZV:isz y≤1000000000:=by omega
 have hlx:(dig x.natAbs).length≤1000000000:=hl0
 have hyn:=oL hy
 have hy0:0 < (dig y.natAbs).length:=List.length_pos_iff.2 hyn
 have hyz:(((dig y.natAbs).length:Int) == 0)=false:=by simp;omega
 have hlq:Hid ((dig (val (dig x.natAbs) / val (dig y.natAbs))).length≤2000000001):=by unfold Hid;simp only [aI];exact Nat.le_trans (aO (Nat.div_le_self _ _)) (by omega)
 have hr0:0 < (dig (val (dig x.natAbs) % val (dig y.natAbs))).length:=by simp only [aI];exact List.length_pos_iff.2 (fun e=>hr (iU.1 e))
 skip
 skip
 skip
 skip
 have HFL:=Lib.hid hfl
 clear hQ hqf hx1 hy1 hyp hy hfl hr
 have aX:Below w.heap.size w w:=Below.refl _ _
 go_enter Tryz.func113,Tryz.ntmps113
 go_wp2_with fail
 obtain ⟨hA1,z0,a1,x1,y1⟩:=bx4 w rfl [.bool b,.slice p n c] 28 [.bool d,.slice o m e] 28 [.bool false,.slice none 0 0] 28 [.bool false,.slice none 0 0] 28
 obtain ⟨t2,h3,a3,j3⟩:=z0.drew.cf2
 obtain ⟨l3,a4,u3,d4⟩:=a1.drew.cf2
 have tk1:True:=trivial
 have tk2:True:=trivial
 go_region_with
  (first
   | (((have:=tk1);clear tk1;have z1:=(hv.below hA1).drew;go_at_call 120;(with_reducible refine (eX _ (x) _ z1 hl0).mono ?_);rintro e w1 ⟨v1,rfl,hi1,hb1⟩;obtain ⟨g1,p1,n1,c1,rfl⟩:=hi1.form;obtain rfl:n1=(dig x.natAbs).length:=hi1.len;have hf1:=Lib.hid (bU.flag hi1);have dD:=(a1.drew.to hb1);obtain ⟨m3,b4,v3,e4⟩:=dD.cf2;have bF:=(z0.drew.to hb1);obtain ⟨u2,i3,b3,k3⟩:=bF.cf2))
   | (((have:=tk2);clear tk2;have iM:=((hu.below hA1).drew.below hb1);have a2:=iM;go_at_call 120;(with_reducible refine (eX _ (y) _ a2 ZV).mono ?_);rintro e w2 ⟨v2,rfl,hi2,hb2⟩;obtain ⟨g2,p2,n2,c2,rfl⟩:=hi2.form;obtain rfl:n2=(dig y.natAbs).length:=hi2.len;have hf2:=Lib.hid (bU.flag hi2);obtain ⟨hbd,hbd2⟩:=MI hf1.out hf2.out HFL.out;have bV:=(bF.to hb2);obtain ⟨f0,h0,g0,i0⟩:=bV.cf2;have bJ:=(dD.to hb2);obtain ⟨j0,l0,k0,m0⟩:=bJ.cf2)))
 all_goals
  obtain ⟨n3,x3⟩:=((bJ.aH (b:=w.heap.size) (by omega) (.bool g1) (.slice p1 (dig x.natAbs).length c1)).store2 (.bool g2) (.slice p2 (dig y.natAbs).length c2)).cs2
  obtain ⟨x2,e3⟩:=((bV.store2 (.bool g1) (.slice p1 (dig x.natAbs).length c1)).aH (b:=w.heap.size+1) (by omega) (.bool g2) (.slice p2 (dig y.natAbs).length c2)).cs2
  go_wp2_with fail
  have d1:=(hi1.below hb2)
  have b2:=((d1.aC bV rfl rfl (.bool g1) (.slice p1 (dig x.natAbs).length c1)).aC (bJ.aH (b:=w.heap.size) (by omega) (.bool g1) (.slice p1 (dig x.natAbs).length c1)) rfl rfl (.bool g2) (.slice p2 (dig y.natAbs).length c2)).rd
  have d2:=((hi2.aC bV rfl rfl (.bool g1) (.slice p1 (dig x.natAbs).length c1)).aC (bJ.aH (b:=w.heap.size) (by omega) (.bool g1) (.slice p1 (dig x.natAbs).length c1)) rfl rfl (.bool g2) (.slice p2 (dig y.natAbs).length c2)).rd
  (with_reducible refine (sD _ _ _ _ _ b2 d2 (bH _) (bH _) hlx hyn).mono ?_)
  rintro e w3 ⟨s3,t3,rfl,hs3,ht3,hb3⟩
  obtain ⟨p3,c3,rfl,RI,RJ⟩:=hs3.form
  obtain ⟨o3,d3,rfl,hlo3,WS⟩:=ht3.form
  have gJ:=(((bV.store2 (.bool g1) (.slice p1 (dig x.natAbs).length c1)).aH (b:=w.heap.size+1) (by omega) (.bool g2) (.slice p2 (dig y.natAbs).length c2)).to hb3)
  obtain ⟨y2,f3⟩:=gJ.cs2
  have lV:=(((bJ.aH (b:=w.heap.size) (by omega) (.bool g1) (.slice p1 (dig x.natAbs).length c1)).store2 (.bool g2) (.slice p2 (dig y.natAbs).length c2)).to hb3)
  obtain ⟨q3,y3⟩:=lV.cs2
  go_wp2_with fail
  have e2:=hs3
  (with_reducible refine (gW _ _ _ _ e2 (bK _) hlq.out).mono ?_)
  rw [HQ.out]
  rintro e w4 ⟨v4,rfl,hi4,hb4⟩
  obtain ⟨g4,p4,n4,c4,rfl⟩:=hi4.form
  have jO:=(gJ.to hb4)
  obtain ⟨z2,g3⟩:=jO.cs2
  have jK:=(lV.to hb4)
  obtain ⟨r3,z3⟩:=jK.cs2
  have v0:=(jO).1
  have w0:=(jK).1
  have lF:=((((((x1.drew.to hb1).to hb2).aH (b:=w.heap.size) (by omega) (.bool g1) (.slice p1 (dig x.natAbs).length c1)).aH (b:=w.heap.size+1) (by omega) (.bool g2) (.slice p2 (dig y.natAbs).length c2)).to hb3).to hb4)
  have x0:=(lF).1
  have uZ:=((((((y1.drew.to hb1).to hb2).aH (b:=w.heap.size) (by omega) (.bool g1) (.slice p1 (dig x.natAbs).length c1)).aH (b:=w.heap.size+1) (by omega) (.bool g2) (.slice p2 (dig y.natAbs).length c2)).to hb3).to hb4)
  have y0:=(uZ).1
  go_wp2_with fail
  obtain ⟨hA2,b1⟩:=bx1 w4 rfl [.bool g4,.slice p4 n4 c4] 28
  obtain ⟨l1,r1,o1,t1⟩:=b1.drew.cf2
  have tk3:True:=trivial
  have tk4:True:=trivial
  go_region_with
   (first
    | (((have:=tk3);clear tk3;go_at_call 112;(with_reducible refine (qQ _ _ (by omega) (by omega)).mono ?_);rintro e w5 ⟨v5,rfl,hi5,hb5⟩;obtain ⟨g5,p5,n5,c5,rfl⟩:=hi5.form;have f1:=(b1.drew.to hb5);obtain ⟨m1,s1,q1,u1⟩:=f1.cf2))
    | (((have:=tk4);clear tk4;have r2:=((hi4.below hA2).drew.below hb5);have f2:=r2.raw;have i2:=hi5.raw;go_at_call 156;(with_reducible refine (zD _ _ (Q) (1) _ f2 i2 hq1 hone).mono ?_);rintro e w6 ⟨v6,rfl,hi6,hb6⟩;obtain ⟨g6,p6,n6,c6,rfl⟩:=hi6.form;have a0:=(f1.to hb6);obtain ⟨b0,d0,c0,e0⟩:=a0.cf2)))
  all_goals
   go_wp2_with fail
   have a8i:=(((jO.to hA2).drew.to hb5).to hb6)
   have a2o:=(((jK.to hA2).drew.to hb5).to hb6)
   have FV:=(aN.mk ((a0.store2 (.bool g6) (.slice p6 n6 c6)).drew).bs2 (aN.mk ((a8i.aH (b:=w4.heap.size) (by omega) (.bool g6) (.slice p6 n6 c6)).drew).bs2 ((a2o.aH (b:=w4.heap.size) (by omega) (.bool g6) (.slice p6 n6 c6)).drew).bs2))
   have i1:dB (w.heap.size+1+1) (aN (BS2 w4.heap.size (.bool g6) (.slice p6 n6 c6)) (aN (BS2 w.heap.size (.bool g1) (.slice p1 (dig x.natAbs).length c1)) (BS2 (w.heap.size+1) (.bool g2) (.slice p2 (dig y.natAbs).length c2)))):=(aN.hc (BS2.hc (by omega)) (aN.hc (BS2.hc (by omega)) (BS2.hc (by omega))))
   have j1:dB (w.heap.size+1+1+1) (aN (BS2 w4.heap.size (.bool g6) (.slice p6 n6 c6)) (aN (BS2 w.heap.size (.bool g1) (.slice p1 (dig x.natAbs).length c1)) (BS2 (w.heap.size+1) (.bool g2) (.slice p2 (dig y.natAbs).length c2)))):=(aN.hc (BS2.hc (by omega)) (aN.hc (BS2.hc (by omega)) (BS2.hc (by omega))))
   have tk5:True:=trivial
   have tk6:True:=trivial
   go_region_held3 (aN (BS2 w4.heap.size (.bool g6) (.slice p6 n6 c6)) (aN (BS2 w.heap.size (.bool g1) (.slice p1 (dig x.natAbs).length c1)) (BS2 (w.heap.size+1) (.bool g2) (.slice p2 (dig y.natAbs).length c2)))) (first | with_reducible exact FV | with_reducible exact fV.go (aN.hk BS2.hk (aN.hk BS2.hk BS2.hk)) (by assumption) (by assumption) | with_reducible exact dB.go2 i1 (by assumption) | with_reducible exact dB.go2 j1 (by assumption) | (simp;done))
    (first
     | (((have:=tk5);clear tk5;have j2:=(hi6.aC a0 rfl rfl (.bool g6) (.slice p6 n6 c6)).drew.raw;have q2:=(((((((hi2.aC bV rfl rfl (.bool g1) (.slice p1 (dig x.natAbs).length c1)).aC (bJ.aH (b:=w.heap.size) (by omega) (.bool g1) (.slice p1 (dig x.natAbs).length c1)) rfl rfl (.bool g2) (.slice p2 (dig y.natAbs).length c2)).below hb3).below hb4).below hA2).drew.below hb5).below hb6);have k2:=(q2.aC a0 rfl rfl (.bool g6) (.slice p6 n6 c6)).drew.raw;go_at_call 88;(with_reducible refine (nP _ _ ((Q) - (1)) (y) _ j2 k2 hq2 ZV).mono ?_);rintro e w7 ⟨v7,rfl,hi7,hb7⟩;obtain ⟨g7,p7,n7,c7,rfl⟩:=hi7.form))
     | (((have:=tk6);clear tk6;have o2:=(((((((((d1.aC bV rfl rfl (.bool g1) (.slice p1 (dig x.natAbs).length c1)).aC (bJ.aH (b:=w.heap.size) (by omega) (.bool g1) (.slice p1 (dig x.natAbs).length c1)) rfl rfl (.bool g2) (.slice p2 (dig y.natAbs).length c2)).below hb3).below hb4).below hA2).drew.below hb5).below hb6).aC a0 rfl rfl (.bool g6) (.slice p6 n6 c6)).drew.below hb7);have l2:=o2.raw;have m2:=hi7.raw;go_at_call 156;(with_reducible refine (zD _ _ (x) (((Q) - (1)) * (y)) _ l2 m2 hl0 hq3).mono ?_);rintro e w8 ⟨v8,rfl,hi8,hb8⟩;obtain ⟨g8,p8,n8,c8,rfl⟩:=hi8.form;have a2p:=((((((lF.to hA2).drew.to hb5).to hb6).aH (b:=w4.heap.size) (by omega) (.bool g6) (.slice p6 n6 c6)).drew.to hb7).to hb8);obtain ⟨n0,p0,o0,q0⟩:=a2p.cf2;have a2q:=((((((uZ.to hA2).drew.to hb5).to hb6).aH (b:=w4.heap.size) (by omega) (.bool g6) (.slice p6 n6 c6)).drew.to hb7).to hb8);obtain ⟨r0,t0,s0,u0⟩:=a2q.cf2)))
   have s2:=(((hi6.aC a0 rfl rfl (.bool g6) (.slice p6 n6 c6)).drew.below hb7).below hb8)
   have k1:=(Below.tr (Below.tr (Below.aC (Below.tr (Below.tr (Below.tr (Below.tr (Below.tr (Below.aC (Below.aC (Below.tr (Below.tr (Below.tr aX hA1).drew hb1) hb2) (b:=w.heap.size) (by omega) (.bool g1) (.slice p1 (dig x.natAbs).length c1)) (b:=w.heap.size+1) (by omega) (.bool g2) (.slice p2 (dig y.natAbs).length c2)) hb3) hb4) hA2).drew hb5) hb6) (b:=w4.heap.size) (by omega) (.bool g6) (.slice p6 n6 c6)).drew hb7) hb8)
   go_wp2_with fail
   exact bodyPost_ret (v:=.tuple #[.agg #[.bool g6,.slice p6 n6 c6],.agg #[.bool g8,.slice p8 n8 c8],.int .i64 0]) (by simp [results,Tryz.results113,go_sem,f0,h0,g0,i0,j0,l0,k0,m0,v0,w0,x0,y0,b0,d0,c0,e0,n0,p0,o0,q0,r0,t0,s0,u0]) rfl ⟨_,_,rfl,dH ((s2.aC a2p rfl rfl (.bool g6) (.slice p6 n6 c6)).aC (a2q.aH (b:=w.heap.size+1+1) (by omega) (.bool g6) (.slice p6 n6 c6)) rfl rfl (.bool g8) (.slice p8 n8 c8)) HX.out.1,dH ((hi8.aC a2p rfl rfl (.bool g6) (.slice p6 n6 c6)).aC (a2q.aH (b:=w.heap.size+1+1) (by omega) (.bool g6) (.slice p6 n6 c6)) rfl rfl (.bool g8) (.slice p8 n8 c8)) HX.out.2,(Below.aC (Below.aC k1 (b:=w.heap.size+1+1) (by omega) (.bool g6) (.slice p6 n6 c6)) (b:=w.heap.size+1+1+1) (by omega) (.bool g8) (.slice p8 n8 c8))⟩
theorem pY (v u:Value) (x y:Int) (w:World) (hv:Raw w v x) (hu:Raw w u y) (hl:isz x≤400000000) (hl2:isz y≤400000000) (hy:y ≠ 0) :
  Calls Tryz.prog 113 #[v,u] w (LV (x.fdiv y) (x.fmod y) w):=by
 cases hfl:(decide (x < 0) != decide (y < 0))
 ·exact XL v u x y w hv hu hl hl2 hy hfl
 ·by_cases hr:x.natAbs % y.natAbs=0
  ·exact SA v u x y w hv hu hl hl2 hy hr hfl
  ·exact XK v u x y w hv hu hl hl2 hy hr hfl
end Go.Proofs.YtidfgdchcpmnfaaGreat
namespace Go.Proofs.YtidfgdchcpmnfaaGreat
open Go.RowKit
set_option maxRecDepth 100000
set_option maxHeartbeats 4000000
set_option linter.unusedSimpArgs false
set_option linter.unusedVariables false
theorem b5r (w:World) (r q:Nat):Rd (w.alloc (.cells #[.int .u32 (r:Nat),.int .u32 (q:Nat)] 118)) (.slice (some ⟨w.heap.size,0,none⟩) 2 2) [r,q] :=
 Rd.bY (l:=[r,q]) (World.ownsRow_lit (size:=1) w #[.int .u32 (r:Nat),.int .u32 (q:Nat)] 2 (Nat.le_refl _) (by simp [maxLen]) (by simp))
theorem EY (v u:Value) (x y:Int) (w:World) (hv:Raw w v x) (hu:Raw w u y) (hl:isz x≤1000000000) (hl2:isz y≤1000000000) :
  Calls Tryz.prog 125 #[v,u] w (kK ((Int.gcd x y:Nat):Int) w):=by
 obtain ⟨b,p,n,c,rfl⟩:=hv.form
 obtain ⟨d,o,m,e,rfl⟩:=hu.form
 have hlx:(dig x.natAbs).length≤1000000000:=hl
 have hly:(dig y.natAbs).length≤1000000000:=hl2
 have hfi:=gX
 have k0:=gX
 have aX:Below w.heap.size w w:=Below.refl _ _
 go_enter Tryz.func125,Tryz.ntmps125
 go_wp2_with fail
 obtain ⟨hA1,l0,m0,n0⟩:=bx3 w rfl [.bool b,.slice p n c] 28 [.bool d,.slice o m e] 28 [.bool false,.slice none 0 0] 28
 have vM:=(aN.mk (l0.drew).bs2 (m0.drew).bs2)
 have tk1:True:=trivial
 have tk2:True:=trivial
 go_region_held3 (aN (BS2 w.heap.size (.bool b) (.slice p n c)) (BS2 (w.heap.size+1) (.bool d) (.slice o m e))) (first | with_reducible exact vM | with_reducible exact fV.go (aN.hk BS2.hk BS2.hk) (by assumption) (by assumption) | (simp;done))
  (first
   | (((have:=tk1);clear tk1;have a0:=(hv.below hA1).drew;go_at_call 120;(with_reducible refine (eX _ (x) _ a0 (by omega)).mono ?_);rintro e w1 ⟨v1,rfl,hi1,hb1⟩;obtain ⟨g1,p1,n1,c1,rfl⟩:=hi1.form;obtain rfl:n1=(dig x.natAbs).length:=hi1.len))
   | (((have:=tk2);clear tk2;have iM:=((hu.below hA1).drew.below hb1);have d0:=iM;go_at_call 120;(with_reducible refine (eX _ (y) _ d0 (by omega)).mono ?_);rintro e w2 ⟨v2,rfl,hi2,hb2⟩;obtain ⟨g2,p2,n2,c2,rfl⟩:=hi2.form;obtain rfl:n2=(dig y.natAbs).length:=hi2.len)))
 have o0:=(hi1.below hb2)
 have kS:=((n0.drew.to hb1).to hb2)
 have j0:=(Below.tr (Below.tr (Below.tr aX hA1).drew hb1) hb2)
 go_wp2_with fail
 clear hl hl2
 go_loopg [5,6,7,8,17,18,19,20,21,22,23,24,25,26,27,28,29,30,31,32,33,34,35,36,37] (val (dig y.natAbs)) (fun k a b _ _ _ _ _ _ _ _ _ _ _ _ _ _ _ _ _ _ _ _ _ _ _ wr=>∃ (l1 l2:List Nat) (pa pb:Option Addr) (ca cb:Nat),a=.slice pa l1.length ca∧b=.slice pb l2.length cb∧Rd wr (.slice pa l1.length ca) l1∧Rd wr (.slice pb l2.length cb) l2∧Canon l1∧Canon l2∧l1.length≤1000000000∧l2.length≤1000000000∧Hid (Nat.gcd (val l1) (val l2)=Int.gcd x y)∧Hid (k=val l2)∧Bx wr (w.heap.size+1+1) [.bool false,.slice none 0 0]∧Below w.heap.size w wr)
 case atStart=>exact ⟨_,_,_,_,_,_,rfl,rfl,o0.rd,hi2.rd,bH _,bH _,hlx,hly,TF x y,rfl,kS,j0⟩
 case round =>
  obtain ⟨l1,l2,pa,pb,ca,cb,rfl,rfl,ha,hb,ca1,cb1,la,lb,hg,hk,hq,hB⟩:=hrel
  have hzB:=hB.size
  have cl1:Low l1:=ca1.1
  have cl2:Low l2:=cb1.1
  by_cases hne:l2=[]
  ·subst hne
   have HX:Hid (sg false (val l1)=((Int.gcd x y:Nat):Int)):=gcd_zero hg.out
   go_wp2_with fail
   have b0:=ha
   (with_reducible refine (gW _ _ _ _ b0 cl1 (by omega)).mono ?_)
   rintro e w1 ⟨v1,rfl,hi1,hb1⟩
   obtain ⟨g1,p1,n1,c1,rfl⟩:=hi1.form
   have a0A:=(hq.to hb1)
   obtain ⟨e0,h0,g0,i0⟩:=a0A.cf2
   have lK:=(Below.tr hB hb1)
   go_wp2_with fail
   exact bodyPost_ret (v:=.agg #[.bool g1,.slice p1 n1 c1]) (by simp [results,Tryz.results125,go_sem,e0,h0,g0,i0]) rfl ⟨_,rfl,dH (hi1.aC a0A rfl rfl (.bool g1) (.slice p1 n1 c1)) HX.out,(Below.aC lK (b:=w.heap.size+1+1) (by omega) (.bool g1) (.slice p1 n1 c1))⟩
  ·have hl0:0 < l2.length:=List.length_pos_iff.2 hne
   have hlz:((l2.length:Int) == 0)=false:=by simp;omega
   have HLE:Hid ((dig (val l1 % val l2)).length≤1000000000):=by
    unfold Hid
    have:=aO (Nat.le_of_lt (Nat.mod_lt (val l1) (cb1.pos hne)))
    rw [dU cb1] at this
    omega
   by_cases h1:2 < l1.length
   ·skip
    go_wp2_with fail
    have a0:=ha
    have b0:=hb
    (with_reducible refine (sD _ _ _ _ _ a0 b0 ca1 cb1 la hne).mono ?_)
    rintro e w1 ⟨s1,t1,rfl,hs1,ht1,hb1⟩
    obtain ⟨p1,c1,rfl,ZW,ZY⟩:=hs1.form
    obtain ⟨o1,d1,rfl,hlo1,b7y⟩:=ht1.form
    have EG:=(hb.below hb1)
    have a0A:=(hq.to hb1)
    have lK:=(Below.tr hB hb1)
    go_wp2_with fail
    go_roundg (val (dig (val l1 % val l2)))
    case measure=>rw [hk.out,aI];exact Nat.mod_lt _ (cb1.pos hne)
    case rel=>exact ⟨_,_,_,_,_,_,rfl,rfl,EG,ht1,cb1,bH _,lb,HLE.out,by unfold Hid;rw [aI];exact rQ hg.out,rfl,a0A,lK⟩
   ·by_cases h2:2 < l2.length
    ·skip
     go_wp2_with fail
     have a0:=ha
     have b0:=hb
     (with_reducible refine (sD _ _ _ _ _ a0 b0 ca1 cb1 la hne).mono ?_)
     rintro e w1 ⟨s1,t1,rfl,hs1,ht1,hb1⟩
     obtain ⟨p1,c1,rfl,ZW,ZY⟩:=hs1.form
     obtain ⟨o1,d1,rfl,hlo1,b7y⟩:=ht1.form
     have EG:=(hb.below hb1)
     have a0A:=(hq.to hb1)
     have lK:=(Below.tr hB hb1)
     go_wp2_with fail
     go_roundg (val (dig (val l1 % val l2)))
     case measure=>rw [hk.out,aI];exact Nat.mod_lt _ (cb1.pos hne)
     case rel=>exact ⟨_,_,_,_,_,_,rfl,rfl,EG,ht1,cb1,bH _,lb,HLE.out,by unfold Hid;rw [aI];exact rQ hg.out,rfl,a0A,lK⟩
    ·skip
     go_wp2_with fail
     have a0:=ha
     (with_reducible refine (UL _ _ _ a0 cl1 (by omega)).mono ?_)
     rintro e w' ⟨rfl,rfl⟩
     go_wp2_with fail
     have d0:=hb
     (with_reducible refine (UL _ _ _ d0 cl2 (by omega)).mono ?_)
     rintro e w' ⟨rfl,rfl⟩
     go_wp2_with fail
     have hM:=zX ca1 (by omega)
     have hK:=zX cb1 (by omega)
     clear ha hb
     go_loopw [9,10,47,48,49,50,51,52] (fun m n _ _ _ _ _ _ wr=>∃ M K:Nat,m=.int .u64 (M:Nat)∧n=.int .u64 (K:Nat)∧M≤999999999999999999∧K≤999999999999999999∧Hid (Nat.gcd M K=Int.gcd x y)∧Bx wr (w.heap.size+1+1) [.bool false,.slice none 0 0]∧Below w.heap.size w wr) (fun _ n _ _ _ _ _ _ _=>(intOf n).toNat)
     case atStart=>exact ⟨_,_,rfl,rfl,hM,hK,hg,hq,hB⟩
     case round =>
      obtain ⟨M,K,rfl,rfl,hM,hK,hg2,hq2,hB2⟩:=hrel
      by_cases hk0:0 < K
      ·obtain ⟨R,hR⟩:∃ R,M % K=R:=⟨_,rfl⟩
       have b1u:R < K:=by rw [← hR];exact Nat.mod_lt _ hk0
       have i2:(M:Int) % K=R:=by rw [← hR];simp
       have i3:(M:Int).tmod K=R:=by rw [Int.tmod_eq_emod_of_nonneg (by omega)];exact i2
       have w2':IntKind.u64.wrap (R:Int)=R:=wrap_u64 (by omega)
       have hdz:((K:Int) == 0)=false:=by simp;omega
       have hdn:¬ K=0:=by omega
       have HG:Hid (Nat.gcd K R=Int.gcd x y):=by unfold Hid;rw [← hR];exact rQ hg2.out
       have a7w:=fun w=>EX (n:=M) (d:=K) (v:=R) (by omega) hM i2 w2' w
       clear hR
       go_wp2_with fail
       go_quiet (fail)
       go_wp2_with fail
       go_roundw
       case rel=>exact ⟨K,R,rfl,rfl,hK,by omega,HG,hq2.drewN _,Below.nY hB2 _⟩
       case measure=>simp [intOf];omega
      ·obtain rfl:K=0:=by omega
       obtain ⟨r,hr⟩:∃ r,M % 1000000000=r:=⟨_,rfl⟩
       obtain ⟨q,hq'⟩:∃ q,M / 1000000000=q:=⟨_,rfl⟩
       have HX:Hid (sg false (val [r,q])=((Int.gcd x y:Nat):Int)):=by
        have:=hg2.out
        unfold Hid
        rw [← this,Nat.gcd_zero_right]
        have e:val [r,q]=M:=by simp [bW,val,bG];omega
        rw [e];rfl
       have i1:(M:Int) % 1000000000=r:=by omega
       have i2:(M:Int) / 1000000000=q:=by omega
       have hr9:r≤999999999:=by omega
       have hq9:q≤999999999:=by omega
       have hlow:Low [r,q]:=Low.cons.2 ⟨by rw [bG];omega,Low.cons.2 ⟨by rw [bG];omega,Low.nil⟩⟩
       have hR:=b5r wr r q
       have b7M:=hB2.size
       clear hr hq'
       go_wp2_with fail
       refine (gW false _ _ _ hR hlow (by simp)).mono ?_
       rw [HX.out]
       rintro e2 w7 ⟨v2,rfl,hi2,hb7⟩
       obtain ⟨g2,p2,n2,c2,rfl⟩:=hi2.form
       have q7:=(hq2.alloc (.cells #[.int .u32 (r:Nat),.int .u32 (q:Nat)] 118)).to hb7
       have r0:=q7.c0
       have r1:=q7.c1
       have f0:=q7.f0
       have f1:=q7.f1
       have hB7:=Below.tr (Below.al hB2 (.cells #[.int .u32 (r:Nat),.int .u32 (q:Nat)] 118)) hb7
       go_wp2_with fail
       exact bodyPost_ret (v:=.agg #[.bool g2,.slice p2 n2 c2]) (by simp [results,Tryz.results125,go_sem,r0,r1]) rfl ⟨_,rfl,bU.aC hi2 q7 rfl rfl _ _,Below.aC hB7 (by omega) _ _⟩
end Go.Proofs.YtidfgdchcpmnfaaGreat
namespace Go.Proofs.YtidfgdchcpmnfaaGreat
open Go.RowKit
set_option maxRecDepth 100000
set_option maxHeartbeats 4000000
set_option linter.unusedSimpArgs false
set_option linter.unusedVariables false
theorem sW {x y:Int} (h:y ∣ x):x.fdiv y=x / y:=by
 rw [Int.fdiv_eq_ediv,if_pos (.inr h),Int.sub_zero]
theorem a5G {n d:Int} (hd:0 < d):n.fdiv ((Int.gcd n d:Nat):Int)=(Rat.divInt n d).num∧d.fdiv ((Int.gcd n d:Nat):Int)=(Rat.divInt n d).den:=by
 rw [nH hd,nG hd]
 exact ⟨sW (Int.gcd_dvd_left _ _),sW (Int.gcd_dvd_right _ _)⟩
theorem a5F {n d:Int} (hd:d < 0):n.fdiv (-((Int.gcd n d:Nat):Int))=(Rat.divInt n d).num∧d.fdiv (-((Int.gcd n d:Nat):Int))=(Rat.divInt n d).den:=by
 rw [NG hd,NC hd]
 exact ⟨sW (Int.neg_dvd.2 (Int.gcd_dvd_left _ _)),sW (Int.neg_dvd.2 (Int.gcd_dvd_right _ _))⟩
theorem sF (k:Int) (w:World) (h0:-9223372036854775808≤k) (h1:k≤9223372036854775807) :
  Calls Tryz.prog 98 #[.int .i64 k] w (kK k w):=by
 have aX:Below w.heap.size w w:=Below.refl _ _
 go_enter Tryz.func98,Tryz.ntmps98
 go_wp2_with fail
 (with_reducible refine (qQ _ _ (by omega) (by omega)).mono ?_)
 rintro e w1 ⟨v1,rfl,hi1,hb1⟩
 obtain ⟨g1,p1,n1,c1,rfl⟩:=hi1.form
 obtain ⟨hA1,f0⟩:=bx1 w rfl [.bool false,.slice none 0 0] 28
 have bF:=(f0.to hb1)
 obtain ⟨a0,c0,b0,d0⟩:=bF.cf2
 have e0:=(Below.tr (Below.tr aX hA1) hb1)
 go_wp2_with fail
 exact bodyPost_ret (v:=.agg #[.bool g1,.slice p1 n1 c1]) (by simp [results,Tryz.results98,go_sem,a0,c0,b0,d0]) rfl ⟨_,rfl,(hi1.aC bF rfl rfl (.bool g1) (.slice p1 n1 c1)),(Below.aC e0 (b:=w.heap.size) (by omega) (.bool g1) (.slice p1 n1 c1))⟩
theorem JW (k:Int) (w:World) (h0:-9223372036854775808≤k) (h1:k≤9223372036854775807) :
  Calls Tryz.prog 79 #[.int .i64 k] w (GQ (k:Rat) w):=by
 have aX:Below w.heap.size w w:=Below.refl _ _
 go_enter Tryz.func79,Tryz.ntmps79
 go_wp2_with fail
 (with_reducible refine (sF _ _ (by omega) (by omega)).mono ?_)
 rintro e w1 ⟨v1,rfl,hi1,hb1⟩
 obtain ⟨g1,p1,n1,c1,rfl⟩:=hi1.form
 go_wp2_with fail
 (with_reducible refine (sF _ _ (by omega) (by omega)).mono ?_)
 rintro e w2 ⟨v2,rfl,hi2,hb2⟩
 obtain ⟨g2,p2,n2,c2,rfl⟩:=hi2.form
 obtain ⟨hA1,k0⟩:=bx1 w rfl [.bool false,.slice none 0 0,.bool false,.slice none 0 0] 30
 have bV:=((k0.to hb1).to hb2)
 obtain ⟨a0,e0,b0,f0,c0,g0,d0,i0⟩:=bV.cf4
 have l0:=(hi1.below hb2)
 have j0:=(Below.tr (Below.tr (Below.tr aX hA1) hb1) hb2)
 go_wp2_with fail
 exact bodyPost_ret (v:=.agg #[.bool g1,.slice p1 n1 c1,.bool g2,.slice p2 n2 c2]) (by simp [results,Tryz.results79,go_sem,a0,e0,b0,f0,c0,g0,d0,i0]) rfl ⟨_,rfl,RQ.mk' (l0.aQ bV rfl rfl rfl rfl (.bool g1) (.slice p1 n1 c1) (.bool g2) (.slice p2 n2 c2)) (hi2.aQ bV rfl rfl rfl rfl (.bool g1) (.slice p1 n1 c1) (.bool g2) (.slice p2 n2 c2)) (a3K k).symm (by rw [a3J];rfl),(Below.aQ j0 (b:=w.heap.size) (by omega) (.bool g1) (.slice p1 n1 c1) (.bool g2) (.slice p2 n2 c2))⟩
theorem UG (k:Int) (w:World) (h0:-9223372036854775808≤k) (h1:k≤9223372036854775807) :
  Calls Tryz.prog 24 #[.int .i64 k] w (GQ (k:Rat) w):=by
 have aX:Below w.heap.size w w:=Below.refl _ _
 go_enter Tryz.func24,Tryz.ntmps24
 go_wp2_with fail
 (with_reducible refine (JW _ _ (by omega) (by omega)).mono ?_)
 rintro e w1 ⟨v1,rfl,hi1,hb1⟩
 obtain ⟨g1,p1,n1,c1,h1,o1,m1,e1,rfl⟩:=hi1.form
 obtain ⟨hA1,k0⟩:=bx1 w rfl [.bool false,.slice none 0 0,.bool false,.slice none 0 0] 30
 have bF:=(k0.to hb1)
 obtain ⟨a0,e0,b0,f0,c0,g0,d0,i0⟩:=bF.cf4
 have j0:=(Below.tr (Below.tr aX hA1) hb1)
 go_wp2_with fail
 exact bodyPost_ret (v:=.agg #[.bool g1,.slice p1 n1 c1,.bool h1,.slice o1 m1 e1]) (by simp [results,Tryz.results24,go_sem,a0,e0,b0,f0,c0,g0,d0,i0]) rfl ⟨_,rfl,(hi1.aQ bF rfl rfl rfl rfl (.bool g1) (.slice p1 n1 c1) (.bool h1) (.slice o1 m1 e1)),(Below.aQ j0 (b:=w.heap.size) (by omega) (.bool g1) (.slice p1 n1 c1) (.bool h1) (.slice o1 m1 e1))⟩
theorem a0Q (x y:Int) (w:World) (b d:Bool) (p o:Option Addr) (n c m e:Nat) (k1:fF w (.agg #[.bool b,.slice p n c]) false x) (k2:fF w (.agg #[.bool d,.slice o m e]) false y) (hl:isz x≤999999999) (hl2:isz y≤999999999) :
  Calls Tryz.prog 84 #[.agg #[.bool b,.slice p n c,.bool d,.slice o m e]] w fun e w'=>e=.returned (.bool (false && (false && (decide (0 < y) && decide (Int.gcd x y=1)))))∧Below w.heap.size w w':=by
 have HX:Hid (false=(false && (false && (decide (0 < y) && decide (Int.gcd x y=1))))):=by unfold Hid;simp
 have aX:Below w.heap.size w w:=Below.refl _ _
 go_enter Tryz.func84,Tryz.ntmps84
 go_wp2_with fail
 obtain ⟨hA1,c0⟩:=bx1 w rfl [.bool b,.slice p n c,.bool d,.slice o m e] 30
 have b0:=(k1.below hA1)
 (with_reducible refine (iV _ _ _ _ b0).mono ?_)
 rintro e w1 ⟨rfl,hb1⟩
 have a0:=(Below.tr (Below.tr aX hA1) hb1)
 go_wp2_with fail
 go_ret
 exact ⟨eU HX.out,a0⟩
theorem a0R (x y:Int) (w:World) (b d:Bool) (p o:Option Addr) (n c m e:Nat) (k1:fF w (.agg #[.bool b,.slice p n c]) false x) (k2:fF w (.agg #[.bool d,.slice o m e]) true y) (hl:isz x≤999999999) (hl2:isz y≤999999999) :
  Calls Tryz.prog 84 #[.agg #[.bool b,.slice p n c,.bool d,.slice o m e]] w fun e w'=>e=.returned (.bool (false && (true && (decide (0 < y) && decide (Int.gcd x y=1)))))∧Below w.heap.size w w':=by
 have HX:Hid (false=(false && (true && (decide (0 < y) && decide (Int.gcd x y=1))))):=by unfold Hid;simp
 have aX:Below w.heap.size w w:=Below.refl _ _
 go_enter Tryz.func84,Tryz.ntmps84
 go_wp2_with fail
 obtain ⟨hA1,c0⟩:=bx1 w rfl [.bool b,.slice p n c,.bool d,.slice o m e] 30
 have b0:=(k1.below hA1)
 (with_reducible refine (iV _ _ _ _ b0).mono ?_)
 rintro e w1 ⟨rfl,hb1⟩
 have a0:=(Below.tr (Below.tr aX hA1) hb1)
 go_wp2_with fail
 go_ret
 exact ⟨eU HX.out,a0⟩
theorem a0S (x y:Int) (w:World) (b d:Bool) (p o:Option Addr) (n c m e:Nat) (k1:fF w (.agg #[.bool b,.slice p n c]) true x) (k2:fF w (.agg #[.bool d,.slice o m e]) false y) (hl:isz x≤999999999) (hl2:isz y≤999999999) :
  Calls Tryz.prog 84 #[.agg #[.bool b,.slice p n c,.bool d,.slice o m e]] w fun e w'=>e=.returned (.bool (true && (false && (decide (0 < y) && decide (Int.gcd x y=1)))))∧Below w.heap.size w w':=by
 have HX:Hid (false=(true && (false && (decide (0 < y) && decide (Int.gcd x y=1))))):=by unfold Hid;simp
 have aX:Below w.heap.size w w:=Below.refl _ _
 go_enter Tryz.func84,Tryz.ntmps84
 go_wp2_with fail
 obtain ⟨hA1,b0⟩:=bx1 w rfl [.bool b,.slice p n c,.bool d,.slice o m e] 30
 have c0:=(k1.below hA1)
 (with_reducible refine (iV _ _ _ _ c0).mono ?_)
 rintro e w1 ⟨rfl,hb1⟩
 have bF:=(b0.to hb1)
 obtain ⟨e0,f0,g0,h0⟩:=bF.cs4
 go_wp2_with fail
 have CQ:=((k2.below hA1).below hb1)
 have d0:=CQ
 (with_reducible refine (iV _ _ _ _ d0).mono ?_)
 rintro e w2 ⟨rfl,hb2⟩
 have a0:=(Below.tr (Below.tr (Below.tr aX hA1) hb1) hb2)
 go_wp2_with fail
 go_ret
 exact ⟨eU HX.out,a0⟩
theorem a0T (x y:Int) (w:World) (b d:Bool) (p o:Option Addr) (n c m e:Nat) (k1:fF w (.agg #[.bool b,.slice p n c]) true x) (k2:fF w (.agg #[.bool d,.slice o m e]) true y) (hl:isz x≤999999999) (hl2:isz y≤999999999) (hd:¬ 0 < y) :
  Calls Tryz.prog 84 #[.agg #[.bool b,.slice p n c,.bool d,.slice o m e]] w fun e w'=>e=.returned (.bool (true && (true && (decide (0 < y) && decide (Int.gcd x y=1)))))∧Below w.heap.size w w':=by
 have HX:Hid (false=(true && (true && (decide (0 < y) && decide (Int.gcd x y=1))))):=by unfold Hid;simp [hd]
 have hsg:decide (sgn y≤0)=true:=by have:=a8D hd;simpa using this
 clear hd
 have aX:Below w.heap.size w w:=Below.refl _ _
 go_enter Tryz.func84,Tryz.ntmps84
 go_wp2_with fail
 obtain ⟨hA1,b0⟩:=bx1 w rfl [.bool b,.slice p n c,.bool d,.slice o m e] 30
 have c0:=(k1.below hA1)
 (with_reducible refine (iV _ _ _ _ c0).mono ?_)
 rintro e w1 ⟨rfl,hb1⟩
 have bF:=(b0.to hb1)
 obtain ⟨f0,h0,j0,l0⟩:=bF.cs4
 go_wp2_with fail
 have CQ:=((k2.below hA1).below hb1)
 have d0:=CQ
 (with_reducible refine (iV _ _ _ _ d0).mono ?_)
 rintro e w2 ⟨rfl,hb2⟩
 have bV:=(bF.to hb2)
 obtain ⟨g0,i0,k0,m0⟩:=bV.cs4
 go_wp2_with fail
 have WW:=(CQ.below hb2)
 have e0:=WW.raw
 (with_reducible refine (mP _ (y) _ e0 (by omega)).mono ?_)
 rintro e w3 ⟨rfl,hb3⟩
 have a0:=(Below.tr (Below.tr (Below.tr (Below.tr aX hA1) hb1) hb2) hb3)
 go_wp2_with fail
 go_ret
 exact ⟨eU HX.out,a0⟩
theorem a0U (x y:Int) (w:World) (b d:Bool) (p o:Option Addr) (n c m e:Nat) (k1:fF w (.agg #[.bool b,.slice p n c]) true x) (k2:fF w (.agg #[.bool d,.slice o m e]) true y) (hl:isz x≤999999999) (hl2:isz y≤999999999) (hd:0 < y) :
  Calls Tryz.prog 84 #[.agg #[.bool b,.slice p n c,.bool d,.slice o m e]] w fun e w'=>e=.returned (.bool (true && (true && (decide (0 < y) && decide (Int.gcd x y=1)))))∧Below w.heap.size w w':=by
 have HX:Hid ((dA ((Int.gcd x y:Nat):Int) 1 == 0)=(true && (true && (decide (0 < y) && decide (Int.gcd x y=1))))):=by unfold Hid;rw [JD];simp [hd];omega
 have hsg:decide (sgn y≤0)=false:=by rw [wJ hd];rfl
 have hlg:isz ((Int.gcd x y:Nat):Int)≤999999999:=oN (by omega) (by omega)
 have h1g:isz 1≤999999999:=Nat.le_trans (uM (k:=1) (by rw [bG];decide)) (by omega)
 clear hd
 have aX:Below w.heap.size w w:=Below.refl _ _
 go_enter Tryz.func84,Tryz.ntmps84
 go_wp2_with fail
 obtain ⟨hA1,b0⟩:=bx1 w rfl [.bool b,.slice p n c,.bool d,.slice o m e] 30
 have c0:=(k1.below hA1)
 (with_reducible refine (iV _ _ _ _ c0).mono ?_)
 rintro e w1 ⟨rfl,hb1⟩
 have bF:=(b0.to hb1)
 obtain ⟨k0,n0,q0,t0⟩:=bF.cs4
 go_wp2_with fail
 have CQ:=((k2.below hA1).below hb1)
 have d0:=CQ
 (with_reducible refine (iV _ _ _ _ d0).mono ?_)
 rintro e w2 ⟨rfl,hb2⟩
 have bV:=(bF.to hb2)
 obtain ⟨l0,o0,r0,u0⟩:=bV.cs4
 go_wp2_with fail
 have WW:=(CQ.below hb2)
 have e0:=WW.raw
 (with_reducible refine (mP _ (y) _ e0 (by omega)).mono ?_)
 rintro e w3 ⟨rfl,hb3⟩
 have gJ:=(bV.to hb3)
 obtain ⟨m0,p0,s0,v0⟩:=gJ.cs4
 go_wp2_with fail
 have b1S:=((((k1.below hA1).below hb1).below hb2).below hb3)
 have f0:=b1S.raw
 have b1T:=(WW.below hb3)
 have g0:=b1T.raw
 (with_reducible refine (EY _ _ (x) (y) _ f0 g0 (by omega) (by omega)).mono ?_)
 rintro e w4 ⟨v4,rfl,hi4,hb4⟩
 obtain ⟨g4,p4,n4,c4,rfl⟩:=hi4.form
 go_wp2_with fail
 (with_reducible refine (sF _ _ (by omega) (by omega)).mono ?_)
 rintro e w5 ⟨v5,rfl,hi5,hb5⟩
 obtain ⟨g5,p5,n5,c5,rfl⟩:=hi5.form
 go_wp2_with fail
 have j0:=(hi4.below hb5)
 have h0:=j0.raw
 have i0:=hi5.raw
 (with_reducible refine (lG _ _ ((Int.gcd (x) (y):Int)) (1) _ h0 i0 hlg h1g).mono ?_)
 rintro e w6 ⟨rfl,hb6⟩
 have a0:=(Below.tr (Below.tr (Below.tr (Below.tr (Below.tr (Below.tr (Below.tr aX hA1) hb1) hb2) hb3) hb4) hb5) hb6)
 go_wp2_with fail
 go_ret
 exact ⟨eU HX.out,a0⟩
theorem qB (v:Value) (ok:Bool) (q:Rat) (w:World) (h:fC w v ok q) (hn:Qn v 999999999) :
  Calls Tryz.prog 84 #[v] w fun e w'=>e=.returned (.bool ok)∧Below w.heap.size w w':=by
 obtain ⟨b,s,c,t,o1,o2,x,y,e,h1,h2,rfl,_⟩:=h
 obtain ⟨b1,p1,n1,c1,b2,p2,n2,c2,e1,l1,l2⟩:=hn
 rw [e1] at e
 cases e
 subst e1
 have l3:=h1.raw.len
 have l4:=h2.raw.len
 cases o1
 ·cases o2
  ·exact a0Q x y w _ _ _ _ _ _ _ _ h1 h2 (by omega) (by omega)
  ·exact a0R x y w _ _ _ _ _ _ _ _ h1 h2 (by omega) (by omega)
 ·cases o2
  ·exact a0S x y w _ _ _ _ _ _ _ _ h1 h2 (by omega) (by omega)
  ·by_cases hd:0 < y
   ·exact a0U x y w _ _ _ _ _ _ _ _ h1 h2 (by omega) (by omega) hd
   ·exact a0T x y w _ _ _ _ _ _ _ _ h1 h2 (by omega) (by omega) hd
theorem XT (v:Value) (q:Rat) (w:World) (h:fC w v true q) (hn:Qn v 999999999) :
  Calls Tryz.prog 77 #[v] w (GQ q w):=by
 obtain ⟨b,p,n,c,d,o,m,e,rfl⟩:=h.form
 have aX:Below w.heap.size w w:=Below.refl _ _
 go_enter Tryz.func77,Tryz.ntmps77
 go_wp2_with fail
 obtain ⟨hA1,j0,k0⟩:=bx2 w rfl [.bool b,.slice p n c,.bool d,.slice o m e] 30 [.bool false,.slice none 0 0,.bool false,.slice none 0 0] 30
 have l0:=(h.below hA1)
 (with_reducible refine (qB _ _ _ _ l0 hn).mono ?_)
 rintro e w1 ⟨rfl,hb1⟩
 have bF:=(j0.to hb1)
 obtain ⟨m0,n0,o0,p0⟩:=bF.cs4
 have dD:=(k0.to hb1)
 obtain ⟨a0,e0,b0,f0,c0,g0,d0,h0⟩:=dD.cf4
 have h_1:=((h.below hA1).below hb1)
 have i0:=(Below.tr (Below.tr aX hA1) hb1)
 go_wp2_with fail
 exact bodyPost_ret (v:=.agg #[.bool b,.slice p n c,.bool d,.slice o m e]) (by simp [results,Tryz.results77,go_sem,a0,e0,b0,f0,c0,g0,d0,h0]) rfl ⟨_,rfl,fC.rq (h_1.aQ dD rfl rfl rfl rfl (.bool b) (.slice p n c) (.bool d) (.slice o m e)),(Below.aQ i0 (b:=w.heap.size+1) (by omega) (.bool b) (.slice p n c) (.bool d) (.slice o m e))⟩
theorem SG (v:Value) (q:Rat) (w:World) (h:fC w v false q) (hn:Qn v 999999999) :
  Calls Tryz.prog 77 #[v] w (GQ q w):=by
 obtain ⟨b,p,n,c,d,o,m,e,rfl⟩:=h.form
 have HX:Hid (q=((0:Int):Rat)):=by unfold Hid;rw [h.no];rfl
 have aX:Below w.heap.size w w:=Below.refl _ _
 go_enter Tryz.func77,Tryz.ntmps77
 go_wp2_with fail
 obtain ⟨hA1,l0,j0⟩:=bx2 w rfl [.bool b,.slice p n c,.bool d,.slice o m e] 30 [.bool false,.slice none 0 0,.bool false,.slice none 0 0] 30
 have k0:=(h.below hA1)
 (with_reducible refine (qB _ _ _ _ k0 hn).mono ?_)
 rintro e w1 ⟨rfl,hb1⟩
 go_wp2_with fail
 (with_reducible refine (JW _ _ (by omega) (by omega)).mono ?_)
 rintro e w2 ⟨v2,rfl,hi2,hb2⟩
 obtain ⟨g2,p2,n2,c2,h2,o2,m2,e2,rfl⟩:=hi2.form
 have bJ:=((j0.to hb1).to hb2)
 obtain ⟨a0,e0,b0,f0,c0,g0,d0,h0⟩:=bJ.cf4
 have i0:=(Below.tr (Below.tr (Below.tr aX hA1) hb1) hb2)
 go_wp2_with fail
 exact bodyPost_ret (v:=.agg #[.bool g2,.slice p2 n2 c2,.bool h2,.slice o2 m2 e2]) (by simp [results,Tryz.results77,go_sem,a0,e0,b0,f0,c0,g0,d0,h0]) rfl ⟨_,rfl,by rw [HX.out];exact (hi2.aQ bJ rfl rfl rfl rfl (.bool g2) (.slice p2 n2 c2) (.bool h2) (.slice o2 m2 e2)),(Below.aQ i0 (b:=w.heap.size+1) (by omega) (.bool g2) (.slice p2 n2 c2) (.bool h2) (.slice o2 m2 e2))⟩
theorem a0V (v:Value) (ok:Bool) (q:Rat) (w:World) (h:fC w v ok q) (hn:Qn v 999999999) :
  Calls Tryz.prog 77 #[v] w (GQ q w):=by
 cases ok
 ·exact SG v q w h hn
 ·exact XT v q w h hn
theorem mQ (v:Value) (q:Rat) (w:World) (h:RQ w v q) (hl:rsz q≤999999999) :
 Calls Tryz.prog 77 #[v] w (GQ q w):=a0V v true q w h.raw (h.qn hl)
theorem KP (v u:Value) (x y:Int) (w:World) (hv:bU w v x) (hu:bU w u y) (hl:isz x≤400000000) (hl2:isz y≤400000000) (hd:0 < y) :
  Calls Tryz.prog 86 #[v,u] w (GQ (Rat.divInt x y) w):=by
 obtain ⟨b,p,n,c,rfl⟩:=hv.form
 obtain ⟨d,o,m,e,rfl⟩:=hu.form
 have HX:=Lib.hid (a5G (n:=x) hd)
 have b1F:isz ((Int.gcd x y:Nat):Int)≤400000000:=oN (by omega) hl2
 have hlh:isz ((Int.gcd x y:Nat):Int)≤1000000000:=by omega
 have hlg:isz ((Int.gcd x y:Nat):Int)≤400000000:=by exact b1F
 have b1C:((Int.gcd x y:Nat):Int) ≠ 0:=gcd_ne (by omega)
 have hg0:((Int.gcd x y:Nat):Int) ≠ 0:=by omega
 have hsg:decide (sgn y < 0)=false:=by rw [wJ hd];rfl
 clear hd b1C
 have aX:Below w.heap.size w w:=Below.refl _ _
 go_enter Tryz.func86,Tryz.ntmps86
 go_wp2_with fail
 obtain ⟨hA1,y1,z1,a2⟩:=bx3 w rfl [.bool b,.slice p n c] 28 [.bool d,.slice o m e] 28 [.bool false,.slice none 0 0,.bool false,.slice none 0 0] 30
 have e2:=(hv.below hA1).raw
 have f2:=(hu.below hA1).raw
 (with_reducible refine (EY _ _ (x) (y) _ e2 f2 (by omega) (by omega)).mono ?_)
 rintro e w1 ⟨v1,rfl,hi1,hb1⟩
 obtain ⟨g1,p1,n1,c1,rfl⟩:=hi1.form
 have dD:=(z1.to hb1)
 obtain ⟨p2,r2⟩:=dD.cs2
 have bF:=(y1.to hb1)
 have s0:=(bF).1
 have x0:=(dD).1
 have CV:=(a2.to hb1)
 have d1:=(CV).1
 go_wp2_with fail
 have iM:=((hu.below hA1).below hb1)
 obtain ⟨hA2,b2⟩:=bx1 w1 rfl [.bool g1,.slice p1 n1 c1] 28
 have g2:=(iM.below hA2).raw
 (with_reducible refine (mP _ (y) _ g2 (by omega)).mono ?_)
 rintro e w2 ⟨rfl,hb2⟩
 have bV:=((bF.to hA2).to hb2)
 obtain ⟨n2,o2⟩:=bV.cs2
 have k1:=(b2.to hb2)
 obtain ⟨q1,s1⟩:=k1.cs2
 go_wp2_with fail
 have vZ:=((((hv.below hA1).below hb1).below hA2).below hb2)
 have h2:=vZ.raw
 have j1:=((hi1.below hA2).below hb2)
 have i2:=j1.raw
 (with_reducible refine (pY _ _ (x) ((Int.gcd (x) (y):Int)) _ h2 i2 (by omega) hlg hg0).mono ?_)
 rintro e w3 ⟨v3,u3,rfl,hi3,hj3,hb3⟩
 obtain ⟨g3,p3,n3,c3,rfl⟩:=hi3.form
 obtain ⟨h3,o3,m3,e3,rfl⟩:=hj3.form
 have lV:=(((dD.to hA2).to hb2).to hb3)
 obtain ⟨q2,s2⟩:=lV.cs2
 have a0:=(k1.to hb3)
 obtain ⟨r1,t1⟩:=a0.cs2
 have gJ:=(bV.to hb3)
 have t0:=(gJ).1
 have y0:=(lV).1
 have BH:=(((CV.to hA2).to hb2).to hb3)
 have e1:=(BH).1
 have k0:=(a0).1
 obtain ⟨hA3,t2⟩:=bx1 w3 rfl [.bool false,.slice none 0 0] 28
 have u0:=((gJ.to hA3)).1
 have z0:=((lV.to hA3)).1
 have f1:=((BH.to hA3)).1
 have l0:=((a0.to hA3)).1
 go_wp2_with fail
 have EH:=(((iM.below hA2).below hb2).below hb3)
 obtain ⟨hA4,c2,d2⟩:=bx2 w3 rfl [.bool g3,.slice p3 n3 c3] 28 [.bool h3,.slice o3 m3 e3] 28
 have j2:=(EH.below hA4).raw
 have l2:=(j1.below hb3)
 have k2:=(l2.below hA4).raw
 (with_reducible refine (pY _ _ (y) ((Int.gcd (x) (y):Int)) _ j2 k2 (by omega) hlg hg0).mono ?_)
 rintro e w4 ⟨v4,u4,rfl,hi4,hj4,hb4⟩
 obtain ⟨g4,p4,n4,c4,rfl⟩:=hi4.form
 obtain ⟨h4,o4,m4,e4,rfl⟩:=hj4.form
 have j0:=(c2.to hb4)
 obtain ⟨u1,x1⟩:=j0.cs2
 have lF:=((BH.to hA4).to hb4)
 obtain ⟨b0,f0,c0,g0,d0,h0,e0,i0⟩:=lF.cf4
 have jO:=((gJ.to hA4).to hb4)
 have v0:=(jO).1
 have jK:=((lV.to hA4).to hb4)
 have a1:=(jK).1
 have h1:=(lF).1
 have l1:=((a0.to hA4).to hb4)
 have m0:=(l1).1
 have o0:=(j0).1
 have m1:=(d2.to hb4)
 have q0:=(m1).1
 obtain ⟨hA5,u2⟩:=bx1 w4 rfl [.bool false,.slice none 0 0] 28
 have w0:=((jO.to hA5)).1
 have b1:=((jK.to hA5)).1
 have i1:=((lF.to hA5)).1
 have n0:=((l1.to hA5)).1
 have p0:=((j0.to hA5)).1
 have r0:=((m1.to hA5)).1
 obtain ⟨hA6,v2,x2⟩:=bx2 w4 rfl [.bool g4,.slice p4 n4 c4] 28 [.bool h4,.slice o4 m4 e4] 28
 have m2:=((hi3.below hA4).below hb4)
 obtain ⟨hA7,y2,z2⟩:=bx2 ((((w4.setCell ⟨w.heap.size+1+1,0,none⟩ (.bool g3)).setCell ⟨w.heap.size+1+1,1,none⟩ (.slice p3 n3 c3)).setCell ⟨w.heap.size+1+1,2,none⟩ (.bool g4)).setCell ⟨w.heap.size+1+1,3,none⟩ (.slice p4 n4 c4)) (by simp:_=w4.heap.size) [.bool g4,.slice p4 n4 c4] 28 [.bool h4,.slice o4 m4 e4] 28
 have o1:=(Below.tr (Below.tr (Below.tr (Below.tr (Below.tr (Below.tr (Below.tr aX hA1) hb1) hA2) hb2) hb3) hA4) hb4)
 go_wp2_with fail
 exact bodyPost_ret (v:=.agg #[.bool g3,.slice p3 n3 c3,.bool g4,.slice p4 n4 c4]) (by simp [results,Tryz.results86,go_sem,s0,x0,d1,t0,y0,e1,k0,u0,z0,f1,l0,v0,a1,h1,m0,o0,q0,w0,b1,i1,n0,p0,r0,b0,f0,c0,g0,d0,h0,e0,i0]) rfl ⟨_,rfl,RQ.mk' ((m2.aQ lF rfl rfl rfl rfl (.bool g3) (.slice p3 n3 c3) (.bool g4) (.slice p4 n4 c4)).below hA7) ((hi4.aQ lF rfl rfl rfl rfl (.bool g3) (.slice p3 n3 c3) (.bool g4) (.slice p4 n4 c4)).below hA7) HX.out.1 HX.out.2,(Below.tr (Below.aQ o1 (b:=w.heap.size+1+1) (by omega) (.bool g3) (.slice p3 n3 c3) (.bool g4) (.slice p4 n4 c4)) hA7)⟩
theorem QD (v u:Value) (x y:Int) (w:World) (hv:bU w v x) (hu:bU w u y) (hl:isz x≤400000000) (hl2:isz y≤400000000) (hd:y < 0) :
  Calls Tryz.prog 86 #[v,u] w (GQ (Rat.divInt x y) w):=by
 obtain ⟨b,p,n,c,rfl⟩:=hv.form
 obtain ⟨d,o,m,e,rfl⟩:=hu.form
 have HX:=Lib.hid (a5F (n:=x) hd)
 have b1F:isz ((Int.gcd x y:Nat):Int)≤400000000:=oN (by omega) hl2
 have hlh:isz ((Int.gcd x y:Nat):Int)≤1000000000:=by omega
 have hlg:isz (-((Int.gcd x y:Nat):Int))≤400000000:=by rw [lZ];exact b1F
 have b1C:((Int.gcd x y:Nat):Int) ≠ 0:=gcd_ne (by omega)
 have hg0:(-((Int.gcd x y:Nat):Int)) ≠ 0:=by omega
 have hsg:decide (sgn y < 0)=true:=by rw [FC hd];rfl
 clear hd b1C
 have aX:Below w.heap.size w w:=Below.refl _ _
 go_enter Tryz.func86,Tryz.ntmps86
 go_wp2_with fail
 obtain ⟨hA1,c2,d2,e2⟩:=bx3 w rfl [.bool b,.slice p n c] 28 [.bool d,.slice o m e] 28 [.bool false,.slice none 0 0,.bool false,.slice none 0 0] 30
 have i2:=(hv.below hA1).raw
 have j2:=(hu.below hA1).raw
 (with_reducible refine (EY _ _ (x) (y) _ i2 j2 (by omega) (by omega)).mono ?_)
 rintro e w1 ⟨v1,rfl,hi1,hb1⟩
 obtain ⟨g1,p1,n1,c1,rfl⟩:=hi1.form
 have dD:=(d2.to hb1)
 obtain ⟨v2,y2⟩:=dD.cs2
 have bF:=(c2.to hb1)
 have x0:=(bF).1
 have d1:=(dD).1
 have CV:=(e2.to hb1)
 have j1:=(CV).1
 go_wp2_with fail
 have iM:=((hu.below hA1).below hb1)
 obtain ⟨hA2,f2⟩:=bx1 w1 rfl [.bool g1,.slice p1 n1 c1] 28
 have k2:=(iM.below hA2).raw
 (with_reducible refine (mP _ (y) _ k2 (by omega)).mono ?_)
 rintro e w2 ⟨rfl,hb2⟩
 have q1:=(f2.to hb2)
 obtain ⟨u1,y1⟩:=q1.cs2
 go_wp2_with fail
 have q2:=((hi1.below hA2).below hb2)
 have l2:=q2.raw
 (with_reducible refine (EZ _ ((Int.gcd (x) (y):Int)) _ l2 hlh).mono ?_)
 rintro e w3 ⟨v3,rfl,hi3,hb3⟩
 obtain ⟨g3,p3,n3,c3,rfl⟩:=hi3.form
 have a0:=(q1.to hb3)
 obtain ⟨c0,e0,d0,f0⟩:=a0.cf2
 have gJ:=(((bF.to hA2).to hb2).to hb3)
 obtain ⟨t2,u2⟩:=gJ.cs2
 go_wp2_with fail
 have yK:=(((((hv.below hA1).below hb1).below hA2).below hb2).below hb3)
 have m2:=(yK.aC a0 rfl rfl (.bool g3) (.slice p3 n3 c3)).raw
 have n2:=(hi3.aC a0 rfl rfl (.bool g3) (.slice p3 n3 c3)).raw
 (with_reducible refine (pY _ _ (x) (-(((Int.gcd (x) (y):Int)))) _ m2 n2 (by omega) hlg hg0).mono ?_)
 rintro e w4 ⟨v4,u4,rfl,hi4,hj4,hb4⟩
 obtain ⟨g4,p4,n4,c4,rfl⟩:=hi4.form
 obtain ⟨h4,o4,m4,e4,rfl⟩:=hj4.form
 have jK:=(((((dD.to hA2).to hb2).to hb3).aH (b:=w1.heap.size) (by omega) (.bool g3) (.slice p3 n3 c3)).to hb4)
 obtain ⟨x2,z2⟩:=jK.cs2
 have b0:=((a0.store2 (.bool g3) (.slice p3 n3 c3)).to hb4)
 obtain ⟨x1,z1⟩:=b0.cs2
 have jO:=((gJ.aH (b:=w1.heap.size) (by omega) (.bool g3) (.slice p3 n3 c3)).to hb4)
 have y0:=(jO).1
 have e1:=(jK).1
 have lF:=(((((CV.to hA2).to hb2).to hb3).aH (b:=w1.heap.size) (by omega) (.bool g3) (.slice p3 n3 c3)).to hb4)
 have k1:=(lF).1
 have p0:=(b0).1
 obtain ⟨hA3,a3⟩:=bx1 w4 rfl [.bool false,.slice none 0 0] 28
 have z0:=((jO.to hA3)).1
 have f1:=((jK.to hA3)).1
 have l1:=((lF.to hA3)).1
 have q0:=((b0.to hA3)).1
 go_wp2_with fail
 have CO:=(((((iM.below hA2).below hb2).below hb3).aC a0 rfl rfl (.bool g3) (.slice p3 n3 c3)).below hb4)
 obtain ⟨hA4,g2,h2⟩:=bx2 w4 rfl [.bool g4,.slice p4 n4 c4] 28 [.bool h4,.slice o4 m4 e4] 28
 have o2:=(CO.below hA4).raw
 have r2:=((hi3.aC a0 rfl rfl (.bool g3) (.slice p3 n3 c3)).below hb4)
 have p2:=(r2.below hA4).raw
 (with_reducible refine (pY _ _ (y) (-(((Int.gcd (x) (y):Int)))) _ o2 p2 (by omega) hlg hg0).mono ?_)
 rintro e w5 ⟨v5,u5,rfl,hi5,hj5,hb5⟩
 obtain ⟨g5,p5,n5,c5,rfl⟩:=hi5.form
 obtain ⟨h5,o5,m5,e5,rfl⟩:=hj5.form
 have o0:=(g2.to hb5)
 obtain ⟨a2,b2⟩:=o0.cs2
 have yV:=((lF.to hA4).to hb5)
 obtain ⟨g0,k0,h0,l0,i0,m0,j0,n0⟩:=yV.cf4
 have RY:=((jO.to hA4).to hb5)
 have a1:=(RY).1
 have a8j:=((jK.to hA4).to hb5)
 have h1:=(a8j).1
 have m1:=(yV).1
 have r1:=((b0.to hA4).to hb5)
 have r0:=(r1).1
 have t0:=(o0).1
 have s1:=(h2.to hb5)
 have v0:=(s1).1
 obtain ⟨hA5,b3⟩:=bx1 w5 rfl [.bool false,.slice none 0 0] 28
 have b1:=((RY.to hA5)).1
 have i1:=((a8j.to hA5)).1
 have o1:=((yV.to hA5)).1
 have s0:=((r1.to hA5)).1
 have u0:=((o0.to hA5)).1
 have w0:=((s1.to hA5)).1
 obtain ⟨hA6,d3,e3⟩:=bx2 w5 rfl [.bool g5,.slice p5 n5 c5] 28 [.bool h5,.slice o5 m5 e5] 28
 have s2:=((hi4.below hA4).below hb5)
 obtain ⟨hA7,f3,h3⟩:=bx2 ((((w5.setCell ⟨w.heap.size+1+1,0,none⟩ (.bool g4)).setCell ⟨w.heap.size+1+1,1,none⟩ (.slice p4 n4 c4)).setCell ⟨w.heap.size+1+1,2,none⟩ (.bool g5)).setCell ⟨w.heap.size+1+1,3,none⟩ (.slice p5 n5 c5)) (by simp:_=w5.heap.size) [.bool g5,.slice p5 n5 c5] 28 [.bool h5,.slice o5 m5 e5] 28
 have t1:=(Below.tr (Below.tr (Below.tr (Below.aC (Below.tr (Below.tr (Below.tr (Below.tr (Below.tr aX hA1) hb1) hA2) hb2) hb3) (b:=w1.heap.size) (by omega) (.bool g3) (.slice p3 n3 c3)) hb4) hA4) hb5)
 go_wp2_with fail
 exact bodyPost_ret (v:=.agg #[.bool g4,.slice p4 n4 c4,.bool g5,.slice p5 n5 c5]) (by simp [results,Tryz.results86,go_sem,x0,d1,j1,c0,e0,d0,f0,y0,e1,k1,p0,z0,f1,l1,q0,a1,h1,m1,r0,t0,v0,b1,i1,o1,s0,u0,w0,g0,k0,h0,l0,i0,m0,j0,n0]) rfl ⟨_,rfl,RQ.mk' ((s2.aQ yV rfl rfl rfl rfl (.bool g4) (.slice p4 n4 c4) (.bool g5) (.slice p5 n5 c5)).below hA7) ((hi5.aQ yV rfl rfl rfl rfl (.bool g4) (.slice p4 n4 c4) (.bool g5) (.slice p5 n5 c5)).below hA7) HX.out.1 HX.out.2,(Below.tr (Below.aQ t1 (b:=w.heap.size+1+1) (by omega) (.bool g4) (.slice p4 n4 c4) (.bool g5) (.slice p5 n5 c5)) hA7)⟩
theorem uO (v u:Value) (x y:Int) (w:World) (hv:bU w v x) (hu:bU w u y) (hl:isz x≤400000000) (hl2:isz y≤400000000) (hd:y ≠ 0) :
  Calls Tryz.prog 86 #[v,u] w (GQ (Rat.divInt x y) w):=by
 rcases Int.lt_trichotomy y 0 with h | h | h
 ·exact QD v u x y w hv hu hl hl2 h
 ·exact absurd h hd
 ·exact KP v u x y w hv hu hl hl2 h
end Go.Proofs.YtidfgdchcpmnfaaGreat
