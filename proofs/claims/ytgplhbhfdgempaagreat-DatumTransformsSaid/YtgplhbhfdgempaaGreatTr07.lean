/-
  Lemmas for the theorem vtransforms_holds, part 7 of 39.
-/
import Derived.Test.YtgplhbhfdgempaaGreatTr06
namespace Go.Proofs.YtgplhbhfdgempaaGreat
open Go Go.RowKit
set_option maxRecDepth 100000
set_option maxHeartbeats 2000000
set_option linter.unusedSimpArgs false
set_option linter.unusedVariables false
def ZH (q r:Int) (w:World) (e:Ending) (w':World):Prop:=∃ v1 v2,e=.returned (.tuple #[v1,v2,.int .i64 0])/\dR w' v1 q/\dR w' v2 r/\Below w.heap.size w w'
theorem qX {y:Int} (h:y≠0):dig y.natAbs≠[]:=fun e=>h (by have:=kF.1 e;omega)
theorem dX {w:World} {v:Value} {x y:Int} (h:dR w v x) (e:x=y):dR w v y:=e ▸ h
theorem a7k (v u:Value) (x y:Int) (w:World) (hv:Raw w v x) (hu:Raw w u y) (hl:isz x<=1000000000) (hl2:isz y<=1000000000) (hy:y≠0) (hr:x.natAbs%y.natAbs≠0) {b d:Bool} {p o:Option Addr} {n c m e:Nat} (ev:v=.agg #[.bool b,.slice p n c]) (eu:u=.agg #[.bool d,.slice o m e]) (hbd:(b != d)=false) :
  Calls Tryz.prog 174 #[v,u] w (ZH (x.fdiv y) (x.fmod y) w):=by
 subst ev
 subst eu
 have hx1:=yA hv
 have hy1:=yA hu
 have hyp:0<y.natAbs:=by omega
 have HX:Hid (sg false (val (dig (val (dig x.natAbs) / val (dig y.natAbs))))=x.fdiv y/\sg d (val (dig (val (dig x.natAbs)%val (dig y.natAbs))))=x.fmod y):=by
  unfold Hid
  simp only[aJ]
  obtain rfl:b=d:=by simpa using hbd
  have e1:=LZ b x.natAbs _ hyp
  rw[hx1,hy1] at e1
  rw[e1.1,e1.2]
  simp[sg]
 have hlx:(dig x.natAbs).length<=1000000000:=hl
 have hly:(dig y.natAbs).length<=1000000000:=hl2
 have hyn:=qX hy
 have hy0:0<(dig y.natAbs).length:=qp.2 hyn
 have a2e:Hid (val (dig (val (dig x.natAbs)%val (dig y.natAbs)))<=val (dig y.natAbs)):=by unfold Hid;simp only[aJ];exact Nat.le_of_lt (yg _ hyp)
 have hrl2:Hid ((dig (val (dig x.natAbs)%val (dig y.natAbs))).length<=(dig y.natAbs).length):=by unfold Hid;have:=aN a2e.out;simpa only[aJ] using this
 have hrl:Hid ((dig (val (dig x.natAbs)%val (dig y.natAbs))).length<=1000000000):=by have:=hrl2.out;unfold Hid;omega
 have hql:Hid ((dig (val (dig x.natAbs) / val (dig y.natAbs))).length<=1000000000):=by unfold Hid;simp only[aJ];exact jg (aN (Bf _ _)) hlx
 have hr0:0<(dig (val (dig x.natAbs)%val (dig y.natAbs))).length:=by simp only[aJ];exact qp.2 (fun e=>hr (kF.1 e))
 skip
 skip
 skip
 have hbd2:(!b==d)=false:=by rw[<-hbd];cases b<;>cases d<;>rfl
 clear hy hr hx1 hy1 hyp hl hl2
 have bZ:Below w.heap.size w w:=dn _ _
 go_enter Tryz.func174,Tryz.ntmps174
 go_wp2_with fail
 obtain⟨hA1,i0,j0,n0,o0⟩:=bx4 w rfl [.bool b,.slice p n c] 62 [.bool d,.slice o m e] 62 [.bool false,.slice none 0 0] 62 [.bool false,.slice none 0 0] 62
 have yG:=(aK.mk (i0.drew).bs2 (j0.drew).bs2)
 have tk1:True:=trivial
 have tk2:True:=trivial
 go_region_held3 (aK (BS2 w.heap.size (.bool b) (.slice p n c)) (BS2 (w.heap.size+1) (.bool d) (.slice o m e))) (first|with_reducible exact yG|with_reducible exact iC.go (aK.hk BS2.hk BS2.hk) (by assumption) (by assumption)|(simp;done))
  (first
   | (((have:=tk1);clear tk1;have p0:=(hv.below hA1).drew;go_at_call 153;(with_reducible refine(fG _ (x) _ p0).mono ?_);rintro e w1 ⟨s1,rfl,hs1,hb1⟩;obtain⟨p1,c1,rfl,a2c,a2d⟩:=hs1.form))
   | (((have:=tk2);clear tk2;have jZ:=((hu.below hA1).drew.below hb1);have q0:=jZ;go_at_call 153;(with_reducible refine(fG _ (y) _ q0).mono ?_);rintro e w2 ⟨s2,rfl,hs2,hb2⟩;obtain⟨p2,c2,rfl,b2X,b3a⟩:=hs2.form)))
 go_wp2_with fail
 have x0:=(hs1.below hb2)
 have r0:=x0
 have s0:=hs2
 (with_reducible refine(uZ _ _ _ _ _ r0 s0 (cZ _) (cZ _) hlx hyn).mono ?_)
 rintro e w3 ⟨s3,t3,rfl,hs3,ht3,hb3⟩
 obtain⟨p3,c3,rfl,VX,VY⟩:=hs3.form
 obtain⟨o3,d3,rfl,hlo3,a0q⟩:=ht3.form
 go_wp2_with fail
 have t0:=ht3
 (with_reducible refine(clone_any _ _ _ t0 (by have:=hrl.out;omega)).mono ?_)
 rintro e w4 ⟨s4,rfl,ho4,hb4⟩
 have hs4:=Rd.dO ho4
 obtain⟨p4,c4,rfl,a9K,a9N⟩:=hs4.form
 have mV:=((((i0.drew.to hb1).to hb2).to hb3).to hb4)
 obtain⟨a1,b1⟩:=mV.cs2
 have kR:=((((j0.drew.to hb1).to hb2).to hb3).to hb4)
 obtain⟨d1,f1⟩:=kR.cs2
 go_wp2_with fail
 have xY:=((((o0.drew.to hb1).to hb2).to hb3).to hb4)
 have LP:=(aK.mk (mV.drew).bs2 (aK.mk (kR.drew).bs2 (BN.of (xY.drew))))
 have k0:dQ (w.heap.size+1+1) (aK (BS2 w.heap.size (.bool b) (.slice p n c)) (aK (BS2 (w.heap.size+1) (.bool d) (.slice o m e)) (BN (w.heap.size+1+1+1)))):=(aK.hc (BS2.hc (by omega)) (aK.hc (BS2.hc (by omega)) BN.hc))
 have l0:dQ (w.heap.size+1+1+1) (aK (BS2 w.heap.size (.bool b) (.slice p n c)) (aK (BS2 (w.heap.size+1) (.bool d) (.slice o m e)) (BN (w.heap.size+1+1+1)))):=(aK.hc (BS2.hc (by omega)) (aK.hc (BS2.hc (by omega)) BN.hc))
 have tk3:True:=trivial
 have tk4:True:=trivial
 go_region_held3 (aK (BS2 w.heap.size (.bool b) (.slice p n c)) (aK (BS2 (w.heap.size+1) (.bool d) (.slice o m e)) (BN (w.heap.size+1+1+1)))) (first|with_reducible exact LP|with_reducible exact iC.go (aK.hk BS2.hk (aK.hk BS2.hk BN.hk)) (by assumption) (by assumption)|with_reducible exact dQ.go2 k0 (by assumption)|with_reducible exact dQ.go2 l0 (by assumption)|(simp;done))
  (first
   | (((have:=tk3);clear tk3;have y0:=(hs3.below hb4);have u0:=y0.drew;go_at_call 158;(with_reducible refine(jB _ _ _ _ u0 (dB _)).mono ?_);rintro e w5 ⟨v5,rfl,hi5,hb5⟩;obtain⟨g5,p5,n5,c5,rfl⟩:=hi5.form))
   | (((have:=tk4);clear tk4;have z0:=(hs4.drew.below hb5);have v0:=z0;go_at_call 158;(with_reducible refine(jB _ _ _ _ v0 (dB _)).mono ?_);rintro e w6 ⟨v6,rfl,hi6,hb6⟩;obtain⟨g6,p6,n6,c6,rfl⟩:=hi6.form;have sH:=((((((n0.drew.to hb1).to hb2).to hb3).to hb4).drew.to hb5).to hb6);obtain⟨a0,c0,b0,d0⟩:=sH.cf2;have vO:=((xY.drew.to hb5).to hb6);obtain⟨e0,g0,f0,h0⟩:=vO.cf2)))
 have w0:=(hi5.below hb6)
 have m0:=(Below.tr (Below.tr (Below.tr (Below.tr (Below.tr (Below.tr (Below.tr bZ hA1).drew hb1) hb2) hb3) hb4).drew hb5) hb6)
 go_wp2_with fail
 exact jh (v:=.tuple #[.agg #[.bool g5,.slice p5 n5 c5],.agg #[.bool g6,.slice p6 n6 c6],.int .i64 0]) (by simp[results,Tryz.results174,go_sem,a0,c0,b0,d0,e0,g0,f0,h0]) rfl ⟨_,_,rfl,dX ((w0.aI sH rfl rfl (.bool g5) (.slice p5 n5 c5)).aI (vO.aO (b:=w.heap.size+1+1) (by omega) (.bool g5) (.slice p5 n5 c5)) rfl rfl (.bool g6) (.slice p6 n6 c6)) HX.out.1,dX ((hi6.aI sH rfl rfl (.bool g5) (.slice p5 n5 c5)).aI (vO.aO (b:=w.heap.size+1+1) (by omega) (.bool g5) (.slice p5 n5 c5)) rfl rfl (.bool g6) (.slice p6 n6 c6)) HX.out.2,(Below.aI (Below.aI m0 (b:=w.heap.size+1+1) (by omega) (.bool g5) (.slice p5 n5 c5)) (b:=w.heap.size+1+1+1) (by omega) (.bool g6) (.slice p6 n6 c6))⟩
theorem a7i (v u:Value) (x y:Int) (w:World) (hv:Raw w v x) (hu:Raw w u y) (hl:isz x<=1000000000) (hl2:isz y<=1000000000) (hy:y≠0) (hr:x.natAbs%y.natAbs≠0) {b d:Bool} {p o:Option Addr} {n c m e:Nat} (ev:v=.agg #[.bool b,.slice p n c]) (eu:u=.agg #[.bool d,.slice o m e]) (hbd:(b != d)=true) :
  Calls Tryz.prog 174 #[v,u] w (ZH (x.fdiv y) (x.fmod y) w):=by
 subst ev
 subst eu
 have hx1:=yA hv
 have hy1:=yA hu
 have hyp:0<y.natAbs:=by omega
 have HX:Hid (sg true (val (dig (val (dig (val (dig x.natAbs) / val (dig y.natAbs)))+val [1])))=x.fdiv y/\sg d (val (dig (val (dig y.natAbs)-val (dig (val (dig x.natAbs)%val (dig y.natAbs))))))=x.fmod y):=by
  unfold Hid
  simp only[aJ]
  have e1:=XG b d _ _ hyp hbd hr
  skip
  rw[hx1,hy1] at e1
  rw[e1.1,e1.2]
  simp[dH]
 have hlx:(dig x.natAbs).length<=1000000000:=hl
 have hly:(dig y.natAbs).length<=1000000000:=hl2
 have hyn:=qX hy
 have hy0:0<(dig y.natAbs).length:=qp.2 hyn
 have a2e:Hid (val (dig (val (dig x.natAbs)%val (dig y.natAbs)))<=val (dig y.natAbs)):=by unfold Hid;simp only[aJ];exact Nat.le_of_lt (yg _ hyp)
 have hrl2:Hid ((dig (val (dig x.natAbs)%val (dig y.natAbs))).length<=(dig y.natAbs).length):=by unfold Hid;have:=aN a2e.out;simpa only[aJ] using this
 have hrl:Hid ((dig (val (dig x.natAbs)%val (dig y.natAbs))).length<=1000000000):=by have:=hrl2.out;unfold Hid;omega
 have hql:Hid ((dig (val (dig x.natAbs) / val (dig y.natAbs))).length<=1000000000):=by unfold Hid;simp only[aJ];exact jg (aN (Bf _ _)) hlx
 have hr0:0<(dig (val (dig x.natAbs)%val (dig y.natAbs))).length:=by simp only[aJ];exact qp.2 (fun e=>hr (kF.1 e))
 skip
 skip
 skip
 have hbd2:(!b==d)=true:=by rw[<-hbd];cases b<;>cases d<;>rfl
 clear hy hr hx1 hy1 hyp hl hl2
 have bZ:Below w.heap.size w w:=dn _ _
 go_enter Tryz.func174,Tryz.ntmps174
 go_wp2_with fail
 obtain⟨hA1,m0,n0,r0,s0⟩:=bx4 w rfl [.bool b,.slice p n c] 62 [.bool d,.slice o m e] 62 [.bool false,.slice none 0 0] 62 [.bool false,.slice none 0 0] 62
 have yG:=(aK.mk (m0.drew).bs2 (n0.drew).bs2)
 have tk1:True:=trivial
 have tk2:True:=trivial
 go_region_held3 (aK (BS2 w.heap.size (.bool b) (.slice p n c)) (BS2 (w.heap.size+1) (.bool d) (.slice o m e))) (first|with_reducible exact yG|with_reducible exact iC.go (aK.hk BS2.hk BS2.hk) (by assumption) (by assumption)|(simp;done))
  (first
   | (((have:=tk1);clear tk1;have t0:=(hv.below hA1).drew;go_at_call 153;(with_reducible refine(fG _ (x) _ t0).mono ?_);rintro e w1 ⟨s1,rfl,hs1,hb1⟩;obtain⟨p1,c1,rfl,a2c,a2d⟩:=hs1.form))
   | (((have:=tk2);clear tk2;have jZ:=((hu.below hA1).drew.below hb1);have u0:=jZ;go_at_call 153;(with_reducible refine(fG _ (y) _ u0).mono ?_);rintro e w2 ⟨s2,rfl,hs2,hb2⟩;obtain⟨p2,c2,rfl,b2X,b3a⟩:=hs2.form)))
 go_wp2_with fail
 have h1:=(hs1.below hb2)
 have v0:=h1
 have w0:=hs2
 (with_reducible refine(uZ _ _ _ _ _ v0 w0 (cZ _) (cZ _) hlx hyn).mono ?_)
 rintro e w3 ⟨s3,t3,rfl,hs3,ht3,hb3⟩
 obtain⟨p3,c3,rfl,VX,VY⟩:=hs3.form
 obtain⟨o3,d3,rfl,hlo3,a0q⟩:=ht3.form
 go_wp2_with fail
 have x0:=ht3
 (with_reducible refine(clone_any _ _ _ x0 (by have:=hrl.out;omega)).mono ?_)
 rintro e w4 ⟨s4,rfl,ho4,hb4⟩
 have hs4:=Rd.dO ho4
 obtain⟨p4,c4,rfl,a9K,a9N⟩:=hs4.form
 have mV:=((((m0.drew.to hb1).to hb2).to hb3).to hb4)
 obtain⟨o1,q1⟩:=mV.cs2
 have kR:=((((n0.drew.to hb1).to hb2).to hb3).to hb4)
 obtain⟨r1,t1⟩:=kR.cs2
 have i0:=(mV).1
 have j0:=(kR).1
 have oV:=((((r0.drew.to hb1).to hb2).to hb3).to hb4)
 have k0:=(oV).1
 have xY:=((((s0.drew.to hb1).to hb2).to hb3).to hb4)
 have l0:=(xY).1
 have n1:Rd (w4.alloc (.cells #[.int .u32 1] 133)) (.slice (some ⟨w4.heap.size,0,none⟩) 1 1) [1]:=(by simpa using a0E w4 1)
 go_wp2_with fail
 have j1:=(hs3.below hb4)
 obtain⟨hA2,u1⟩:=bx1 w4 rfl [.int .u32 1] 133
 have y0:=(j1.below hA2)
 have z0:=n1
 (with_reducible refine(a2G _ _ _ _ _ y0 z0 (dB _) (Low.cons.2 ⟨a8s,Low.nil⟩) (by have:=hql.out;omega) (by simp)).mono ?_)
 rintro e w5 ⟨s5,rfl,ho5,hb5⟩
 have hs5:=Rd.dO ho5
 obtain⟨p5,c5,rfl,c4u,c4w⟩:=hs5.form
 go_wp2_with fail
 have i1:=((((hs2.below hb3).below hb4).below hA2).below hb5)
 have a1:=i1
 have k1:=((hs4.below hA2).below hb5)
 have b1:=k1
 (with_reducible refine(MX _ _ _ _ _ a1 b1 (dB _) (dB _) (by omega) (by have:=hrl2.out;omega) (by have:=a2e.out;omega)).mono ?_)
 rintro e w6 ⟨s6,rfl,ho6,hb6⟩
 have hs6:=Rd.dO ho6
 obtain⟨p6,c6,rfl,c4v,c4x⟩:=hs6.form
 go_wp2_with fail
 have b0P:=(((mV.to hA2).to hb5).to hb6)
 have a4u:=(((kR.to hA2).to hb5).to hb6)
 have vO:=(((xY.to hA2).to hb5).to hb6)
 have LP:=(aK.mk (b0P.drew).bs2 (aK.mk (a4u.drew).bs2 (BN.of (vO.drew))))
 have o0:dQ (w.heap.size+1+1) (aK (BS2 w.heap.size (.bool b) (.slice p n c)) (aK (BS2 (w.heap.size+1) (.bool d) (.slice o m e)) (BN (w.heap.size+1+1+1)))):=(aK.hc (BS2.hc (by omega)) (aK.hc (BS2.hc (by omega)) BN.hc))
 have p0:dQ (w.heap.size+1+1+1) (aK (BS2 w.heap.size (.bool b) (.slice p n c)) (aK (BS2 (w.heap.size+1) (.bool d) (.slice o m e)) (BN (w.heap.size+1+1+1)))):=(aK.hc (BS2.hc (by omega)) (aK.hc (BS2.hc (by omega)) BN.hc))
 have tk3:True:=trivial
 have tk4:True:=trivial
 go_region_held3 (aK (BS2 w.heap.size (.bool b) (.slice p n c)) (aK (BS2 (w.heap.size+1) (.bool d) (.slice o m e)) (BN (w.heap.size+1+1+1)))) (first|with_reducible exact LP|with_reducible exact iC.go (aK.hk BS2.hk (aK.hk BS2.hk BN.hk)) (by assumption) (by assumption)|with_reducible exact dQ.go2 o0 (by assumption)|with_reducible exact dQ.go2 p0 (by assumption)|(simp;done))
  (first
   | (((have:=tk3);clear tk3;have l1:=(hs5.below hb6);have d1:=l1.drew;go_at_call 158;(with_reducible refine(jB _ _ _ _ d1 (dB _)).mono ?_);rintro e w7 ⟨v7,rfl,hi7,hb7⟩;obtain⟨g7,p7,n7,c7,rfl⟩:=hi7.form))
   | (((have:=tk4);clear tk4;have m1:=(hs6.drew.below hb7);have f1:=m1;go_at_call 158;(with_reducible refine(jB _ _ _ _ f1 (dB _)).mono ?_);rintro e w8 ⟨v8,rfl,hi8,hb8⟩;obtain⟨g8,p8,n8,c8,rfl⟩:=hi8.form;have a4v:=(((((oV.to hA2).to hb5).to hb6).drew.to hb7).to hb8);obtain⟨a0,c0,b0,d0⟩:=a4v.cf2;have a4w:=((vO.drew.to hb7).to hb8);obtain⟨e0,g0,f0,h0⟩:=a4w.cf2)))
 have g1:=(hi7.below hb8)
 have q0:=(Below.tr (Below.tr (Below.tr (Below.tr (Below.tr (Below.tr (Below.tr (Below.tr (Below.tr (Below.tr bZ hA1).drew hb1) hb2) hb3) hb4) hA2) hb5) hb6).drew hb7) hb8)
 go_wp2_with fail
 exact jh (v:=.tuple #[.agg #[.bool g7,.slice p7 n7 c7],.agg #[.bool g8,.slice p8 n8 c8],.int .i64 0]) (by simp[results,Tryz.results174,go_sem,i0,j0,k0,l0,a0,c0,b0,d0,e0,g0,f0,h0]) rfl ⟨_,_,rfl,dX ((g1.aI a4v rfl rfl (.bool g7) (.slice p7 n7 c7)).aI (a4w.aO (b:=w.heap.size+1+1) (by omega) (.bool g7) (.slice p7 n7 c7)) rfl rfl (.bool g8) (.slice p8 n8 c8)) HX.out.1,dX ((hi8.aI a4v rfl rfl (.bool g7) (.slice p7 n7 c7)).aI (a4w.aO (b:=w.heap.size+1+1) (by omega) (.bool g7) (.slice p7 n7 c7)) rfl rfl (.bool g8) (.slice p8 n8 c8)) HX.out.2,(Below.aI (Below.aI q0 (b:=w.heap.size+1+1) (by omega) (.bool g7) (.slice p7 n7 c7)) (b:=w.heap.size+1+1+1) (by omega) (.bool g8) (.slice p8 n8 c8))⟩
theorem a7j (v u:Value) (x y:Int) (w:World) (hv:Raw w v x) (hu:Raw w u y) (hl:isz x<=1000000000) (hl2:isz y<=1000000000) (hy:y≠0) (hr:x.natAbs%y.natAbs=0) {b d:Bool} {p o:Option Addr} {n c m e:Nat} (ev:v=.agg #[.bool b,.slice p n c]) (eu:u=.agg #[.bool d,.slice o m e]) (hbd:(b != d)=false) :
  Calls Tryz.prog 174 #[v,u] w (ZH (x.fdiv y) (x.fmod y) w):=by
 subst ev
 subst eu
 have hx1:=yA hv
 have hy1:=yA hu
 have hyp:0<y.natAbs:=by omega
 have HX:Hid (sg false (val (dig (val (dig x.natAbs) / val (dig y.natAbs))))=x.fdiv y/\sg d (val (dig (val (dig x.natAbs)%val (dig y.natAbs))))=x.fmod y):=by
  unfold Hid
  simp only[aJ]
  obtain rfl:b=d:=by simpa using hbd
  have e1:=LZ b x.natAbs _ hyp
  rw[hx1,hy1] at e1
  rw[e1.1,e1.2]
  simp[sg]
 have hlx:(dig x.natAbs).length<=1000000000:=hl
 have hly:(dig y.natAbs).length<=1000000000:=hl2
 have hyn:=qX hy
 have hy0:0<(dig y.natAbs).length:=qp.2 hyn
 have a2e:Hid (val (dig (val (dig x.natAbs)%val (dig y.natAbs)))<=val (dig y.natAbs)):=by unfold Hid;simp only[aJ];exact Nat.le_of_lt (yg _ hyp)
 have hrl2:Hid ((dig (val (dig x.natAbs)%val (dig y.natAbs))).length<=(dig y.natAbs).length):=by unfold Hid;have:=aN a2e.out;simpa only[aJ] using this
 have hrl:Hid ((dig (val (dig x.natAbs)%val (dig y.natAbs))).length<=1000000000):=by have:=hrl2.out;unfold Hid;omega
 have hql:Hid ((dig (val (dig x.natAbs) / val (dig y.natAbs))).length<=1000000000):=by unfold Hid;simp only[aJ];exact jg (aN (Bf _ _)) hlx
 have SY:(dig (val (dig x.natAbs)%val (dig y.natAbs))).length=0:=by simp only[aJ];rw[hr,dY];rfl
 have hr1:decide (0<(dig (val (dig x.natAbs)%val (dig y.natAbs))).length)=false:=by simp only[SY];rfl
 have hr2:decide ((0:Int)<((dig (val (dig x.natAbs)%val (dig y.natAbs))).length:Int))=false:=by simp only[SY];rfl
 clear SY
 have hbd2:(!b==d)=false:=by rw[<-hbd];cases b<;>cases d<;>rfl
 clear hy hr hx1 hy1 hyp hl hl2
 have bZ:Below w.heap.size w w:=dn _ _
 go_enter Tryz.func174,Tryz.ntmps174
 go_wp2_with fail
 obtain⟨hA1,i0,j0,n0,o0⟩:=bx4 w rfl [.bool b,.slice p n c] 62 [.bool d,.slice o m e] 62 [.bool false,.slice none 0 0] 62 [.bool false,.slice none 0 0] 62
 have yG:=(aK.mk (i0.drew).bs2 (j0.drew).bs2)
 have tk1:True:=trivial
 have tk2:True:=trivial
 go_region_held3 (aK (BS2 w.heap.size (.bool b) (.slice p n c)) (BS2 (w.heap.size+1) (.bool d) (.slice o m e))) (first|with_reducible exact yG|with_reducible exact iC.go (aK.hk BS2.hk BS2.hk) (by assumption) (by assumption)|(simp;done))
  (first
   | (((have:=tk1);clear tk1;have p0:=(hv.below hA1).drew;go_at_call 153;(with_reducible refine(fG _ (x) _ p0).mono ?_);rintro e w1 ⟨s1,rfl,hs1,hb1⟩;obtain⟨p1,c1,rfl,a2c,a2d⟩:=hs1.form))
   | (((have:=tk2);clear tk2;have jZ:=((hu.below hA1).drew.below hb1);have q0:=jZ;go_at_call 153;(with_reducible refine(fG _ (y) _ q0).mono ?_);rintro e w2 ⟨s2,rfl,hs2,hb2⟩;obtain⟨p2,c2,rfl,b2X,b3a⟩:=hs2.form)))
 go_wp2_with fail
 have x0:=(hs1.below hb2)
 have r0:=x0
 have s0:=hs2
 (with_reducible refine(uZ _ _ _ _ _ r0 s0 (cZ _) (cZ _) hlx hyn).mono ?_)
 rintro e w3 ⟨s3,t3,rfl,hs3,ht3,hb3⟩
 obtain⟨p3,c3,rfl,VX,VY⟩:=hs3.form
 obtain⟨o3,d3,rfl,hlo3,a0q⟩:=ht3.form
 go_wp2_with fail
 have t0:=ht3
 (with_reducible refine(clone_any _ _ _ t0 (by have:=hrl.out;omega)).mono ?_)
 rintro e w4 ⟨s4,rfl,ho4,hb4⟩
 have hs4:=Rd.dO ho4
 obtain⟨p4,c4,rfl,a9K,a9N⟩:=hs4.form
 go_wp2_with fail
 have mV:=((((i0.drew.to hb1).to hb2).to hb3).to hb4)
 have kR:=((((j0.drew.to hb1).to hb2).to hb3).to hb4)
 have xY:=((((o0.drew.to hb1).to hb2).to hb3).to hb4)
 have LP:=(aK.mk (mV.drew).bs2 (aK.mk (kR.drew).bs2 (BN.of (xY.drew))))
 have k0:dQ (w.heap.size+1+1) (aK (BS2 w.heap.size (.bool b) (.slice p n c)) (aK (BS2 (w.heap.size+1) (.bool d) (.slice o m e)) (BN (w.heap.size+1+1+1)))):=(aK.hc (BS2.hc (by omega)) (aK.hc (BS2.hc (by omega)) BN.hc))
 have l0:dQ (w.heap.size+1+1+1) (aK (BS2 w.heap.size (.bool b) (.slice p n c)) (aK (BS2 (w.heap.size+1) (.bool d) (.slice o m e)) (BN (w.heap.size+1+1+1)))):=(aK.hc (BS2.hc (by omega)) (aK.hc (BS2.hc (by omega)) BN.hc))
 have tk3:True:=trivial
 have tk4:True:=trivial
 go_region_held3 (aK (BS2 w.heap.size (.bool b) (.slice p n c)) (aK (BS2 (w.heap.size+1) (.bool d) (.slice o m e)) (BN (w.heap.size+1+1+1)))) (first|with_reducible exact LP|with_reducible exact iC.go (aK.hk BS2.hk (aK.hk BS2.hk BN.hk)) (by assumption) (by assumption)|with_reducible exact dQ.go2 k0 (by assumption)|with_reducible exact dQ.go2 l0 (by assumption)|(simp;done))
  (first
   | (((have:=tk3);clear tk3;have y0:=(hs3.below hb4);have u0:=y0.drew;go_at_call 158;(with_reducible refine(jB _ _ _ _ u0 (dB _)).mono ?_);rintro e w5 ⟨v5,rfl,hi5,hb5⟩;obtain⟨g5,p5,n5,c5,rfl⟩:=hi5.form))
   | (((have:=tk4);clear tk4;have z0:=(hs4.drew.below hb5);have v0:=z0;go_at_call 158;(with_reducible refine(jB _ _ _ _ v0 (dB _)).mono ?_);rintro e w6 ⟨v6,rfl,hi6,hb6⟩;obtain⟨g6,p6,n6,c6,rfl⟩:=hi6.form;have sH:=((((((n0.drew.to hb1).to hb2).to hb3).to hb4).drew.to hb5).to hb6);obtain⟨a0,c0,b0,d0⟩:=sH.cf2;have vO:=((xY.drew.to hb5).to hb6);obtain⟨e0,g0,f0,h0⟩:=vO.cf2)))
 have w0:=(hi5.below hb6)
 have m0:=(Below.tr (Below.tr (Below.tr (Below.tr (Below.tr (Below.tr (Below.tr bZ hA1).drew hb1) hb2) hb3) hb4).drew hb5) hb6)
 go_wp2_with fail
 exact jh (v:=.tuple #[.agg #[.bool g5,.slice p5 n5 c5],.agg #[.bool g6,.slice p6 n6 c6],.int .i64 0]) (by simp[results,Tryz.results174,go_sem,a0,c0,b0,d0,e0,g0,f0,h0]) rfl ⟨_,_,rfl,dX ((w0.aI sH rfl rfl (.bool g5) (.slice p5 n5 c5)).aI (vO.aO (b:=w.heap.size+1+1) (by omega) (.bool g5) (.slice p5 n5 c5)) rfl rfl (.bool g6) (.slice p6 n6 c6)) HX.out.1,dX ((hi6.aI sH rfl rfl (.bool g5) (.slice p5 n5 c5)).aI (vO.aO (b:=w.heap.size+1+1) (by omega) (.bool g5) (.slice p5 n5 c5)) rfl rfl (.bool g6) (.slice p6 n6 c6)) HX.out.2,(Below.aI (Below.aI m0 (b:=w.heap.size+1+1) (by omega) (.bool g5) (.slice p5 n5 c5)) (b:=w.heap.size+1+1+1) (by omega) (.bool g6) (.slice p6 n6 c6))⟩
theorem a7h (v u:Value) (x y:Int) (w:World) (hv:Raw w v x) (hu:Raw w u y) (hl:isz x<=1000000000) (hl2:isz y<=1000000000) (hy:y≠0) (hr:x.natAbs%y.natAbs=0) {b d:Bool} {p o:Option Addr} {n c m e:Nat} (ev:v=.agg #[.bool b,.slice p n c]) (eu:u=.agg #[.bool d,.slice o m e]) (hbd:(b != d)=true) :
  Calls Tryz.prog 174 #[v,u] w (ZH (x.fdiv y) (x.fmod y) w):=by
 subst ev
 subst eu
 have hx1:=yA hv
 have hy1:=yA hu
 have hyp:0<y.natAbs:=by omega
 have HX:Hid (sg true (val (dig (val (dig x.natAbs) / val (dig y.natAbs))))=x.fdiv y/\sg d (val (dig (val (dig x.natAbs)%val (dig y.natAbs))))=x.fmod y):=by
  unfold Hid
  simp only[aJ]
  have e1:=SA b d _ _ hyp hbd hr
  skip
  rw[hx1,hy1] at e1
  rw[e1.1,e1.2]
  simp[sg,hr]
 have hlx:(dig x.natAbs).length<=1000000000:=hl
 have hly:(dig y.natAbs).length<=1000000000:=hl2
 have hyn:=qX hy
 have hy0:0<(dig y.natAbs).length:=qp.2 hyn
 have a2e:Hid (val (dig (val (dig x.natAbs)%val (dig y.natAbs)))<=val (dig y.natAbs)):=by unfold Hid;simp only[aJ];exact Nat.le_of_lt (yg _ hyp)
 have hrl2:Hid ((dig (val (dig x.natAbs)%val (dig y.natAbs))).length<=(dig y.natAbs).length):=by unfold Hid;have:=aN a2e.out;simpa only[aJ] using this
 have hrl:Hid ((dig (val (dig x.natAbs)%val (dig y.natAbs))).length<=1000000000):=by have:=hrl2.out;unfold Hid;omega
 have hql:Hid ((dig (val (dig x.natAbs) / val (dig y.natAbs))).length<=1000000000):=by unfold Hid;simp only[aJ];exact jg (aN (Bf _ _)) hlx
 have SY:(dig (val (dig x.natAbs)%val (dig y.natAbs))).length=0:=by simp only[aJ];rw[hr,dY];rfl
 have hr1:decide (0<(dig (val (dig x.natAbs)%val (dig y.natAbs))).length)=false:=by simp only[SY];rfl
 have hr2:decide ((0:Int)<((dig (val (dig x.natAbs)%val (dig y.natAbs))).length:Int))=false:=by simp only[SY];rfl
 clear SY
 have hbd2:(!b==d)=true:=by rw[<-hbd];cases b<;>cases d<;>rfl
 clear hy hr hx1 hy1 hyp hl hl2
 have bZ:Below w.heap.size w w:=dn _ _
 go_enter Tryz.func174,Tryz.ntmps174
 go_wp2_with fail
 obtain⟨hA1,i0,j0,n0,o0⟩:=bx4 w rfl [.bool b,.slice p n c] 62 [.bool d,.slice o m e] 62 [.bool false,.slice none 0 0] 62 [.bool false,.slice none 0 0] 62
 have yG:=(aK.mk (i0.drew).bs2 (j0.drew).bs2)
 have tk1:True:=trivial
 have tk2:True:=trivial
 go_region_held3 (aK (BS2 w.heap.size (.bool b) (.slice p n c)) (BS2 (w.heap.size+1) (.bool d) (.slice o m e))) (first|with_reducible exact yG|with_reducible exact iC.go (aK.hk BS2.hk BS2.hk) (by assumption) (by assumption)|(simp;done))
  (first
   | (((have:=tk1);clear tk1;have p0:=(hv.below hA1).drew;go_at_call 153;(with_reducible refine(fG _ (x) _ p0).mono ?_);rintro e w1 ⟨s1,rfl,hs1,hb1⟩;obtain⟨p1,c1,rfl,a2c,a2d⟩:=hs1.form))
   | (((have:=tk2);clear tk2;have jZ:=((hu.below hA1).drew.below hb1);have q0:=jZ;go_at_call 153;(with_reducible refine(fG _ (y) _ q0).mono ?_);rintro e w2 ⟨s2,rfl,hs2,hb2⟩;obtain⟨p2,c2,rfl,b2X,b3a⟩:=hs2.form)))
 go_wp2_with fail
 have x0:=(hs1.below hb2)
 have r0:=x0
 have s0:=hs2
 (with_reducible refine(uZ _ _ _ _ _ r0 s0 (cZ _) (cZ _) hlx hyn).mono ?_)
 rintro e w3 ⟨s3,t3,rfl,hs3,ht3,hb3⟩
 obtain⟨p3,c3,rfl,VX,VY⟩:=hs3.form
 obtain⟨o3,d3,rfl,hlo3,a0q⟩:=ht3.form
 go_wp2_with fail
 have t0:=ht3
 (with_reducible refine(clone_any _ _ _ t0 (by have:=hrl.out;omega)).mono ?_)
 rintro e w4 ⟨s4,rfl,ho4,hb4⟩
 have hs4:=Rd.dO ho4
 obtain⟨p4,c4,rfl,a9K,a9N⟩:=hs4.form
 go_wp2_with fail
 have mV:=((((i0.drew.to hb1).to hb2).to hb3).to hb4)
 have kR:=((((j0.drew.to hb1).to hb2).to hb3).to hb4)
 have xY:=((((o0.drew.to hb1).to hb2).to hb3).to hb4)
 have LP:=(aK.mk (mV.drew).bs2 (aK.mk (kR.drew).bs2 (BN.of (xY.drew))))
 have k0:dQ (w.heap.size+1+1) (aK (BS2 w.heap.size (.bool b) (.slice p n c)) (aK (BS2 (w.heap.size+1) (.bool d) (.slice o m e)) (BN (w.heap.size+1+1+1)))):=(aK.hc (BS2.hc (by omega)) (aK.hc (BS2.hc (by omega)) BN.hc))
 have l0:dQ (w.heap.size+1+1+1) (aK (BS2 w.heap.size (.bool b) (.slice p n c)) (aK (BS2 (w.heap.size+1) (.bool d) (.slice o m e)) (BN (w.heap.size+1+1+1)))):=(aK.hc (BS2.hc (by omega)) (aK.hc (BS2.hc (by omega)) BN.hc))
 have tk3:True:=trivial
 have tk4:True:=trivial
 go_region_held3 (aK (BS2 w.heap.size (.bool b) (.slice p n c)) (aK (BS2 (w.heap.size+1) (.bool d) (.slice o m e)) (BN (w.heap.size+1+1+1)))) (first|with_reducible exact LP|with_reducible exact iC.go (aK.hk BS2.hk (aK.hk BS2.hk BN.hk)) (by assumption) (by assumption)|with_reducible exact dQ.go2 k0 (by assumption)|with_reducible exact dQ.go2 l0 (by assumption)|(simp;done))
  (first
   | (((have:=tk3);clear tk3;have y0:=(hs3.below hb4);have u0:=y0.drew;go_at_call 158;(with_reducible refine(jB _ _ _ _ u0 (dB _)).mono ?_);rintro e w5 ⟨v5,rfl,hi5,hb5⟩;obtain⟨g5,p5,n5,c5,rfl⟩:=hi5.form))
   | (((have:=tk4);clear tk4;have z0:=(hs4.drew.below hb5);have v0:=z0;go_at_call 158;(with_reducible refine(jB _ _ _ _ v0 (dB _)).mono ?_);rintro e w6 ⟨v6,rfl,hi6,hb6⟩;obtain⟨g6,p6,n6,c6,rfl⟩:=hi6.form;have sH:=((((((n0.drew.to hb1).to hb2).to hb3).to hb4).drew.to hb5).to hb6);obtain⟨a0,c0,b0,d0⟩:=sH.cf2;have vO:=((xY.drew.to hb5).to hb6);obtain⟨e0,g0,f0,h0⟩:=vO.cf2)))
 have w0:=(hi5.below hb6)
 have m0:=(Below.tr (Below.tr (Below.tr (Below.tr (Below.tr (Below.tr (Below.tr bZ hA1).drew hb1) hb2) hb3) hb4).drew hb5) hb6)
 go_wp2_with fail
 exact jh (v:=.tuple #[.agg #[.bool g5,.slice p5 n5 c5],.agg #[.bool g6,.slice p6 n6 c6],.int .i64 0]) (by simp[results,Tryz.results174,go_sem,a0,c0,b0,d0,e0,g0,f0,h0]) rfl ⟨_,_,rfl,dX ((w0.aI sH rfl rfl (.bool g5) (.slice p5 n5 c5)).aI (vO.aO (b:=w.heap.size+1+1) (by omega) (.bool g5) (.slice p5 n5 c5)) rfl rfl (.bool g6) (.slice p6 n6 c6)) HX.out.1,dX ((hi6.aI sH rfl rfl (.bool g5) (.slice p5 n5 c5)).aI (vO.aO (b:=w.heap.size+1+1) (by omega) (.bool g5) (.slice p5 n5 c5)) rfl rfl (.bool g6) (.slice p6 n6 c6)) HX.out.2,(Below.aI (Below.aI m0 (b:=w.heap.size+1+1) (by omega) (.bool g5) (.slice p5 n5 c5)) (b:=w.heap.size+1+1+1) (by omega) (.bool g6) (.slice p6 n6 c6))⟩
theorem yN (v u:Value) (x y:Int) (w:World) (hv:Raw w v x) (hu:Raw w u y) (hl:isz x<=1000000000) (hl2:isz y<=1000000000) (hy:y≠0) :
  Calls Tryz.prog 174 #[v,u] w (ZH (x.fdiv y) (x.fmod y) w):=by
 obtain⟨b,p,n,c,ev⟩:=hv.form
 obtain⟨d,o,m,e,eu⟩:=hu.form
 by_cases hr:x.natAbs%y.natAbs=0
 ·cases hbd:(b != d)
  ·exact a7j v u x y w hv hu hl hl2 hy hr ev eu hbd
  ·exact a7h v u x y w hv hu hl hl2 hy hr ev eu hbd
 ·cases hbd:(b != d)
  ·exact a7k v u x y w hv hu hl hl2 hy hr ev eu hbd
  ·exact a7i v u x y w hv hu hl hl2 hy hr ev eu hbd
set_option maxHeartbeats 4000000
theorem gcd_zero {l1:List Nat} {x y:Int} (h:Nat.gcd (val l1) (val ([]:List Nat))=Int.gcd x y):sg false (val l1)=((Int.gcd x y:Nat):Int):=by
 rw[<-h];simp[val,sg]
theorem uQ {a b g:Nat} (h:Nat.gcd a b=g):Nat.gcd b (a%b)=g:=by
 rw[<-h,Nat.gcd_comm a b,Nat.gcd_rec b a,Nat.gcd_comm]
theorem XJ (x y:Int):Hid (Nat.gcd (val (dig x.natAbs)) (val (dig y.natAbs))=Int.gcd x y):=by unfold Hid;rw[aJ,aJ];rfl
theorem ER {l:List Nat} (h:Canon l) (h2:l.length<=2):val l<=999999999999999999:=by
 have h1:=qH h.1
 have h3:BB ^ l.length<=BB ^ 2:=wz jL h2
 rw[dG] at h1 h3
 omega
theorem a0k (v u:Value) (x y:Int) (w:World) (hv:Raw w v x) (hu:Raw w u y) (hl:isz x<=1000000000) (hl2:isz y<=1000000000) :
  Calls Tryz.prog 143 #[v,u] w (sO ((Int.gcd x y:Nat):Int) w):=by
 obtain⟨b,p,n,c,rfl⟩:=hv.form
 obtain⟨d,o,m,e,rfl⟩:=hu.form
 have hlx:(dig x.natAbs).length<=1000000000:=hl
 have hly:(dig y.natAbs).length<=1000000000:=hl2
 clear hl hl2
 have bZ:Below w.heap.size w w:=dn _ _
 go_enter Tryz.func143,Tryz.ntmps143
 go_wp2_with fail
 obtain⟨hA1,o0,p0,q0⟩:=bx3 w rfl [.bool b,.slice p n c] 62 [.bool d,.slice o m e] 62 [.bool false,.slice none 0 0] 62
 have yG:=(aK.mk (o0.drew).bs2 (p0.drew).bs2)
 have tk1:True:=trivial
 have tk2:True:=trivial
 go_region_held3 (aK (BS2 w.heap.size (.bool b) (.slice p n c)) (BS2 (w.heap.size+1) (.bool d) (.slice o m e))) (first|with_reducible exact yG|with_reducible exact iC.go (aK.hk BS2.hk BS2.hk) (by assumption) (by assumption)|(simp;done))
  (first
   | (((have:=tk1);clear tk1;have a0:=(hv.below hA1).drew;go_at_call 153;(with_reducible refine(fG _ (x) _ a0).mono ?_);rintro e w1 ⟨s1,rfl,hs1,hb1⟩;obtain⟨p1,c1,rfl,a2c,a2d⟩:=hs1.form))
   | (((have:=tk2);clear tk2;have jZ:=((hu.below hA1).drew.below hb1);have b0:=jZ;go_at_call 153;(with_reducible refine(fG _ (y) _ b0).mono ?_);rintro e w2 ⟨s2,rfl,hs2,hb2⟩;obtain⟨p2,c2,rfl,b2X,b3a⟩:=hs2.form)))
 have s0:=(hs1.below hb2)
 have lS:=((q0.drew.to hb1).to hb2)
 have n0:=(Below.tr (Below.tr (Below.tr bZ hA1).drew hb1) hb2)
 go_wp2_with fail
 go_loopg [5,6,7,8,9,10,11,12,17,18,19,20,21,22,23,24,25,26,27,28,29,30,31,32,33,34,35,36,37,38,39,40,41,42,43,44,45,46,47,48,49,50] (val (dig y.natAbs)) (fun k a b _ _ _ _ _ _ _ _ _ _ _ _ _ _ _ _ _ _ _ _ _ _ _ _ _ _ _ _ _ _ _ _ _ _ _ _ _ _ _ _ wr=>∃ (l1 l2:List Nat) (pa pb:Option Addr) (ca cb:Nat),a=.slice pa l1.length ca/\b=.slice pb l2.length cb/\Rd wr (.slice pa l1.length ca) l1/\Rd wr (.slice pb l2.length cb) l2/\Canon l1/\Canon l2/\l1.length<=1000000000/\l2.length<=1000000000/\Hid (Nat.gcd (val l1) (val l2)=Int.gcd x y)/\Hid (k=val l2)/\Bx wr (w.heap.size+1+1) [.bool false,.slice none 0 0]/\Below w.heap.size w wr)
 case atStart=>exact⟨_,_,_,_,_,_,rfl,rfl,s0,hs2,cZ _,cZ _,hlx,hly,XJ x y,rfl,lS,n0⟩
 case round =>
  obtain⟨l1,l2,pa,pb,ca,cb,rfl,rfl,ha,hb,ca1,cb1,la,lb,hg,hk,hq,hB⟩:=hrel
  have hzB:=hB.size
  have cl1:Low l1:=ca1.1
  have cl2:Low l2:=cb1.1
  by_cases hne:l2=[]
  ·subst hne
   have HX:Hid (sg false (val l1)=((Int.gcd x y:Nat):Int)):=gcd_zero hg.out
   go_wp2_with fail
   have a0:=ha
   (with_reducible refine(clone_any _ _ _ a0 (by simpa using la)).mono ?_)
   rintro e w1 ⟨s1,rfl,ho1,hb1⟩
   have hs1:=Rd.dO ho1
   obtain⟨p1,c1,rfl,a2c,a2d⟩:=hs1.form
   go_wp2_with fail
   have e0:=hs1
   (with_reducible refine(jB _ _ _ _ e0 cl1).mono ?_)
   rintro e w2 ⟨v2,rfl,hi2,hb2⟩
   obtain⟨g2,p2,n2,c2,rfl⟩:=hi2.form
   have b3S:=((hq.to hb1).to hb2)
   obtain⟨f0,h0,g0,i0⟩:=b3S.cf2
   have xE:=(Below.tr (Below.tr hB hb1) hb2)
   go_wp2_with fail
   exact jh (v:=.agg #[.bool g2,.slice p2 n2 c2]) (by simp[results,Tryz.results143,go_sem,f0,h0,g0,i0]) rfl ⟨_,rfl,dX (hi2.aI b3S rfl rfl (.bool g2) (.slice p2 n2 c2)) HX.out,(Below.aI xE (b:=w.heap.size+1+1) (by omega) (.bool g2) (.slice p2 n2 c2))⟩
  ·have hl0:0<l2.length:=qp.2 hne
   have HLE:Hid ((dig (val l1%val l2)).length<=1000000000):=by
    unfold Hid
    have:=aN (Nat.le_of_lt (yg (val l1) (cb1.pos hne)))
    rw[fE cb1] at this
    omega
   by_cases h1:2<l1.length
   ·by_cases h2:2<l2.length
    ·skip
     go_wp2_with fail
     have a0:=ha
     (with_reducible refine(zV _ _ _ a0 (by omega)).mono ?_)
     rintro e w1 ⟨rfl,hb1⟩
     go_wp2_with fail
     have JZ:=(hb.below hb1)
     have b0:=JZ
     (with_reducible refine(zV _ _ _ b0 (by omega)).mono ?_)
     rintro e w2 ⟨rfl,hb2⟩
     go_wp2_with fail
     have a9E:=((ha.below hb1).below hb2)
     have c0:=a9E
     have a2a:=(JZ.below hb2)
     have d0:=a2a
     (with_reducible refine(uZ _ _ _ _ _ c0 d0 ca1 cb1 la hne).mono ?_)
     rintro e w3 ⟨s3,t3,rfl,hs3,ht3,hb3⟩
     obtain⟨p3,c3,rfl,VX,VY⟩:=hs3.form
     obtain⟨o3,d3,rfl,hlo3,a0q⟩:=ht3.form
     have a9F:=(a2a.below hb3)
     have b0S:=(((hq.to hb1).to hb2).to hb3)
     have AU:=(Below.tr (Below.tr (Below.tr hB hb1) hb2) hb3)
     go_wp2_with fail
     go_roundg (val (dig (val l1%val l2)))
     case measure=>rw[hk.out,aJ];exact yg _ (cb1.pos hne)
     case rel=>exact⟨_,_,_,_,_,_,rfl,rfl,a9F,ht3,cb1,cZ _,lb,HLE.out,by unfold Hid;rw[aJ];exact uQ hg.out,rfl,b0S,AU⟩
    ·skip
     go_wp2_with fail
     have a0:=ha
     (with_reducible refine(zV _ _ _ a0 (by omega)).mono ?_)
     rintro e w1 ⟨rfl,hb1⟩
     go_wp2_with fail
     have JZ:=(hb.below hb1)
     have b0:=JZ
     (with_reducible refine(sN _ _ _ b0 cl2 (by omega)).mono ?_)
     rintro e w2 ⟨rfl,hb2⟩
     go_wp2_with fail
     have a9E:=((ha.below hb1).below hb2)
     have c0:=a9E
     have a2a:=(JZ.below hb2)
     have d0:=a2a
     (with_reducible refine(uZ _ _ _ _ _ c0 d0 ca1 cb1 la hne).mono ?_)
     rintro e w3 ⟨s3,t3,rfl,hs3,ht3,hb3⟩
     obtain⟨p3,c3,rfl,VX,VY⟩:=hs3.form
     obtain⟨o3,d3,rfl,hlo3,a0q⟩:=ht3.form
     have a9F:=(a2a.below hb3)
     have b0S:=(((hq.to hb1).to hb2).to hb3)
     have AU:=(Below.tr (Below.tr (Below.tr hB hb1) hb2) hb3)
     go_wp2_with fail
     go_roundg (val (dig (val l1%val l2)))
     case measure=>rw[hk.out,aJ];exact yg _ (cb1.pos hne)
     case rel=>exact⟨_,_,_,_,_,_,rfl,rfl,a9F,ht3,cb1,cZ _,lb,HLE.out,by unfold Hid;rw[aJ];exact uQ hg.out,rfl,b0S,AU⟩
   ·by_cases h2:2<l2.length
    ·skip
     go_wp2_with fail
     have a0:=ha
     (with_reducible refine(sN _ _ _ a0 cl1 (by omega)).mono ?_)
     rintro e w1 ⟨rfl,hb1⟩
     go_wp2_with fail
     have JZ:=(hb.below hb1)
     have b0:=JZ
     (with_reducible refine(zV _ _ _ b0 (by omega)).mono ?_)
     rintro e w2 ⟨rfl,hb2⟩
     go_wp2_with fail
     have a9E:=((ha.below hb1).below hb2)
     have c0:=a9E
     have a2a:=(JZ.below hb2)
     have d0:=a2a
     (with_reducible refine(uZ _ _ _ _ _ c0 d0 ca1 cb1 la hne).mono ?_)
     rintro e w3 ⟨s3,t3,rfl,hs3,ht3,hb3⟩
     obtain⟨p3,c3,rfl,VX,VY⟩:=hs3.form
     obtain⟨o3,d3,rfl,hlo3,a0q⟩:=ht3.form
     have a9F:=(a2a.below hb3)
     have b0S:=(((hq.to hb1).to hb2).to hb3)
     have AU:=(Below.tr (Below.tr (Below.tr hB hb1) hb2) hb3)
     go_wp2_with fail
     go_roundg (val (dig (val l1%val l2)))
     case measure=>rw[hk.out,aJ];exact yg _ (cb1.pos hne)
     case rel=>exact⟨_,_,_,_,_,_,rfl,rfl,a9F,ht3,cb1,cZ _,lb,HLE.out,by unfold Hid;rw[aJ];exact uQ hg.out,rfl,b0S,AU⟩
    ·skip
     go_wp2_with fail
     have a0:=ha
     (with_reducible refine(sN _ _ _ a0 cl1 (by omega)).mono ?_)
     rintro e w1 ⟨rfl,hb1⟩
     go_wp2_with fail
     have JZ:=(hb.below hb1)
     have b0:=JZ
     (with_reducible refine(sN _ _ _ b0 cl2 (by omega)).mono ?_)
     rintro e w2 ⟨rfl,hb2⟩
     have b3S:=((hq.to hb1).to hb2)
     have xE:=(Below.tr (Below.tr hB hb1) hb2)
     go_wp2_with fail
     have hM:=ER ca1 (by omega)
     have hK:=ER cb1 (by omega)
     clear ha hb
     go_loopw [7,9,34,35,36,37,38,39] (fun m n _ _ _ _ _ _ wr=>∃ M K:Nat,m=.int .u64 (M:Nat)/\n=.int .u64 (K:Nat)/\M<=999999999999999999/\K<=999999999999999999/\Hid (Nat.gcd M K=Int.gcd x y)/\Bx wr (w.heap.size+1+1) [.bool false,.slice none 0 0]/\Below w.heap.size w wr) (fun _ n _ _ _ _ _ _ _=>(intOf n).toNat)
     case atStart=>exact⟨_,_,rfl,rfl,hM,hK,hg,b3S,xE⟩
     case round =>
      obtain⟨M,K,rfl,rfl,hM,hK,hg2,hq2,hB2⟩:=hrel
      by_cases hk0:0<K
      ·obtain⟨R,hR⟩:∃ R,M%K=R:=⟨_,rfl⟩
       have b5G:R<K:=by rw[<-hR];exact yg _ hk0
       have i2:(M:Int)%K=R:=by rw[<-hR];simp
       have i3:(M:Int).tmod K=R:=by rw[Bz (by omega)];exact i2
       have w2':IntKind.u64.wrap (R:Int)=R:=wrap_u64 (by omega)
       have hdz:((K:Int)==0)=false:=by simp;omega
       have hdn:¬ K=0:=by omega
       have HG:Hid (Nat.gcd K R=Int.gcd x y):=by unfold Hid;rw[<-hR];exact uQ hg2.out
       have a9P:=fun w=>KW (n:=M) (d:=K) (v:=R) (by omega) hM i2 w2' w
       clear hR
       go_wp2_with fail
       go_quiet (fail)
       go_wp2_with fail
       go_roundw
       case rel=>exact⟨K,R,rfl,rfl,hK,by omega,HG,hq2.drewN _,Below.qN hB2 _⟩
       case measure=>simp[intOf];omega
      ·obtain rfl:K=0:=by omega
       have HX:Hid (sg false (val (dig M))=((Int.gcd x y:Nat):Int)):=by have:=hg2.out;unfold Hid;rw[aJ,<-this];simp[sg]
       have c3W:=hB2.size
       go_wp2_with fail
       (with_reducible refine(uI M _ (by omega)).mono ?_)
       rintro e w1 ⟨s1,rfl,ho1,hb1⟩
       have hs1:=Rd.dO ho1
       obtain⟨p1,c1,rfl,a2c,a2d⟩:=hs1.form
       go_wp2_with fail
       have e0:=hs1
       (with_reducible refine(jB _ _ _ _ e0 (dB _)).mono ?_)
       rintro e w2 ⟨v2,rfl,hi2,hb2⟩
       obtain⟨g2,p2,n2,c2,rfl⟩:=hi2.form
       have c2g:=((hq2.to hb1).to hb2)
       obtain⟨j0,l0,k0,m0⟩:=c2g.cf2
       have r0:=(Below.tr (Below.tr hB2 hb1) hb2)
       go_wp2_with fail
       exact jh (v:=.agg #[.bool g2,.slice p2 n2 c2]) (by simp[results,Tryz.results143,go_sem,j0,l0,k0,m0]) rfl ⟨_,rfl,dX (hi2.aI c2g rfl rfl (.bool g2) (.slice p2 n2 c2)) HX.out,(Below.aI r0 (b:=w.heap.size+1+1) (by omega) (.bool g2) (.slice p2 n2 c2))⟩
end Go.Proofs.YtgplhbhfdgempaaGreat
