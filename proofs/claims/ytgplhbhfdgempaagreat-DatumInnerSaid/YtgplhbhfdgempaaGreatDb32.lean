/-
  Lemmas for the statements about datums, part 32 of 37.
-/
import Derived.Test.YtgplhbhfdgempaaGreatDb31
namespace Go.Proofs.YtgplhbhfdgempaaGreat
open Go Go.RowKit
set_option maxRecDepth 100000
set_option maxHeartbeats 4000000
set_option linter.unusedSimpArgs false
set_option linter.unusedVariables false
theorem xB {x y:Int} (h:y ∣ x):x.fdiv y=x / y:=by
 rw[Int.fdiv_eq_ediv,eY (.inr h),Int.sub_zero]
theorem a9x {n d:Int} (hd:0<d):n.fdiv ((Int.gcd n d:Nat):Int)=(Rat.divInt n d).num/\d.fdiv ((Int.gcd n d:Nat):Int)=(Rat.divInt n d).den:=by
 rw[qU hd,qR hd]
 exact⟨xB (Int.gcd_dvd_left _ _),xB (Int.gcd_dvd_right _ _)⟩
theorem a9w {n d:Int} (hd:d<0):n.fdiv (-((Int.gcd n d:Nat):Int))=(Rat.divInt n d).num/\d.fdiv (-((Int.gcd n d:Nat):Int))=(Rat.divInt n d).den:=by
 rw[UQ hd,UN hd]
 exact⟨xB (Int.neg_dvd.2 (Int.gcd_dvd_left _ _)),xB (Int.neg_dvd.2 (Int.gcd_dvd_right _ _))⟩
theorem KN (k:Int) (w:World) (h0:-9223372036854775808<=k) (h1:k<=9223372036854775807) :
  Calls Tryz.prog 81 #[.int .i64 k] w (uP k w):=by
 have dG:Below w.heap.size w w:=bf _ _
 go_enter Tryz.func81,Tryz.ntmps81
 go_wp2_with fail
 (with_reducible refine(a7X _ _ (by omega) (by omega)).mono ?_)
 rintro e w1 ⟨v1,rfl,hi1,hb1⟩
 obtain⟨g1,p1,n1,c1,rfl⟩:=hi1.form
 obtain⟨hA1,f0⟩:=bx1 w rfl [.bool false,.slice none 0 0] 62
 have dR:=(f0.to hb1)
 obtain⟨a0,c0,b0,d0⟩:=dR.cf2
 have e0:=(Below.tr (Below.tr dG hA1) hb1)
 go_wp2_with fail
 exact jW (v:=.agg #[.bool g1,.slice p1 n1 c1]) (by simp[results,Tryz.results81,go_sem,a0,c0,b0,d0]) rfl ⟨_,rfl,(hi1.aI dR rfl rfl (.bool g1) (.slice p1 n1 c1)),(Below.aI e0 (b:=w.heap.size) (by omega) (.bool g1) (.slice p1 n1 c1))⟩
theorem RG (k:Int) (w:World) (h0:-9223372036854775808<=k) (h1:k<=9223372036854775807) :
  Calls Tryz.prog 42 #[.int .i64 k] w (GQ (k:Rat) w):=by
 have dG:Below w.heap.size w w:=bf _ _
 go_enter Tryz.func42,Tryz.ntmps42
 go_wp2_with fail
 (with_reducible refine(KN _ _ (by omega) (by omega)).mono ?_)
 rintro e w1 ⟨v1,rfl,hi1,hb1⟩
 obtain⟨g1,p1,n1,c1,rfl⟩:=hi1.form
 go_wp2_with fail
 (with_reducible refine(KN _ _ (by omega) (by omega)).mono ?_)
 rintro e w2 ⟨v2,rfl,hi2,hb2⟩
 obtain⟨g2,p2,n2,c2,rfl⟩:=hi2.form
 obtain⟨hA1,k0⟩:=bx1 w rfl [.bool false,.slice none 0 0,.bool false,.slice none 0 0] 64
 have dM:=((k0.to hb1).to hb2)
 obtain⟨a0,e0,b0,f0,c0,g0,d0,i0⟩:=dM.cf4
 have l0:=(hi1.below hb2)
 have j0:=(Below.tr (Below.tr (Below.tr dG hA1) hb1) hb2)
 go_wp2_with fail
 exact jW (v:=.agg #[.bool g1,.slice p1 n1 c1,.bool g2,.slice p2 n2 c2]) (by simp[results,Tryz.results42,go_sem,a0,e0,b0,f0,c0,g0,d0,i0]) rfl ⟨_,rfl,RQ.mk' (l0.bM dM rfl rfl rfl rfl (.bool g1) (.slice p1 n1 c1) (.bool g2) (.slice p2 n2 c2)) (hi2.bM dM rfl rfl rfl rfl (.bool g1) (.slice p1 n1 c1) (.bool g2) (.slice p2 n2 c2)) (a7f k).symm (by rw[a7e];rfl),(Below.bM j0 (b:=w.heap.size) (by omega) (.bool g1) (.slice p1 n1 c1) (.bool g2) (.slice p2 n2 c2))⟩
theorem a4j (x y:Int) (w:World) (b d:Bool) (p o:Option Addr) (n c m e:Nat) (k1:iY w (.agg #[.bool b,.slice p n c]) false x) (k2:iY w (.agg #[.bool d,.slice o m e]) false y) (hl:isz x<=999999999) (hl2:isz y<=999999999) :
  Calls Tryz.prog 71 #[.agg #[.bool b,.slice p n c,.bool d,.slice o m e]] w fun e w'=>e=.returned (.bool (false&&(false&&(decide (0<y)&&decide (Int.gcd x y=1)))))/\Below w.heap.size w w':=by
 have HX:Hid (false=(false&&(false&&(decide (0<y)&&decide (Int.gcd x y=1))))):=by unfold Hid;simp
 have dG:Below w.heap.size w w:=bf _ _
 go_enter Tryz.func71,Tryz.ntmps71
 go_wp2_with fail
 obtain⟨hA1,c0⟩:=bx1 w rfl [.bool b,.slice p n c,.bool d,.slice o m e] 64
 have b0:=(k1.below hA1)
 (with_reducible refine(kK _ _ _ _ b0).mono ?_)
 rintro e w1 ⟨rfl,hb1⟩
 have a0:=(Below.tr (Below.tr dG hA1) hb1)
 go_wp2_with fail
 go_ret
 exact⟨jB HX.out,a0⟩
theorem a4k (x y:Int) (w:World) (b d:Bool) (p o:Option Addr) (n c m e:Nat) (k1:iY w (.agg #[.bool b,.slice p n c]) false x) (k2:iY w (.agg #[.bool d,.slice o m e]) true y) (hl:isz x<=999999999) (hl2:isz y<=999999999) :
  Calls Tryz.prog 71 #[.agg #[.bool b,.slice p n c,.bool d,.slice o m e]] w fun e w'=>e=.returned (.bool (false&&(true&&(decide (0<y)&&decide (Int.gcd x y=1)))))/\Below w.heap.size w w':=by
 have HX:Hid (false=(false&&(true&&(decide (0<y)&&decide (Int.gcd x y=1))))):=by unfold Hid;simp
 have dG:Below w.heap.size w w:=bf _ _
 go_enter Tryz.func71,Tryz.ntmps71
 go_wp2_with fail
 obtain⟨hA1,c0⟩:=bx1 w rfl [.bool b,.slice p n c,.bool d,.slice o m e] 64
 have b0:=(k1.below hA1)
 (with_reducible refine(kK _ _ _ _ b0).mono ?_)
 rintro e w1 ⟨rfl,hb1⟩
 have a0:=(Below.tr (Below.tr dG hA1) hb1)
 go_wp2_with fail
 go_ret
 exact⟨jB HX.out,a0⟩
theorem a4l (x y:Int) (w:World) (b d:Bool) (p o:Option Addr) (n c m e:Nat) (k1:iY w (.agg #[.bool b,.slice p n c]) true x) (k2:iY w (.agg #[.bool d,.slice o m e]) false y) (hl:isz x<=999999999) (hl2:isz y<=999999999) :
  Calls Tryz.prog 71 #[.agg #[.bool b,.slice p n c,.bool d,.slice o m e]] w fun e w'=>e=.returned (.bool (true&&(false&&(decide (0<y)&&decide (Int.gcd x y=1)))))/\Below w.heap.size w w':=by
 have HX:Hid (false=(true&&(false&&(decide (0<y)&&decide (Int.gcd x y=1))))):=by unfold Hid;simp
 have dG:Below w.heap.size w w:=bf _ _
 go_enter Tryz.func71,Tryz.ntmps71
 go_wp2_with fail
 obtain⟨hA1,b0⟩:=bx1 w rfl [.bool b,.slice p n c,.bool d,.slice o m e] 64
 have c0:=(k1.below hA1)
 (with_reducible refine(kK _ _ _ _ c0).mono ?_)
 rintro e w1 ⟨rfl,hb1⟩
 have dR:=(b0.to hb1)
 obtain⟨e0,f0,g0,h0⟩:=dR.cs4
 go_wp2_with fail
 have KF:=((k2.below hA1).below hb1)
 have d0:=KF
 (with_reducible refine(kK _ _ _ _ d0).mono ?_)
 rintro e w2 ⟨rfl,hb2⟩
 have a0:=(Below.tr (Below.tr (Below.tr dG hA1) hb1) hb2)
 go_wp2_with fail
 go_ret
 exact⟨jB HX.out,a0⟩
theorem a4m (x y:Int) (w:World) (b d:Bool) (p o:Option Addr) (n c m e:Nat) (k1:iY w (.agg #[.bool b,.slice p n c]) true x) (k2:iY w (.agg #[.bool d,.slice o m e]) true y) (hl:isz x<=999999999) (hl2:isz y<=999999999) (hd:¬ 0<y) :
  Calls Tryz.prog 71 #[.agg #[.bool b,.slice p n c,.bool d,.slice o m e]] w fun e w'=>e=.returned (.bool (true&&(true&&(decide (0<y)&&decide (Int.gcd x y=1)))))/\Below w.heap.size w w':=by
 have HX:Hid (false=(true&&(true&&(decide (0<y)&&decide (Int.gcd x y=1))))):=by unfold Hid;simp[hd]
 have hsg:decide (sgn y<=0)=true:=by have:=b3b hd;simpa using this
 clear hd
 have dG:Below w.heap.size w w:=bf _ _
 go_enter Tryz.func71,Tryz.ntmps71
 go_wp2_with fail
 obtain⟨hA1,b0⟩:=bx1 w rfl [.bool b,.slice p n c,.bool d,.slice o m e] 64
 have c0:=(k1.below hA1)
 (with_reducible refine(kK _ _ _ _ c0).mono ?_)
 rintro e w1 ⟨rfl,hb1⟩
 have dR:=(b0.to hb1)
 obtain⟨f0,h0,j0,l0⟩:=dR.cs4
 go_wp2_with fail
 have KF:=((k2.below hA1).below hb1)
 have d0:=KF
 (with_reducible refine(kK _ _ _ _ d0).mono ?_)
 rintro e w2 ⟨rfl,hb2⟩
 have dM:=(dR.to hb2)
 obtain⟨g0,i0,k0,m0⟩:=dM.cs4
 go_wp2_with fail
 have a1F:=(KF.below hb2)
 have e0:=a1F.raw
 (with_reducible refine(sU _ (y) _ e0 (by omega)).mono ?_)
 rintro e w3 ⟨rfl,hb3⟩
 have a0:=(Below.tr (Below.tr (Below.tr (Below.tr dG hA1) hb1) hb2) hb3)
 go_wp2_with fail
 go_ret
 exact⟨jB HX.out,a0⟩
theorem a4n (x y:Int) (w:World) (b d:Bool) (p o:Option Addr) (n c m e:Nat) (k1:iY w (.agg #[.bool b,.slice p n c]) true x) (k2:iY w (.agg #[.bool d,.slice o m e]) true y) (hl:isz x<=999999999) (hl2:isz y<=999999999) (hd:0<y) :
  Calls Tryz.prog 71 #[.agg #[.bool b,.slice p n c,.bool d,.slice o m e]] w fun e w'=>e=.returned (.bool (true&&(true&&(decide (0<y)&&decide (Int.gcd x y=1)))))/\Below w.heap.size w w':=by
 have HX:Hid ((eP ((Int.gcd x y:Nat):Int) 1==0)=(true&&(true&&(decide (0<y)&&decide (Int.gcd x y=1))))):=by unfold Hid;rw[QK];simp[hd];omega
 have hsg:decide (sgn y<=0)=false:=by rw[BI hd];rfl
 have hlg:isz ((Int.gcd x y:Nat):Int)<=999999999:=wF (by omega) (by omega)
 have h1g:isz 1<=999999999:=jc (AB (k:=1) (by rw[dK];decide)) (by omega)
 clear hd
 have dG:Below w.heap.size w w:=bf _ _
 go_enter Tryz.func71,Tryz.ntmps71
 go_wp2_with fail
 obtain⟨hA1,b0⟩:=bx1 w rfl [.bool b,.slice p n c,.bool d,.slice o m e] 64
 have c0:=(k1.below hA1)
 (with_reducible refine(kK _ _ _ _ c0).mono ?_)
 rintro e w1 ⟨rfl,hb1⟩
 have dR:=(b0.to hb1)
 obtain⟨k0,n0,q0,t0⟩:=dR.cs4
 go_wp2_with fail
 have KF:=((k2.below hA1).below hb1)
 have d0:=KF
 (with_reducible refine(kK _ _ _ _ d0).mono ?_)
 rintro e w2 ⟨rfl,hb2⟩
 have dM:=(dR.to hb2)
 obtain⟨l0,o0,r0,u0⟩:=dM.cs4
 go_wp2_with fail
 have a1F:=(KF.below hb2)
 have e0:=a1F.raw
 (with_reducible refine(sU _ (y) _ e0 (by omega)).mono ?_)
 rintro e w3 ⟨rfl,hb3⟩
 have lZ:=(dM.to hb3)
 obtain⟨m0,p0,s0,v0⟩:=lZ.cs4
 go_wp2_with fail
 have b7I:=((((k1.below hA1).below hb1).below hb2).below hb3)
 have f0:=b7I.raw
 have b7J:=(a1F.below hb3)
 have g0:=b7J.raw
 (with_reducible refine(XE _ _ (x) (y) _ f0 g0 (by omega) (by omega)).mono ?_)
 rintro e w4 ⟨v4,rfl,hi4,hb4⟩
 obtain⟨g4,p4,n4,c4,rfl⟩:=hi4.form
 go_wp2_with fail
 (with_reducible refine(KN _ _ (by omega) (by omega)).mono ?_)
 rintro e w5 ⟨v5,rfl,hi5,hb5⟩
 obtain⟨g5,p5,n5,c5,rfl⟩:=hi5.form
 go_wp2_with fail
 have j0:=(hi4.below hb5)
 have h0:=j0.raw
 have i0:=hi5.raw
 (with_reducible refine(a1W _ _ ((Int.gcd (x) (y):Int)) (1) _ h0 i0 hlg h1g).mono ?_)
 rintro e w6 ⟨rfl,hb6⟩
 have a0:=(Below.tr (Below.tr (Below.tr (Below.tr (Below.tr (Below.tr (Below.tr dG hA1) hb1) hb2) hb3) hb4) hb5) hb6)
 go_wp2_with fail
 go_ret
 exact⟨jB HX.out,a0⟩
theorem uM (v:Value) (ok:Bool) (q:Rat) (w:World) (h:iI w v ok q) (hn:Qn v 999999999) :
  Calls Tryz.prog 71 #[v] w fun e w'=>e=.returned (.bool ok)/\Below w.heap.size w w':=by
 obtain⟨b,s,c,t,o1,o2,x,y,e,h1,h2,rfl,_⟩:=h
 obtain⟨b1,p1,n1,c1,b2,p2,n2,c2,e1,l1,l2⟩:=hn
 rw[e1] at e
 cases e
 subst e1
 have l3:=h1.raw.len
 have l4:=h2.raw.len
 cases o1
 ·cases o2
  ·exact a4j x y w _ _ _ _ _ _ _ _ h1 h2 (by omega) (by omega)
  ·exact a4k x y w _ _ _ _ _ _ _ _ h1 h2 (by omega) (by omega)
 ·cases o2
  ·exact a4l x y w _ _ _ _ _ _ _ _ h1 h2 (by omega) (by omega)
  ·by_cases hd:0<y
   ·exact a4n x y w _ _ _ _ _ _ _ _ h1 h2 (by omega) (by omega) hd
   ·exact a4m x y w _ _ _ _ _ _ _ _ h1 h2 (by omega) (by omega) hd
theorem a2g (v:Value) (q:Rat) (w:World) (h:iI w v true q) (hn:Qn v 999999999) :
  Calls Tryz.prog 82 #[v] w (GQ q w):=by
 obtain⟨b,p,n,c,d,o,m,e,rfl⟩:=h.form
 have dG:Below w.heap.size w w:=bf _ _
 go_enter Tryz.func82,Tryz.ntmps82
 go_wp2_with fail
 obtain⟨hA1,j0,k0⟩:=bx2 w rfl [.bool b,.slice p n c,.bool d,.slice o m e] 64 [.bool false,.slice none 0 0,.bool false,.slice none 0 0] 64
 have l0:=(h.below hA1)
 (with_reducible refine(uM _ _ _ _ l0 hn).mono ?_)
 rintro e w1 ⟨rfl,hb1⟩
 have dR:=(j0.to hb1)
 obtain⟨m0,n0,o0,p0⟩:=dR.cs4
 have eU:=(k0.to hb1)
 obtain⟨a0,e0,b0,f0,c0,g0,d0,h0⟩:=eU.cf4
 have h_1:=((h.below hA1).below hb1)
 have i0:=(Below.tr (Below.tr dG hA1) hb1)
 go_wp2_with fail
 exact jW (v:=.agg #[.bool b,.slice p n c,.bool d,.slice o m e]) (by simp[results,Tryz.results82,go_sem,a0,e0,b0,f0,c0,g0,d0,h0]) rfl ⟨_,rfl,iI.rq (h_1.bM eU rfl rfl rfl rfl (.bool b) (.slice p n c) (.bool d) (.slice o m e)),(Below.bM i0 (b:=w.heap.size+1) (by omega) (.bool b) (.slice p n c) (.bool d) (.slice o m e))⟩
theorem YS (v:Value) (q:Rat) (w:World) (h:iI w v false q) (hn:Qn v 999999999) :
  Calls Tryz.prog 82 #[v] w (GQ q w):=by
 obtain⟨b,p,n,c,d,o,m,e,rfl⟩:=h.form
 have HX:Hid (q=((0:Int):Rat)):=by unfold Hid;rw[h.no];rfl
 have dG:Below w.heap.size w w:=bf _ _
 go_enter Tryz.func82,Tryz.ntmps82
 go_wp2_with fail
 obtain⟨hA1,l0,j0⟩:=bx2 w rfl [.bool b,.slice p n c,.bool d,.slice o m e] 64 [.bool false,.slice none 0 0,.bool false,.slice none 0 0] 64
 have k0:=(h.below hA1)
 (with_reducible refine(uM _ _ _ _ k0 hn).mono ?_)
 rintro e w1 ⟨rfl,hb1⟩
 go_wp2_with fail
 (with_reducible refine(RG _ _ (by omega) (by omega)).mono ?_)
 rintro e w2 ⟨v2,rfl,hi2,hb2⟩
 obtain⟨g2,p2,n2,c2,h2,o2,m2,e2,rfl⟩:=hi2.form
 have dN:=((j0.to hb1).to hb2)
 obtain⟨a0,e0,b0,f0,c0,g0,d0,h0⟩:=dN.cf4
 have i0:=(Below.tr (Below.tr (Below.tr dG hA1) hb1) hb2)
 go_wp2_with fail
 exact jW (v:=.agg #[.bool g2,.slice p2 n2 c2,.bool h2,.slice o2 m2 e2]) (by simp[results,Tryz.results82,go_sem,a0,e0,b0,f0,c0,g0,d0,h0]) rfl ⟨_,rfl,by rw[HX.out];exact(hi2.bM dN rfl rfl rfl rfl (.bool g2) (.slice p2 n2 c2) (.bool h2) (.slice o2 m2 e2)),(Below.bM i0 (b:=w.heap.size+1) (by omega) (.bool g2) (.slice p2 n2 c2) (.bool h2) (.slice o2 m2 e2))⟩
theorem a4o (v:Value) (ok:Bool) (q:Rat) (w:World) (h:iI w v ok q) (hn:Qn v 999999999) :
  Calls Tryz.prog 82 #[v] w (GQ q w):=by
 cases ok
 ·exact YS v q w h hn
 ·exact a2g v q w h hn
theorem lT (v:Value) (q:Rat) (w:World) (h:RQ w v q) (hl:rsz q<=999999999) :
 Calls Tryz.prog 82 #[v] w (GQ q w):=a4o v true q w h.raw (h.qn hl)
theorem SE (v u:Value) (x y:Int) (w:World) (hv:dY w v x) (hu:dY w u y) (hl:isz x<=400000000) (hl2:isz y<=400000000) (hd:0<y) :
  Calls Tryz.prog 83 #[v,u] w (GQ (Rat.divInt x y) w):=by
 obtain⟨b,p,n,c,rfl⟩:=hv.form
 obtain⟨d,o,m,e,rfl⟩:=hu.form
 have HX:=au (a9x (n:=x) hd)
 have b7t:isz ((Int.gcd x y:Nat):Int)<=400000000:=wF (by omega) hl2
 have hlh:isz ((Int.gcd x y:Nat):Int)<=1000000000:=by omega
 have hlg:isz ((Int.gcd x y:Nat):Int)<=400000000:=by exact b7t
 have b7q:((Int.gcd x y:Nat):Int)≠0:=gcd_ne (by omega)
 have hg0:((Int.gcd x y:Nat):Int)≠0:=by omega
 have hsg:decide (sgn y<0)=false:=by rw[BI hd];rfl
 clear hd b7q
 have dG:Below w.heap.size w w:=bf _ _
 go_enter Tryz.func83,Tryz.ntmps83
 go_wp2_with fail
 obtain⟨hA1,y1,z1,a2⟩:=bx3 w rfl [.bool b,.slice p n c] 62 [.bool d,.slice o m e] 62 [.bool false,.slice none 0 0,.bool false,.slice none 0 0] 64
 have e2:=(hv.below hA1).raw
 have f2:=(hu.below hA1).raw
 (with_reducible refine(XE _ _ (x) (y) _ e2 f2 (by omega) (by omega)).mono ?_)
 rintro e w1 ⟨v1,rfl,hi1,hb1⟩
 obtain⟨g1,p1,n1,c1,rfl⟩:=hi1.form
 have eU:=(z1.to hb1)
 obtain⟨p2,r2⟩:=eU.cs2
 have dR:=(y1.to hb1)
 have s0:=(dR).1
 have x0:=(eU).1
 have NI:=(a2.to hb1)
 have d1:=(NI).1
 go_wp2_with fail
 have kS:=((hu.below hA1).below hb1)
 obtain⟨hA2,b2⟩:=bx1 w1 rfl [.bool g1,.slice p1 n1 c1] 62
 have g2:=(kS.below hA2).raw
 (with_reducible refine(sU _ (y) _ g2 (by omega)).mono ?_)
 rintro e w2 ⟨rfl,hb2⟩
 have dM:=((dR.to hA2).to hb2)
 obtain⟨n2,o2⟩:=dM.cs2
 have k1:=(b2.to hb2)
 obtain⟨q1,s1⟩:=k1.cs2
 go_wp2_with fail
 have KA:=((((hv.below hA1).below hb1).below hA2).below hb2)
 have h2:=KA.raw
 have j1:=((hi1.below hA2).below hb2)
 have i2:=j1.raw
 (with_reducible refine(xM _ _ (x) ((Int.gcd (x) (y):Int)) _ h2 i2 (by omega) hlg hg0).mono ?_)
 rintro e w3 ⟨v3,u3,rfl,hi3,hj3,hb3⟩
 obtain⟨g3,p3,n3,c3,rfl⟩:=hi3.form
 obtain⟨h3,o3,m3,e3,rfl⟩:=hj3.form
 have qK:=(((eU.to hA2).to hb2).to hb3)
 obtain⟨q2,s2⟩:=qK.cs2
 have a0:=(k1.to hb3)
 obtain⟨r1,t1⟩:=a0.cs2
 have lZ:=(dM.to hb3)
 have t0:=(lZ).1
 have y0:=(qK).1
 have NJ:=(((NI.to hA2).to hb2).to hb3)
 have e1:=(NJ).1
 have k0:=(a0).1
 obtain⟨hA3,t2⟩:=bx1 w3 rfl [.bool false,.slice none 0 0] 62
 have u0:=((lZ.to hA3)).1
 have z0:=((qK.to hA3)).1
 have f1:=((NJ.to hA3)).1
 have l0:=((a0.to hA3)).1
 go_wp2_with fail
 have MG:=(((kS.below hA2).below hb2).below hb3)
 obtain⟨hA4,c2,d2⟩:=bx2 w3 rfl [.bool g3,.slice p3 n3 c3] 62 [.bool h3,.slice o3 m3 e3] 62
 have j2:=(MG.below hA4).raw
 have l2:=(j1.below hb3)
 have k2:=(l2.below hA4).raw
 (with_reducible refine(xM _ _ (y) ((Int.gcd (x) (y):Int)) _ j2 k2 (by omega) hlg hg0).mono ?_)
 rintro e w4 ⟨v4,u4,rfl,hi4,hj4,hb4⟩
 obtain⟨g4,p4,n4,c4,rfl⟩:=hi4.form
 obtain⟨h4,o4,m4,e4,rfl⟩:=hj4.form
 have j0:=(c2.to hb4)
 obtain⟨u1,x1⟩:=j0.cs2
 have qF:=((NJ.to hA4).to hb4)
 obtain⟨b0,f0,c0,g0,d0,h0,e0,i0⟩:=qF.cf4
 have nO:=((lZ.to hA4).to hb4)
 have v0:=(nO).1
 have lI:=((qK.to hA4).to hb4)
 have a1:=(lI).1
 have h1:=(qF).1
 have l1:=((a0.to hA4).to hb4)
 have m0:=(l1).1
 have o0:=(j0).1
 have m1:=(d2.to hb4)
 have q0:=(m1).1
 obtain⟨hA5,u2⟩:=bx1 w4 rfl [.bool false,.slice none 0 0] 62
 have w0:=((nO.to hA5)).1
 have b1:=((lI.to hA5)).1
 have i1:=((qF.to hA5)).1
 have n0:=((l1.to hA5)).1
 have p0:=((j0.to hA5)).1
 have r0:=((m1.to hA5)).1
 obtain⟨hA6,v2,x2⟩:=bx2 w4 rfl [.bool g4,.slice p4 n4 c4] 62 [.bool h4,.slice o4 m4 e4] 62
 have m2:=((hi3.below hA4).below hb4)
 obtain⟨hA7,y2,z2⟩:=bx2 ((((w4.setCell ⟨w.heap.size+1+1,0,none⟩ (.bool g3)).setCell ⟨w.heap.size+1+1,1,none⟩ (.slice p3 n3 c3)).setCell ⟨w.heap.size+1+1,2,none⟩ (.bool g4)).setCell ⟨w.heap.size+1+1,3,none⟩ (.slice p4 n4 c4)) (by simp:_=w4.heap.size) [.bool g4,.slice p4 n4 c4] 62 [.bool h4,.slice o4 m4 e4] 62
 have o1:=(Below.tr (Below.tr (Below.tr (Below.tr (Below.tr (Below.tr (Below.tr dG hA1) hb1) hA2) hb2) hb3) hA4) hb4)
 go_wp2_with fail
 exact jW (v:=.agg #[.bool g3,.slice p3 n3 c3,.bool g4,.slice p4 n4 c4]) (by simp[results,Tryz.results83,go_sem,s0,x0,d1,t0,y0,e1,k0,u0,z0,f1,l0,v0,a1,h1,m0,o0,q0,w0,b1,i1,n0,p0,r0,b0,f0,c0,g0,d0,h0,e0,i0]) rfl ⟨_,rfl,RQ.mk' ((m2.bM qF rfl rfl rfl rfl (.bool g3) (.slice p3 n3 c3) (.bool g4) (.slice p4 n4 c4)).below hA7) ((hi4.bM qF rfl rfl rfl rfl (.bool g3) (.slice p3 n3 c3) (.bool g4) (.slice p4 n4 c4)).below hA7) HX.out.1 HX.out.2,(Below.tr (Below.bM o1 (b:=w.heap.size+1+1) (by omega) (.bool g3) (.slice p3 n3 c3) (.bool g4) (.slice p4 n4 c4)) hA7)⟩
theorem XG (v u:Value) (x y:Int) (w:World) (hv:dY w v x) (hu:dY w u y) (hl:isz x<=400000000) (hl2:isz y<=400000000) (hd:y<0) :
  Calls Tryz.prog 83 #[v,u] w (GQ (Rat.divInt x y) w):=by
 obtain⟨b,p,n,c,rfl⟩:=hv.form
 obtain⟨d,o,m,e,rfl⟩:=hu.form
 have HX:=au (a9w (n:=x) hd)
 have b7t:isz ((Int.gcd x y:Nat):Int)<=400000000:=wF (by omega) hl2
 have hlh:isz ((Int.gcd x y:Nat):Int)<=1000000000:=by omega
 have hlg:isz (-((Int.gcd x y:Nat):Int))<=400000000:=by rw[oD];exact b7t
 have b7q:((Int.gcd x y:Nat):Int)≠0:=gcd_ne (by omega)
 have hg0:(-((Int.gcd x y:Nat):Int))≠0:=by omega
 have hsg:decide (sgn y<0)=true:=by rw[NS hd];rfl
 clear hd b7q
 have dG:Below w.heap.size w w:=bf _ _
 go_enter Tryz.func83,Tryz.ntmps83
 go_wp2_with fail
 obtain⟨hA1,c2,d2,e2⟩:=bx3 w rfl [.bool b,.slice p n c] 62 [.bool d,.slice o m e] 62 [.bool false,.slice none 0 0,.bool false,.slice none 0 0] 64
 have i2:=(hv.below hA1).raw
 have j2:=(hu.below hA1).raw
 (with_reducible refine(XE _ _ (x) (y) _ i2 j2 (by omega) (by omega)).mono ?_)
 rintro e w1 ⟨v1,rfl,hi1,hb1⟩
 obtain⟨g1,p1,n1,c1,rfl⟩:=hi1.form
 have eU:=(d2.to hb1)
 obtain⟨v2,y2⟩:=eU.cs2
 have dR:=(c2.to hb1)
 have x0:=(dR).1
 have d1:=(eU).1
 have NI:=(e2.to hb1)
 have j1:=(NI).1
 go_wp2_with fail
 have kS:=((hu.below hA1).below hb1)
 obtain⟨hA2,f2⟩:=bx1 w1 rfl [.bool g1,.slice p1 n1 c1] 62
 have k2:=(kS.below hA2).raw
 (with_reducible refine(sU _ (y) _ k2 (by omega)).mono ?_)
 rintro e w2 ⟨rfl,hb2⟩
 have q1:=(f2.to hb2)
 obtain⟨u1,y1⟩:=q1.cs2
 go_wp2_with fail
 have q2:=((hi1.below hA2).below hb2)
 have l2:=q2.raw
 (with_reducible refine(XF _ ((Int.gcd (x) (y):Int)) _ l2 hlh).mono ?_)
 rintro e w3 ⟨v3,rfl,hi3,hb3⟩
 obtain⟨g3,p3,n3,c3,rfl⟩:=hi3.form
 have a0:=(q1.to hb3)
 obtain⟨c0,e0,d0,f0⟩:=a0.cf2
 have lZ:=(((dR.to hA2).to hb2).to hb3)
 obtain⟨t2,u2⟩:=lZ.cs2
 go_wp2_with fail
 have MH:=(((((hv.below hA1).below hb1).below hA2).below hb2).below hb3)
 have m2:=(MH.aI a0 rfl rfl (.bool g3) (.slice p3 n3 c3)).raw
 have n2:=(hi3.aI a0 rfl rfl (.bool g3) (.slice p3 n3 c3)).raw
 (with_reducible refine(xM _ _ (x) (-(((Int.gcd (x) (y):Int)))) _ m2 n2 (by omega) hlg hg0).mono ?_)
 rintro e w4 ⟨v4,u4,rfl,hi4,hj4,hb4⟩
 obtain⟨g4,p4,n4,c4,rfl⟩:=hi4.form
 obtain⟨h4,o4,m4,e4,rfl⟩:=hj4.form
 have lI:=(((((eU.to hA2).to hb2).to hb3).aS (b:=w1.heap.size) (by omega) (.bool g3) (.slice p3 n3 c3)).to hb4)
 obtain⟨x2,z2⟩:=lI.cs2
 have b0:=((a0.store2 (.bool g3) (.slice p3 n3 c3)).to hb4)
 obtain⟨x1,z1⟩:=b0.cs2
 have nO:=((lZ.aS (b:=w1.heap.size) (by omega) (.bool g3) (.slice p3 n3 c3)).to hb4)
 have y0:=(nO).1
 have e1:=(lI).1
 have qF:=(((((NI.to hA2).to hb2).to hb3).aS (b:=w1.heap.size) (by omega) (.bool g3) (.slice p3 n3 c3)).to hb4)
 have k1:=(qF).1
 have p0:=(b0).1
 obtain⟨hA3,a3⟩:=bx1 w4 rfl [.bool false,.slice none 0 0] 62
 have z0:=((nO.to hA3)).1
 have f1:=((lI.to hA3)).1
 have l1:=((qF.to hA3)).1
 have q0:=((b0.to hA3)).1
 go_wp2_with fail
 have JZ:=(((((kS.below hA2).below hb2).below hb3).aI a0 rfl rfl (.bool g3) (.slice p3 n3 c3)).below hb4)
 obtain⟨hA4,g2,h2⟩:=bx2 w4 rfl [.bool g4,.slice p4 n4 c4] 62 [.bool h4,.slice o4 m4 e4] 62
 have o2:=(JZ.below hA4).raw
 have r2:=((hi3.aI a0 rfl rfl (.bool g3) (.slice p3 n3 c3)).below hb4)
 have p2:=(r2.below hA4).raw
 (with_reducible refine(xM _ _ (y) (-(((Int.gcd (x) (y):Int)))) _ o2 p2 (by omega) hlg hg0).mono ?_)
 rintro e w5 ⟨v5,u5,rfl,hi5,hj5,hb5⟩
 obtain⟨g5,p5,n5,c5,rfl⟩:=hi5.form
 obtain⟨h5,o5,m5,e5,rfl⟩:=hj5.form
 have o0:=(g2.to hb5)
 obtain⟨a2,b2⟩:=o0.cs2
 have zA:=((qF.to hA4).to hb5)
 obtain⟨g0,k0,h0,l0,i0,m0,j0,n0⟩:=zA.cf4
 have a3T:=((nO.to hA4).to hb5)
 have a1:=(a3T).1
 have b2z:=((lI.to hA4).to hb5)
 have h1:=(b2z).1
 have m1:=(zA).1
 have r1:=((b0.to hA4).to hb5)
 have r0:=(r1).1
 have t0:=(o0).1
 have s1:=(h2.to hb5)
 have v0:=(s1).1
 obtain⟨hA5,b3⟩:=bx1 w5 rfl [.bool false,.slice none 0 0] 62
 have b1:=((a3T.to hA5)).1
 have i1:=((b2z.to hA5)).1
 have o1:=((zA.to hA5)).1
 have s0:=((r1.to hA5)).1
 have u0:=((o0.to hA5)).1
 have w0:=((s1.to hA5)).1
 obtain⟨hA6,d3,e3⟩:=bx2 w5 rfl [.bool g5,.slice p5 n5 c5] 62 [.bool h5,.slice o5 m5 e5] 62
 have s2:=((hi4.below hA4).below hb5)
 obtain⟨hA7,f3,h3⟩:=bx2 ((((w5.setCell ⟨w.heap.size+1+1,0,none⟩ (.bool g4)).setCell ⟨w.heap.size+1+1,1,none⟩ (.slice p4 n4 c4)).setCell ⟨w.heap.size+1+1,2,none⟩ (.bool g5)).setCell ⟨w.heap.size+1+1,3,none⟩ (.slice p5 n5 c5)) (by simp:_=w5.heap.size) [.bool g5,.slice p5 n5 c5] 62 [.bool h5,.slice o5 m5 e5] 62
 have t1:=(Below.tr (Below.tr (Below.tr (Below.aI (Below.tr (Below.tr (Below.tr (Below.tr (Below.tr dG hA1) hb1) hA2) hb2) hb3) (b:=w1.heap.size) (by omega) (.bool g3) (.slice p3 n3 c3)) hb4) hA4) hb5)
 go_wp2_with fail
 exact jW (v:=.agg #[.bool g4,.slice p4 n4 c4,.bool g5,.slice p5 n5 c5]) (by simp[results,Tryz.results83,go_sem,x0,d1,j1,c0,e0,d0,f0,y0,e1,k1,p0,z0,f1,l1,q0,a1,h1,m1,r0,t0,v0,b1,i1,o1,s0,u0,w0,g0,k0,h0,l0,i0,m0,j0,n0]) rfl ⟨_,rfl,RQ.mk' ((s2.bM zA rfl rfl rfl rfl (.bool g4) (.slice p4 n4 c4) (.bool g5) (.slice p5 n5 c5)).below hA7) ((hi5.bM zA rfl rfl rfl rfl (.bool g4) (.slice p4 n4 c4) (.bool g5) (.slice p5 n5 c5)).below hA7) HX.out.1 HX.out.2,(Below.tr (Below.bM t1 (b:=w.heap.size+1+1) (by omega) (.bool g4) (.slice p4 n4 c4) (.bool g5) (.slice p5 n5 c5)) hA7)⟩
theorem yA (v u:Value) (x y:Int) (w:World) (hv:dY w v x) (hu:dY w u y) (hl:isz x<=400000000) (hl2:isz y<=400000000) (hd:y≠0) :
  Calls Tryz.prog 83 #[v,u] w (GQ (Rat.divInt x y) w):=by
 rcases uw y 0 with h|h|h
 ·exact XG v u x y w hv hu hl hl2 h
 ·exact absurd h hd
 ·exact SE v u x y w hv hu hl hl2 h
theorem b2P (v u:Value) (x y:Int) (w:World) (hv:dY w v x) (hu:dY w u y) (hl:isz x<=400000000) (hl2:isz y<=400000000) (hd:y≠0) :
  Calls Tryz.prog 141 #[v,u] w (GQC (Rat.divInt x y) 0 w):=by
 obtain⟨b,p,n,c,rfl⟩:=hv.form
 obtain⟨d,o,m,e,rfl⟩:=hu.form
 have c3l:(sgn y==0)=false:=by have:=b3c hd;simpa using this
 have dG:Below w.heap.size w w:=bf _ _
 go_enter Tryz.func141,Tryz.ntmps141
 go_wp2_with fail
 obtain⟨hA1,j0,k0,l0⟩:=bx3 w rfl [.bool b,.slice p n c] 62 [.bool d,.slice o m e] 62 [.bool false,.slice none 0 0,.bool false,.slice none 0 0] 64
 have m0:=(hu.below hA1).raw
 (with_reducible refine(sU _ (y) _ m0 (by omega)).mono ?_)
 rintro e w1 ⟨rfl,hb1⟩
 have dR:=(j0.to hb1)
 obtain⟨p0,q0⟩:=dR.cs2
 have eU:=(k0.to hb1)
 obtain⟨r0,s0⟩:=eU.cs2
 go_wp2_with fail
 have sH:=((hv.below hA1).below hb1)
 have n0:=sH
 have kS:=((hu.below hA1).below hb1)
 have o0:=kS
 (with_reducible refine(yA _ _ (x) (y) _ n0 o0 hl hl2 hd).mono ?_)
 rintro e w2 ⟨v2,rfl,hi2,hb2⟩
 obtain⟨g2,p2,n2,c2,h2,o2,m2,e2,rfl⟩:=hi2.form
 have mO:=((l0.to hb1).to hb2)
 obtain⟨a0,e0,b0,f0,c0,g0,d0,h0⟩:=mO.cf4
 have i0:=(Below.tr (Below.tr (Below.tr dG hA1) hb1) hb2)
 go_wp2_with fail
 exact jW (v:=.tuple #[.agg #[.bool g2,.slice p2 n2 c2,.bool h2,.slice o2 m2 e2],.int .i64 0]) (by simp[results,Tryz.results141,go_sem,a0,e0,b0,f0,c0,g0,d0,h0]) rfl ⟨_,rfl,(hi2.bM mO rfl rfl rfl rfl (.bool g2) (.slice p2 n2 c2) (.bool h2) (.slice o2 m2 e2)),(Below.bM i0 (b:=w.heap.size+1+1) (by omega) (.bool g2) (.slice p2 n2 c2) (.bool h2) (.slice o2 m2 e2))⟩
theorem XI (v:Value) (q:Rat) (w:World) (fa:RQ w v q) (hl:rsz q<=999999999) :
  Calls Tryz.prog 72 #[v] w (fun e w'=>e=.returned (.int .i64 (sgn q.num))/\Below w.heap.size w w'):=by
 obtain⟨b,p,n,c,d,o,m,e,rfl⟩:=fa.form
 have hb1:=fH q
 have hb2:=fD q
 have b0:=QV
 have dG:Below w.heap.size w w:=bf _ _
 go_enter Tryz.func72,Tryz.ntmps72
 go_wp2_with fail
 obtain⟨hA1,e0⟩:=bx1 w rfl [.bool b,.slice p n c,.bool d,.slice o m e] 64
 have c0:=(fa.below hA1)
 (with_reducible refine(lT _ (q) _ c0 (by omega)).mono ?_)
 rintro e w1 ⟨v1,rfl,hi1,hb1⟩
 obtain⟨g1,p1,n1,c1,h1,o1,m1,e1,rfl⟩:=hi1.form
 go_wp2_with fail
 have d0:=hi1.num.raw
 (with_reducible refine(sU _ (((q)).num) _ d0 (by omega)).mono ?_)
 rintro e w2 ⟨rfl,hb2⟩
 have a0:=(Below.tr (Below.tr (Below.tr dG hA1) hb1) hb2)
 go_wp2_with fail
 go_ret
 exact⟨rfl,a0⟩
theorem a9A (v:Value) (q:Rat) (w:World) (fa:RQ w v q) (hl:rsz q<=999999999) :
  Calls Tryz.prog 56 #[v] w (GQ (-q) w):=by
 obtain⟨b,p,n,c,d,o,m,e,rfl⟩:=fa.form
 have hb1:=fH q
 have hb2:=fD q
 have dG:Below w.heap.size w w:=bf _ _
 go_enter Tryz.func56,Tryz.ntmps56
 go_wp2_with fail
 obtain⟨hA1,m0,n0⟩:=bx2 w rfl [.bool b,.slice p n c,.bool d,.slice o m e] 64 [.bool false,.slice none 0 0,.bool false,.slice none 0 0] 64
 have p0:=(fa.below hA1)
 (with_reducible refine(lT _ (q) _ p0 (by omega)).mono ?_)
 rintro e w1 ⟨v1,rfl,hi1,hb1⟩
 obtain⟨g1,p1,n1,c1,h1,o1,m1,e1,rfl⟩:=hi1.form
 have dR:=(m0.to hb1)
 have i0:=(dR).1
 have eU:=(n0.to hb1)
 have j0:=(eU).1
 go_wp2_with fail
 obtain⟨hA2,o0⟩:=bx1 w1 rfl [.bool g1,.slice p1 n1 c1,.bool h1,.slice o1 m1 e1] 64
 have a0N:=(o0.drew).bs4
 have k0:dW (w.heap.size+1) (BS4 w1.heap.size (.bool g1) (.slice p1 n1 c1) (.bool h1) (.slice o1 m1 e1)):=(BS4.hc (by omega))
 have tk1:True:=trivial
 go_region_held3 (BS4 w1.heap.size (.bool g1) (.slice p1 n1 c1) (.bool h1) (.slice o1 m1 e1)) (first|with_reducible exact a0N|with_reducible exact iH.go BS4.hk (by assumption) (by assumption)|with_reducible exact dW.go4 k0 (by assumption)|(simp;done))
  (first
   | (((have:=tk1);clear tk1;have q0:=(hi1.below hA2).drew.num.raw;go_at_call 96;(with_reducible refine(XF _ (((q)).num) _ q0 (by omega)).mono ?_);rintro e w2 ⟨v2,rfl,hi2,hb2⟩;obtain⟨g2,p2,n2,c2,rfl⟩:=hi2.form;have dN:=((eU.to hA2).drew.to hb2);obtain⟨a0,e0,b0,f0,c0,g0,d0,h0⟩:=dN.cf4)))
 have r0:=((hi1.below hA2).drew.below hb2)
 have l0:=(Below.tr (Below.tr (Below.tr (Below.tr dG hA1) hb1) hA2).drew hb2)
 go_wp2_with fail
 exact jW (v:=.agg #[.bool g2,.slice p2 n2 c2,.bool h1,.slice o1 m1 e1]) (by simp[results,Tryz.results56,go_sem,i0,j0,a0,e0,b0,f0,c0,g0,d0,h0]) rfl ⟨_,rfl,RQ.mk' (hi2.bM dN rfl rfl rfl rfl (.bool g2) (.slice p2 n2 c2) (.bool h1) (.slice o1 m1 e1)) (r0.bM dN rfl rfl rfl rfl (.bool g2) (.slice p2 n2 c2) (.bool h1) (.slice o1 m1 e1)).den (RI q).symm (by rw[RH]),(Below.bM l0 (b:=w.heap.size+1) (by omega) (.bool g2) (.slice p2 n2 c2) (.bool h1) (.slice o1 m1 e1))⟩
theorem a0o (v u:Value) (x y:Rat) (w:World) (fa:RQ w v x) (fb:RQ w u y) (hl:rsz x<=190000000) (hl2:rsz y<=190000000) :
  Calls Tryz.prog 44 #[v,u] w (GQ (x+y) w):=by
 obtain⟨b,p,n,c,d,o,m,e,rfl⟩:=fa.form
 obtain⟨f,i,j,k,g,r,t,a,rfl⟩:=fb.form
 have hb1:=fH x
 have hb2:=fD x
 have hb3:=fH y
 have hb4:=fD y
 have hc1:=fF x.num y.den
 have hc2:=fF y.num x.den
 have hc3:=GZ (x.num*y.den) (y.num*x.den)
 have hc4:=fF x.den y.den
 have HX:=au (a1T x y)
 have hd0:=zT x y
 have dG:Below w.heap.size w w:=bf _ _
 go_enter Tryz.func44,Tryz.ntmps44
 go_wp2_with fail
 obtain⟨hA1,v0,w0,x0⟩:=bx3 w rfl [.bool b,.slice p n c,.bool d,.slice o m e] 64 [.bool f,.slice i j k,.bool g,.slice r t a] 64 [.bool false,.slice none 0 0,.bool false,.slice none 0 0] 64
 have a1:=(fa.below hA1)
 (with_reducible refine(lT _ (x) _ a1 (by omega)).mono ?_)
 rintro e w1 ⟨v1,rfl,hi1,hb1⟩
 obtain⟨g1,p1,n1,c1,h1,o1,m1,e1,rfl⟩:=hi1.form
 have eU:=(w0.to hb1)
 obtain⟨a2,b2,d2,f2⟩:=eU.cs4
 have dR:=(v0.to hb1)
 have j0:=(dR).1
 have l0:=(eU).1
 have NI:=(x0.to hb1)
 have n0:=(NI).1
 go_wp2_with fail
 have a2X:=((fb.below hA1).below hb1)
 obtain⟨hA2,y0⟩:=bx1 w1 rfl [.bool g1,.slice p1 n1 c1,.bool h1,.slice o1 m1 e1] 64
 have b1:=(a2X.below hA2)
 (with_reducible refine(lT _ (y) _ b1 (by omega)).mono ?_)
 rintro e w2 ⟨v2,rfl,hi2,hb2⟩
 obtain⟨g2,p2,n2,c2,h2,o2,m2,e2,rfl⟩:=hi2.form
 have dM:=((dR.to hA2).to hb2)
 have k0:=(dM).1
 have dN:=((eU.to hA2).to hb2)
 have m0:=(dN).1
 have mO:=((NI.to hA2).to hb2)
 have o0:=(mO).1
 have s0:=(y0.to hb2)
 have i0:=(s0).1
 go_wp2_with fail
 obtain⟨hA3,z0⟩:=bx1 w2 rfl [.bool g2,.slice p2 n2 c2,.bool h2,.slice o2 m2 e2] 64
 have a4S:=(aO.mk ((s0.to hA3).drew).bs4 (z0.drew).bs4)
 have t0:dW (w.heap.size+1+1) (aO (BS4 w1.heap.size (.bool g1) (.slice p1 n1 c1) (.bool h1) (.slice o1 m1 e1)) (BS4 w2.heap.size (.bool g2) (.slice p2 n2 c2) (.bool h2) (.slice o2 m2 e2))):=(aO.hc (BS4.hc (by omega)) (BS4.hc (by omega)))
 have tk1:True:=trivial
 have tk2:True:=trivial
 have tk3:True:=trivial
 have tk4:True:=trivial
 have tk5:True:=trivial
 go_region_held3 (aO (BS4 w1.heap.size (.bool g1) (.slice p1 n1 c1) (.bool h1) (.slice o1 m1 e1)) (BS4 w2.heap.size (.bool g2) (.slice p2 n2 c2) (.bool h2) (.slice o2 m2 e2))) (first|with_reducible exact a4S|with_reducible exact iH.go (aO.hk BS4.hk BS4.hk) (by assumption) (by assumption)|with_reducible exact dW.go4 t0 (by assumption)|(simp;done))
  (first
   | (((have:=tk1);clear tk1;have p0:=((hi1.below hA2).below hb2);have d1:=(p0.below hA3).drew.num.raw;have f1:=(hi2.below hA3).drew.den.raw;go_at_call 85;(with_reducible refine(pJ _ _ (((x)).num) ((((y)).den:Int)) _ d1 f1 (by omega) (by omega)).mono ?_);rintro e w3 ⟨v3,rfl,hi3,hb3⟩;obtain⟨g3,p3,n3,c3,rfl⟩:=hi3.form))
   | (((have:=tk2);clear tk2;have r0:=((hi2.below hA3).drew.below hb3);have i1:=r0.num.raw;have q0:=((p0.below hA3).drew.below hb3);have j1:=q0.den.raw;go_at_call 85;(with_reducible refine(pJ _ _ (((y)).num) ((((x)).den:Int)) _ i1 j1 (by omega) (by omega)).mono ?_);rintro e w4 ⟨v4,rfl,hi4,hb4⟩;obtain⟨g4,p4,n4,c4,rfl⟩:=hi4.form))
   | (((have:=tk3);clear tk3;have y1:=(hi3.below hb4);have k1:=y1.raw;have l1:=hi4.raw;go_at_call 84;(with_reducible refine(a3U _ _ ((((x)).num)*((((y)).den:Int))) ((((y)).num)*((((x)).den:Int))) _ k1 l1 (by omega) (by omega)).mono ?_);rintro e w5 ⟨v5,rfl,hi5,hb5⟩;obtain⟨g5,p5,n5,c5,rfl⟩:=hi5.form))
   | (((have:=tk4);clear tk4;have u1:=((q0.below hb4).below hb5);have q1:=u1.den.raw;have x1:=((r0.below hb4).below hb5);have r1:=x1.den.raw;go_at_call 85;(with_reducible refine(pJ _ _ ((((x)).den:Int)) ((((y)).den:Int)) _ q1 r1 (by omega) (by omega)).mono ?_);rintro e w6 ⟨v6,rfl,hi6,hb6⟩;obtain⟨g6,p6,n6,c6,rfl⟩:=hi6.form))
   | (((have:=tk5);clear tk5;have z1:=(hi5.below hb6);have s1:=z1;have t1:=hi6;go_at_call 83;(with_reducible refine(yA _ _ (((((x)).num)*((((y)).den:Int)))+((((y)).num)*((((x)).den:Int)))) (((((x)).den:Int))*((((y)).den:Int))) _ s1 t1 (by omega) (by omega) hd0).mono ?_);rintro e w7 ⟨v7,rfl,hi7,hb7⟩;obtain⟨g7,p7,n7,c7,h7,o7,m7,e7,rfl⟩:=hi7.form;have b2A:=((((((mO.to hA3).drew.to hb3).to hb4).to hb5).to hb6).to hb7);obtain⟨a0,e0,b0,f0,c0,g0,d0,h0⟩:=b2A.cf4)))
 have u0:=(Below.tr (Below.tr (Below.tr (Below.tr (Below.tr (Below.tr (Below.tr (Below.tr (Below.tr (Below.tr dG hA1) hb1) hA2) hb2) hA3).drew hb3) hb4) hb5) hb6) hb7)
 go_wp2_with fail
 exact jW (v:=.agg #[.bool g7,.slice p7 n7 c7,.bool h7,.slice o7 m7 e7]) (by simp[results,Tryz.results44,go_sem,j0,l0,n0,k0,m0,o0,i0,a0,e0,b0,f0,c0,g0,d0,h0]) rfl ⟨_,rfl,by rw[<-HX.out];exact(hi7.bM b2A rfl rfl rfl rfl (.bool g7) (.slice p7 n7 c7) (.bool h7) (.slice o7 m7 e7)),(Below.bM u0 (b:=w.heap.size+1+1) (by omega) (.bool g7) (.slice p7 n7 c7) (.bool h7) (.slice o7 m7 e7))⟩
theorem a9y (v u:Value) (x y:Rat) (w:World) (fa:RQ w v x) (fb:RQ w u y) (hl:rsz x<=190000000) (hl2:rsz y<=190000000) :
  Calls Tryz.prog 45 #[v,u] w (GQ (x*y) w):=by
 obtain⟨b,p,n,c,d,o,m,e,rfl⟩:=fa.form
 obtain⟨f,i,j,k,g,r,t,a,rfl⟩:=fb.form
 have hb1:=fH x
 have hb2:=fD x
 have hb3:=fH y
 have hb4:=fD y
 have hc1:=fF x.num y.num
 have hc4:=fF x.den y.den
 have HX:=au (a1V x y)
 have hd0:=zT x y
 have dG:Below w.heap.size w w:=bf _ _
 go_enter Tryz.func45,Tryz.ntmps45
 go_wp2_with fail
 obtain⟨hA1,t0,u0,v0⟩:=bx3 w rfl [.bool b,.slice p n c,.bool d,.slice o m e] 64 [.bool f,.slice i j k,.bool g,.slice r t a] 64 [.bool false,.slice none 0 0,.bool false,.slice none 0 0] 64
 have y0:=(fa.below hA1)
 (with_reducible refine(lT _ (x) _ y0 (by omega)).mono ?_)
 rintro e w1 ⟨v1,rfl,hi1,hb1⟩
 obtain⟨g1,p1,n1,c1,h1,o1,m1,e1,rfl⟩:=hi1.form
 have eU:=(u0.to hb1)
 obtain⟨r1,s1,t1,u1⟩:=eU.cs4
 have dR:=(t0.to hb1)
 have j0:=(dR).1
 have l0:=(eU).1
 have NI:=(v0.to hb1)
 have n0:=(NI).1
 go_wp2_with fail
 have a2X:=((fb.below hA1).below hb1)
 obtain⟨hA2,w0⟩:=bx1 w1 rfl [.bool g1,.slice p1 n1 c1,.bool h1,.slice o1 m1 e1] 64
 have z0:=(a2X.below hA2)
 (with_reducible refine(lT _ (y) _ z0 (by omega)).mono ?_)
 rintro e w2 ⟨v2,rfl,hi2,hb2⟩
 obtain⟨g2,p2,n2,c2,h2,o2,m2,e2,rfl⟩:=hi2.form
 have dM:=((dR.to hA2).to hb2)
 have k0:=(dM).1
 have dN:=((eU.to hA2).to hb2)
 have m0:=(dN).1
 have mO:=((NI.to hA2).to hb2)
 have o0:=(mO).1
 have q0:=(w0.to hb2)
 have i0:=(q0).1
 go_wp2_with fail
 obtain⟨hA3,x0⟩:=bx1 w2 rfl [.bool g2,.slice p2 n2 c2,.bool h2,.slice o2 m2 e2] 64
 have a4S:=(aO.mk ((q0.to hA3).drew).bs4 (x0.drew).bs4)
 have r0:dW (w.heap.size+1+1) (aO (BS4 w1.heap.size (.bool g1) (.slice p1 n1 c1) (.bool h1) (.slice o1 m1 e1)) (BS4 w2.heap.size (.bool g2) (.slice p2 n2 c2) (.bool h2) (.slice o2 m2 e2))):=(aO.hc (BS4.hc (by omega)) (BS4.hc (by omega)))
 have tk1:True:=trivial
 have tk2:True:=trivial
 have tk3:True:=trivial
 go_region_held3 (aO (BS4 w1.heap.size (.bool g1) (.slice p1 n1 c1) (.bool h1) (.slice o1 m1 e1)) (BS4 w2.heap.size (.bool g2) (.slice p2 n2 c2) (.bool h2) (.slice o2 m2 e2))) (first|with_reducible exact a4S|with_reducible exact iH.go (aO.hk BS4.hk BS4.hk) (by assumption) (by assumption)|with_reducible exact dW.go4 r0 (by assumption)|(simp;done))
  (first
   | (((have:=tk1);clear tk1;have p0:=((hi1.below hA2).below hb2);have a1:=(p0.below hA3).drew.num.raw;have b1:=(hi2.below hA3).drew.num.raw;go_at_call 85;(with_reducible refine(pJ _ _ (((x)).num) (((y)).num) _ a1 b1 (by omega) (by omega)).mono ?_);rintro e w3 ⟨v3,rfl,hi3,hb3⟩;obtain⟨g3,p3,n3,c3,rfl⟩:=hi3.form))
   | (((have:=tk2);clear tk2;have k1:=((p0.below hA3).drew.below hb3);have d1:=k1.den.raw;have l1:=((hi2.below hA3).drew.below hb3);have f1:=l1.den.raw;go_at_call 85;(with_reducible refine(pJ _ _ ((((x)).den:Int)) ((((y)).den:Int)) _ d1 f1 (by omega) (by omega)).mono ?_);rintro e w4 ⟨v4,rfl,hi4,hb4⟩;obtain⟨g4,p4,n4,c4,rfl⟩:=hi4.form))
   | (((have:=tk3);clear tk3;have q1:=(hi3.below hb4);have i1:=q1;have j1:=hi4;go_at_call 83;(with_reducible refine(yA _ _ ((((x)).num)*(((y)).num)) (((((x)).den:Int))*((((y)).den:Int))) _ i1 j1 (by omega) (by omega) hd0).mono ?_);rintro e w5 ⟨v5,rfl,hi5,hb5⟩;obtain⟨g5,p5,n5,c5,h5,o5,m5,e5,rfl⟩:=hi5.form;have zA:=((((mO.to hA3).drew.to hb3).to hb4).to hb5);obtain⟨a0,e0,b0,f0,c0,g0,d0,h0⟩:=zA.cf4)))
 have s0:=(Below.tr (Below.tr (Below.tr (Below.tr (Below.tr (Below.tr (Below.tr (Below.tr dG hA1) hb1) hA2) hb2) hA3).drew hb3) hb4) hb5)
 go_wp2_with fail
 exact jW (v:=.agg #[.bool g5,.slice p5 n5 c5,.bool h5,.slice o5 m5 e5]) (by simp[results,Tryz.results45,go_sem,j0,l0,n0,k0,m0,o0,i0,a0,e0,b0,f0,c0,g0,d0,h0]) rfl ⟨_,rfl,by rw[<-HX.out];exact(hi5.bM zA rfl rfl rfl rfl (.bool g5) (.slice p5 n5 c5) (.bool h5) (.slice o5 m5 e5)),(Below.bM s0 (b:=w.heap.size+1+1) (by omega) (.bool g5) (.slice p5 n5 c5) (.bool h5) (.slice o5 m5 e5))⟩
theorem b2G (v u:Value) (x y:Rat) (w:World) (fa:RQ w v x) (fb:RQ w u y) (hl:rsz x<=190000000) (hl2:rsz y<=190000000) (hy:y≠0) :
  Calls Tryz.prog 95 #[v,u] w (GQC (x / y) 0 w):=by
 obtain⟨b,p,n,c,d,o,m,e,rfl⟩:=fa.form
 obtain⟨f,i,j,k,g,r,t,a,rfl⟩:=fb.form
 have hb1:=fH x
 have hb2:=fD x
 have hb3:=fH y
 have hb4:=fD y
 have hc1:=fF x.num y.den
 have hc4:=fF x.den y.num
 have HX:=au (a1U x y)
 have hn0:y.num≠0:=fun h=>hy ((AZ y).1 h)
 have hd0:(x.den:Int)*y.num≠0:=fun h=>by
  have:=x.den_nz
  rcases Int.mul_eq_zero.1 h with h|h<;>omega
 clear hy hn0
 have dG:Below w.heap.size w w:=bf _ _
 go_enter Tryz.func95,Tryz.ntmps95
 go_wp2_with fail
 obtain⟨hA1,t0,u0,v0⟩:=bx3 w rfl [.bool b,.slice p n c,.bool d,.slice o m e] 64 [.bool f,.slice i j k,.bool g,.slice r t a] 64 [.bool false,.slice none 0 0,.bool false,.slice none 0 0] 64
 have y0:=(fa.below hA1)
 (with_reducible refine(lT _ (x) _ y0 (by omega)).mono ?_)
 rintro e w1 ⟨v1,rfl,hi1,hb1⟩
 obtain⟨g1,p1,n1,c1,h1,o1,m1,e1,rfl⟩:=hi1.form
 have eU:=(u0.to hb1)
 obtain⟨r1,s1,t1,u1⟩:=eU.cs4
 have dR:=(t0.to hb1)
 have j0:=(dR).1
 have l0:=(eU).1
 have NI:=(v0.to hb1)
 have n0:=(NI).1
 go_wp2_with fail
 have a2X:=((fb.below hA1).below hb1)
 obtain⟨hA2,w0⟩:=bx1 w1 rfl [.bool g1,.slice p1 n1 c1,.bool h1,.slice o1 m1 e1] 64
 have z0:=(a2X.below hA2)
 (with_reducible refine(lT _ (y) _ z0 (by omega)).mono ?_)
 rintro e w2 ⟨v2,rfl,hi2,hb2⟩
 obtain⟨g2,p2,n2,c2,h2,o2,m2,e2,rfl⟩:=hi2.form
 have dM:=((dR.to hA2).to hb2)
 have k0:=(dM).1
 have dN:=((eU.to hA2).to hb2)
 have m0:=(dN).1
 have mO:=((NI.to hA2).to hb2)
 have o0:=(mO).1
 have q0:=(w0.to hb2)
 have i0:=(q0).1
 go_wp2_with fail
 obtain⟨hA3,x0⟩:=bx1 w2 rfl [.bool g2,.slice p2 n2 c2,.bool h2,.slice o2 m2 e2] 64
 have a4S:=(aO.mk ((q0.to hA3).drew).bs4 (x0.drew).bs4)
 have r0:dW (w.heap.size+1+1) (aO (BS4 w1.heap.size (.bool g1) (.slice p1 n1 c1) (.bool h1) (.slice o1 m1 e1)) (BS4 w2.heap.size (.bool g2) (.slice p2 n2 c2) (.bool h2) (.slice o2 m2 e2))):=(aO.hc (BS4.hc (by omega)) (BS4.hc (by omega)))
 have tk1:True:=trivial
 have tk2:True:=trivial
 have tk3:True:=trivial
 go_region_held3 (aO (BS4 w1.heap.size (.bool g1) (.slice p1 n1 c1) (.bool h1) (.slice o1 m1 e1)) (BS4 w2.heap.size (.bool g2) (.slice p2 n2 c2) (.bool h2) (.slice o2 m2 e2))) (first|with_reducible exact a4S|with_reducible exact iH.go (aO.hk BS4.hk BS4.hk) (by assumption) (by assumption)|with_reducible exact dW.go4 r0 (by assumption)|(simp;done))
  (first
   | (((have:=tk1);clear tk1;have p0:=((hi1.below hA2).below hb2);have a1:=(p0.below hA3).drew.num.raw;have b1:=(hi2.below hA3).drew.den.raw;go_at_call 85;(with_reducible refine(pJ _ _ (((x)).num) ((((y)).den:Int)) _ a1 b1 (by omega) (by omega)).mono ?_);rintro e w3 ⟨v3,rfl,hi3,hb3⟩;obtain⟨g3,p3,n3,c3,rfl⟩:=hi3.form))
   | (((have:=tk2);clear tk2;have k1:=((p0.below hA3).drew.below hb3);have d1:=k1.den.raw;have l1:=((hi2.below hA3).drew.below hb3);have f1:=l1.num.raw;go_at_call 85;(with_reducible refine(pJ _ _ ((((x)).den:Int)) (((y)).num) _ d1 f1 (by omega) (by omega)).mono ?_);rintro e w4 ⟨v4,rfl,hi4,hb4⟩;obtain⟨g4,p4,n4,c4,rfl⟩:=hi4.form))
   | (((have:=tk3);clear tk3;have q1:=(hi3.below hb4);have i1:=q1;have j1:=hi4;go_at_call 141;(with_reducible refine(b2P _ _ ((((x)).num)*((((y)).den:Int))) (((((x)).den:Int))*(((y)).num)) _ i1 j1 (by omega) (by omega) hd0).mono ?_);rintro e w5 ⟨v5,rfl,hi5,hb5⟩;obtain⟨g5,p5,n5,c5,h5,o5,m5,e5,rfl⟩:=hi5.form;have zA:=((((mO.to hA3).drew.to hb3).to hb4).to hb5);obtain⟨a0,e0,b0,f0,c0,g0,d0,h0⟩:=zA.cf4)))
 have s0:=(Below.tr (Below.tr (Below.tr (Below.tr (Below.tr (Below.tr (Below.tr (Below.tr dG hA1) hb1) hA2) hb2) hA3).drew hb3) hb4) hb5)
 go_wp2_with fail
 exact jW (v:=.tuple #[.agg #[.bool g5,.slice p5 n5 c5,.bool h5,.slice o5 m5 e5],.int .i64 0]) (by simp[results,Tryz.results95,go_sem,j0,l0,n0,k0,m0,o0,i0,a0,e0,b0,f0,c0,g0,d0,h0]) rfl ⟨_,rfl,by rw[<-HX.out];exact(hi5.bM zA rfl rfl rfl rfl (.bool g5) (.slice p5 n5 c5) (.bool h5) (.slice o5 m5 e5)),(Below.bM s0 (b:=w.heap.size+1+1) (by omega) (.bool g5) (.slice p5 n5 c5) (.bool h5) (.slice o5 m5 e5))⟩
theorem a0s (v u:Value) (x y:Rat) (w:World) (fa:RQ w v x) (fb:RQ w u y) (hl:rsz x<=190000000) (hl2:rsz y<=190000000) :
  Calls Tryz.prog 43 #[v,u] w (GQ (x-y) w):=by
 obtain⟨b,p,n,c,d,o,m,e,rfl⟩:=fa.form
 obtain⟨f,i,j,k,g,r,t,a,rfl⟩:=fb.form
 have hb1:=fH x
 have hb2:=fD x
 have hb3:=fH y
 have hb4:=fD y
 have hc5:rsz (-y)<=190000000:=by rw[a2d];exact hl2
 have dG:Below w.heap.size w w:=bf _ _
 go_enter Tryz.func43,Tryz.ntmps43
 go_wp2_with fail
 obtain⟨hA1,l0,m0,i0⟩:=bx3 w rfl [.bool b,.slice p n c,.bool d,.slice o m e] 64 [.bool f,.slice i j k,.bool g,.slice r t a] 64 [.bool false,.slice none 0 0,.bool false,.slice none 0 0] 64
 have zJ:=(aO.mk (l0.drew).bs4 (aO.mk (m0.drew).bs4 (BN.of (i0.drew))))
 have j0:dW (w.heap.size+1+1) (aO (BS4 w.heap.size (.bool b) (.slice p n c) (.bool d) (.slice o m e)) (aO (BS4 (w.heap.size+1) (.bool f) (.slice i j k) (.bool g) (.slice r t a)) (BN (w.heap.size+1+1)))):=(aO.hc (BS4.hc (by omega)) (aO.hc (BS4.hc (by omega)) BN.hc))
 have tk1:True:=trivial
 have tk2:True:=trivial
 go_region_held3 (aO (BS4 w.heap.size (.bool b) (.slice p n c) (.bool d) (.slice o m e)) (aO (BS4 (w.heap.size+1) (.bool f) (.slice i j k) (.bool g) (.slice r t a)) (BN (w.heap.size+1+1)))) (first|with_reducible exact zJ|with_reducible exact iH.go (aO.hk BS4.hk (aO.hk BS4.hk BN.hk)) (by assumption) (by assumption)|with_reducible exact dW.go4 j0 (by assumption)|(simp;done))
  (first
   | (((have:=tk1);clear tk1;have n0:=(fb.below hA1).drew;go_at_call 56;(with_reducible refine(a9A _ (y) _ n0 (by omega)).mono ?_);rintro e w1 ⟨v1,rfl,hi1,hb1⟩;obtain⟨g1,p1,n1,c1,h1,o1,m1,e1,rfl⟩:=hi1.form))
   | (((have:=tk2);clear tk2;have b7g:=((fa.below hA1).drew.below hb1);have o0:=b7g;have p0:=hi1;go_at_call 44;(with_reducible refine(a0o _ _ (x) (-(y)) _ o0 p0 hl hc5).mono ?_);rintro e w2 ⟨v2,rfl,hi2,hb2⟩;obtain⟨g2,p2,n2,c2,h2,o2,m2,e2,rfl⟩:=hi2.form;have mO:=((i0.drew.to hb1).to hb2);obtain⟨a0,e0,b0,f0,c0,g0,d0,h0⟩:=mO.cf4)))
 have k0:=(Below.tr (Below.tr (Below.tr dG hA1).drew hb1) hb2)
 go_wp2_with fail
 exact jW (v:=.agg #[.bool g2,.slice p2 n2 c2,.bool h2,.slice o2 m2 e2]) (by simp[results,Tryz.results43,go_sem,a0,e0,b0,f0,c0,g0,d0,h0]) rfl ⟨_,rfl,by rw[Rat.sub_eq_add_neg];exact(hi2.bM mO rfl rfl rfl rfl (.bool g2) (.slice p2 n2 c2) (.bool h2) (.slice o2 m2 e2)),(Below.bM k0 (b:=w.heap.size+1+1) (by omega) (.bool g2) (.slice p2 n2 c2) (.bool h2) (.slice o2 m2 e2))⟩
theorem b3d (x y:Rat):sgn (x-y).num=CP x y:=by
 unfold CP
 have h1:=Rat.lt_iff (x-y) 0
 have h2:=Rat.lt_iff 0 (x-y)
 simp at h1 h2
 by_cases hx:x<y
 ·rw[eY hx,NS (h1.1 (by grind))]
 ·rw[dw hx]
  by_cases hy:y<x
  ·rw[eY hy,BI (h2.1 (by grind))]
  ·rw[dw hy]
   have:x-y=0:=by grind
   rw[this];rfl
theorem JF (v u:Value) (x y:Rat) (w:World) (fa:RQ w v x) (fb:RQ w u y) (hl:rsz x<=190000000) (hl2:rsz y<=190000000) :
  Calls Tryz.prog 46 #[v,u] w (fun e w'=>e=.returned (.int .i64 (CP x y))/\Below w.heap.size w w'):=by
 obtain⟨b,p,n,c,d,o,m,e,rfl⟩:=fa.form
 obtain⟨f,i,j,k,g,r,t,a,rfl⟩:=fb.form
 have hb1:=fH x
 have hb2:=fD x
 have hb3:=fH y
 have hb4:=fD y
 have hc5:=a8a x y
 have dG:Below w.heap.size w w:=bf _ _
 go_enter Tryz.func46,Tryz.ntmps46
 go_wp2_with fail
 obtain⟨hA1,e0,f0⟩:=bx2 w rfl [.bool b,.slice p n c,.bool d,.slice o m e] 64 [.bool f,.slice i j k,.bool g,.slice r t a] 64
 have b0:=(fa.below hA1)
 have c0:=(fb.below hA1)
 (with_reducible refine(a0s _ _ (x) (y) _ b0 c0 hl hl2).mono ?_)
 rintro e w1 ⟨v1,rfl,hi1,hb1⟩
 obtain⟨g1,p1,n1,c1,h1,o1,m1,e1,rfl⟩:=hi1.form
 go_wp2_with fail
 have d0:=hi1
 (with_reducible refine(XI _ ((x)-(y)) _ d0 (by omega)).mono ?_)
 rintro e w2 ⟨rfl,hb2⟩
 have a0:=(Below.tr (Below.tr (Below.tr dG hA1) hb1) hb2)
 go_wp2_with fail
 go_ret
 exact⟨iZ (b3d x y),a0⟩
theorem UG (x y:Rat):CP x y=0↔x=y:=by
 unfold CP
 by_cases h1:x<y
 ·rw[eY h1];constructor
  ·intro h;simp at h
  ·intro h;rw[h] at h1;exact absurd h1 (Rat.lt_irrefl)
 ·rw[dw h1]
  by_cases h2:y<x
  ·rw[eY h2];constructor
   ·intro h;simp at h
   ·intro h;rw[h] at h2;exact absurd h2 (Rat.lt_irrefl)
  ·rw[dw h2];exact⟨fun _=>Rat.le_antisymm (Rat.not_lt.1 h2) (Rat.not_lt.1 h1),fun _=>rfl⟩
theorem a9E (v u:Value) (x y:Rat) (w:World) (fa:RQ w v x) (fb:RQ w u y) (hl:rsz x<=190000000) (hl2:rsz y<=190000000) :
  Calls Tryz.prog 32 #[v,u] w (GB (decide (x=y)) w):=by
 have hn1:=fa.qn (k:=999999999) (by omega)
 have hn2:=fb.qn (k:=999999999) (by omega)
 obtain⟨b,p,n,c,d,o,m,e,rfl⟩:=fa.form
 obtain⟨f,i,j,k,g,r,t,a,rfl⟩:=fb.form
 have HX:Hid ((CP x y==0)=decide (x=y)):=au (by
  have:=UG x y
  rw[Bool.eq_iff_iff]
  simp only[jd,dh]
  exact this)
 have dG:Below w.heap.size w w:=bf _ _
 go_enter Tryz.func32,Tryz.ntmps32
 go_wp2_with fail
 obtain⟨hA1,b0,c0⟩:=bx2 w rfl [.bool b,.slice p n c,.bool d,.slice o m e] 64 [.bool f,.slice i j k,.bool g,.slice r t a] 64
 have d0:=(fa.below hA1).raw
 (with_reducible refine(uM _ _ _ _ d0 hn1).mono ?_)
 rintro e w1 ⟨rfl,hb1⟩
 have eU:=(c0.to hb1)
 obtain⟨l0,n0,p0,r0⟩:=eU.cs4
 go_wp2_with fail
 have a2X:=((fb.below hA1).below hb1)
 have e0:=a2X.raw
 (with_reducible refine(uM _ _ _ _ e0 hn2).mono ?_)
 rintro e w2 ⟨rfl,hb2⟩
 have dM:=((b0.to hb1).to hb2)
 obtain⟨h0,i0,j0,k0⟩:=dM.cs4
 have dN:=(eU.to hb2)
 obtain⟨m0,o0,q0,s0⟩:=dN.cs4
 go_wp2_with fail
 have c4V:=(((fa.below hA1).below hb1).below hb2)
 have f0:=c4V
 have c4W:=(a2X.below hb2)
 have g0:=c4W
 (with_reducible refine(JF _ _ (x) (y) _ f0 g0 hl hl2).mono ?_)
 rintro e w3 ⟨rfl,hb3⟩
 have a0:=(Below.tr (Below.tr (Below.tr (Below.tr dG hA1) hb1) hb2) hb3)
 go_wp2_with fail
 go_ret
 exact⟨jB HX.out,a0⟩
end Go.Proofs.YtgplhbhfdgempaaGreat
