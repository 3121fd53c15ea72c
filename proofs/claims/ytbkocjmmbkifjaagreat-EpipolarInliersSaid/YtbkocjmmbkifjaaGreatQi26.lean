/-
  Lemmas for the theorem vinliers_holds, part 26 of 32.
-/
import Derived.Test.YtbkocjmmbkifjaaGreatQi25
namespace Go.Proofs.YtbkocjmmbkifjaaGreat
open Go Go.RowKit
set_option maxRecDepth 100000
set_option maxHeartbeats 4000000
set_option linter.unusedSimpArgs false
set_option linter.unusedVariables false
theorem tH {x y:Int} (h:y ∣ x):x.fdiv y=x / y:=by
 rw[Int.fdiv_eq_ediv,jq (.inr h),Int.sub_zero]
theorem a6j {n d:Int} (hd:0<d):n.fdiv ((Int.gcd n d:Nat):Int)=(Rat.divInt n d).num/\d.fdiv ((Int.gcd n d:Nat):Int)=(Rat.divInt n d).den:=by
 rw[nJ hd,nI hd]
 exact⟨tH (Int.gcd_dvd_left _ _),tH (Int.gcd_dvd_right _ _)⟩
theorem a6i {n d:Int} (hd:d<0):n.fdiv (-((Int.gcd n d:Nat):Int))=(Rat.divInt n d).num/\d.fdiv (-((Int.gcd n d:Nat):Int))=(Rat.divInt n d).den:=by
 rw[NV hd,NT hd]
 exact⟨tH (Int.neg_dvd.2 (Int.gcd_dvd_left _ _)),tH (Int.neg_dvd.2 (Int.gcd_dvd_right _ _))⟩
theorem DL (k:Int) (w:World) (h0:-9223372036854775808<=k) (h1:k<=9223372036854775807) :
  Calls Tryz.prog 132 #[.int .i64 k] w (lU k w):=by
 have aZ:Below w.heap.size w w:=bg _ _
 go_enter Tryz.func132,Tryz.ntmps132
 go_wp2_with fail
 (with_reducible refine(a4v _ _ (by omega) (by omega)).mono ?_)
 rintro e w1 ⟨v1,rfl,hi1,hb1⟩
 obtain⟨g1,p1,n1,c1,rfl⟩:=hi1.form
 obtain⟨hA1,f0⟩:=bx1 w rfl [.bool false,.slice none 0 0] 45
 have bT:=(f0.to hb1)
 obtain⟨a0,c0,b0,d0⟩:=bT.cf2
 have e0:=(Below.tr (Below.tr aZ hA1) hb1)
 go_wp2_with fail
 exact iw (v:=.agg #[.bool g1,.slice p1 n1 c1]) (by simp[results,Tryz.results132,go_sem,a0,c0,b0,d0]) rfl ⟨_,rfl,(hi1.aG bT rfl rfl (.bool g1) (.slice p1 n1 c1)),(Below.aG e0 (b:=w.heap.size) (by omega) (.bool g1) (.slice p1 n1 c1))⟩
theorem zA (k:Int) (w:World) (h0:-9223372036854775808<=k) (h1:k<=9223372036854775807) :
  Calls Tryz.prog 143 #[.int .i64 k] w (GQ (k:Rat) w):=by
 have aZ:Below w.heap.size w w:=bg _ _
 go_enter Tryz.func143,Tryz.ntmps143
 go_wp2_with fail
 (with_reducible refine(DL _ _ (by omega) (by omega)).mono ?_)
 rintro e w1 ⟨v1,rfl,hi1,hb1⟩
 obtain⟨g1,p1,n1,c1,rfl⟩:=hi1.form
 go_wp2_with fail
 (with_reducible refine(DL _ _ (by omega) (by omega)).mono ?_)
 rintro e w2 ⟨v2,rfl,hi2,hb2⟩
 obtain⟨g2,p2,n2,c2,rfl⟩:=hi2.form
 obtain⟨hA1,k0⟩:=bx1 w rfl [.bool false,.slice none 0 0,.bool false,.slice none 0 0] 47
 have bM:=((k0.to hb1).to hb2)
 obtain⟨a0,e0,b0,f0,c0,g0,d0,i0⟩:=bM.cf4
 have l0:=(hi1.below hb2)
 have j0:=(Below.tr (Below.tr (Below.tr aZ hA1) hb1) hb2)
 go_wp2_with fail
 exact iw (v:=.agg #[.bool g1,.slice p1 n1 c1,.bool g2,.slice p2 n2 c2]) (by simp[results,Tryz.results143,go_sem,a0,e0,b0,f0,c0,g0,d0,i0]) rfl ⟨_,rfl,RQ.mk' (l0.aU bM rfl rfl rfl rfl (.bool g1) (.slice p1 n1 c1) (.bool g2) (.slice p2 n2 c2)) (hi2.aU bM rfl rfl rfl rfl (.bool g1) (.slice p1 n1 c1) (.bool g2) (.slice p2 n2 c2)) (YE k).symm (by rw[YD];rfl),(Below.aU j0 (b:=w.heap.size) (by omega) (.bool g1) (.slice p1 n1 c1) (.bool g2) (.slice p2 n2 c2))⟩
theorem a1p (x y:Int) (w:World) (b d:Bool) (p o:Option Addr) (n c m e:Nat) (k1:fC w (.agg #[.bool b,.slice p n c]) false x) (k2:fC w (.agg #[.bool d,.slice o m e]) false y) (hl:isz x<=999999999) (hl2:isz y<=999999999) :
  Calls Tryz.prog 46 #[.agg #[.bool b,.slice p n c,.bool d,.slice o m e]] w fun e w'=>e=.returned (.bool (false&&(false&&(decide (0<y)&&decide (Int.gcd x y=1)))))/\Below w.heap.size w w':=by
 have HX:Hid (false=(false&&(false&&(decide (0<y)&&decide (Int.gcd x y=1))))):=by unfold Hid;simp
 have aZ:Below w.heap.size w w:=bg _ _
 go_enter Tryz.func46,Tryz.ntmps46
 go_wp2_with fail
 obtain⟨hA1,c0⟩:=bx1 w rfl [.bool b,.slice p n c,.bool d,.slice o m e] 47
 have b0:=(k1.below hA1)
 (with_reducible refine(iP _ _ _ _ b0).mono ?_)
 rintro e w1 ⟨rfl,hb1⟩
 have a0:=(Below.tr (Below.tr aZ hA1) hb1)
 go_wp2_with fail
 go_ret
 exact⟨gJ HX.out,a0⟩
theorem a1q (x y:Int) (w:World) (b d:Bool) (p o:Option Addr) (n c m e:Nat) (k1:fC w (.agg #[.bool b,.slice p n c]) false x) (k2:fC w (.agg #[.bool d,.slice o m e]) true y) (hl:isz x<=999999999) (hl2:isz y<=999999999) :
  Calls Tryz.prog 46 #[.agg #[.bool b,.slice p n c,.bool d,.slice o m e]] w fun e w'=>e=.returned (.bool (false&&(true&&(decide (0<y)&&decide (Int.gcd x y=1)))))/\Below w.heap.size w w':=by
 have HX:Hid (false=(false&&(true&&(decide (0<y)&&decide (Int.gcd x y=1))))):=by unfold Hid;simp
 have aZ:Below w.heap.size w w:=bg _ _
 go_enter Tryz.func46,Tryz.ntmps46
 go_wp2_with fail
 obtain⟨hA1,c0⟩:=bx1 w rfl [.bool b,.slice p n c,.bool d,.slice o m e] 47
 have b0:=(k1.below hA1)
 (with_reducible refine(iP _ _ _ _ b0).mono ?_)
 rintro e w1 ⟨rfl,hb1⟩
 have a0:=(Below.tr (Below.tr aZ hA1) hb1)
 go_wp2_with fail
 go_ret
 exact⟨gJ HX.out,a0⟩
theorem a1r (x y:Int) (w:World) (b d:Bool) (p o:Option Addr) (n c m e:Nat) (k1:fC w (.agg #[.bool b,.slice p n c]) true x) (k2:fC w (.agg #[.bool d,.slice o m e]) false y) (hl:isz x<=999999999) (hl2:isz y<=999999999) :
  Calls Tryz.prog 46 #[.agg #[.bool b,.slice p n c,.bool d,.slice o m e]] w fun e w'=>e=.returned (.bool (true&&(false&&(decide (0<y)&&decide (Int.gcd x y=1)))))/\Below w.heap.size w w':=by
 have HX:Hid (false=(true&&(false&&(decide (0<y)&&decide (Int.gcd x y=1))))):=by unfold Hid;simp
 have aZ:Below w.heap.size w w:=bg _ _
 go_enter Tryz.func46,Tryz.ntmps46
 go_wp2_with fail
 obtain⟨hA1,b0⟩:=bx1 w rfl [.bool b,.slice p n c,.bool d,.slice o m e] 47
 have c0:=(k1.below hA1)
 (with_reducible refine(iP _ _ _ _ c0).mono ?_)
 rintro e w1 ⟨rfl,hb1⟩
 have bT:=(b0.to hb1)
 obtain⟨e0,f0,g0,h0⟩:=bT.cs4
 go_wp2_with fail
 have DF:=((k2.below hA1).below hb1)
 have d0:=DF
 (with_reducible refine(iP _ _ _ _ d0).mono ?_)
 rintro e w2 ⟨rfl,hb2⟩
 have a0:=(Below.tr (Below.tr (Below.tr aZ hA1) hb1) hb2)
 go_wp2_with fail
 go_ret
 exact⟨gJ HX.out,a0⟩
theorem a1s (x y:Int) (w:World) (b d:Bool) (p o:Option Addr) (n c m e:Nat) (k1:fC w (.agg #[.bool b,.slice p n c]) true x) (k2:fC w (.agg #[.bool d,.slice o m e]) true y) (hl:isz x<=999999999) (hl2:isz y<=999999999) (hd:¬ 0<y) :
  Calls Tryz.prog 46 #[.agg #[.bool b,.slice p n c,.bool d,.slice o m e]] w fun e w'=>e=.returned (.bool (true&&(true&&(decide (0<y)&&decide (Int.gcd x y=1)))))/\Below w.heap.size w w':=by
 have HX:Hid (false=(true&&(true&&(decide (0<y)&&decide (Int.gcd x y=1))))):=by unfold Hid;simp[hd]
 have hsg:decide (sgn y<=0)=true:=by have:=a9P hd;simpa using this
 clear hd
 have aZ:Below w.heap.size w w:=bg _ _
 go_enter Tryz.func46,Tryz.ntmps46
 go_wp2_with fail
 obtain⟨hA1,b0⟩:=bx1 w rfl [.bool b,.slice p n c,.bool d,.slice o m e] 47
 have c0:=(k1.below hA1)
 (with_reducible refine(iP _ _ _ _ c0).mono ?_)
 rintro e w1 ⟨rfl,hb1⟩
 have bT:=(b0.to hb1)
 obtain⟨f0,h0,j0,l0⟩:=bT.cs4
 go_wp2_with fail
 have DF:=((k2.below hA1).below hb1)
 have d0:=DF
 (with_reducible refine(iP _ _ _ _ d0).mono ?_)
 rintro e w2 ⟨rfl,hb2⟩
 have bM:=(bT.to hb2)
 obtain⟨g0,i0,k0,m0⟩:=bM.cs4
 go_wp2_with fail
 have YH:=(DF.below hb2)
 have e0:=YH.raw
 (with_reducible refine(mP _ (y) _ e0 (by omega)).mono ?_)
 rintro e w3 ⟨rfl,hb3⟩
 have a0:=(Below.tr (Below.tr (Below.tr (Below.tr aZ hA1) hb1) hb2) hb3)
 go_wp2_with fail
 go_ret
 exact⟨gJ HX.out,a0⟩
theorem a1t (x y:Int) (w:World) (b d:Bool) (p o:Option Addr) (n c m e:Nat) (k1:fC w (.agg #[.bool b,.slice p n c]) true x) (k2:fC w (.agg #[.bool d,.slice o m e]) true y) (hl:isz x<=999999999) (hl2:isz y<=999999999) (hd:0<y) :
  Calls Tryz.prog 46 #[.agg #[.bool b,.slice p n c,.bool d,.slice o m e]] w fun e w'=>e=.returned (.bool (true&&(true&&(decide (0<y)&&decide (Int.gcd x y=1)))))/\Below w.heap.size w w':=by
 have HX:Hid ((dF ((Int.gcd x y:Nat):Int) 1==0)=(true&&(true&&(decide (0<y)&&decide (Int.gcd x y=1))))):=by unfold Hid;rw[KA];simp[hd];omega
 have hsg:decide (sgn y<=0)=false:=by rw[wX hd];rfl
 have hlg:isz ((Int.gcd x y:Nat):Int)<=999999999:=sD (by omega) (by omega)
 have h1g:isz 1<=999999999:=iq (qI (k:=1) (by rw[bI];decide)) (by omega)
 clear hd
 have aZ:Below w.heap.size w w:=bg _ _
 go_enter Tryz.func46,Tryz.ntmps46
 go_wp2_with fail
 obtain⟨hA1,b0⟩:=bx1 w rfl [.bool b,.slice p n c,.bool d,.slice o m e] 47
 have c0:=(k1.below hA1)
 (with_reducible refine(iP _ _ _ _ c0).mono ?_)
 rintro e w1 ⟨rfl,hb1⟩
 have bT:=(b0.to hb1)
 obtain⟨k0,n0,q0,t0⟩:=bT.cs4
 go_wp2_with fail
 have DF:=((k2.below hA1).below hb1)
 have d0:=DF
 (with_reducible refine(iP _ _ _ _ d0).mono ?_)
 rintro e w2 ⟨rfl,hb2⟩
 have bM:=(bT.to hb2)
 obtain⟨l0,o0,r0,u0⟩:=bM.cs4
 go_wp2_with fail
 have YH:=(DF.below hb2)
 have e0:=YH.raw
 (with_reducible refine(mP _ (y) _ e0 (by omega)).mono ?_)
 rintro e w3 ⟨rfl,hb3⟩
 have iY:=(bM.to hb3)
 obtain⟨m0,p0,s0,v0⟩:=iY.cs4
 go_wp2_with fail
 have b4r:=((((k1.below hA1).below hb1).below hb2).below hb3)
 have f0:=b4r.raw
 have b4s:=(YH.below hb3)
 have g0:=b4s.raw
 (with_reducible refine(QM _ _ (x) (y) _ f0 g0 (by omega) (by omega)).mono ?_)
 rintro e w4 ⟨v4,rfl,hi4,hb4⟩
 obtain⟨g4,p4,n4,c4,rfl⟩:=hi4.form
 go_wp2_with fail
 (with_reducible refine(DL _ _ (by omega) (by omega)).mono ?_)
 rintro e w5 ⟨v5,rfl,hi5,hb5⟩
 obtain⟨g5,p5,n5,c5,rfl⟩:=hi5.form
 go_wp2_with fail
 have j0:=(hi4.below hb5)
 have h0:=j0.raw
 have i0:=hi5.raw
 (with_reducible refine(YV _ _ ((Int.gcd (x) (y):Int)) (1) _ h0 i0 hlg h1g).mono ?_)
 rintro e w6 ⟨rfl,hb6⟩
 have a0:=(Below.tr (Below.tr (Below.tr (Below.tr (Below.tr (Below.tr (Below.tr aZ hA1) hb1) hb2) hb3) hb4) hb5) hb6)
 go_wp2_with fail
 go_ret
 exact⟨gJ HX.out,a0⟩
theorem qC (v:Value) (ok:Bool) (q:Rat) (w:World) (h:fH w v ok q) (hn:Qn v 999999999) :
  Calls Tryz.prog 46 #[v] w fun e w'=>e=.returned (.bool ok)/\Below w.heap.size w w':=by
 obtain⟨b,s,c,t,o1,o2,x,y,e,h1,h2,rfl,_⟩:=h
 obtain⟨b1,p1,n1,c1,b2,p2,n2,c2,e1,l1,l2⟩:=hn
 rw[e1] at e
 cases e
 subst e1
 have l3:=h1.raw.len
 have l4:=h2.raw.len
 cases o1
 ·cases o2
  ·exact a1p x y w _ _ _ _ _ _ _ _ h1 h2 (by omega) (by omega)
  ·exact a1q x y w _ _ _ _ _ _ _ _ h1 h2 (by omega) (by omega)
 ·cases o2
  ·exact a1r x y w _ _ _ _ _ _ _ _ h1 h2 (by omega) (by omega)
  ·by_cases hd:0<y
   ·exact a1t x y w _ _ _ _ _ _ _ _ h1 h2 (by omega) (by omega) hd
   ·exact a1s x y w _ _ _ _ _ _ _ _ h1 h2 (by omega) (by omega) hd
theorem ZE (v:Value) (q:Rat) (w:World) (h:fH w v true q) (hn:Qn v 999999999) :
  Calls Tryz.prog 78 #[v] w (GQ q w):=by
 obtain⟨b,p,n,c,d,o,m,e,rfl⟩:=h.form
 have aZ:Below w.heap.size w w:=bg _ _
 go_enter Tryz.func78,Tryz.ntmps78
 go_wp2_with fail
 obtain⟨hA1,j0,k0⟩:=bx2 w rfl [.bool b,.slice p n c,.bool d,.slice o m e] 47 [.bool false,.slice none 0 0,.bool false,.slice none 0 0] 47
 have l0:=(h.below hA1)
 (with_reducible refine(qC _ _ _ _ l0 hn).mono ?_)
 rintro e w1 ⟨rfl,hb1⟩
 have bT:=(j0.to hb1)
 obtain⟨m0,n0,o0,p0⟩:=bT.cs4
 have dA:=(k0.to hb1)
 obtain⟨a0,e0,b0,f0,c0,g0,d0,h0⟩:=dA.cf4
 have h_1:=((h.below hA1).below hb1)
 have i0:=(Below.tr (Below.tr aZ hA1) hb1)
 go_wp2_with fail
 exact iw (v:=.agg #[.bool b,.slice p n c,.bool d,.slice o m e]) (by simp[results,Tryz.results78,go_sem,a0,e0,b0,f0,c0,g0,d0,h0]) rfl ⟨_,rfl,fH.rq (h_1.aU dA rfl rfl rfl rfl (.bool b) (.slice p n c) (.bool d) (.slice o m e)),(Below.aU i0 (b:=w.heap.size+1) (by omega) (.bool b) (.slice p n c) (.bool d) (.slice o m e))⟩
theorem TD (v:Value) (q:Rat) (w:World) (h:fH w v false q) (hn:Qn v 999999999) :
  Calls Tryz.prog 78 #[v] w (GQ q w):=by
 obtain⟨b,p,n,c,d,o,m,e,rfl⟩:=h.form
 have HX:Hid (q=((0:Int):Rat)):=by unfold Hid;rw[h.no];rfl
 have aZ:Below w.heap.size w w:=bg _ _
 go_enter Tryz.func78,Tryz.ntmps78
 go_wp2_with fail
 obtain⟨hA1,l0,j0⟩:=bx2 w rfl [.bool b,.slice p n c,.bool d,.slice o m e] 47 [.bool false,.slice none 0 0,.bool false,.slice none 0 0] 47
 have k0:=(h.below hA1)
 (with_reducible refine(qC _ _ _ _ k0 hn).mono ?_)
 rintro e w1 ⟨rfl,hb1⟩
 go_wp2_with fail
 (with_reducible refine(zA _ _ (by omega) (by omega)).mono ?_)
 rintro e w2 ⟨v2,rfl,hi2,hb2⟩
 obtain⟨g2,p2,n2,c2,h2,o2,m2,e2,rfl⟩:=hi2.form
 have bJ:=((j0.to hb1).to hb2)
 obtain⟨a0,e0,b0,f0,c0,g0,d0,h0⟩:=bJ.cf4
 have i0:=(Below.tr (Below.tr (Below.tr aZ hA1) hb1) hb2)
 go_wp2_with fail
 exact iw (v:=.agg #[.bool g2,.slice p2 n2 c2,.bool h2,.slice o2 m2 e2]) (by simp[results,Tryz.results78,go_sem,a0,e0,b0,f0,c0,g0,d0,h0]) rfl ⟨_,rfl,by rw[HX.out];exact(hi2.aU bJ rfl rfl rfl rfl (.bool g2) (.slice p2 n2 c2) (.bool h2) (.slice o2 m2 e2)),(Below.aU i0 (b:=w.heap.size+1) (by omega) (.bool g2) (.slice p2 n2 c2) (.bool h2) (.slice o2 m2 e2))⟩
theorem a1u (v:Value) (ok:Bool) (q:Rat) (w:World) (h:fH w v ok q) (hn:Qn v 999999999) :
  Calls Tryz.prog 78 #[v] w (GQ q w):=by
 cases ok
 ·exact TD v q w h hn
 ·exact ZE v q w h hn
theorem jA (v:Value) (q:Rat) (w:World) (h:RQ w v q) (hl:rsz q<=999999999) :
 Calls Tryz.prog 78 #[v] w (GQ q w):=a1u v true q w h.raw (h.qn hl)
theorem LJ (v u:Value) (x y:Int) (w:World) (hv:bW w v x) (hu:bW w u y) (hl:isz x<=400000000) (hl2:isz y<=400000000) (hd:0<y) :
  Calls Tryz.prog 162 #[v,u] w (GQ (Rat.divInt x y) w):=by
 obtain⟨b,p,n,c,rfl⟩:=hv.form
 obtain⟨d,o,m,e,rfl⟩:=hu.form
 have HX:=bn (a6j (n:=x) hd)
 have b4d:isz ((Int.gcd x y:Nat):Int)<=400000000:=sD (by omega) hl2
 have hlh:isz ((Int.gcd x y:Nat):Int)<=1000000000:=by omega
 have hlg:isz ((Int.gcd x y:Nat):Int)<=400000000:=by exact b4d
 have b4a:((Int.gcd x y:Nat):Int)≠0:=gcd_ne (by omega)
 have hg0:((Int.gcd x y:Nat):Int)≠0:=by omega
 have hsg:decide (sgn y<0)=false:=by rw[wX hd];rfl
 clear hd b4a
 have aZ:Below w.heap.size w w:=bg _ _
 go_enter Tryz.func162,Tryz.ntmps162
 go_wp2_with fail
 obtain⟨hA1,y1,z1,a2⟩:=bx3 w rfl [.bool b,.slice p n c] 45 [.bool d,.slice o m e] 45 [.bool false,.slice none 0 0,.bool false,.slice none 0 0] 47
 have e2:=(hv.below hA1).raw
 have f2:=(hu.below hA1).raw
 (with_reducible refine(QM _ _ (x) (y) _ e2 f2 (by omega) (by omega)).mono ?_)
 rintro e w1 ⟨v1,rfl,hi1,hb1⟩
 obtain⟨g1,p1,n1,c1,rfl⟩:=hi1.form
 have dA:=(z1.to hb1)
 obtain⟨p2,r2⟩:=dA.cs2
 have bT:=(y1.to hb1)
 have s0:=(bT).1
 have x0:=(dA).1
 have FM:=(a2.to hb1)
 have d1:=(FM).1
 go_wp2_with fail
 have iF:=((hu.below hA1).below hb1)
 obtain⟨hA2,b2⟩:=bx1 w1 rfl [.bool g1,.slice p1 n1 c1] 45
 have g2:=(iF.below hA2).raw
 (with_reducible refine(mP _ (y) _ g2 (by omega)).mono ?_)
 rintro e w2 ⟨rfl,hb2⟩
 have bM:=((bT.to hA2).to hb2)
 obtain⟨n2,o2⟩:=bM.cs2
 have k1:=(b2.to hb2)
 obtain⟨q1,s1⟩:=k1.cs2
 go_wp2_with fail
 have CY:=((((hv.below hA1).below hb1).below hA2).below hb2)
 have h2:=CY.raw
 have j1:=((hi1.below hA2).below hb2)
 have i2:=j1.raw
 (with_reducible refine(uG _ _ (x) ((Int.gcd (x) (y):Int)) _ h2 i2 (by omega) hlg hg0).mono ?_)
 rintro e w3 ⟨v3,u3,rfl,hi3,hj3,hb3⟩
 obtain⟨g3,p3,n3,c3,rfl⟩:=hi3.form
 obtain⟨h3,o3,m3,e3,rfl⟩:=hj3.form
 have lI:=(((dA.to hA2).to hb2).to hb3)
 obtain⟨q2,s2⟩:=lI.cs2
 have a0:=(k1.to hb3)
 obtain⟨r1,t1⟩:=a0.cs2
 have iY:=(bM.to hb3)
 have t0:=(iY).1
 have y0:=(lI).1
 have BK:=(((FM.to hA2).to hb2).to hb3)
 have e1:=(BK).1
 have k0:=(a0).1
 obtain⟨hA3,t2⟩:=bx1 w3 rfl [.bool false,.slice none 0 0] 45
 have u0:=((iY.to hA3)).1
 have z0:=((lI.to hA3)).1
 have f1:=((BK.to hA3)).1
 have l0:=((a0.to hA3)).1
 go_wp2_with fail
 have ET:=(((iF.below hA2).below hb2).below hb3)
 obtain⟨hA4,c2,d2⟩:=bx2 w3 rfl [.bool g3,.slice p3 n3 c3] 45 [.bool h3,.slice o3 m3 e3] 45
 have j2:=(ET.below hA4).raw
 have l2:=(j1.below hb3)
 have k2:=(l2.below hA4).raw
 (with_reducible refine(uG _ _ (y) ((Int.gcd (x) (y):Int)) _ j2 k2 (by omega) hlg hg0).mono ?_)
 rintro e w4 ⟨v4,u4,rfl,hi4,hj4,hb4⟩
 obtain⟨g4,p4,n4,c4,rfl⟩:=hi4.form
 obtain⟨h4,o4,m4,e4,rfl⟩:=hj4.form
 have j0:=(c2.to hb4)
 obtain⟨u1,x1⟩:=j0.cs2
 have kV:=((BK.to hA4).to hb4)
 obtain⟨b0,f0,c0,g0,d0,h0,e0,i0⟩:=kV.cf4
 have kJ:=((iY.to hA4).to hb4)
 have v0:=(kJ).1
 have jJ:=((lI.to hA4).to hb4)
 have a1:=(jJ).1
 have h1:=(kV).1
 have l1:=((a0.to hA4).to hb4)
 have m0:=(l1).1
 have o0:=(j0).1
 have m1:=(d2.to hb4)
 have q0:=(m1).1
 obtain⟨hA5,u2⟩:=bx1 w4 rfl [.bool false,.slice none 0 0] 45
 have w0:=((kJ.to hA5)).1
 have b1:=((jJ.to hA5)).1
 have i1:=((kV.to hA5)).1
 have n0:=((l1.to hA5)).1
 have p0:=((j0.to hA5)).1
 have r0:=((m1.to hA5)).1
 obtain⟨hA6,v2,x2⟩:=bx2 w4 rfl [.bool g4,.slice p4 n4 c4] 45 [.bool h4,.slice o4 m4 e4] 45
 have m2:=((hi3.below hA4).below hb4)
 obtain⟨hA7,y2,z2⟩:=bx2 ((((w4.setCell ⟨w.heap.size+1+1,0,none⟩ (.bool g3)).setCell ⟨w.heap.size+1+1,1,none⟩ (.slice p3 n3 c3)).setCell ⟨w.heap.size+1+1,2,none⟩ (.bool g4)).setCell ⟨w.heap.size+1+1,3,none⟩ (.slice p4 n4 c4)) (by simp:_=w4.heap.size) [.bool g4,.slice p4 n4 c4] 45 [.bool h4,.slice o4 m4 e4] 45
 have o1:=(Below.tr (Below.tr (Below.tr (Below.tr (Below.tr (Below.tr (Below.tr aZ hA1) hb1) hA2) hb2) hb3) hA4) hb4)
 go_wp2_with fail
 exact iw (v:=.agg #[.bool g3,.slice p3 n3 c3,.bool g4,.slice p4 n4 c4]) (by simp[results,Tryz.results162,go_sem,s0,x0,d1,t0,y0,e1,k0,u0,z0,f1,l0,v0,a1,h1,m0,o0,q0,w0,b1,i1,n0,p0,r0,b0,f0,c0,g0,d0,h0,e0,i0]) rfl ⟨_,rfl,RQ.mk' ((m2.aU kV rfl rfl rfl rfl (.bool g3) (.slice p3 n3 c3) (.bool g4) (.slice p4 n4 c4)).below hA7) ((hi4.aU kV rfl rfl rfl rfl (.bool g3) (.slice p3 n3 c3) (.bool g4) (.slice p4 n4 c4)).below hA7) HX.out.1 HX.out.2,(Below.tr (Below.aU o1 (b:=w.heap.size+1+1) (by omega) (.bool g3) (.slice p3 n3 c3) (.bool g4) (.slice p4 n4 c4)) hA7)⟩
theorem QO (v u:Value) (x y:Int) (w:World) (hv:bW w v x) (hu:bW w u y) (hl:isz x<=400000000) (hl2:isz y<=400000000) (hd:y<0) :
  Calls Tryz.prog 162 #[v,u] w (GQ (Rat.divInt x y) w):=by
 obtain⟨b,p,n,c,rfl⟩:=hv.form
 obtain⟨d,o,m,e,rfl⟩:=hu.form
 have HX:=bn (a6i (n:=x) hd)
 have b4d:isz ((Int.gcd x y:Nat):Int)<=400000000:=sD (by omega) hl2
 have hlh:isz ((Int.gcd x y:Nat):Int)<=1000000000:=by omega
 have hlg:isz (-((Int.gcd x y:Nat):Int))<=400000000:=by rw[lS];exact b4d
 have b4a:((Int.gcd x y:Nat):Int)≠0:=gcd_ne (by omega)
 have hg0:(-((Int.gcd x y:Nat):Int))≠0:=by omega
 have hsg:decide (sgn y<0)=true:=by rw[FW hd];rfl
 clear hd b4a
 have aZ:Below w.heap.size w w:=bg _ _
 go_enter Tryz.func162,Tryz.ntmps162
 go_wp2_with fail
 obtain⟨hA1,c2,d2,e2⟩:=bx3 w rfl [.bool b,.slice p n c] 45 [.bool d,.slice o m e] 45 [.bool false,.slice none 0 0,.bool false,.slice none 0 0] 47
 have i2:=(hv.below hA1).raw
 have j2:=(hu.below hA1).raw
 (with_reducible refine(QM _ _ (x) (y) _ i2 j2 (by omega) (by omega)).mono ?_)
 rintro e w1 ⟨v1,rfl,hi1,hb1⟩
 obtain⟨g1,p1,n1,c1,rfl⟩:=hi1.form
 have dA:=(d2.to hb1)
 obtain⟨v2,y2⟩:=dA.cs2
 have bT:=(c2.to hb1)
 have x0:=(bT).1
 have d1:=(dA).1
 have FM:=(e2.to hb1)
 have j1:=(FM).1
 go_wp2_with fail
 have iF:=((hu.below hA1).below hb1)
 obtain⟨hA2,f2⟩:=bx1 w1 rfl [.bool g1,.slice p1 n1 c1] 45
 have k2:=(iF.below hA2).raw
 (with_reducible refine(mP _ (y) _ k2 (by omega)).mono ?_)
 rintro e w2 ⟨rfl,hb2⟩
 have q1:=(f2.to hb2)
 obtain⟨u1,y1⟩:=q1.cs2
 go_wp2_with fail
 have q2:=((hi1.below hA2).below hb2)
 have l2:=q2.raw
 (with_reducible refine(QN _ ((Int.gcd (x) (y):Int)) _ l2 hlh).mono ?_)
 rintro e w3 ⟨v3,rfl,hi3,hb3⟩
 obtain⟨g3,p3,n3,c3,rfl⟩:=hi3.form
 have a0:=(q1.to hb3)
 obtain⟨c0,e0,d0,f0⟩:=a0.cf2
 have iY:=(((bT.to hA2).to hb2).to hb3)
 obtain⟨t2,u2⟩:=iY.cs2
 go_wp2_with fail
 have EU:=(((((hv.below hA1).below hb1).below hA2).below hb2).below hb3)
 have m2:=(EU.aG a0 rfl rfl (.bool g3) (.slice p3 n3 c3)).raw
 have n2:=(hi3.aG a0 rfl rfl (.bool g3) (.slice p3 n3 c3)).raw
 (with_reducible refine(uG _ _ (x) (-(((Int.gcd (x) (y):Int)))) _ m2 n2 (by omega) hlg hg0).mono ?_)
 rintro e w4 ⟨v4,u4,rfl,hi4,hj4,hb4⟩
 obtain⟨g4,p4,n4,c4,rfl⟩:=hi4.form
 obtain⟨h4,o4,m4,e4,rfl⟩:=hj4.form
 have jJ:=(((((dA.to hA2).to hb2).to hb3).aI (b:=w1.heap.size) (by omega) (.bool g3) (.slice p3 n3 c3)).to hb4)
 obtain⟨x2,z2⟩:=jJ.cs2
 have b0:=((a0.store2 (.bool g3) (.slice p3 n3 c3)).to hb4)
 obtain⟨x1,z1⟩:=b0.cs2
 have kJ:=((iY.aI (b:=w1.heap.size) (by omega) (.bool g3) (.slice p3 n3 c3)).to hb4)
 have y0:=(kJ).1
 have e1:=(jJ).1
 have kV:=(((((FM.to hA2).to hb2).to hb3).aI (b:=w1.heap.size) (by omega) (.bool g3) (.slice p3 n3 c3)).to hb4)
 have k1:=(kV).1
 have p0:=(b0).1
 obtain⟨hA3,a3⟩:=bx1 w4 rfl [.bool false,.slice none 0 0] 45
 have z0:=((kJ.to hA3)).1
 have f1:=((jJ.to hA3)).1
 have l1:=((kV.to hA3)).1
 have q0:=((b0.to hA3)).1
 go_wp2_with fail
 have CX:=(((((iF.below hA2).below hb2).below hb3).aG a0 rfl rfl (.bool g3) (.slice p3 n3 c3)).below hb4)
 obtain⟨hA4,g2,h2⟩:=bx2 w4 rfl [.bool g4,.slice p4 n4 c4] 45 [.bool h4,.slice o4 m4 e4] 45
 have o2:=(CX.below hA4).raw
 have r2:=((hi3.aG a0 rfl rfl (.bool g3) (.slice p3 n3 c3)).below hb4)
 have p2:=(r2.below hA4).raw
 (with_reducible refine(uG _ _ (y) (-(((Int.gcd (x) (y):Int)))) _ o2 p2 (by omega) hlg hg0).mono ?_)
 rintro e w5 ⟨v5,u5,rfl,hi5,hj5,hb5⟩
 obtain⟨g5,p5,n5,c5,rfl⟩:=hi5.form
 obtain⟨h5,o5,m5,e5,rfl⟩:=hj5.form
 have o0:=(g2.to hb5)
 obtain⟨a2,b2⟩:=o0.cs2
 have vN:=((kV.to hA4).to hb5)
 obtain⟨g0,k0,h0,l0,i0,m0,j0,n0⟩:=vN.cf4
 have a1h:=((kJ.to hA4).to hb5)
 have a1:=(a1h).1
 have a9n:=((jJ.to hA4).to hb5)
 have h1:=(a9n).1
 have m1:=(vN).1
 have r1:=((b0.to hA4).to hb5)
 have r0:=(r1).1
 have t0:=(o0).1
 have s1:=(h2.to hb5)
 have v0:=(s1).1
 obtain⟨hA5,b3⟩:=bx1 w5 rfl [.bool false,.slice none 0 0] 45
 have b1:=((a1h.to hA5)).1
 have i1:=((a9n.to hA5)).1
 have o1:=((vN.to hA5)).1
 have s0:=((r1.to hA5)).1
 have u0:=((o0.to hA5)).1
 have w0:=((s1.to hA5)).1
 obtain⟨hA6,d3,e3⟩:=bx2 w5 rfl [.bool g5,.slice p5 n5 c5] 45 [.bool h5,.slice o5 m5 e5] 45
 have s2:=((hi4.below hA4).below hb5)
 obtain⟨hA7,f3,h3⟩:=bx2 ((((w5.setCell ⟨w.heap.size+1+1,0,none⟩ (.bool g4)).setCell ⟨w.heap.size+1+1,1,none⟩ (.slice p4 n4 c4)).setCell ⟨w.heap.size+1+1,2,none⟩ (.bool g5)).setCell ⟨w.heap.size+1+1,3,none⟩ (.slice p5 n5 c5)) (by simp:_=w5.heap.size) [.bool g5,.slice p5 n5 c5] 45 [.bool h5,.slice o5 m5 e5] 45
 have t1:=(Below.tr (Below.tr (Below.tr (Below.aG (Below.tr (Below.tr (Below.tr (Below.tr (Below.tr aZ hA1) hb1) hA2) hb2) hb3) (b:=w1.heap.size) (by omega) (.bool g3) (.slice p3 n3 c3)) hb4) hA4) hb5)
 go_wp2_with fail
 exact iw (v:=.agg #[.bool g4,.slice p4 n4 c4,.bool g5,.slice p5 n5 c5]) (by simp[results,Tryz.results162,go_sem,x0,d1,j1,c0,e0,d0,f0,y0,e1,k1,p0,z0,f1,l1,q0,a1,h1,m1,r0,t0,v0,b1,i1,o1,s0,u0,w0,g0,k0,h0,l0,i0,m0,j0,n0]) rfl ⟨_,rfl,RQ.mk' ((s2.aU vN rfl rfl rfl rfl (.bool g4) (.slice p4 n4 c4) (.bool g5) (.slice p5 n5 c5)).below hA7) ((hi5.aU vN rfl rfl rfl rfl (.bool g4) (.slice p4 n4 c4) (.bool g5) (.slice p5 n5 c5)).below hA7) HX.out.1 HX.out.2,(Below.tr (Below.aU t1 (b:=w.heap.size+1+1) (by omega) (.bool g4) (.slice p4 n4 c4) (.bool g5) (.slice p5 n5 c5)) hA7)⟩
theorem pF (v u:Value) (x y:Int) (w:World) (hv:bW w v x) (hu:bW w u y) (hl:isz x<=400000000) (hl2:isz y<=400000000) (hd:y≠0) :
  Calls Tryz.prog 162 #[v,u] w (GQ (Rat.divInt x y) w):=by
 rcases zi y 0 with h|h|h
 ·exact QO v u x y w hv hu hl hl2 h
 ·exact absurd h hd
 ·exact LJ v u x y w hv hu hl hl2 h
theorem a9z (v u:Value) (x y:Int) (w:World) (hv:bW w v x) (hu:bW w u y) (hl:isz x<=400000000) (hl2:isz y<=400000000) (hd:y≠0) :
  Calls Tryz.prog 160 #[v,u] w (GQC (Rat.divInt x y) 0 w):=by
 obtain⟨b,p,n,c,rfl⟩:=hv.form
 obtain⟨d,o,m,e,rfl⟩:=hu.form
 have b1m:(sgn y==0)=false:=by have:=QU hd;simpa using this
 have aZ:Below w.heap.size w w:=bg _ _
 go_enter Tryz.func160,Tryz.ntmps160
 go_wp2_with fail
 obtain⟨hA1,j0,k0,l0⟩:=bx3 w rfl [.bool b,.slice p n c] 45 [.bool d,.slice o m e] 45 [.bool false,.slice none 0 0,.bool false,.slice none 0 0] 47
 have m0:=(hu.below hA1).raw
 (with_reducible refine(mP _ (y) _ m0 (by omega)).mono ?_)
 rintro e w1 ⟨rfl,hb1⟩
 have bT:=(j0.to hb1)
 obtain⟨p0,q0⟩:=bT.cs2
 have dA:=(k0.to hb1)
 obtain⟨r0,s0⟩:=dA.cs2
 go_wp2_with fail
 have oN:=((hv.below hA1).below hb1)
 have n0:=oN
 have iF:=((hu.below hA1).below hb1)
 have o0:=iF
 (with_reducible refine(pF _ _ (x) (y) _ n0 o0 hl hl2 hd).mono ?_)
 rintro e w2 ⟨v2,rfl,hi2,hb2⟩
 obtain⟨g2,p2,n2,c2,h2,o2,m2,e2,rfl⟩:=hi2.form
 have jU:=((l0.to hb1).to hb2)
 obtain⟨a0,e0,b0,f0,c0,g0,d0,h0⟩:=jU.cf4
 have i0:=(Below.tr (Below.tr (Below.tr aZ hA1) hb1) hb2)
 go_wp2_with fail
 exact iw (v:=.tuple #[.agg #[.bool g2,.slice p2 n2 c2,.bool h2,.slice o2 m2 e2],.int .i64 0]) (by simp[results,Tryz.results160,go_sem,a0,e0,b0,f0,c0,g0,d0,h0]) rfl ⟨_,rfl,(hi2.aU jU rfl rfl rfl rfl (.bool g2) (.slice p2 n2 c2) (.bool h2) (.slice o2 m2 e2)),(Below.aU i0 (b:=w.heap.size+1+1) (by omega) (.bool g2) (.slice p2 n2 c2) (.bool h2) (.slice o2 m2 e2))⟩
theorem QT (v:Value) (q:Rat) (w:World) (fa:RQ w v q) (hl:rsz q<=999999999) :
  Calls Tryz.prog 17 #[v] w (fun e w'=>e=.returned (.int .i64 (sgn q.num))/\Below w.heap.size w w'):=by
 obtain⟨b,p,n,c,d,o,m,e,rfl⟩:=fa.form
 have hb1:=dO q
 have hb2:=dI q
 have b0:=KI
 have aZ:Below w.heap.size w w:=bg _ _
 go_enter Tryz.func17,Tryz.ntmps17
 go_wp2_with fail
 obtain⟨hA1,e0⟩:=bx1 w rfl [.bool b,.slice p n c,.bool d,.slice o m e] 47
 have c0:=(fa.below hA1)
 (with_reducible refine(jA _ (q) _ c0 (by omega)).mono ?_)
 rintro e w1 ⟨v1,rfl,hi1,hb1⟩
 obtain⟨g1,p1,n1,c1,h1,o1,m1,e1,rfl⟩:=hi1.form
 go_wp2_with fail
 have d0:=hi1.num.raw
 (with_reducible refine(mP _ (((q)).num) _ d0 (by omega)).mono ?_)
 rintro e w2 ⟨rfl,hb2⟩
 have a0:=(Below.tr (Below.tr (Below.tr aZ hA1) hb1) hb2)
 go_wp2_with fail
 go_ret
 exact⟨rfl,a0⟩
theorem a6m (v:Value) (q:Rat) (w:World) (fa:RQ w v q) (hl:rsz q<=999999999) :
  Calls Tryz.prog 101 #[v] w (GQ (-q) w):=by
 obtain⟨b,p,n,c,d,o,m,e,rfl⟩:=fa.form
 have hb1:=dO q
 have hb2:=dI q
 have aZ:Below w.heap.size w w:=bg _ _
 go_enter Tryz.func101,Tryz.ntmps101
 go_wp2_with fail
 obtain⟨hA1,m0,n0⟩:=bx2 w rfl [.bool b,.slice p n c,.bool d,.slice o m e] 47 [.bool false,.slice none 0 0,.bool false,.slice none 0 0] 47
 have p0:=(fa.below hA1)
 (with_reducible refine(jA _ (q) _ p0 (by omega)).mono ?_)
 rintro e w1 ⟨v1,rfl,hi1,hb1⟩
 obtain⟨g1,p1,n1,c1,h1,o1,m1,e1,rfl⟩:=hi1.form
 have bT:=(m0.to hb1)
 have i0:=(bT).1
 have dA:=(n0.to hb1)
 have j0:=(dA).1
 go_wp2_with fail
 obtain⟨hA2,o0⟩:=bx1 w1 rfl [.bool g1,.slice p1 n1 c1,.bool h1,.slice o1 m1 e1] 47
 have WO:=(o0.drew).bs4
 have k0:dB (w.heap.size+1) (BS4 w1.heap.size (.bool g1) (.slice p1 n1 c1) (.bool h1) (.slice o1 m1 e1)):=(BS4.hc (by omega))
 have tk1:True:=trivial
 go_region_held3 (BS4 w1.heap.size (.bool g1) (.slice p1 n1 c1) (.bool h1) (.slice o1 m1 e1)) (first|with_reducible exact WO|with_reducible exact fG.go BS4.hk (by assumption) (by assumption)|with_reducible exact dB.go4 k0 (by assumption)|(simp;done))
  (first
   | (((have:=tk1);clear tk1;have q0:=(hi1.below hA2).drew.num.raw;go_at_call 106;(with_reducible refine(QN _ (((q)).num) _ q0 (by omega)).mono ?_);rintro e w2 ⟨v2,rfl,hi2,hb2⟩;obtain⟨g2,p2,n2,c2,rfl⟩:=hi2.form;have bJ:=((dA.to hA2).drew.to hb2);obtain⟨a0,e0,b0,f0,c0,g0,d0,h0⟩:=bJ.cf4)))
 have r0:=((hi1.below hA2).drew.below hb2)
 have l0:=(Below.tr (Below.tr (Below.tr (Below.tr aZ hA1) hb1) hA2).drew hb2)
 go_wp2_with fail
 exact iw (v:=.agg #[.bool g2,.slice p2 n2 c2,.bool h1,.slice o1 m1 e1]) (by simp[results,Tryz.results101,go_sem,i0,j0,a0,e0,b0,f0,c0,g0,d0,h0]) rfl ⟨_,rfl,RQ.mk' (hi2.aU bJ rfl rfl rfl rfl (.bool g2) (.slice p2 n2 c2) (.bool h1) (.slice o1 m1 e1)) (r0.aU bJ rfl rfl rfl rfl (.bool g2) (.slice p2 n2 c2) (.bool h1) (.slice o1 m1 e1)).den (KP q).symm (by rw[KO]),(Below.aU l0 (b:=w.heap.size+1) (by omega) (.bool g2) (.slice p2 n2 c2) (.bool h1) (.slice o1 m1 e1))⟩
theorem VA (v u:Value) (x y:Rat) (w:World) (fa:RQ w v x) (fb:RQ w u y) (hl:rsz x<=190000000) (hl2:rsz y<=190000000) :
  Calls Tryz.prog 76 #[v,u] w (GQ (x+y) w):=by
 obtain⟨b,p,n,c,d,o,m,e,rfl⟩:=fa.form
 obtain⟨f,i,j,k,g,r,t,a,rfl⟩:=fb.form
 have hb1:=dO x
 have hb2:=dI x
 have hb3:=dO y
 have hb4:=dI y
 have hc1:=dK x.num y.den
 have hc2:=dK y.num x.den
 have hc3:=wM (x.num*y.den) (y.num*x.den)
 have hc4:=dK x.den y.den
 have HX:=bn (YT x y)
 have hd0:=wH x y
 have aZ:Below w.heap.size w w:=bg _ _
 go_enter Tryz.func76,Tryz.ntmps76
 go_wp2_with fail
 obtain⟨hA1,v0,w0,x0⟩:=bx3 w rfl [.bool b,.slice p n c,.bool d,.slice o m e] 47 [.bool f,.slice i j k,.bool g,.slice r t a] 47 [.bool false,.slice none 0 0,.bool false,.slice none 0 0] 47
 have a1:=(fa.below hA1)
 (with_reducible refine(jA _ (x) _ a1 (by omega)).mono ?_)
 rintro e w1 ⟨v1,rfl,hi1,hb1⟩
 obtain⟨g1,p1,n1,c1,h1,o1,m1,e1,rfl⟩:=hi1.form
 have dA:=(w0.to hb1)
 obtain⟨a2,b2,d2,f2⟩:=dA.cs4
 have bT:=(v0.to hb1)
 have j0:=(bT).1
 have l0:=(dA).1
 have FM:=(x0.to hb1)
 have n0:=(FM).1
 go_wp2_with fail
 have a0t:=((fb.below hA1).below hb1)
 obtain⟨hA2,y0⟩:=bx1 w1 rfl [.bool g1,.slice p1 n1 c1,.bool h1,.slice o1 m1 e1] 47
 have b1:=(a0t.below hA2)
 (with_reducible refine(jA _ (y) _ b1 (by omega)).mono ?_)
 rintro e w2 ⟨v2,rfl,hi2,hb2⟩
 obtain⟨g2,p2,n2,c2,h2,o2,m2,e2,rfl⟩:=hi2.form
 have bM:=((bT.to hA2).to hb2)
 have k0:=(bM).1
 have bJ:=((dA.to hA2).to hb2)
 have m0:=(bJ).1
 have jU:=((FM.to hA2).to hb2)
 have o0:=(jU).1
 have s0:=(y0.to hb2)
 have i0:=(s0).1
 go_wp2_with fail
 obtain⟨hA3,z0⟩:=bx1 w2 rfl [.bool g2,.slice p2 n2 c2,.bool h2,.slice o2 m2 e2] 47
 have a1Q:=(aK.mk ((s0.to hA3).drew).bs4 (z0.drew).bs4)
 have t0:dB (w.heap.size+1+1) (aK (BS4 w1.heap.size (.bool g1) (.slice p1 n1 c1) (.bool h1) (.slice o1 m1 e1)) (BS4 w2.heap.size (.bool g2) (.slice p2 n2 c2) (.bool h2) (.slice o2 m2 e2))):=(aK.hc (BS4.hc (by omega)) (BS4.hc (by omega)))
 have tk1:True:=trivial
 have tk2:True:=trivial
 have tk3:True:=trivial
 have tk4:True:=trivial
 have tk5:True:=trivial
 go_region_held3 (aK (BS4 w1.heap.size (.bool g1) (.slice p1 n1 c1) (.bool h1) (.slice o1 m1 e1)) (BS4 w2.heap.size (.bool g2) (.slice p2 n2 c2) (.bool h2) (.slice o2 m2 e2))) (first|with_reducible exact a1Q|with_reducible exact fG.go (aK.hk BS4.hk BS4.hk) (by assumption) (by assumption)|with_reducible exact dB.go4 t0 (by assumption)|(simp;done))
  (first
   | (((have:=tk1);clear tk1;have p0:=((hi1.below hA2).below hb2);have d1:=(p0.below hA3).drew.num.raw;have f1:=(hi2.below hA3).drew.den.raw;go_at_call 161;(with_reducible refine(kN _ _ (((x)).num) ((((y)).den:Int)) _ d1 f1 (by omega) (by omega)).mono ?_);rintro e w3 ⟨v3,rfl,hi3,hb3⟩;obtain⟨g3,p3,n3,c3,rfl⟩:=hi3.form))
   | (((have:=tk2);clear tk2;have r0:=((hi2.below hA3).drew.below hb3);have i1:=r0.num.raw;have q0:=((p0.below hA3).drew.below hb3);have j1:=q0.den.raw;go_at_call 161;(with_reducible refine(kN _ _ (((y)).num) ((((x)).den:Int)) _ i1 j1 (by omega) (by omega)).mono ?_);rintro e w4 ⟨v4,rfl,hi4,hb4⟩;obtain⟨g4,p4,n4,c4,rfl⟩:=hi4.form))
   | (((have:=tk3);clear tk3;have y1:=(hi3.below hb4);have k1:=y1.raw;have l1:=hi4.raw;go_at_call 163;(with_reducible refine(a1i _ _ ((((x)).num)*((((y)).den:Int))) ((((y)).num)*((((x)).den:Int))) _ k1 l1 (by omega) (by omega)).mono ?_);rintro e w5 ⟨v5,rfl,hi5,hb5⟩;obtain⟨g5,p5,n5,c5,rfl⟩:=hi5.form))
   | (((have:=tk4);clear tk4;have u1:=((q0.below hb4).below hb5);have q1:=u1.den.raw;have x1:=((r0.below hb4).below hb5);have r1:=x1.den.raw;go_at_call 161;(with_reducible refine(kN _ _ ((((x)).den:Int)) ((((y)).den:Int)) _ q1 r1 (by omega) (by omega)).mono ?_);rintro e w6 ⟨v6,rfl,hi6,hb6⟩;obtain⟨g6,p6,n6,c6,rfl⟩:=hi6.form))
   | (((have:=tk5);clear tk5;have z1:=(hi5.below hb6);have s1:=z1;have t1:=hi6;go_at_call 162;(with_reducible refine(pF _ _ (((((x)).num)*((((y)).den:Int)))+((((y)).num)*((((x)).den:Int)))) (((((x)).den:Int))*((((y)).den:Int))) _ s1 t1 (by omega) (by omega) hd0).mono ?_);rintro e w7 ⟨v7,rfl,hi7,hb7⟩;obtain⟨g7,p7,n7,c7,h7,o7,m7,e7,rfl⟩:=hi7.form;have a9o:=((((((jU.to hA3).drew.to hb3).to hb4).to hb5).to hb6).to hb7);obtain⟨a0,e0,b0,f0,c0,g0,d0,h0⟩:=a9o.cf4)))
 have u0:=(Below.tr (Below.tr (Below.tr (Below.tr (Below.tr (Below.tr (Below.tr (Below.tr (Below.tr (Below.tr aZ hA1) hb1) hA2) hb2) hA3).drew hb3) hb4) hb5) hb6) hb7)
 go_wp2_with fail
 exact iw (v:=.agg #[.bool g7,.slice p7 n7 c7,.bool h7,.slice o7 m7 e7]) (by simp[results,Tryz.results76,go_sem,j0,l0,n0,k0,m0,o0,i0,a0,e0,b0,f0,c0,g0,d0,h0]) rfl ⟨_,rfl,by rw[<-HX.out];exact(hi7.aU a9o rfl rfl rfl rfl (.bool g7) (.slice p7 n7 c7) (.bool h7) (.slice o7 m7 e7)),(Below.aU u0 (b:=w.heap.size+1+1) (by omega) (.bool g7) (.slice p7 n7 c7) (.bool h7) (.slice o7 m7 e7))⟩
theorem a6k (v u:Value) (x y:Rat) (w:World) (fa:RQ w v x) (fb:RQ w u y) (hl:rsz x<=190000000) (hl2:rsz y<=190000000) :
  Calls Tryz.prog 75 #[v,u] w (GQ (x*y) w):=by
 obtain⟨b,p,n,c,d,o,m,e,rfl⟩:=fa.form
 obtain⟨f,i,j,k,g,r,t,a,rfl⟩:=fb.form
 have hb1:=dO x
 have hb2:=dI x
 have hb3:=dO y
 have hb4:=dI y
 have hc1:=dK x.num y.num
 have hc4:=dK x.den y.den
 have HX:=bn (YU x y)
 have hd0:=wH x y
 have aZ:Below w.heap.size w w:=bg _ _
 go_enter Tryz.func75,Tryz.ntmps75
 go_wp2_with fail
 obtain⟨hA1,t0,u0,v0⟩:=bx3 w rfl [.bool b,.slice p n c,.bool d,.slice o m e] 47 [.bool f,.slice i j k,.bool g,.slice r t a] 47 [.bool false,.slice none 0 0,.bool false,.slice none 0 0] 47
 have y0:=(fa.below hA1)
 (with_reducible refine(jA _ (x) _ y0 (by omega)).mono ?_)
 rintro e w1 ⟨v1,rfl,hi1,hb1⟩
 obtain⟨g1,p1,n1,c1,h1,o1,m1,e1,rfl⟩:=hi1.form
 have dA:=(u0.to hb1)
 obtain⟨r1,s1,t1,u1⟩:=dA.cs4
 have bT:=(t0.to hb1)
 have j0:=(bT).1
 have l0:=(dA).1
 have FM:=(v0.to hb1)
 have n0:=(FM).1
 go_wp2_with fail
 have a0t:=((fb.below hA1).below hb1)
 obtain⟨hA2,w0⟩:=bx1 w1 rfl [.bool g1,.slice p1 n1 c1,.bool h1,.slice o1 m1 e1] 47
 have z0:=(a0t.below hA2)
 (with_reducible refine(jA _ (y) _ z0 (by omega)).mono ?_)
 rintro e w2 ⟨v2,rfl,hi2,hb2⟩
 obtain⟨g2,p2,n2,c2,h2,o2,m2,e2,rfl⟩:=hi2.form
 have bM:=((bT.to hA2).to hb2)
 have k0:=(bM).1
 have bJ:=((dA.to hA2).to hb2)
 have m0:=(bJ).1
 have jU:=((FM.to hA2).to hb2)
 have o0:=(jU).1
 have q0:=(w0.to hb2)
 have i0:=(q0).1
 go_wp2_with fail
 obtain⟨hA3,x0⟩:=bx1 w2 rfl [.bool g2,.slice p2 n2 c2,.bool h2,.slice o2 m2 e2] 47
 have a1Q:=(aK.mk ((q0.to hA3).drew).bs4 (x0.drew).bs4)
 have r0:dB (w.heap.size+1+1) (aK (BS4 w1.heap.size (.bool g1) (.slice p1 n1 c1) (.bool h1) (.slice o1 m1 e1)) (BS4 w2.heap.size (.bool g2) (.slice p2 n2 c2) (.bool h2) (.slice o2 m2 e2))):=(aK.hc (BS4.hc (by omega)) (BS4.hc (by omega)))
 have tk1:True:=trivial
 have tk2:True:=trivial
 have tk3:True:=trivial
 go_region_held3 (aK (BS4 w1.heap.size (.bool g1) (.slice p1 n1 c1) (.bool h1) (.slice o1 m1 e1)) (BS4 w2.heap.size (.bool g2) (.slice p2 n2 c2) (.bool h2) (.slice o2 m2 e2))) (first|with_reducible exact a1Q|with_reducible exact fG.go (aK.hk BS4.hk BS4.hk) (by assumption) (by assumption)|with_reducible exact dB.go4 r0 (by assumption)|(simp;done))
  (first
   | (((have:=tk1);clear tk1;have p0:=((hi1.below hA2).below hb2);have a1:=(p0.below hA3).drew.num.raw;have b1:=(hi2.below hA3).drew.num.raw;go_at_call 161;(with_reducible refine(kN _ _ (((x)).num) (((y)).num) _ a1 b1 (by omega) (by omega)).mono ?_);rintro e w3 ⟨v3,rfl,hi3,hb3⟩;obtain⟨g3,p3,n3,c3,rfl⟩:=hi3.form))
   | (((have:=tk2);clear tk2;have k1:=((p0.below hA3).drew.below hb3);have d1:=k1.den.raw;have l1:=((hi2.below hA3).drew.below hb3);have f1:=l1.den.raw;go_at_call 161;(with_reducible refine(kN _ _ ((((x)).den:Int)) ((((y)).den:Int)) _ d1 f1 (by omega) (by omega)).mono ?_);rintro e w4 ⟨v4,rfl,hi4,hb4⟩;obtain⟨g4,p4,n4,c4,rfl⟩:=hi4.form))
   | (((have:=tk3);clear tk3;have q1:=(hi3.below hb4);have i1:=q1;have j1:=hi4;go_at_call 162;(with_reducible refine(pF _ _ ((((x)).num)*(((y)).num)) (((((x)).den:Int))*((((y)).den:Int))) _ i1 j1 (by omega) (by omega) hd0).mono ?_);rintro e w5 ⟨v5,rfl,hi5,hb5⟩;obtain⟨g5,p5,n5,c5,h5,o5,m5,e5,rfl⟩:=hi5.form;have vN:=((((jU.to hA3).drew.to hb3).to hb4).to hb5);obtain⟨a0,e0,b0,f0,c0,g0,d0,h0⟩:=vN.cf4)))
 have s0:=(Below.tr (Below.tr (Below.tr (Below.tr (Below.tr (Below.tr (Below.tr (Below.tr aZ hA1) hb1) hA2) hb2) hA3).drew hb3) hb4) hb5)
 go_wp2_with fail
 exact iw (v:=.agg #[.bool g5,.slice p5 n5 c5,.bool h5,.slice o5 m5 e5]) (by simp[results,Tryz.results75,go_sem,j0,l0,n0,k0,m0,o0,i0,a0,e0,b0,f0,c0,g0,d0,h0]) rfl ⟨_,rfl,by rw[<-HX.out];exact(hi5.aU vN rfl rfl rfl rfl (.bool g5) (.slice p5 n5 c5) (.bool h5) (.slice o5 m5 e5)),(Below.aU s0 (b:=w.heap.size+1+1) (by omega) (.bool g5) (.slice p5 n5 c5) (.bool h5) (.slice o5 m5 e5))⟩
theorem a9q (v u:Value) (x y:Rat) (w:World) (fa:RQ w v x) (fb:RQ w u y) (hl:rsz x<=190000000) (hl2:rsz y<=190000000) (hy:y≠0) :
  Calls Tryz.prog 74 #[v,u] w (GQC (x / y) 0 w):=by
 obtain⟨b,p,n,c,d,o,m,e,rfl⟩:=fa.form
 obtain⟨f,i,j,k,g,r,t,a,rfl⟩:=fb.form
 have hb1:=dO x
 have hb2:=dI x
 have hb3:=dO y
 have hb4:=dI y
 have hc1:=dK x.num y.den
 have hc4:=dK x.den y.num
 have HX:=bn (MN x y)
 have hn0:y.num≠0:=fun h=>hy ((qR y).1 h)
 have hd0:(x.den:Int)*y.num≠0:=fun h=>by
  have:=x.den_nz
  rcases Int.mul_eq_zero.1 h with h|h<;>omega
 clear hy hn0
 have aZ:Below w.heap.size w w:=bg _ _
 go_enter Tryz.func74,Tryz.ntmps74
 go_wp2_with fail
 obtain⟨hA1,t0,u0,v0⟩:=bx3 w rfl [.bool b,.slice p n c,.bool d,.slice o m e] 47 [.bool f,.slice i j k,.bool g,.slice r t a] 47 [.bool false,.slice none 0 0,.bool false,.slice none 0 0] 47
 have y0:=(fa.below hA1)
 (with_reducible refine(jA _ (x) _ y0 (by omega)).mono ?_)
 rintro e w1 ⟨v1,rfl,hi1,hb1⟩
 obtain⟨g1,p1,n1,c1,h1,o1,m1,e1,rfl⟩:=hi1.form
 have dA:=(u0.to hb1)
 obtain⟨r1,s1,t1,u1⟩:=dA.cs4
 have bT:=(t0.to hb1)
 have j0:=(bT).1
 have l0:=(dA).1
 have FM:=(v0.to hb1)
 have n0:=(FM).1
 go_wp2_with fail
 have a0t:=((fb.below hA1).below hb1)
 obtain⟨hA2,w0⟩:=bx1 w1 rfl [.bool g1,.slice p1 n1 c1,.bool h1,.slice o1 m1 e1] 47
 have z0:=(a0t.below hA2)
 (with_reducible refine(jA _ (y) _ z0 (by omega)).mono ?_)
 rintro e w2 ⟨v2,rfl,hi2,hb2⟩
 obtain⟨g2,p2,n2,c2,h2,o2,m2,e2,rfl⟩:=hi2.form
 have bM:=((bT.to hA2).to hb2)
 have k0:=(bM).1
 have bJ:=((dA.to hA2).to hb2)
 have m0:=(bJ).1
 have jU:=((FM.to hA2).to hb2)
 have o0:=(jU).1
 have q0:=(w0.to hb2)
 have i0:=(q0).1
 go_wp2_with fail
 obtain⟨hA3,x0⟩:=bx1 w2 rfl [.bool g2,.slice p2 n2 c2,.bool h2,.slice o2 m2 e2] 47
 have a1Q:=(aK.mk ((q0.to hA3).drew).bs4 (x0.drew).bs4)
 have r0:dB (w.heap.size+1+1) (aK (BS4 w1.heap.size (.bool g1) (.slice p1 n1 c1) (.bool h1) (.slice o1 m1 e1)) (BS4 w2.heap.size (.bool g2) (.slice p2 n2 c2) (.bool h2) (.slice o2 m2 e2))):=(aK.hc (BS4.hc (by omega)) (BS4.hc (by omega)))
 have tk1:True:=trivial
 have tk2:True:=trivial
 have tk3:True:=trivial
 go_region_held3 (aK (BS4 w1.heap.size (.bool g1) (.slice p1 n1 c1) (.bool h1) (.slice o1 m1 e1)) (BS4 w2.heap.size (.bool g2) (.slice p2 n2 c2) (.bool h2) (.slice o2 m2 e2))) (first|with_reducible exact a1Q|with_reducible exact fG.go (aK.hk BS4.hk BS4.hk) (by assumption) (by assumption)|with_reducible exact dB.go4 r0 (by assumption)|(simp;done))
  (first
   | (((have:=tk1);clear tk1;have p0:=((hi1.below hA2).below hb2);have a1:=(p0.below hA3).drew.num.raw;have b1:=(hi2.below hA3).drew.den.raw;go_at_call 161;(with_reducible refine(kN _ _ (((x)).num) ((((y)).den:Int)) _ a1 b1 (by omega) (by omega)).mono ?_);rintro e w3 ⟨v3,rfl,hi3,hb3⟩;obtain⟨g3,p3,n3,c3,rfl⟩:=hi3.form))
   | (((have:=tk2);clear tk2;have k1:=((p0.below hA3).drew.below hb3);have d1:=k1.den.raw;have l1:=((hi2.below hA3).drew.below hb3);have f1:=l1.num.raw;go_at_call 161;(with_reducible refine(kN _ _ ((((x)).den:Int)) (((y)).num) _ d1 f1 (by omega) (by omega)).mono ?_);rintro e w4 ⟨v4,rfl,hi4,hb4⟩;obtain⟨g4,p4,n4,c4,rfl⟩:=hi4.form))
   | (((have:=tk3);clear tk3;have q1:=(hi3.below hb4);have i1:=q1;have j1:=hi4;go_at_call 160;(with_reducible refine(a9z _ _ ((((x)).num)*((((y)).den:Int))) (((((x)).den:Int))*(((y)).num)) _ i1 j1 (by omega) (by omega) hd0).mono ?_);rintro e w5 ⟨v5,rfl,hi5,hb5⟩;obtain⟨g5,p5,n5,c5,h5,o5,m5,e5,rfl⟩:=hi5.form;have vN:=((((jU.to hA3).drew.to hb3).to hb4).to hb5);obtain⟨a0,e0,b0,f0,c0,g0,d0,h0⟩:=vN.cf4)))
 have s0:=(Below.tr (Below.tr (Below.tr (Below.tr (Below.tr (Below.tr (Below.tr (Below.tr aZ hA1) hb1) hA2) hb2) hA3).drew hb3) hb4) hb5)
 go_wp2_with fail
 exact iw (v:=.tuple #[.agg #[.bool g5,.slice p5 n5 c5,.bool h5,.slice o5 m5 e5],.int .i64 0]) (by simp[results,Tryz.results74,go_sem,j0,l0,n0,k0,m0,o0,i0,a0,e0,b0,f0,c0,g0,d0,h0]) rfl ⟨_,rfl,by rw[<-HX.out];exact(hi5.aU vN rfl rfl rfl rfl (.bool g5) (.slice p5 n5 c5) (.bool h5) (.slice o5 m5 e5)),(Below.aU s0 (b:=w.heap.size+1+1) (by omega) (.bool g5) (.slice p5 n5 c5) (.bool h5) (.slice o5 m5 e5))⟩
theorem a6s (v u:Value) (x y:Rat) (w:World) (fa:RQ w v x) (fb:RQ w u y) (hl:rsz x<=190000000) (hl2:rsz y<=190000000) :
  Calls Tryz.prog 133 #[v,u] w (GQ (x-y) w):=by
 obtain⟨b,p,n,c,d,o,m,e,rfl⟩:=fa.form
 obtain⟨f,i,j,k,g,r,t,a,rfl⟩:=fb.form
 have hb1:=dO x
 have hb2:=dI x
 have hb3:=dO y
 have hb4:=dI y
 have hc5:rsz (-y)<=190000000:=by rw[ZB];exact hl2
 have aZ:Below w.heap.size w w:=bg _ _
 go_enter Tryz.func133,Tryz.ntmps133
 go_wp2_with fail
 obtain⟨hA1,l0,m0,i0⟩:=bx3 w rfl [.bool b,.slice p n c,.bool d,.slice o m e] 47 [.bool f,.slice i j k,.bool g,.slice r t a] 47 [.bool false,.slice none 0 0,.bool false,.slice none 0 0] 47
 have vZ:=(aK.mk (l0.drew).bs4 (aK.mk (m0.drew).bs4 (BN.of (i0.drew))))
 have j0:dB (w.heap.size+1+1) (aK (BS4 w.heap.size (.bool b) (.slice p n c) (.bool d) (.slice o m e)) (aK (BS4 (w.heap.size+1) (.bool f) (.slice i j k) (.bool g) (.slice r t a)) (BN (w.heap.size+1+1)))):=(aK.hc (BS4.hc (by omega)) (aK.hc (BS4.hc (by omega)) BN.hc))
 have tk1:True:=trivial
 have tk2:True:=trivial
 go_region_held3 (aK (BS4 w.heap.size (.bool b) (.slice p n c) (.bool d) (.slice o m e)) (aK (BS4 (w.heap.size+1) (.bool f) (.slice i j k) (.bool g) (.slice r t a)) (BN (w.heap.size+1+1)))) (first|with_reducible exact vZ|with_reducible exact fG.go (aK.hk BS4.hk (aK.hk BS4.hk BN.hk)) (by assumption) (by assumption)|with_reducible exact dB.go4 j0 (by assumption)|(simp;done))
  (first
   | (((have:=tk1);clear tk1;have n0:=(fb.below hA1).drew;go_at_call 101;(with_reducible refine(a6m _ (y) _ n0 (by omega)).mono ?_);rintro e w1 ⟨v1,rfl,hi1,hb1⟩;obtain⟨g1,p1,n1,c1,h1,o1,m1,e1,rfl⟩:=hi1.form))
   | (((have:=tk2);clear tk2;have b3P:=((fa.below hA1).drew.below hb1);have o0:=b3P;have p0:=hi1;go_at_call 76;(with_reducible refine(VA _ _ (x) (-(y)) _ o0 p0 hl hc5).mono ?_);rintro e w2 ⟨v2,rfl,hi2,hb2⟩;obtain⟨g2,p2,n2,c2,h2,o2,m2,e2,rfl⟩:=hi2.form;have jU:=((i0.drew.to hb1).to hb2);obtain⟨a0,e0,b0,f0,c0,g0,d0,h0⟩:=jU.cf4)))
 have k0:=(Below.tr (Below.tr (Below.tr aZ hA1).drew hb1) hb2)
 go_wp2_with fail
 exact iw (v:=.agg #[.bool g2,.slice p2 n2 c2,.bool h2,.slice o2 m2 e2]) (by simp[results,Tryz.results133,go_sem,a0,e0,b0,f0,c0,g0,d0,h0]) rfl ⟨_,rfl,by rw[Rat.sub_eq_add_neg];exact(hi2.aU jU rfl rfl rfl rfl (.bool g2) (.slice p2 n2 c2) (.bool h2) (.slice o2 m2 e2)),(Below.aU k0 (b:=w.heap.size+1+1) (by omega) (.bool g2) (.slice p2 n2 c2) (.bool h2) (.slice o2 m2 e2))⟩
theorem a9Q (x y:Rat):sgn (x-y).num=BF x y:=by
 unfold BF
 have h1:=Rat.lt_iff (x-y) 0
 have h2:=Rat.lt_iff 0 (x-y)
 simp at h1 h2
 by_cases hx:x<y
 ·rw[jq hx,FW (h1.1 (by grind))]
 ·rw[jk hx]
  by_cases hy:y<x
  ·rw[jq hy,wX (h2.1 (by grind))]
  ·rw[jk hy]
   have:x-y=0:=by grind
   rw[this];rfl
theorem BU (v u:Value) (x y:Rat) (w:World) (fa:RQ w v x) (fb:RQ w u y) (hl:rsz x<=190000000) (hl2:rsz y<=190000000) :
  Calls Tryz.prog 47 #[v,u] w (fun e w'=>e=.returned (.int .i64 (BF x y))/\Below w.heap.size w w'):=by
 obtain⟨b,p,n,c,d,o,m,e,rfl⟩:=fa.form
 obtain⟨f,i,j,k,g,r,t,a,rfl⟩:=fb.form
 have hb1:=dO x
 have hb2:=dI x
 have hb3:=dO y
 have hb4:=dI y
 have hc5:=b2q x y
 have aZ:Below w.heap.size w w:=bg _ _
 go_enter Tryz.func47,Tryz.ntmps47
 go_wp2_with fail
 obtain⟨hA1,e0,f0⟩:=bx2 w rfl [.bool b,.slice p n c,.bool d,.slice o m e] 47 [.bool f,.slice i j k,.bool g,.slice r t a] 47
 have b0:=(fa.below hA1)
 have c0:=(fb.below hA1)
 (with_reducible refine(a6s _ _ (x) (y) _ b0 c0 hl hl2).mono ?_)
 rintro e w1 ⟨v1,rfl,hi1,hb1⟩
 obtain⟨g1,p1,n1,c1,h1,o1,m1,e1,rfl⟩:=hi1.form
 go_wp2_with fail
 have d0:=hi1
 (with_reducible refine(QT _ ((x)-(y)) _ d0 (by omega)).mono ?_)
 rintro e w2 ⟨rfl,hb2⟩
 have a0:=(Below.tr (Below.tr (Below.tr aZ hA1) hb1) hb2)
 go_wp2_with fail
 go_ret
 exact⟨gG (a9Q x y),a0⟩
theorem a1W (x y:Rat):BF x y=0↔x=y:=by
 unfold BF
 by_cases h1:x<y
 ·rw[jq h1];constructor
  ·intro h;simp at h
  ·intro h;rw[h] at h1;exact absurd h1 (Rat.lt_irrefl)
 ·rw[jk h1]
  by_cases h2:y<x
  ·rw[jq h2];constructor
   ·intro h;simp at h
   ·intro h;rw[h] at h2;exact absurd h2 (Rat.lt_irrefl)
  ·rw[jk h2];exact⟨fun _=>Rat.le_antisymm (Rat.not_lt.1 h2) (Rat.not_lt.1 h1),fun _=>rfl⟩
theorem a6r (v u:Value) (x y:Rat) (w:World) (fa:RQ w v x) (fb:RQ w u y) (hl:rsz x<=190000000) (hl2:rsz y<=190000000) :
  Calls Tryz.prog 121 #[v,u] w (GB (decide (x=y)) w):=by
 have hn1:=fa.qn (k:=999999999) (by omega)
 have hn2:=fb.qn (k:=999999999) (by omega)
 obtain⟨b,p,n,c,d,o,m,e,rfl⟩:=fa.form
 obtain⟨f,i,j,k,g,r,t,a,rfl⟩:=fb.form
 have HX:Hid ((BF x y==0)=decide (x=y)):=bn (by
  have:=a1W x y
  rw[Bool.eq_iff_iff]
  simp only[je,ay]
  exact this)
 have aZ:Below w.heap.size w w:=bg _ _
 go_enter Tryz.func121,Tryz.ntmps121
 go_wp2_with fail
 obtain⟨hA1,b0,c0⟩:=bx2 w rfl [.bool b,.slice p n c,.bool d,.slice o m e] 47 [.bool f,.slice i j k,.bool g,.slice r t a] 47
 have d0:=(fa.below hA1).raw
 (with_reducible refine(qC _ _ _ _ d0 hn1).mono ?_)
 rintro e w1 ⟨rfl,hb1⟩
 have dA:=(c0.to hb1)
 obtain⟨l0,n0,p0,r0⟩:=dA.cs4
 go_wp2_with fail
 have a0t:=((fb.below hA1).below hb1)
 have e0:=a0t.raw
 (with_reducible refine(qC _ _ _ _ e0 hn2).mono ?_)
 rintro e w2 ⟨rfl,hb2⟩
 have bM:=((b0.to hb1).to hb2)
 obtain⟨h0,i0,j0,k0⟩:=bM.cs4
 have bJ:=(dA.to hb2)
 obtain⟨m0,o0,q0,s0⟩:=bJ.cs4
 go_wp2_with fail
 have c0F:=(((fa.below hA1).below hb1).below hb2)
 have f0:=c0F
 have c0G:=(a0t.below hb2)
 have g0:=c0G
 (with_reducible refine(BU _ _ (x) (y) _ f0 g0 hl hl2).mono ?_)
 rintro e w3 ⟨rfl,hb3⟩
 have a0:=(Below.tr (Below.tr (Below.tr (Below.tr aZ hA1) hb1) hb2) hb3)
 go_wp2_with fail
 go_ret
 exact⟨gJ HX.out,a0⟩
set_option maxHeartbeats 1000000
def b8A:Ctr:=⟨[tQ,tQ],[tQ,tI],fun x=>s19 x.1 x.2.1/\(show Rat from x.2.1)≠0,fun x=>((show Rat from x.1) / (show Rat from x.2.1),(0:Int),())⟩
theorem b0G {f:FuncId} (h:∀ (v u:Value) (x y:Rat) (w:World),RQ w v x->RQ w u y->rsz x<=190000000->rsz y<=190000000->y≠0->Calls Tryz.prog f #[v,u] w (GQC (x / y) 0 w)):aT Tryz.prog f b8A:=by
 intro F w vs x hF hvs hp
 obtain⟨v,vs',rfl,h1,u,vs'',rfl,h2,h3⟩:=hvs
 have h3:vs''=[]:=h3
 subst h3
 refine(h v u x.1 x.2.1 w (uF h1) (uF h2) hp.1.1 hp.1.2 hp.2).mono ?_
 rintro e w' ⟨r,rfl,hr,hb⟩
 exact⟨_,rfl,⟨[_,_],rfl,_,_,rfl,VY hr,_,_,rfl,uI _,rfl⟩,hb⟩
theorem b3x:aT Tryz.prog 46 (cVal 999999999):=(XB fun v ok q w h hn=>qC v ok q w h hn)
theorem b3y:aT Tryz.prog 17 (cQI (fun x=>rsz x<=190000000) (fun x=>sgn x.num)):=(a1V fun v x w h hl=>QT v x w h (iq hl (by omega)))
theorem b3z:aT Tryz.prog 143 (cIQ gX (fun i=>(i:Rat))):=(WZ fun x w h=>zA x w h.1 h.2)
theorem b0u:aT Tryz.prog 76 (cQ2 s19 (·+·)):=(CO fun v u x y w a b h=>VA v u x y w a b h.1 h.2)
theorem a3k:aT Tryz.prog 75 (cQ2 s19 (·*·)):=(CO fun v u x y w a b h=>a6k v u x y w a b h.1 h.2)
theorem b8f:aT Tryz.prog 74 b8A:=(b0G fun v u x y w a b l1 l2 hy=>a9q v u x y w a b l1 l2 hy)
theorem b8h:aT Tryz.prog 47 (b0J s19 BF):=(XA fun v u x y w a b h=>BU v u x y w a b h.1 h.2)
end Go.Proofs.YtbkocjmmbkifjaaGreat
