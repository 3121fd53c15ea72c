/-
  Lemmas for the theorem vestimables_holds, part 30 of 36.
-/
import Derived.Test.YtgplhbhfdgempaaGreatQe29
namespace Go.Proofs.YtgplhbhfdgempaaGreat
open Go Go.RowKit
set_option maxRecDepth 100000
set_option maxHeartbeats 4000000
set_option linter.unusedSimpArgs false
set_option linter.unusedVariables false
theorem wI {x y:Int} (h:y ∣ x):x.fdiv y=x / y:=by
 rw[Int.fdiv_eq_ediv,ig (.inr h),Int.sub_zero]
theorem a8u {n d:Int} (hd:0<d):n.fdiv ((Int.gcd n d:Nat):Int)=(Rat.divInt n d).num/\d.fdiv ((Int.gcd n d:Nat):Int)=(Rat.divInt n d).den:=by
 rw[qJ hd,qH hd]
 exact⟨wI (Int.gcd_dvd_left _ _),wI (Int.gcd_dvd_right _ _)⟩
theorem a8t {n d:Int} (hd:d<0):n.fdiv (-((Int.gcd n d:Nat):Int))=(Rat.divInt n d).num/\d.fdiv (-((Int.gcd n d:Nat):Int))=(Rat.divInt n d).den:=by
 rw[SX hd,SS hd]
 exact⟨wI (Int.neg_dvd.2 (Int.gcd_dvd_left _ _)),wI (Int.neg_dvd.2 (Int.gcd_dvd_right _ _))⟩
theorem JG (k:Int) (w:World) (h0:-9223372036854775808<=k) (h1:k<=9223372036854775807) :
  Calls Tryz.prog 81 #[.int .i64 k] w (tK k w):=by
 have cZ:Below w.heap.size w w:=dw _ _
 go_enter Tryz.func81,Tryz.ntmps81
 go_wp2_with fail
 (with_reducible refine(a7b _ _ (by omega) (by omega)).mono ?_)
 rintro e w1 ⟨v1,rfl,hi1,hb1⟩
 obtain⟨g1,p1,n1,c1,rfl⟩:=hi1.form
 obtain⟨hA1,f0⟩:=bx1 w rfl [.bool false,.slice none 0 0] 62
 have dO:=(f0.to hb1)
 obtain⟨a0,c0,b0,d0⟩:=dO.cf2
 have e0:=(Below.tr (Below.tr cZ hA1) hb1)
 go_wp2_with fail
 exact jh (v:=.agg #[.bool g1,.slice p1 n1 c1]) (by simp[results,Tryz.results81,go_sem,a0,c0,b0,d0]) rfl ⟨_,rfl,(hi1.aI dO rfl rfl (.bool g1) (.slice p1 n1 c1)),(Below.aI e0 (b:=w.heap.size) (by omega) (.bool g1) (.slice p1 n1 c1))⟩
theorem PN (k:Int) (w:World) (h0:-9223372036854775808<=k) (h1:k<=9223372036854775807) :
  Calls Tryz.prog 42 #[.int .i64 k] w (GQ (k:Rat) w):=by
 have cZ:Below w.heap.size w w:=dw _ _
 go_enter Tryz.func42,Tryz.ntmps42
 go_wp2_with fail
 (with_reducible refine(JG _ _ (by omega) (by omega)).mono ?_)
 rintro e w1 ⟨v1,rfl,hi1,hb1⟩
 obtain⟨g1,p1,n1,c1,rfl⟩:=hi1.form
 go_wp2_with fail
 (with_reducible refine(JG _ _ (by omega) (by omega)).mono ?_)
 rintro e w2 ⟨v2,rfl,hi2,hb2⟩
 obtain⟨g2,p2,n2,c2,rfl⟩:=hi2.form
 obtain⟨hA1,k0⟩:=bx1 w rfl [.bool false,.slice none 0 0,.bool false,.slice none 0 0] 64
 have dL:=((k0.to hb1).to hb2)
 obtain⟨a0,e0,b0,f0,c0,g0,d0,i0⟩:=dL.cf4
 have l0:=(hi1.below hb2)
 have j0:=(Below.tr (Below.tr (Below.tr cZ hA1) hb1) hb2)
 go_wp2_with fail
 exact jh (v:=.agg #[.bool g1,.slice p1 n1 c1,.bool g2,.slice p2 n2 c2]) (by simp[results,Tryz.results42,go_sem,a0,e0,b0,f0,c0,g0,d0,i0]) rfl ⟨_,rfl,RQ.mk' (l0.bG dL rfl rfl rfl rfl (.bool g1) (.slice p1 n1 c1) (.bool g2) (.slice p2 n2 c2)) (hi2.bG dL rfl rfl rfl rfl (.bool g1) (.slice p1 n1 c1) (.bool g2) (.slice p2 n2 c2)) (a6n k).symm (by rw[a6m];rfl),(Below.bG j0 (b:=w.heap.size) (by omega) (.bool g1) (.slice p1 n1 c1) (.bool g2) (.slice p2 n2 c2))⟩
theorem a3A (x y:Int) (w:World) (b d:Bool) (p o:Option Addr) (n c m e:Nat) (k1:iQ w (.agg #[.bool b,.slice p n c]) false x) (k2:iQ w (.agg #[.bool d,.slice o m e]) false y) (hl:isz x<=999999999) (hl2:isz y<=999999999) :
  Calls Tryz.prog 71 #[.agg #[.bool b,.slice p n c,.bool d,.slice o m e]] w fun e w'=>e=.returned (.bool (false&&(false&&(decide (0<y)&&decide (Int.gcd x y=1)))))/\Below w.heap.size w w':=by
 have HX:Hid (false=(false&&(false&&(decide (0<y)&&decide (Int.gcd x y=1))))):=by unfold Hid;simp
 have cZ:Below w.heap.size w w:=dw _ _
 go_enter Tryz.func71,Tryz.ntmps71
 go_wp2_with fail
 obtain⟨hA1,c0⟩:=bx1 w rfl [.bool b,.slice p n c,.bool d,.slice o m e] 64
 have b0:=(k1.below hA1)
 (with_reducible refine(jX _ _ _ _ b0).mono ?_)
 rintro e w1 ⟨rfl,hb1⟩
 have a0:=(Below.tr (Below.tr cZ hA1) hb1)
 go_wp2_with fail
 go_ret
 exact⟨iT HX.out,a0⟩
theorem a3B (x y:Int) (w:World) (b d:Bool) (p o:Option Addr) (n c m e:Nat) (k1:iQ w (.agg #[.bool b,.slice p n c]) false x) (k2:iQ w (.agg #[.bool d,.slice o m e]) true y) (hl:isz x<=999999999) (hl2:isz y<=999999999) :
  Calls Tryz.prog 71 #[.agg #[.bool b,.slice p n c,.bool d,.slice o m e]] w fun e w'=>e=.returned (.bool (false&&(true&&(decide (0<y)&&decide (Int.gcd x y=1)))))/\Below w.heap.size w w':=by
 have HX:Hid (false=(false&&(true&&(decide (0<y)&&decide (Int.gcd x y=1))))):=by unfold Hid;simp
 have cZ:Below w.heap.size w w:=dw _ _
 go_enter Tryz.func71,Tryz.ntmps71
 go_wp2_with fail
 obtain⟨hA1,c0⟩:=bx1 w rfl [.bool b,.slice p n c,.bool d,.slice o m e] 64
 have b0:=(k1.below hA1)
 (with_reducible refine(jX _ _ _ _ b0).mono ?_)
 rintro e w1 ⟨rfl,hb1⟩
 have a0:=(Below.tr (Below.tr cZ hA1) hb1)
 go_wp2_with fail
 go_ret
 exact⟨iT HX.out,a0⟩
theorem a3C (x y:Int) (w:World) (b d:Bool) (p o:Option Addr) (n c m e:Nat) (k1:iQ w (.agg #[.bool b,.slice p n c]) true x) (k2:iQ w (.agg #[.bool d,.slice o m e]) false y) (hl:isz x<=999999999) (hl2:isz y<=999999999) :
  Calls Tryz.prog 71 #[.agg #[.bool b,.slice p n c,.bool d,.slice o m e]] w fun e w'=>e=.returned (.bool (true&&(false&&(decide (0<y)&&decide (Int.gcd x y=1)))))/\Below w.heap.size w w':=by
 have HX:Hid (false=(true&&(false&&(decide (0<y)&&decide (Int.gcd x y=1))))):=by unfold Hid;simp
 have cZ:Below w.heap.size w w:=dw _ _
 go_enter Tryz.func71,Tryz.ntmps71
 go_wp2_with fail
 obtain⟨hA1,b0⟩:=bx1 w rfl [.bool b,.slice p n c,.bool d,.slice o m e] 64
 have c0:=(k1.below hA1)
 (with_reducible refine(jX _ _ _ _ c0).mono ?_)
 rintro e w1 ⟨rfl,hb1⟩
 have dO:=(b0.to hb1)
 obtain⟨e0,f0,g0,h0⟩:=dO.cs4
 go_wp2_with fail
 have JB:=((k2.below hA1).below hb1)
 have d0:=JB
 (with_reducible refine(jX _ _ _ _ d0).mono ?_)
 rintro e w2 ⟨rfl,hb2⟩
 have a0:=(Below.tr (Below.tr (Below.tr cZ hA1) hb1) hb2)
 go_wp2_with fail
 go_ret
 exact⟨iT HX.out,a0⟩
theorem a3D (x y:Int) (w:World) (b d:Bool) (p o:Option Addr) (n c m e:Nat) (k1:iQ w (.agg #[.bool b,.slice p n c]) true x) (k2:iQ w (.agg #[.bool d,.slice o m e]) true y) (hl:isz x<=999999999) (hl2:isz y<=999999999) (hd:¬ 0<y) :
  Calls Tryz.prog 71 #[.agg #[.bool b,.slice p n c,.bool d,.slice o m e]] w fun e w'=>e=.returned (.bool (true&&(true&&(decide (0<y)&&decide (Int.gcd x y=1)))))/\Below w.heap.size w w':=by
 have HX:Hid (false=(true&&(true&&(decide (0<y)&&decide (Int.gcd x y=1))))):=by unfold Hid;simp[hd]
 have hsg:decide (sgn y<=0)=true:=by have:=b2a hd;simpa using this
 clear hd
 have cZ:Below w.heap.size w w:=dw _ _
 go_enter Tryz.func71,Tryz.ntmps71
 go_wp2_with fail
 obtain⟨hA1,b0⟩:=bx1 w rfl [.bool b,.slice p n c,.bool d,.slice o m e] 64
 have c0:=(k1.below hA1)
 (with_reducible refine(jX _ _ _ _ c0).mono ?_)
 rintro e w1 ⟨rfl,hb1⟩
 have dO:=(b0.to hb1)
 obtain⟨f0,h0,j0,l0⟩:=dO.cs4
 go_wp2_with fail
 have JB:=((k2.below hA1).below hb1)
 have d0:=JB
 (with_reducible refine(jX _ _ _ _ d0).mono ?_)
 rintro e w2 ⟨rfl,hb2⟩
 have dL:=(dO.to hb2)
 obtain⟨g0,i0,k0,m0⟩:=dL.cs4
 go_wp2_with fail
 have a0W:=(JB.below hb2)
 have e0:=a0W.raw
 (with_reducible refine(rX _ (y) _ e0 (by omega)).mono ?_)
 rintro e w3 ⟨rfl,hb3⟩
 have a0:=(Below.tr (Below.tr (Below.tr (Below.tr cZ hA1) hb1) hb2) hb3)
 go_wp2_with fail
 go_ret
 exact⟨iT HX.out,a0⟩
theorem a3E (x y:Int) (w:World) (b d:Bool) (p o:Option Addr) (n c m e:Nat) (k1:iQ w (.agg #[.bool b,.slice p n c]) true x) (k2:iQ w (.agg #[.bool d,.slice o m e]) true y) (hl:isz x<=999999999) (hl2:isz y<=999999999) (hd:0<y) :
  Calls Tryz.prog 71 #[.agg #[.bool b,.slice p n c,.bool d,.slice o m e]] w fun e w'=>e=.returned (.bool (true&&(true&&(decide (0<y)&&decide (Int.gcd x y=1)))))/\Below w.heap.size w w':=by
 have HX:Hid ((dU ((Int.gcd x y:Nat):Int) 1==0)=(true&&(true&&(decide (0<y)&&decide (Int.gcd x y=1))))):=by unfold Hid;rw[OM];simp[hd];omega
 have hsg:decide (sgn y<=0)=false:=by rw[zU hd];rfl
 have hlg:isz ((Int.gcd x y:Nat):Int)<=999999999:=vO (by omega) (by omega)
 have h1g:isz 1<=999999999:=jg (zH (k:=1) (by rw[dH];decide)) (by omega)
 clear hd
 have cZ:Below w.heap.size w w:=dw _ _
 go_enter Tryz.func71,Tryz.ntmps71
 go_wp2_with fail
 obtain⟨hA1,b0⟩:=bx1 w rfl [.bool b,.slice p n c,.bool d,.slice o m e] 64
 have c0:=(k1.below hA1)
 (with_reducible refine(jX _ _ _ _ c0).mono ?_)
 rintro e w1 ⟨rfl,hb1⟩
 have dO:=(b0.to hb1)
 obtain⟨k0,n0,q0,t0⟩:=dO.cs4
 go_wp2_with fail
 have JB:=((k2.below hA1).below hb1)
 have d0:=JB
 (with_reducible refine(jX _ _ _ _ d0).mono ?_)
 rintro e w2 ⟨rfl,hb2⟩
 have dL:=(dO.to hb2)
 obtain⟨l0,o0,r0,u0⟩:=dL.cs4
 go_wp2_with fail
 have a0W:=(JB.below hb2)
 have e0:=a0W.raw
 (with_reducible refine(rX _ (y) _ e0 (by omega)).mono ?_)
 rintro e w3 ⟨rfl,hb3⟩
 have lQ:=(dL.to hb3)
 obtain⟨m0,p0,s0,v0⟩:=lQ.cs4
 go_wp2_with fail
 have b6I:=((((k1.below hA1).below hb1).below hb2).below hb3)
 have f0:=b6I.raw
 have b6J:=(a0W.below hb3)
 have g0:=b6J.raw
 (with_reducible refine(VK _ _ (x) (y) _ f0 g0 (by omega) (by omega)).mono ?_)
 rintro e w4 ⟨v4,rfl,hi4,hb4⟩
 obtain⟨g4,p4,n4,c4,rfl⟩:=hi4.form
 go_wp2_with fail
 (with_reducible refine(JG _ _ (by omega) (by omega)).mono ?_)
 rintro e w5 ⟨v5,rfl,hi5,hb5⟩
 obtain⟨g5,p5,n5,c5,rfl⟩:=hi5.form
 go_wp2_with fail
 have j0:=(hi4.below hb5)
 have h0:=j0.raw
 have i0:=hi5.raw
 (with_reducible refine(a1i _ _ ((Int.gcd (x) (y):Int)) (1) _ h0 i0 hlg h1g).mono ?_)
 rintro e w6 ⟨rfl,hb6⟩
 have a0:=(Below.tr (Below.tr (Below.tr (Below.tr (Below.tr (Below.tr (Below.tr cZ hA1) hb1) hb2) hb3) hb4) hb5) hb6)
 go_wp2_with fail
 go_ret
 exact⟨iT HX.out,a0⟩
theorem sZ (v:Value) (ok:Bool) (q:Rat) (w:World) (h:iE w v ok q) (hn:Qn v 999999999) :
  Calls Tryz.prog 71 #[v] w fun e w'=>e=.returned (.bool ok)/\Below w.heap.size w w':=by
 obtain⟨b,s,c,t,o1,o2,x,y,e,h1,h2,rfl,_⟩:=h
 obtain⟨b1,p1,n1,c1,b2,p2,n2,c2,e1,l1,l2⟩:=hn
 rw[e1] at e
 cases e
 subst e1
 have l3:=h1.raw.len
 have l4:=h2.raw.len
 cases o1
 ·cases o2
  ·exact a3A x y w _ _ _ _ _ _ _ _ h1 h2 (by omega) (by omega)
  ·exact a3B x y w _ _ _ _ _ _ _ _ h1 h2 (by omega) (by omega)
 ·cases o2
  ·exact a3C x y w _ _ _ _ _ _ _ _ h1 h2 (by omega) (by omega)
  ·by_cases hd:0<y
   ·exact a3E x y w _ _ _ _ _ _ _ _ h1 h2 (by omega) (by omega) hd
   ·exact a3D x y w _ _ _ _ _ _ _ _ h1 h2 (by omega) (by omega) hd
theorem a1s (v:Value) (q:Rat) (w:World) (h:iE w v true q) (hn:Qn v 999999999) :
  Calls Tryz.prog 82 #[v] w (GQ q w):=by
 obtain⟨b,p,n,c,d,o,m,e,rfl⟩:=h.form
 have cZ:Below w.heap.size w w:=dw _ _
 go_enter Tryz.func82,Tryz.ntmps82
 go_wp2_with fail
 obtain⟨hA1,j0,k0⟩:=bx2 w rfl [.bool b,.slice p n c,.bool d,.slice o m e] 64 [.bool false,.slice none 0 0,.bool false,.slice none 0 0] 64
 have l0:=(h.below hA1)
 (with_reducible refine(sZ _ _ _ _ l0 hn).mono ?_)
 rintro e w1 ⟨rfl,hb1⟩
 have dO:=(j0.to hb1)
 obtain⟨m0,n0,o0,p0⟩:=dO.cs4
 have dV:=(k0.to hb1)
 obtain⟨a0,e0,b0,f0,c0,g0,d0,h0⟩:=dV.cf4
 have h_1:=((h.below hA1).below hb1)
 have i0:=(Below.tr (Below.tr cZ hA1) hb1)
 go_wp2_with fail
 exact jh (v:=.agg #[.bool b,.slice p n c,.bool d,.slice o m e]) (by simp[results,Tryz.results82,go_sem,a0,e0,b0,f0,c0,g0,d0,h0]) rfl ⟨_,rfl,iE.rq (h_1.bG dV rfl rfl rfl rfl (.bool b) (.slice p n c) (.bool d) (.slice o m e)),(Below.bG i0 (b:=w.heap.size+1) (by omega) (.bool b) (.slice p n c) (.bool d) (.slice o m e))⟩
theorem XE (v:Value) (q:Rat) (w:World) (h:iE w v false q) (hn:Qn v 999999999) :
  Calls Tryz.prog 82 #[v] w (GQ q w):=by
 obtain⟨b,p,n,c,d,o,m,e,rfl⟩:=h.form
 have HX:Hid (q=((0:Int):Rat)):=by unfold Hid;rw[h.no];rfl
 have cZ:Below w.heap.size w w:=dw _ _
 go_enter Tryz.func82,Tryz.ntmps82
 go_wp2_with fail
 obtain⟨hA1,l0,j0⟩:=bx2 w rfl [.bool b,.slice p n c,.bool d,.slice o m e] 64 [.bool false,.slice none 0 0,.bool false,.slice none 0 0] 64
 have k0:=(h.below hA1)
 (with_reducible refine(sZ _ _ _ _ k0 hn).mono ?_)
 rintro e w1 ⟨rfl,hb1⟩
 go_wp2_with fail
 (with_reducible refine(PN _ _ (by omega) (by omega)).mono ?_)
 rintro e w2 ⟨v2,rfl,hi2,hb2⟩
 obtain⟨g2,p2,n2,c2,h2,o2,m2,e2,rfl⟩:=hi2.form
 have dM:=((j0.to hb1).to hb2)
 obtain⟨a0,e0,b0,f0,c0,g0,d0,h0⟩:=dM.cf4
 have i0:=(Below.tr (Below.tr (Below.tr cZ hA1) hb1) hb2)
 go_wp2_with fail
 exact jh (v:=.agg #[.bool g2,.slice p2 n2 c2,.bool h2,.slice o2 m2 e2]) (by simp[results,Tryz.results82,go_sem,a0,e0,b0,f0,c0,g0,d0,h0]) rfl ⟨_,rfl,by rw[HX.out];exact(hi2.bG dM rfl rfl rfl rfl (.bool g2) (.slice p2 n2 c2) (.bool h2) (.slice o2 m2 e2)),(Below.bG i0 (b:=w.heap.size+1) (by omega) (.bool g2) (.slice p2 n2 c2) (.bool h2) (.slice o2 m2 e2))⟩
theorem a3F (v:Value) (ok:Bool) (q:Rat) (w:World) (h:iE w v ok q) (hn:Qn v 999999999) :
  Calls Tryz.prog 82 #[v] w (GQ q w):=by
 cases ok
 ·exact XE v q w h hn
 ·exact a1s v q w h hn
theorem lH (v:Value) (q:Rat) (w:World) (h:RQ w v q) (hl:rsz q<=999999999) :
 Calls Tryz.prog 82 #[v] w (GQ q w):=a3F v true q w h.raw (h.qn hl)
theorem QG (v u:Value) (x y:Int) (w:World) (hv:dQ w v x) (hu:dQ w u y) (hl:isz x<=400000000) (hl2:isz y<=400000000) (hd:0<y) :
  Calls Tryz.prog 83 #[v,u] w (GQ (Rat.divInt x y) w):=by
 obtain⟨b,p,n,c,rfl⟩:=hv.form
 obtain⟨d,o,m,e,rfl⟩:=hu.form
 have HX:=dn (a8u (n:=x) hd)
 have b6u:isz ((Int.gcd x y:Nat):Int)<=400000000:=vO (by omega) hl2
 have hlh:isz ((Int.gcd x y:Nat):Int)<=1000000000:=by omega
 have hlg:isz ((Int.gcd x y:Nat):Int)<=400000000:=by exact b6u
 have b6r:((Int.gcd x y:Nat):Int)≠0:=gcd_ne (by omega)
 have hg0:((Int.gcd x y:Nat):Int)≠0:=by omega
 have hsg:decide (sgn y<0)=false:=by rw[zU hd];rfl
 clear hd b6r
 have cZ:Below w.heap.size w w:=dw _ _
 go_enter Tryz.func83,Tryz.ntmps83
 go_wp2_with fail
 obtain⟨hA1,y1,z1,a2⟩:=bx3 w rfl [.bool b,.slice p n c] 62 [.bool d,.slice o m e] 62 [.bool false,.slice none 0 0,.bool false,.slice none 0 0] 64
 have e2:=(hv.below hA1).raw
 have f2:=(hu.below hA1).raw
 (with_reducible refine(VK _ _ (x) (y) _ e2 f2 (by omega) (by omega)).mono ?_)
 rintro e w1 ⟨v1,rfl,hi1,hb1⟩
 obtain⟨g1,p1,n1,c1,rfl⟩:=hi1.form
 have dV:=(z1.to hb1)
 obtain⟨p2,r2⟩:=dV.cs2
 have dO:=(y1.to hb1)
 have s0:=(dO).1
 have x0:=(dV).1
 have LH:=(a2.to hb1)
 have d1:=(LH).1
 go_wp2_with fail
 have kD:=((hu.below hA1).below hb1)
 obtain⟨hA2,b2⟩:=bx1 w1 rfl [.bool g1,.slice p1 n1 c1] 62
 have g2:=(kD.below hA2).raw
 (with_reducible refine(rX _ (y) _ g2 (by omega)).mono ?_)
 rintro e w2 ⟨rfl,hb2⟩
 have dL:=((dO.to hA2).to hb2)
 obtain⟨n2,o2⟩:=dL.cs2
 have k1:=(b2.to hb2)
 obtain⟨q1,s1⟩:=k1.cs2
 go_wp2_with fail
 have IY:=((((hv.below hA1).below hb1).below hA2).below hb2)
 have h2:=IY.raw
 have j1:=((hi1.below hA2).below hb2)
 have i2:=j1.raw
 (with_reducible refine(wS _ _ (x) ((Int.gcd (x) (y):Int)) _ h2 i2 (by omega) hlg hg0).mono ?_)
 rintro e w3 ⟨v3,u3,rfl,hi3,hj3,hb3⟩
 obtain⟨g3,p3,n3,c3,rfl⟩:=hi3.form
 obtain⟨h3,o3,m3,e3,rfl⟩:=hj3.form
 have qB:=(((dV.to hA2).to hb2).to hb3)
 obtain⟨q2,s2⟩:=qB.cs2
 have a0:=(k1.to hb3)
 obtain⟨r1,t1⟩:=a0.cs2
 have lQ:=(dL.to hb3)
 have t0:=(lQ).1
 have y0:=(qB).1
 have LJ:=(((LH.to hA2).to hb2).to hb3)
 have e1:=(LJ).1
 have k0:=(a0).1
 obtain⟨hA3,t2⟩:=bx1 w3 rfl [.bool false,.slice none 0 0] 62
 have u0:=((lQ.to hA3)).1
 have z0:=((qB.to hA3)).1
 have f1:=((LJ.to hA3)).1
 have l0:=((a0.to hA3)).1
 go_wp2_with fail
 have KJ:=(((kD.below hA2).below hb2).below hb3)
 obtain⟨hA4,c2,d2⟩:=bx2 w3 rfl [.bool g3,.slice p3 n3 c3] 62 [.bool h3,.slice o3 m3 e3] 62
 have j2:=(KJ.below hA4).raw
 have l2:=(j1.below hb3)
 have k2:=(l2.below hA4).raw
 (with_reducible refine(wS _ _ (y) ((Int.gcd (x) (y):Int)) _ j2 k2 (by omega) hlg hg0).mono ?_)
 rintro e w4 ⟨v4,u4,rfl,hi4,hj4,hb4⟩
 obtain⟨g4,p4,n4,c4,rfl⟩:=hi4.form
 obtain⟨h4,o4,m4,e4,rfl⟩:=hj4.form
 have j0:=(c2.to hb4)
 obtain⟨u1,x1⟩:=j0.cs2
 have pR:=((LJ.to hA4).to hb4)
 obtain⟨b0,f0,c0,g0,d0,h0,e0,i0⟩:=pR.cf4
 have nG:=((lQ.to hA4).to hb4)
 have v0:=(nG).1
 have kZ:=((qB.to hA4).to hb4)
 have a1:=(kZ).1
 have h1:=(pR).1
 have l1:=((a0.to hA4).to hb4)
 have m0:=(l1).1
 have o0:=(j0).1
 have m1:=(d2.to hb4)
 have q0:=(m1).1
 obtain⟨hA5,u2⟩:=bx1 w4 rfl [.bool false,.slice none 0 0] 62
 have w0:=((nG.to hA5)).1
 have b1:=((kZ.to hA5)).1
 have i1:=((pR.to hA5)).1
 have n0:=((l1.to hA5)).1
 have p0:=((j0.to hA5)).1
 have r0:=((m1.to hA5)).1
 obtain⟨hA6,v2,x2⟩:=bx2 w4 rfl [.bool g4,.slice p4 n4 c4] 62 [.bool h4,.slice o4 m4 e4] 62
 have m2:=((hi3.below hA4).below hb4)
 obtain⟨hA7,y2,z2⟩:=bx2 ((((w4.setCell ⟨w.heap.size+1+1,0,none⟩ (.bool g3)).setCell ⟨w.heap.size+1+1,1,none⟩ (.slice p3 n3 c3)).setCell ⟨w.heap.size+1+1,2,none⟩ (.bool g4)).setCell ⟨w.heap.size+1+1,3,none⟩ (.slice p4 n4 c4)) (by simp:_=w4.heap.size) [.bool g4,.slice p4 n4 c4] 62 [.bool h4,.slice o4 m4 e4] 62
 have o1:=(Below.tr (Below.tr (Below.tr (Below.tr (Below.tr (Below.tr (Below.tr cZ hA1) hb1) hA2) hb2) hb3) hA4) hb4)
 go_wp2_with fail
 exact jh (v:=.agg #[.bool g3,.slice p3 n3 c3,.bool g4,.slice p4 n4 c4]) (by simp[results,Tryz.results83,go_sem,s0,x0,d1,t0,y0,e1,k0,u0,z0,f1,l0,v0,a1,h1,m0,o0,q0,w0,b1,i1,n0,p0,r0,b0,f0,c0,g0,d0,h0,e0,i0]) rfl ⟨_,rfl,RQ.mk' ((m2.bG pR rfl rfl rfl rfl (.bool g3) (.slice p3 n3 c3) (.bool g4) (.slice p4 n4 c4)).below hA7) ((hi4.bG pR rfl rfl rfl rfl (.bool g3) (.slice p3 n3 c3) (.bool g4) (.slice p4 n4 c4)).below hA7) HX.out.1 HX.out.2,(Below.tr (Below.bG o1 (b:=w.heap.size+1+1) (by omega) (.bool g3) (.slice p3 n3 c3) (.bool g4) (.slice p4 n4 c4)) hA7)⟩
theorem VN (v u:Value) (x y:Int) (w:World) (hv:dQ w v x) (hu:dQ w u y) (hl:isz x<=400000000) (hl2:isz y<=400000000) (hd:y<0) :
  Calls Tryz.prog 83 #[v,u] w (GQ (Rat.divInt x y) w):=by
 obtain⟨b,p,n,c,rfl⟩:=hv.form
 obtain⟨d,o,m,e,rfl⟩:=hu.form
 have HX:=dn (a8t (n:=x) hd)
 have b6u:isz ((Int.gcd x y:Nat):Int)<=400000000:=vO (by omega) hl2
 have hlh:isz ((Int.gcd x y:Nat):Int)<=1000000000:=by omega
 have hlg:isz (-((Int.gcd x y:Nat):Int))<=400000000:=by rw[nU];exact b6u
 have b6r:((Int.gcd x y:Nat):Int)≠0:=gcd_ne (by omega)
 have hg0:(-((Int.gcd x y:Nat):Int))≠0:=by omega
 have hsg:decide (sgn y<0)=true:=by rw[LU hd];rfl
 clear hd b6r
 have cZ:Below w.heap.size w w:=dw _ _
 go_enter Tryz.func83,Tryz.ntmps83
 go_wp2_with fail
 obtain⟨hA1,c2,d2,e2⟩:=bx3 w rfl [.bool b,.slice p n c] 62 [.bool d,.slice o m e] 62 [.bool false,.slice none 0 0,.bool false,.slice none 0 0] 64
 have i2:=(hv.below hA1).raw
 have j2:=(hu.below hA1).raw
 (with_reducible refine(VK _ _ (x) (y) _ i2 j2 (by omega) (by omega)).mono ?_)
 rintro e w1 ⟨v1,rfl,hi1,hb1⟩
 obtain⟨g1,p1,n1,c1,rfl⟩:=hi1.form
 have dV:=(d2.to hb1)
 obtain⟨v2,y2⟩:=dV.cs2
 have dO:=(c2.to hb1)
 have x0:=(dO).1
 have d1:=(dV).1
 have LH:=(e2.to hb1)
 have j1:=(LH).1
 go_wp2_with fail
 have kD:=((hu.below hA1).below hb1)
 obtain⟨hA2,f2⟩:=bx1 w1 rfl [.bool g1,.slice p1 n1 c1] 62
 have k2:=(kD.below hA2).raw
 (with_reducible refine(rX _ (y) _ k2 (by omega)).mono ?_)
 rintro e w2 ⟨rfl,hb2⟩
 have q1:=(f2.to hb2)
 obtain⟨u1,y1⟩:=q1.cs2
 go_wp2_with fail
 have q2:=((hi1.below hA2).below hb2)
 have l2:=q2.raw
 (with_reducible refine(VL _ ((Int.gcd (x) (y):Int)) _ l2 hlh).mono ?_)
 rintro e w3 ⟨v3,rfl,hi3,hb3⟩
 obtain⟨g3,p3,n3,c3,rfl⟩:=hi3.form
 have a0:=(q1.to hb3)
 obtain⟨c0,e0,d0,f0⟩:=a0.cf2
 have lQ:=(((dO.to hA2).to hb2).to hb3)
 obtain⟨t2,u2⟩:=lQ.cs2
 go_wp2_with fail
 have KL:=(((((hv.below hA1).below hb1).below hA2).below hb2).below hb3)
 have m2:=(KL.aI a0 rfl rfl (.bool g3) (.slice p3 n3 c3)).raw
 have n2:=(hi3.aI a0 rfl rfl (.bool g3) (.slice p3 n3 c3)).raw
 (with_reducible refine(wS _ _ (x) (-(((Int.gcd (x) (y):Int)))) _ m2 n2 (by omega) hlg hg0).mono ?_)
 rintro e w4 ⟨v4,u4,rfl,hi4,hj4,hb4⟩
 obtain⟨g4,p4,n4,c4,rfl⟩:=hi4.form
 obtain⟨h4,o4,m4,e4,rfl⟩:=hj4.form
 have kZ:=(((((dV.to hA2).to hb2).to hb3).aO (b:=w1.heap.size) (by omega) (.bool g3) (.slice p3 n3 c3)).to hb4)
 obtain⟨x2,z2⟩:=kZ.cs2
 have b0:=((a0.store2 (.bool g3) (.slice p3 n3 c3)).to hb4)
 obtain⟨x1,z1⟩:=b0.cs2
 have nG:=((lQ.aO (b:=w1.heap.size) (by omega) (.bool g3) (.slice p3 n3 c3)).to hb4)
 have y0:=(nG).1
 have e1:=(kZ).1
 have pR:=(((((LH.to hA2).to hb2).to hb3).aO (b:=w1.heap.size) (by omega) (.bool g3) (.slice p3 n3 c3)).to hb4)
 have k1:=(pR).1
 have p0:=(b0).1
 obtain⟨hA3,a3⟩:=bx1 w4 rfl [.bool false,.slice none 0 0] 62
 have z0:=((nG.to hA3)).1
 have f1:=((kZ.to hA3)).1
 have l1:=((pR.to hA3)).1
 have q0:=((b0.to hA3)).1
 go_wp2_with fail
 have IX:=(((((kD.below hA2).below hb2).below hb3).aI a0 rfl rfl (.bool g3) (.slice p3 n3 c3)).below hb4)
 obtain⟨hA4,g2,h2⟩:=bx2 w4 rfl [.bool g4,.slice p4 n4 c4] 62 [.bool h4,.slice o4 m4 e4] 62
 have o2:=(IX.below hA4).raw
 have r2:=((hi3.aI a0 rfl rfl (.bool g3) (.slice p3 n3 c3)).below hb4)
 have p2:=(r2.below hA4).raw
 (with_reducible refine(wS _ _ (y) (-(((Int.gcd (x) (y):Int)))) _ o2 p2 (by omega) hlg hg0).mono ?_)
 rintro e w5 ⟨v5,u5,rfl,hi5,hj5,hb5⟩
 obtain⟨g5,p5,n5,c5,rfl⟩:=hi5.form
 obtain⟨h5,o5,m5,e5,rfl⟩:=hj5.form
 have o0:=(g2.to hb5)
 obtain⟨a2,b2⟩:=o0.cs2
 have yK:=((pR.to hA4).to hb5)
 obtain⟨g0,k0,h0,l0,i0,m0,j0,n0⟩:=yK.cf4
 have a3j:=((nG.to hA4).to hb5)
 have a1:=(a3j).1
 have b1t:=((kZ.to hA4).to hb5)
 have h1:=(b1t).1
 have m1:=(yK).1
 have r1:=((b0.to hA4).to hb5)
 have r0:=(r1).1
 have t0:=(o0).1
 have s1:=(h2.to hb5)
 have v0:=(s1).1
 obtain⟨hA5,b3⟩:=bx1 w5 rfl [.bool false,.slice none 0 0] 62
 have b1:=((a3j.to hA5)).1
 have i1:=((b1t.to hA5)).1
 have o1:=((yK.to hA5)).1
 have s0:=((r1.to hA5)).1
 have u0:=((o0.to hA5)).1
 have w0:=((s1.to hA5)).1
 obtain⟨hA6,d3,e3⟩:=bx2 w5 rfl [.bool g5,.slice p5 n5 c5] 62 [.bool h5,.slice o5 m5 e5] 62
 have s2:=((hi4.below hA4).below hb5)
 obtain⟨hA7,f3,h3⟩:=bx2 ((((w5.setCell ⟨w.heap.size+1+1,0,none⟩ (.bool g4)).setCell ⟨w.heap.size+1+1,1,none⟩ (.slice p4 n4 c4)).setCell ⟨w.heap.size+1+1,2,none⟩ (.bool g5)).setCell ⟨w.heap.size+1+1,3,none⟩ (.slice p5 n5 c5)) (by simp:_=w5.heap.size) [.bool g5,.slice p5 n5 c5] 62 [.bool h5,.slice o5 m5 e5] 62
 have t1:=(Below.tr (Below.tr (Below.tr (Below.aI (Below.tr (Below.tr (Below.tr (Below.tr (Below.tr cZ hA1) hb1) hA2) hb2) hb3) (b:=w1.heap.size) (by omega) (.bool g3) (.slice p3 n3 c3)) hb4) hA4) hb5)
 go_wp2_with fail
 exact jh (v:=.agg #[.bool g4,.slice p4 n4 c4,.bool g5,.slice p5 n5 c5]) (by simp[results,Tryz.results83,go_sem,x0,d1,j1,c0,e0,d0,f0,y0,e1,k1,p0,z0,f1,l1,q0,a1,h1,m1,r0,t0,v0,b1,i1,o1,s0,u0,w0,g0,k0,h0,l0,i0,m0,j0,n0]) rfl ⟨_,rfl,RQ.mk' ((s2.bG yK rfl rfl rfl rfl (.bool g4) (.slice p4 n4 c4) (.bool g5) (.slice p5 n5 c5)).below hA7) ((hi5.bG yK rfl rfl rfl rfl (.bool g4) (.slice p4 n4 c4) (.bool g5) (.slice p5 n5 c5)).below hA7) HX.out.1 HX.out.2,(Below.tr (Below.bG t1 (b:=w.heap.size+1+1) (by omega) (.bool g4) (.slice p4 n4 c4) (.bool g5) (.slice p5 n5 c5)) hA7)⟩
theorem xE (v u:Value) (x y:Int) (w:World) (hv:dQ w v x) (hu:dQ w u y) (hl:isz x<=400000000) (hl2:isz y<=400000000) (hd:y≠0) :
  Calls Tryz.prog 83 #[v,u] w (GQ (Rat.divInt x y) w):=by
 rcases Ad y 0 with h|h|h
 ·exact VN v u x y w hv hu hl hl2 h
 ·exact absurd h hd
 ·exact QG v u x y w hv hu hl hl2 h
theorem b1M (v u:Value) (x y:Int) (w:World) (hv:dQ w v x) (hu:dQ w u y) (hl:isz x<=400000000) (hl2:isz y<=400000000) (hd:y≠0) :
  Calls Tryz.prog 141 #[v,u] w (GQC (Rat.divInt x y) 0 w):=by
 obtain⟨b,p,n,c,rfl⟩:=hv.form
 obtain⟨d,o,m,e,rfl⟩:=hu.form
 have c2h:(sgn y==0)=false:=by have:=b2b hd;simpa using this
 have cZ:Below w.heap.size w w:=dw _ _
 go_enter Tryz.func141,Tryz.ntmps141
 go_wp2_with fail
 obtain⟨hA1,j0,k0,l0⟩:=bx3 w rfl [.bool b,.slice p n c] 62 [.bool d,.slice o m e] 62 [.bool false,.slice none 0 0,.bool false,.slice none 0 0] 64
 have m0:=(hu.below hA1).raw
 (with_reducible refine(rX _ (y) _ m0 (by omega)).mono ?_)
 rintro e w1 ⟨rfl,hb1⟩
 have dO:=(j0.to hb1)
 obtain⟨p0,q0⟩:=dO.cs2
 have dV:=(k0.to hb1)
 obtain⟨r0,s0⟩:=dV.cs2
 go_wp2_with fail
 have rM:=((hv.below hA1).below hb1)
 have n0:=rM
 have kD:=((hu.below hA1).below hb1)
 have o0:=kD
 (with_reducible refine(xE _ _ (x) (y) _ n0 o0 hl hl2 hd).mono ?_)
 rintro e w2 ⟨v2,rfl,hi2,hb2⟩
 obtain⟨g2,p2,n2,c2,h2,o2,m2,e2,rfl⟩:=hi2.form
 have lY:=((l0.to hb1).to hb2)
 obtain⟨a0,e0,b0,f0,c0,g0,d0,h0⟩:=lY.cf4
 have i0:=(Below.tr (Below.tr (Below.tr cZ hA1) hb1) hb2)
 go_wp2_with fail
 exact jh (v:=.tuple #[.agg #[.bool g2,.slice p2 n2 c2,.bool h2,.slice o2 m2 e2],.int .i64 0]) (by simp[results,Tryz.results141,go_sem,a0,e0,b0,f0,c0,g0,d0,h0]) rfl ⟨_,rfl,(hi2.bG lY rfl rfl rfl rfl (.bool g2) (.slice p2 n2 c2) (.bool h2) (.slice o2 m2 e2)),(Below.bG i0 (b:=w.heap.size+1+1) (by omega) (.bool g2) (.slice p2 n2 c2) (.bool h2) (.slice o2 m2 e2))⟩
theorem VP (v:Value) (q:Rat) (w:World) (fa:RQ w v q) (hl:rsz q<=999999999) :
  Calls Tryz.prog 72 #[v] w (fun e w'=>e=.returned (.int .i64 (sgn q.num))/\Below w.heap.size w w'):=by
 obtain⟨b,p,n,c,d,o,m,e,rfl⟩:=fa.form
 have hb1:=fB q
 have hb2:=eF q
 have b0:=OY
 have cZ:Below w.heap.size w w:=dw _ _
 go_enter Tryz.func72,Tryz.ntmps72
 go_wp2_with fail
 obtain⟨hA1,e0⟩:=bx1 w rfl [.bool b,.slice p n c,.bool d,.slice o m e] 64
 have c0:=(fa.below hA1)
 (with_reducible refine(lH _ (q) _ c0 (by omega)).mono ?_)
 rintro e w1 ⟨v1,rfl,hi1,hb1⟩
 obtain⟨g1,p1,n1,c1,h1,o1,m1,e1,rfl⟩:=hi1.form
 go_wp2_with fail
 have d0:=hi1.num.raw
 (with_reducible refine(rX _ (((q)).num) _ d0 (by omega)).mono ?_)
 rintro e w2 ⟨rfl,hb2⟩
 have a0:=(Below.tr (Below.tr (Below.tr cZ hA1) hb1) hb2)
 go_wp2_with fail
 go_ret
 exact⟨rfl,a0⟩
theorem a8x (v:Value) (q:Rat) (w:World) (fa:RQ w v q) (hl:rsz q<=999999999) :
  Calls Tryz.prog 56 #[v] w (GQ (-q) w):=by
 obtain⟨b,p,n,c,d,o,m,e,rfl⟩:=fa.form
 have hb1:=fB q
 have hb2:=eF q
 have cZ:Below w.heap.size w w:=dw _ _
 go_enter Tryz.func56,Tryz.ntmps56
 go_wp2_with fail
 obtain⟨hA1,m0,n0⟩:=bx2 w rfl [.bool b,.slice p n c,.bool d,.slice o m e] 64 [.bool false,.slice none 0 0,.bool false,.slice none 0 0] 64
 have p0:=(fa.below hA1)
 (with_reducible refine(lH _ (q) _ p0 (by omega)).mono ?_)
 rintro e w1 ⟨v1,rfl,hi1,hb1⟩
 obtain⟨g1,p1,n1,c1,h1,o1,m1,e1,rfl⟩:=hi1.form
 have dO:=(m0.to hb1)
 have i0:=(dO).1
 have dV:=(n0.to hb1)
 have j0:=(dV).1
 go_wp2_with fail
 obtain⟨hA2,o0⟩:=bx1 w1 rfl [.bool g1,.slice p1 n1 c1,.bool h1,.slice o1 m1 e1] 64
 have a0h:=(o0.drew).bs4
 have k0:dP (w.heap.size+1) (BS4 w1.heap.size (.bool g1) (.slice p1 n1 c1) (.bool h1) (.slice o1 m1 e1)):=(BS4.hc (by omega))
 have tk1:True:=trivial
 go_region_held3 (BS4 w1.heap.size (.bool g1) (.slice p1 n1 c1) (.bool h1) (.slice o1 m1 e1)) (first|with_reducible exact a0h|with_reducible exact iD.go BS4.hk (by assumption) (by assumption)|with_reducible exact dP.go4 k0 (by assumption)|(simp;done))
  (first
   | (((have:=tk1);clear tk1;have q0:=(hi1.below hA2).drew.num.raw;go_at_call 96;(with_reducible refine(VL _ (((q)).num) _ q0 (by omega)).mono ?_);rintro e w2 ⟨v2,rfl,hi2,hb2⟩;obtain⟨g2,p2,n2,c2,rfl⟩:=hi2.form;have dM:=((dV.to hA2).drew.to hb2);obtain⟨a0,e0,b0,f0,c0,g0,d0,h0⟩:=dM.cf4)))
 have r0:=((hi1.below hA2).drew.below hb2)
 have l0:=(Below.tr (Below.tr (Below.tr (Below.tr cZ hA1) hb1) hA2).drew hb2)
 go_wp2_with fail
 exact jh (v:=.agg #[.bool g2,.slice p2 n2 c2,.bool h1,.slice o1 m1 e1]) (by simp[results,Tryz.results56,go_sem,i0,j0,a0,e0,b0,f0,c0,g0,d0,h0]) rfl ⟨_,rfl,RQ.mk' (hi2.bG dM rfl rfl rfl rfl (.bool g2) (.slice p2 n2 c2) (.bool h1) (.slice o1 m1 e1)) (r0.bG dM rfl rfl rfl rfl (.bool g2) (.slice p2 n2 c2) (.bool h1) (.slice o1 m1 e1)).den (PS q).symm (by rw[PO]),(Below.bG l0 (b:=w.heap.size+1) (by omega) (.bool g2) (.slice p2 n2 c2) (.bool h1) (.slice o1 m1 e1))⟩
theorem ZB (v u:Value) (x y:Rat) (w:World) (fa:RQ w v x) (fb:RQ w u y) (hl:rsz x<=190000000) (hl2:rsz y<=190000000) :
  Calls Tryz.prog 44 #[v,u] w (GQ (x+y) w):=by
 obtain⟨b,p,n,c,d,o,m,e,rfl⟩:=fa.form
 obtain⟨f,i,j,k,g,r,t,a,rfl⟩:=fb.form
 have hb1:=fB x
 have hb2:=eF x
 have hb3:=fB y
 have hb4:=eF y
 have hc1:=eY x.num y.den
 have hc2:=eY y.num x.den
 have hc3:=EX (x.num*y.den) (y.num*x.den)
 have hc4:=eY x.den y.den
 have HX:=dn (a1f x y)
 have hd0:=yZ x y
 have cZ:Below w.heap.size w w:=dw _ _
 go_enter Tryz.func44,Tryz.ntmps44
 go_wp2_with fail
 obtain⟨hA1,v0,w0,x0⟩:=bx3 w rfl [.bool b,.slice p n c,.bool d,.slice o m e] 64 [.bool f,.slice i j k,.bool g,.slice r t a] 64 [.bool false,.slice none 0 0,.bool false,.slice none 0 0] 64
 have a1:=(fa.below hA1)
 (with_reducible refine(lH _ (x) _ a1 (by omega)).mono ?_)
 rintro e w1 ⟨v1,rfl,hi1,hb1⟩
 obtain⟨g1,p1,n1,c1,h1,o1,m1,e1,rfl⟩:=hi1.form
 have dV:=(w0.to hb1)
 obtain⟨a2,b2,d2,f2⟩:=dV.cs4
 have dO:=(v0.to hb1)
 have j0:=(dO).1
 have l0:=(dV).1
 have LH:=(x0.to hb1)
 have n0:=(LH).1
 go_wp2_with fail
 have a2k:=((fb.below hA1).below hb1)
 obtain⟨hA2,y0⟩:=bx1 w1 rfl [.bool g1,.slice p1 n1 c1,.bool h1,.slice o1 m1 e1] 64
 have b1:=(a2k.below hA2)
 (with_reducible refine(lH _ (y) _ b1 (by omega)).mono ?_)
 rintro e w2 ⟨v2,rfl,hi2,hb2⟩
 obtain⟨g2,p2,n2,c2,h2,o2,m2,e2,rfl⟩:=hi2.form
 have dL:=((dO.to hA2).to hb2)
 have k0:=(dL).1
 have dM:=((dV.to hA2).to hb2)
 have m0:=(dM).1
 have lY:=((LH.to hA2).to hb2)
 have o0:=(lY).1
 have s0:=(y0.to hb2)
 have i0:=(s0).1
 go_wp2_with fail
 obtain⟨hA3,z0⟩:=bx1 w2 rfl [.bool g2,.slice p2 n2 c2,.bool h2,.slice o2 m2 e2] 64
 have a4e:=(aK.mk ((s0.to hA3).drew).bs4 (z0.drew).bs4)
 have t0:dP (w.heap.size+1+1) (aK (BS4 w1.heap.size (.bool g1) (.slice p1 n1 c1) (.bool h1) (.slice o1 m1 e1)) (BS4 w2.heap.size (.bool g2) (.slice p2 n2 c2) (.bool h2) (.slice o2 m2 e2))):=(aK.hc (BS4.hc (by omega)) (BS4.hc (by omega)))
 have tk1:True:=trivial
 have tk2:True:=trivial
 have tk3:True:=trivial
 have tk4:True:=trivial
 have tk5:True:=trivial
 go_region_held3 (aK (BS4 w1.heap.size (.bool g1) (.slice p1 n1 c1) (.bool h1) (.slice o1 m1 e1)) (BS4 w2.heap.size (.bool g2) (.slice p2 n2 c2) (.bool h2) (.slice o2 m2 e2))) (first|with_reducible exact a4e|with_reducible exact iD.go (aK.hk BS4.hk BS4.hk) (by assumption) (by assumption)|with_reducible exact dP.go4 t0 (by assumption)|(simp;done))
  (first
   | (((have:=tk1);clear tk1;have p0:=((hi1.below hA2).below hb2);have d1:=(p0.below hA3).drew.num.raw;have f1:=(hi2.below hA3).drew.den.raw;go_at_call 85;(with_reducible refine(oQ _ _ (((x)).num) ((((y)).den:Int)) _ d1 f1 (by omega) (by omega)).mono ?_);rintro e w3 ⟨v3,rfl,hi3,hb3⟩;obtain⟨g3,p3,n3,c3,rfl⟩:=hi3.form))
   | (((have:=tk2);clear tk2;have r0:=((hi2.below hA3).drew.below hb3);have i1:=r0.num.raw;have q0:=((p0.below hA3).drew.below hb3);have j1:=q0.den.raw;go_at_call 85;(with_reducible refine(oQ _ _ (((y)).num) ((((x)).den:Int)) _ i1 j1 (by omega) (by omega)).mono ?_);rintro e w4 ⟨v4,rfl,hi4,hb4⟩;obtain⟨g4,p4,n4,c4,rfl⟩:=hi4.form))
   | (((have:=tk3);clear tk3;have y1:=(hi3.below hb4);have k1:=y1.raw;have l1:=hi4.raw;go_at_call 84;(with_reducible refine(a3k _ _ ((((x)).num)*((((y)).den:Int))) ((((y)).num)*((((x)).den:Int))) _ k1 l1 (by omega) (by omega)).mono ?_);rintro e w5 ⟨v5,rfl,hi5,hb5⟩;obtain⟨g5,p5,n5,c5,rfl⟩:=hi5.form))
   | (((have:=tk4);clear tk4;have u1:=((q0.below hb4).below hb5);have q1:=u1.den.raw;have x1:=((r0.below hb4).below hb5);have r1:=x1.den.raw;go_at_call 85;(with_reducible refine(oQ _ _ ((((x)).den:Int)) ((((y)).den:Int)) _ q1 r1 (by omega) (by omega)).mono ?_);rintro e w6 ⟨v6,rfl,hi6,hb6⟩;obtain⟨g6,p6,n6,c6,rfl⟩:=hi6.form))
   | (((have:=tk5);clear tk5;have z1:=(hi5.below hb6);have s1:=z1;have t1:=hi6;go_at_call 83;(with_reducible refine(xE _ _ (((((x)).num)*((((y)).den:Int)))+((((y)).num)*((((x)).den:Int)))) (((((x)).den:Int))*((((y)).den:Int))) _ s1 t1 (by omega) (by omega) hd0).mono ?_);rintro e w7 ⟨v7,rfl,hi7,hb7⟩;obtain⟨g7,p7,n7,c7,h7,o7,m7,e7,rfl⟩:=hi7.form;have b1u:=((((((lY.to hA3).drew.to hb3).to hb4).to hb5).to hb6).to hb7);obtain⟨a0,e0,b0,f0,c0,g0,d0,h0⟩:=b1u.cf4)))
 have u0:=(Below.tr (Below.tr (Below.tr (Below.tr (Below.tr (Below.tr (Below.tr (Below.tr (Below.tr (Below.tr cZ hA1) hb1) hA2) hb2) hA3).drew hb3) hb4) hb5) hb6) hb7)
 go_wp2_with fail
 exact jh (v:=.agg #[.bool g7,.slice p7 n7 c7,.bool h7,.slice o7 m7 e7]) (by simp[results,Tryz.results44,go_sem,j0,l0,n0,k0,m0,o0,i0,a0,e0,b0,f0,c0,g0,d0,h0]) rfl ⟨_,rfl,by rw[<-HX.out];exact(hi7.bG b1u rfl rfl rfl rfl (.bool g7) (.slice p7 n7 c7) (.bool h7) (.slice o7 m7 e7)),(Below.bG u0 (b:=w.heap.size+1+1) (by omega) (.bool g7) (.slice p7 n7 c7) (.bool h7) (.slice o7 m7 e7))⟩
theorem a8v (v u:Value) (x y:Rat) (w:World) (fa:RQ w v x) (fb:RQ w u y) (hl:rsz x<=190000000) (hl2:rsz y<=190000000) :
  Calls Tryz.prog 45 #[v,u] w (GQ (x*y) w):=by
 obtain⟨b,p,n,c,d,o,m,e,rfl⟩:=fa.form
 obtain⟨f,i,j,k,g,r,t,a,rfl⟩:=fb.form
 have hb1:=fB x
 have hb2:=eF x
 have hb3:=fB y
 have hb4:=eF y
 have hc1:=eY x.num y.num
 have hc4:=eY x.den y.den
 have HX:=dn (a1h x y)
 have hd0:=yZ x y
 have cZ:Below w.heap.size w w:=dw _ _
 go_enter Tryz.func45,Tryz.ntmps45
 go_wp2_with fail
 obtain⟨hA1,t0,u0,v0⟩:=bx3 w rfl [.bool b,.slice p n c,.bool d,.slice o m e] 64 [.bool f,.slice i j k,.bool g,.slice r t a] 64 [.bool false,.slice none 0 0,.bool false,.slice none 0 0] 64
 have y0:=(fa.below hA1)
 (with_reducible refine(lH _ (x) _ y0 (by omega)).mono ?_)
 rintro e w1 ⟨v1,rfl,hi1,hb1⟩
 obtain⟨g1,p1,n1,c1,h1,o1,m1,e1,rfl⟩:=hi1.form
 have dV:=(u0.to hb1)
 obtain⟨r1,s1,t1,u1⟩:=dV.cs4
 have dO:=(t0.to hb1)
 have j0:=(dO).1
 have l0:=(dV).1
 have LH:=(v0.to hb1)
 have n0:=(LH).1
 go_wp2_with fail
 have a2k:=((fb.below hA1).below hb1)
 obtain⟨hA2,w0⟩:=bx1 w1 rfl [.bool g1,.slice p1 n1 c1,.bool h1,.slice o1 m1 e1] 64
 have z0:=(a2k.below hA2)
 (with_reducible refine(lH _ (y) _ z0 (by omega)).mono ?_)
 rintro e w2 ⟨v2,rfl,hi2,hb2⟩
 obtain⟨g2,p2,n2,c2,h2,o2,m2,e2,rfl⟩:=hi2.form
 have dL:=((dO.to hA2).to hb2)
 have k0:=(dL).1
 have dM:=((dV.to hA2).to hb2)
 have m0:=(dM).1
 have lY:=((LH.to hA2).to hb2)
 have o0:=(lY).1
 have q0:=(w0.to hb2)
 have i0:=(q0).1
 go_wp2_with fail
 obtain⟨hA3,x0⟩:=bx1 w2 rfl [.bool g2,.slice p2 n2 c2,.bool h2,.slice o2 m2 e2] 64
 have a4e:=(aK.mk ((q0.to hA3).drew).bs4 (x0.drew).bs4)
 have r0:dP (w.heap.size+1+1) (aK (BS4 w1.heap.size (.bool g1) (.slice p1 n1 c1) (.bool h1) (.slice o1 m1 e1)) (BS4 w2.heap.size (.bool g2) (.slice p2 n2 c2) (.bool h2) (.slice o2 m2 e2))):=(aK.hc (BS4.hc (by omega)) (BS4.hc (by omega)))
 have tk1:True:=trivial
 have tk2:True:=trivial
 have tk3:True:=trivial
 go_region_held3 (aK (BS4 w1.heap.size (.bool g1) (.slice p1 n1 c1) (.bool h1) (.slice o1 m1 e1)) (BS4 w2.heap.size (.bool g2) (.slice p2 n2 c2) (.bool h2) (.slice o2 m2 e2))) (first|with_reducible exact a4e|with_reducible exact iD.go (aK.hk BS4.hk BS4.hk) (by assumption) (by assumption)|with_reducible exact dP.go4 r0 (by assumption)|(simp;done))
  (first
   | (((have:=tk1);clear tk1;have p0:=((hi1.below hA2).below hb2);have a1:=(p0.below hA3).drew.num.raw;have b1:=(hi2.below hA3).drew.num.raw;go_at_call 85;(with_reducible refine(oQ _ _ (((x)).num) (((y)).num) _ a1 b1 (by omega) (by omega)).mono ?_);rintro e w3 ⟨v3,rfl,hi3,hb3⟩;obtain⟨g3,p3,n3,c3,rfl⟩:=hi3.form))
   | (((have:=tk2);clear tk2;have k1:=((p0.below hA3).drew.below hb3);have d1:=k1.den.raw;have l1:=((hi2.below hA3).drew.below hb3);have f1:=l1.den.raw;go_at_call 85;(with_reducible refine(oQ _ _ ((((x)).den:Int)) ((((y)).den:Int)) _ d1 f1 (by omega) (by omega)).mono ?_);rintro e w4 ⟨v4,rfl,hi4,hb4⟩;obtain⟨g4,p4,n4,c4,rfl⟩:=hi4.form))
   | (((have:=tk3);clear tk3;have q1:=(hi3.below hb4);have i1:=q1;have j1:=hi4;go_at_call 83;(with_reducible refine(xE _ _ ((((x)).num)*(((y)).num)) (((((x)).den:Int))*((((y)).den:Int))) _ i1 j1 (by omega) (by omega) hd0).mono ?_);rintro e w5 ⟨v5,rfl,hi5,hb5⟩;obtain⟨g5,p5,n5,c5,h5,o5,m5,e5,rfl⟩:=hi5.form;have yK:=((((lY.to hA3).drew.to hb3).to hb4).to hb5);obtain⟨a0,e0,b0,f0,c0,g0,d0,h0⟩:=yK.cf4)))
 have s0:=(Below.tr (Below.tr (Below.tr (Below.tr (Below.tr (Below.tr (Below.tr (Below.tr cZ hA1) hb1) hA2) hb2) hA3).drew hb3) hb4) hb5)
 go_wp2_with fail
 exact jh (v:=.agg #[.bool g5,.slice p5 n5 c5,.bool h5,.slice o5 m5 e5]) (by simp[results,Tryz.results45,go_sem,j0,l0,n0,k0,m0,o0,i0,a0,e0,b0,f0,c0,g0,d0,h0]) rfl ⟨_,rfl,by rw[<-HX.out];exact(hi5.bG yK rfl rfl rfl rfl (.bool g5) (.slice p5 n5 c5) (.bool h5) (.slice o5 m5 e5)),(Below.bG s0 (b:=w.heap.size+1+1) (by omega) (.bool g5) (.slice p5 n5 c5) (.bool h5) (.slice o5 m5 e5))⟩
theorem b1B (v u:Value) (x y:Rat) (w:World) (fa:RQ w v x) (fb:RQ w u y) (hl:rsz x<=190000000) (hl2:rsz y<=190000000) (hy:y≠0) :
  Calls Tryz.prog 95 #[v,u] w (GQC (x / y) 0 w):=by
 obtain⟨b,p,n,c,d,o,m,e,rfl⟩:=fa.form
 obtain⟨f,i,j,k,g,r,t,a,rfl⟩:=fb.form
 have hb1:=fB x
 have hb2:=eF x
 have hb3:=fB y
 have hb4:=eF y
 have hc1:=eY x.num y.den
 have hc4:=eY x.den y.num
 have HX:=dn (a1g x y)
 have hn0:y.num≠0:=fun h=>hy ((zM y).1 h)
 have hd0:(x.den:Int)*y.num≠0:=fun h=>by
  have:=x.den_nz
  rcases Int.mul_eq_zero.1 h with h|h<;>omega
 clear hy hn0
 have cZ:Below w.heap.size w w:=dw _ _
 go_enter Tryz.func95,Tryz.ntmps95
 go_wp2_with fail
 obtain⟨hA1,t0,u0,v0⟩:=bx3 w rfl [.bool b,.slice p n c,.bool d,.slice o m e] 64 [.bool f,.slice i j k,.bool g,.slice r t a] 64 [.bool false,.slice none 0 0,.bool false,.slice none 0 0] 64
 have y0:=(fa.below hA1)
 (with_reducible refine(lH _ (x) _ y0 (by omega)).mono ?_)
 rintro e w1 ⟨v1,rfl,hi1,hb1⟩
 obtain⟨g1,p1,n1,c1,h1,o1,m1,e1,rfl⟩:=hi1.form
 have dV:=(u0.to hb1)
 obtain⟨r1,s1,t1,u1⟩:=dV.cs4
 have dO:=(t0.to hb1)
 have j0:=(dO).1
 have l0:=(dV).1
 have LH:=(v0.to hb1)
 have n0:=(LH).1
 go_wp2_with fail
 have a2k:=((fb.below hA1).below hb1)
 obtain⟨hA2,w0⟩:=bx1 w1 rfl [.bool g1,.slice p1 n1 c1,.bool h1,.slice o1 m1 e1] 64
 have z0:=(a2k.below hA2)
 (with_reducible refine(lH _ (y) _ z0 (by omega)).mono ?_)
 rintro e w2 ⟨v2,rfl,hi2,hb2⟩
 obtain⟨g2,p2,n2,c2,h2,o2,m2,e2,rfl⟩:=hi2.form
 have dL:=((dO.to hA2).to hb2)
 have k0:=(dL).1
 have dM:=((dV.to hA2).to hb2)
 have m0:=(dM).1
 have lY:=((LH.to hA2).to hb2)
 have o0:=(lY).1
 have q0:=(w0.to hb2)
 have i0:=(q0).1
 go_wp2_with fail
 obtain⟨hA3,x0⟩:=bx1 w2 rfl [.bool g2,.slice p2 n2 c2,.bool h2,.slice o2 m2 e2] 64
 have a4e:=(aK.mk ((q0.to hA3).drew).bs4 (x0.drew).bs4)
 have r0:dP (w.heap.size+1+1) (aK (BS4 w1.heap.size (.bool g1) (.slice p1 n1 c1) (.bool h1) (.slice o1 m1 e1)) (BS4 w2.heap.size (.bool g2) (.slice p2 n2 c2) (.bool h2) (.slice o2 m2 e2))):=(aK.hc (BS4.hc (by omega)) (BS4.hc (by omega)))
 have tk1:True:=trivial
 have tk2:True:=trivial
 have tk3:True:=trivial
 go_region_held3 (aK (BS4 w1.heap.size (.bool g1) (.slice p1 n1 c1) (.bool h1) (.slice o1 m1 e1)) (BS4 w2.heap.size (.bool g2) (.slice p2 n2 c2) (.bool h2) (.slice o2 m2 e2))) (first|with_reducible exact a4e|with_reducible exact iD.go (aK.hk BS4.hk BS4.hk) (by assumption) (by assumption)|with_reducible exact dP.go4 r0 (by assumption)|(simp;done))
  (first
   | (((have:=tk1);clear tk1;have p0:=((hi1.below hA2).below hb2);have a1:=(p0.below hA3).drew.num.raw;have b1:=(hi2.below hA3).drew.den.raw;go_at_call 85;(with_reducible refine(oQ _ _ (((x)).num) ((((y)).den:Int)) _ a1 b1 (by omega) (by omega)).mono ?_);rintro e w3 ⟨v3,rfl,hi3,hb3⟩;obtain⟨g3,p3,n3,c3,rfl⟩:=hi3.form))
   | (((have:=tk2);clear tk2;have k1:=((p0.below hA3).drew.below hb3);have d1:=k1.den.raw;have l1:=((hi2.below hA3).drew.below hb3);have f1:=l1.num.raw;go_at_call 85;(with_reducible refine(oQ _ _ ((((x)).den:Int)) (((y)).num) _ d1 f1 (by omega) (by omega)).mono ?_);rintro e w4 ⟨v4,rfl,hi4,hb4⟩;obtain⟨g4,p4,n4,c4,rfl⟩:=hi4.form))
   | (((have:=tk3);clear tk3;have q1:=(hi3.below hb4);have i1:=q1;have j1:=hi4;go_at_call 141;(with_reducible refine(b1M _ _ ((((x)).num)*((((y)).den:Int))) (((((x)).den:Int))*(((y)).num)) _ i1 j1 (by omega) (by omega) hd0).mono ?_);rintro e w5 ⟨v5,rfl,hi5,hb5⟩;obtain⟨g5,p5,n5,c5,h5,o5,m5,e5,rfl⟩:=hi5.form;have yK:=((((lY.to hA3).drew.to hb3).to hb4).to hb5);obtain⟨a0,e0,b0,f0,c0,g0,d0,h0⟩:=yK.cf4)))
 have s0:=(Below.tr (Below.tr (Below.tr (Below.tr (Below.tr (Below.tr (Below.tr (Below.tr cZ hA1) hb1) hA2) hb2) hA3).drew hb3) hb4) hb5)
 go_wp2_with fail
 exact jh (v:=.tuple #[.agg #[.bool g5,.slice p5 n5 c5,.bool h5,.slice o5 m5 e5],.int .i64 0]) (by simp[results,Tryz.results95,go_sem,j0,l0,n0,k0,m0,o0,i0,a0,e0,b0,f0,c0,g0,d0,h0]) rfl ⟨_,rfl,by rw[<-HX.out];exact(hi5.bG yK rfl rfl rfl rfl (.bool g5) (.slice p5 n5 c5) (.bool h5) (.slice o5 m5 e5)),(Below.bG s0 (b:=w.heap.size+1+1) (by omega) (.bool g5) (.slice p5 n5 c5) (.bool h5) (.slice o5 m5 e5))⟩
theorem ZH (v u:Value) (x y:Rat) (w:World) (fa:RQ w v x) (fb:RQ w u y) (hl:rsz x<=190000000) (hl2:rsz y<=190000000) :
  Calls Tryz.prog 43 #[v,u] w (GQ (x-y) w):=by
 obtain⟨b,p,n,c,d,o,m,e,rfl⟩:=fa.form
 obtain⟨f,i,j,k,g,r,t,a,rfl⟩:=fb.form
 have hb1:=fB x
 have hb2:=eF x
 have hb3:=fB y
 have hb4:=eF y
 have hc5:rsz (-y)<=190000000:=by rw[a1o];exact hl2
 have cZ:Below w.heap.size w w:=dw _ _
 go_enter Tryz.func43,Tryz.ntmps43
 go_wp2_with fail
 obtain⟨hA1,l0,m0,i0⟩:=bx3 w rfl [.bool b,.slice p n c,.bool d,.slice o m e] 64 [.bool f,.slice i j k,.bool g,.slice r t a] 64 [.bool false,.slice none 0 0,.bool false,.slice none 0 0] 64
 have yQ:=(aK.mk (l0.drew).bs4 (aK.mk (m0.drew).bs4 (BN.of (i0.drew))))
 have j0:dP (w.heap.size+1+1) (aK (BS4 w.heap.size (.bool b) (.slice p n c) (.bool d) (.slice o m e)) (aK (BS4 (w.heap.size+1) (.bool f) (.slice i j k) (.bool g) (.slice r t a)) (BN (w.heap.size+1+1)))):=(aK.hc (BS4.hc (by omega)) (aK.hc (BS4.hc (by omega)) BN.hc))
 have tk1:True:=trivial
 have tk2:True:=trivial
 go_region_held3 (aK (BS4 w.heap.size (.bool b) (.slice p n c) (.bool d) (.slice o m e)) (aK (BS4 (w.heap.size+1) (.bool f) (.slice i j k) (.bool g) (.slice r t a)) (BN (w.heap.size+1+1)))) (first|with_reducible exact yQ|with_reducible exact iD.go (aK.hk BS4.hk (aK.hk BS4.hk BN.hk)) (by assumption) (by assumption)|with_reducible exact dP.go4 j0 (by assumption)|(simp;done))
  (first
   | (((have:=tk1);clear tk1;have n0:=(fb.below hA1).drew;go_at_call 56;(with_reducible refine(a8x _ (y) _ n0 (by omega)).mono ?_);rintro e w1 ⟨v1,rfl,hi1,hb1⟩;obtain⟨g1,p1,n1,c1,h1,o1,m1,e1,rfl⟩:=hi1.form))
   | (((have:=tk2);clear tk2;have b6g:=((fa.below hA1).drew.below hb1);have o0:=b6g;have p0:=hi1;go_at_call 44;(with_reducible refine(ZB _ _ (x) (-(y)) _ o0 p0 hl hc5).mono ?_);rintro e w2 ⟨v2,rfl,hi2,hb2⟩;obtain⟨g2,p2,n2,c2,h2,o2,m2,e2,rfl⟩:=hi2.form;have lY:=((i0.drew.to hb1).to hb2);obtain⟨a0,e0,b0,f0,c0,g0,d0,h0⟩:=lY.cf4)))
 have k0:=(Below.tr (Below.tr (Below.tr cZ hA1).drew hb1) hb2)
 go_wp2_with fail
 exact jh (v:=.agg #[.bool g2,.slice p2 n2 c2,.bool h2,.slice o2 m2 e2]) (by simp[results,Tryz.results43,go_sem,a0,e0,b0,f0,c0,g0,d0,h0]) rfl ⟨_,rfl,by rw[Rat.sub_eq_add_neg];exact(hi2.bG lY rfl rfl rfl rfl (.bool g2) (.slice p2 n2 c2) (.bool h2) (.slice o2 m2 e2)),(Below.bG k0 (b:=w.heap.size+1+1) (by omega) (.bool g2) (.slice p2 n2 c2) (.bool h2) (.slice o2 m2 e2))⟩
theorem b2c (x y:Rat):sgn (x-y).num=MO x y:=by
 unfold MO
 have h1:=Rat.lt_iff (x-y) 0
 have h2:=Rat.lt_iff 0 (x-y)
 simp at h1 h2
 by_cases hx:x<y
 ·rw[ig hx,LU (h1.1 (by grind))]
 ·rw[iq hx]
  by_cases hy:y<x
  ·rw[ig hy,zU (h2.1 (by grind))]
  ·rw[iq hy]
   have:x-y=0:=by grind
   rw[this];rfl
theorem WZ (v u:Value) (x y:Rat) (w:World) (fa:RQ w v x) (fb:RQ w u y) (hl:rsz x<=190000000) (hl2:rsz y<=190000000) :
  Calls Tryz.prog 46 #[v,u] w (fun e w'=>e=.returned (.int .i64 (MO x y))/\Below w.heap.size w w'):=by
 obtain⟨b,p,n,c,d,o,m,e,rfl⟩:=fa.form
 obtain⟨f,i,j,k,g,r,t,a,rfl⟩:=fb.form
 have hb1:=fB x
 have hb2:=eF x
 have hb3:=fB y
 have hb4:=eF y
 have hc5:=b4K x y
 have cZ:Below w.heap.size w w:=dw _ _
 go_enter Tryz.func46,Tryz.ntmps46
 go_wp2_with fail
 obtain⟨hA1,e0,f0⟩:=bx2 w rfl [.bool b,.slice p n c,.bool d,.slice o m e] 64 [.bool f,.slice i j k,.bool g,.slice r t a] 64
 have b0:=(fa.below hA1)
 have c0:=(fb.below hA1)
 (with_reducible refine(ZH _ _ (x) (y) _ b0 c0 hl hl2).mono ?_)
 rintro e w1 ⟨v1,rfl,hi1,hb1⟩
 obtain⟨g1,p1,n1,c1,h1,o1,m1,e1,rfl⟩:=hi1.form
 go_wp2_with fail
 have d0:=hi1
 (with_reducible refine(VP _ ((x)-(y)) _ d0 (by omega)).mono ?_)
 rintro e w2 ⟨rfl,hb2⟩
 have a0:=(Below.tr (Below.tr (Below.tr cZ hA1) hb1) hb2)
 go_wp2_with fail
 go_ret
 exact⟨iR (b2c x y),a0⟩
theorem SG (x y:Rat):MO x y=0↔x=y:=by
 unfold MO
 by_cases h1:x<y
 ·rw[ig h1];constructor
  ·intro h;simp at h
  ·intro h;rw[h] at h1;exact absurd h1 (Rat.lt_irrefl)
 ·rw[iq h1]
  by_cases h2:y<x
  ·rw[ig h2];constructor
   ·intro h;simp at h
   ·intro h;rw[h] at h2;exact absurd h2 (Rat.lt_irrefl)
  ·rw[iq h2];exact⟨fun _=>Rat.le_antisymm (Rat.not_lt.1 h2) (Rat.not_lt.1 h1),fun _=>rfl⟩
theorem a8B (v u:Value) (x y:Rat) (w:World) (fa:RQ w v x) (fb:RQ w u y) (hl:rsz x<=190000000) (hl2:rsz y<=190000000) :
  Calls Tryz.prog 32 #[v,u] w (GB (decide (x=y)) w):=by
 have hn1:=fa.qn (k:=999999999) (by omega)
 have hn2:=fb.qn (k:=999999999) (by omega)
 obtain⟨b,p,n,c,d,o,m,e,rfl⟩:=fa.form
 obtain⟨f,i,j,k,g,r,t,a,rfl⟩:=fb.form
 have HX:Hid ((MO x y==0)=decide (x=y)):=dn (by
  have:=SG x y
  rw[Bool.eq_iff_iff]
  simp only[ji,ay]
  exact this)
 have cZ:Below w.heap.size w w:=dw _ _
 go_enter Tryz.func32,Tryz.ntmps32
 go_wp2_with fail
 obtain⟨hA1,b0,c0⟩:=bx2 w rfl [.bool b,.slice p n c,.bool d,.slice o m e] 64 [.bool f,.slice i j k,.bool g,.slice r t a] 64
 have d0:=(fa.below hA1).raw
 (with_reducible refine(sZ _ _ _ _ d0 hn1).mono ?_)
 rintro e w1 ⟨rfl,hb1⟩
 have dV:=(c0.to hb1)
 obtain⟨l0,n0,p0,r0⟩:=dV.cs4
 go_wp2_with fail
 have a2k:=((fb.below hA1).below hb1)
 have e0:=a2k.raw
 (with_reducible refine(sZ _ _ _ _ e0 hn2).mono ?_)
 rintro e w2 ⟨rfl,hb2⟩
 have dL:=((b0.to hb1).to hb2)
 obtain⟨h0,i0,j0,k0⟩:=dL.cs4
 have dM:=(dV.to hb2)
 obtain⟨m0,o0,q0,s0⟩:=dM.cs4
 go_wp2_with fail
 have c3T:=(((fa.below hA1).below hb1).below hb2)
 have f0:=c3T
 have c3V:=(a2k.below hb2)
 have g0:=c3V
 (with_reducible refine(WZ _ _ (x) (y) _ f0 g0 hl hl2).mono ?_)
 rintro e w3 ⟨rfl,hb3⟩
 have a0:=(Below.tr (Below.tr (Below.tr (Below.tr cZ hA1) hb1) hb2) hb3)
 go_wp2_with fail
 go_ret
 exact⟨iT HX.out,a0⟩
end Go.Proofs.YtgplhbhfdgempaaGreat
