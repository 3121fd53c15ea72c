/-
  Lemmas for the theorem vnulls_holds, part 8 of 36.
-/
import Derived.Deep.MidRow
import Derived.Laws.Tables
import Derived.Test.YtgplhbhfdgempaaGreatNu06
import Derived.Test.YtgplhbhfdgempaaGreatNu07
namespace Go.Proofs.YtgplhbhfdgempaaGreat
open Go Go.RowKit
set_option maxRecDepth 100000
set_option maxHeartbeats 4000000
set_option linter.unusedSimpArgs false
set_option linter.unusedVariables false
theorem lT (v:Value) (ok:Bool) (x:Int) (w:World) (h:iE w v ok x) :
  Calls Tryz.prog 142 #[v] w fun e w'=>e=.returned (.bool ok)/\Below w.heap.size w w':=by
 obtain⟨neg,s,l,rfl,k2,k3,k4,k5⟩:=h
 have:=LJ neg s l w k2
 rw[<-k5] at this
 exact this
def sgn (x:Int):Int:=x.sign
theorem qE (v:Value) (x:Int) (w:World) (hv:Raw w v x) :
 Calls Tryz.prog 118 #[v] w fun e w'=>e=.returned (.int .i64 (sgn x))/\Below w.heap.size w w':=AZ v x w hv
theorem xQ {x:Int} (h:0<x):sgn x=1:=Int.sign_eq_one_of_pos h
theorem IX {x:Int} (h:x<0):sgn x=-1:=Int.sign_eq_neg_one_of_neg h
theorem b0a {x:Int} (h:¬ 0<x):sgn x<=0:=Int.sign_nonpos_iff.2 (by omega)
theorem b0b {x:Int} (h:x≠0):sgn x≠0:=fun e=>h (Int.sign_eq_zero_iff_zero.1 e)
def Qn (v:Value) (k:Nat):Prop:=∃ b p n c b' p' n' c',v=.agg #[.bool b,.slice p n c,.bool b',.slice p' n' c']/\n<=k/\n'<=k
theorem dN.len {w:World} {b:Bool} {p:Option Addr} {n c:Nat} {x:Int} (h:dN w (.agg #[.bool b,.slice p n c]) x):n=isz x:=by
 obtain⟨s,k1,k2⟩:=h
 cases k1
 obtain⟨p',c',e,_⟩:=k2.form
 cases e
 rfl
theorem RQ.qn {w:World} {v:Value} {q:Rat} {k:Nat} (h:RQ w v q) (hk:rsz q<=k):Qn v k:=by
 obtain⟨b,s,c,t,e,h1,h2⟩:=h
 obtain⟨b1,p1,n1,c1,e1⟩:=h1.form
 obtain⟨b2,p2,n2,c2,e2⟩:=h2.form
 cases e1;cases e2
 refine⟨_,_,_,_,_,_,_,_,e,?_,?_⟩
 ·rw[h1.len];have:=eF q;omega
 ·rw[h2.len];have:=dX q;omega
theorem RQ.kF {w:World} {v:Value} {q:Rat} {k:Nat} (h:RQ w v q) (hn:Qn v k):rsz q<=k:=by
 obtain⟨b,s,c,t,e,h1,h2⟩:=h
 obtain⟨b1,p1,n1,c1,b2,p2,n2,c2,e1,l1,l2⟩:=hn
 rw[e1] at e
 cases e
 rw[h1.len] at l1
 rw[h2.len] at l2
 have:isz (q.den:Int)=nsz q.den:=by simp[isz]
 rw[this] at l2
 exact Nat.max_le.2 ⟨l1,l2⟩
theorem a9U:rsz 0=1:=by decide +kernel
theorem gQ.kF {w:World} {v:Value} {ok:Bool} {q:Rat} {k:Nat} (h:gQ w v ok q) (hn:Qn v k) (hk:1<=k):rsz q<=k:=by
 cases ok
 ·rw[h.no,a9U];exact hk
 ·exact h.rq.kF hn
theorem LW (x y:Int):(dP x y==0)=decide (x=y):=by
 unfold dP
 by_cases h1:x<y
 ·rw[if_pos h1];simp;omega
 ·rw[if_neg h1]
  by_cases h2:y<x
  ·rw[if_pos h2];simp;omega
  ·rw[if_neg h2];simp;omega
theorem a3T (x y:Int) (w:World) (b d:Bool) (p o:Option Addr) (n c m e:Nat) (k1:iE w (.agg #[.bool b,.slice p n c]) false x) (k2:iE w (.agg #[.bool d,.slice o m e]) false y) (hl:isz x<=1000000000) (hl2:isz y<=1000000000) :
  Calls Tryz.prog 98 #[.agg #[.bool b,.slice p n c,.bool d,.slice o m e]] w fun e w'=>e=.returned (.bool (false&&(false&&(decide (0<y)&&decide (Int.gcd x y=1)))))/\Below w.heap.size w w':=by
 have HX:Hid (false=(false&&(false&&(decide (0<y)&&decide (Int.gcd x y=1))))):=by unfold Hid;simp
 have bP:Below w.heap.size w w:=Below.refl _ _
 go_enter Tryz.func98,Tryz.ntmps98
 go_wp2_with fail
 obtain⟨hA1,c0⟩:=bx1 w rfl [.bool b,.slice p n c,.bool d,.slice o m e] 64
 have b0:=(k1.below hA1)
 (with_reducible refine(lT _ _ _ _ b0).mono ?_)
 rintro e w1 ⟨rfl,hb1⟩
 have a0:=(Below.tr (Below.tr bP hA1) hb1)
 go_wp2_with fail
 go_ret
 exact⟨iI HX.out,a0⟩
theorem a3U (x y:Int) (w:World) (b d:Bool) (p o:Option Addr) (n c m e:Nat) (k1:iE w (.agg #[.bool b,.slice p n c]) false x) (k2:iE w (.agg #[.bool d,.slice o m e]) true y) (hl:isz x<=1000000000) (hl2:isz y<=1000000000) :
  Calls Tryz.prog 98 #[.agg #[.bool b,.slice p n c,.bool d,.slice o m e]] w fun e w'=>e=.returned (.bool (false&&(true&&(decide (0<y)&&decide (Int.gcd x y=1)))))/\Below w.heap.size w w':=by
 have HX:Hid (false=(false&&(true&&(decide (0<y)&&decide (Int.gcd x y=1))))):=by unfold Hid;simp
 have bP:Below w.heap.size w w:=Below.refl _ _
 go_enter Tryz.func98,Tryz.ntmps98
 go_wp2_with fail
 obtain⟨hA1,c0⟩:=bx1 w rfl [.bool b,.slice p n c,.bool d,.slice o m e] 64
 have b0:=(k1.below hA1)
 (with_reducible refine(lT _ _ _ _ b0).mono ?_)
 rintro e w1 ⟨rfl,hb1⟩
 have a0:=(Below.tr (Below.tr bP hA1) hb1)
 go_wp2_with fail
 go_ret
 exact⟨iI HX.out,a0⟩
theorem a3V (x y:Int) (w:World) (b d:Bool) (p o:Option Addr) (n c m e:Nat) (k1:iE w (.agg #[.bool b,.slice p n c]) true x) (k2:iE w (.agg #[.bool d,.slice o m e]) false y) (hl:isz x<=1000000000) (hl2:isz y<=1000000000) :
  Calls Tryz.prog 98 #[.agg #[.bool b,.slice p n c,.bool d,.slice o m e]] w fun e w'=>e=.returned (.bool (true&&(false&&(decide (0<y)&&decide (Int.gcd x y=1)))))/\Below w.heap.size w w':=by
 have HX:Hid (false=(true&&(false&&(decide (0<y)&&decide (Int.gcd x y=1))))):=by unfold Hid;simp
 have bP:Below w.heap.size w w:=Below.refl _ _
 go_enter Tryz.func98,Tryz.ntmps98
 go_wp2_with fail
 obtain⟨hA1,b0⟩:=bx1 w rfl [.bool b,.slice p n c,.bool d,.slice o m e] 64
 have c0:=(k1.below hA1)
 (with_reducible refine(lT _ _ _ _ c0).mono ?_)
 rintro e w1 ⟨rfl,hb1⟩
 have dK:=(b0.to hb1)
 obtain⟨e0,f0,g0,h0⟩:=dK.cs4
 go_wp2_with fail
 have EP:=((k2.below hA1).below hb1)
 have d0:=EP
 (with_reducible refine(lT _ _ _ _ d0).mono ?_)
 rintro e w2 ⟨rfl,hb2⟩
 have a0:=(Below.tr (Below.tr (Below.tr bP hA1) hb1) hb2)
 go_wp2_with fail
 go_ret
 exact⟨iI HX.out,a0⟩
theorem a3W (x y:Int) (w:World) (b d:Bool) (p o:Option Addr) (n c m e:Nat) (k1:iE w (.agg #[.bool b,.slice p n c]) true x) (k2:iE w (.agg #[.bool d,.slice o m e]) true y) (hl:isz x<=1000000000) (hl2:isz y<=1000000000) (hd:¬ 0<y) :
  Calls Tryz.prog 98 #[.agg #[.bool b,.slice p n c,.bool d,.slice o m e]] w fun e w'=>e=.returned (.bool (true&&(true&&(decide (0<y)&&decide (Int.gcd x y=1)))))/\Below w.heap.size w w':=by
 have HX:Hid (false=(true&&(true&&(decide (0<y)&&decide (Int.gcd x y=1))))):=by unfold Hid;simp[hd]
 have hsg:decide (sgn y<=0)=true:=by have:=b0a hd;simpa using this
 clear hd
 have bP:Below w.heap.size w w:=Below.refl _ _
 go_enter Tryz.func98,Tryz.ntmps98
 go_wp2_with fail
 obtain⟨hA1,b0⟩:=bx1 w rfl [.bool b,.slice p n c,.bool d,.slice o m e] 64
 have c0:=(k1.below hA1)
 (with_reducible refine(lT _ _ _ _ c0).mono ?_)
 rintro e w1 ⟨rfl,hb1⟩
 have dK:=(b0.to hb1)
 obtain⟨f0,h0,j0,l0⟩:=dK.cs4
 go_wp2_with fail
 have EP:=((k2.below hA1).below hb1)
 have d0:=EP
 (with_reducible refine(lT _ _ _ _ d0).mono ?_)
 rintro e w2 ⟨rfl,hb2⟩
 have dG:=(dK.to hb2)
 obtain⟨g0,i0,k0,m0⟩:=dG.cs4
 go_wp2_with fail
 have YX:=(EP.below hb2)
 have e0:=YX.raw
 (with_reducible refine(qE _ (y) _ e0).mono ?_)
 rintro e w3 ⟨rfl,hb3⟩
 have a0:=(Below.tr (Below.tr (Below.tr (Below.tr bP hA1) hb1) hb2) hb3)
 go_wp2_with fail
 go_ret
 exact⟨iI HX.out,a0⟩
theorem a3X (x y:Int) (w:World) (b d:Bool) (p o:Option Addr) (n c m e:Nat) (k1:iE w (.agg #[.bool b,.slice p n c]) true x) (k2:iE w (.agg #[.bool d,.slice o m e]) true y) (hl:isz x<=1000000000) (hl2:isz y<=1000000000) (hd:0<y) :
  Calls Tryz.prog 98 #[.agg #[.bool b,.slice p n c,.bool d,.slice o m e]] w fun e w'=>e=.returned (.bool (true&&(true&&(decide (0<y)&&decide (Int.gcd x y=1)))))/\Below w.heap.size w w':=by
 have HX:Hid ((dP ((Int.gcd x y:Nat):Int) 1==0)=(true&&(true&&(decide (0<y)&&decide (Int.gcd x y=1))))):=by unfold Hid;rw[LW];simp[hd];omega
 have hsg:decide (sgn y<=0)=false:=by rw[xQ hd];rfl
 clear hd
 have bP:Below w.heap.size w w:=Below.refl _ _
 go_enter Tryz.func98,Tryz.ntmps98
 go_wp2_with fail
 obtain⟨hA1,b0⟩:=bx1 w rfl [.bool b,.slice p n c,.bool d,.slice o m e] 64
 have c0:=(k1.below hA1)
 (with_reducible refine(lT _ _ _ _ c0).mono ?_)
 rintro e w1 ⟨rfl,hb1⟩
 have dK:=(b0.to hb1)
 obtain⟨k0,n0,q0,t0⟩:=dK.cs4
 go_wp2_with fail
 have EP:=((k2.below hA1).below hb1)
 have d0:=EP
 (with_reducible refine(lT _ _ _ _ d0).mono ?_)
 rintro e w2 ⟨rfl,hb2⟩
 have dG:=(dK.to hb2)
 obtain⟨l0,o0,r0,u0⟩:=dG.cs4
 go_wp2_with fail
 have YX:=(EP.below hb2)
 have e0:=YX.raw
 (with_reducible refine(qE _ (y) _ e0).mono ?_)
 rintro e w3 ⟨rfl,hb3⟩
 have kN:=(dG.to hb3)
 obtain⟨m0,p0,s0,v0⟩:=kN.cs4
 go_wp2_with fail
 have b4o:=((((k1.below hA1).below hb1).below hb2).below hb3)
 have f0:=b4o.raw
 have b4p:=(YX.below hb3)
 have g0:=b4p.raw
 (with_reducible refine(YL _ _ (x) (y) _ f0 g0 (by omega) (by omega)).mono ?_)
 rintro e w4 ⟨v4,rfl,hi4,hb4⟩
 obtain⟨g4,p4,n4,c4,rfl⟩:=hi4.form
 go_wp2_with fail
 (with_reducible refine(a3j _ _ (by omega) (by omega)).mono ?_)
 rintro e w5 ⟨v5,rfl,hi5,hb5⟩
 obtain⟨g5,p5,n5,c5,rfl⟩:=hi5.form
 go_wp2_with fail
 have j0:=(hi4.below hb5)
 have h0:=j0.raw
 have i0:=hi5.raw
 (with_reducible refine(FN _ _ ((Int.gcd (x) (y):Int)) (1) _ h0 i0).mono ?_)
 rintro e w6 ⟨rfl,hb6⟩
 have a0:=(Below.tr (Below.tr (Below.tr (Below.tr (Below.tr (Below.tr (Below.tr bP hA1) hb1) hb2) hb3) hb4) hb5) hb6)
 go_wp2_with fail
 go_ret
 exact⟨iI HX.out,a0⟩
theorem EY (v:Value) (ok:Bool) (q:Rat) (w:World) (h:gQ w v ok q) (hn:Qn v 1000000000) :
  Calls Tryz.prog 98 #[v] w fun e w'=>e=.returned (.bool ok)/\Below w.heap.size w w':=by
 obtain⟨b,s,c,t,o1,o2,x,y,e,h1,h2,rfl,_⟩:=h
 obtain⟨b1,p1,n1,c1,b2,p2,n2,c2,e1,l1,l2⟩:=hn
 rw[e1] at e
 cases e
 subst e1
 have l3:=h1.raw.len
 have l4:=h2.raw.len
 cases o1
 ·cases o2
  ·exact a3T x y w _ _ _ _ _ _ _ _ h1 h2 (by omega) (by omega)
  ·exact a3U x y w _ _ _ _ _ _ _ _ h1 h2 (by omega) (by omega)
 ·cases o2
  ·exact a3V x y w _ _ _ _ _ _ _ _ h1 h2 (by omega) (by omega)
  ·by_cases hd:0<y
   ·exact a3X x y w _ _ _ _ _ _ _ _ h1 h2 (by omega) (by omega) hd
   ·exact a3W x y w _ _ _ _ _ _ _ _ h1 h2 (by omega) (by omega) hd
theorem a0z (v:Value) (q:Rat) (w:World) (h:RQ w v q) (hl:rsz q<=1000000000) :
  Calls Tryz.prog 154 #[v] w (GQ q w):=by
 obtain⟨b,p,n,c,d,o,m,e,rfl⟩:=h.form
 have b1:=eF q
 have b2:=dX q
 have b3:isz (-q.num)<=1000000000:=by rw[lX];omega
 have b4:isz (-(q.den:Int))<=1000000000:=by rw[lX];omega
 have bP:Below w.heap.size w w:=Below.refl _ _
 go_enter Tryz.func154,Tryz.ntmps154
 go_wp2_with fail
 obtain⟨hA1,l0,i0⟩:=bx2 w rfl [.bool b,.slice p n c,.bool d,.slice o m e] 64 [.bool false,.slice none 0 0,.bool false,.slice none 0 0] 64
 have wM:=(aK.mk (l0.drew).bs4 (BN.of (i0.drew)))
 have j0:dM (w.heap.size+1) (aK (BS4 w.heap.size (.bool b) (.slice p n c) (.bool d) (.slice o m e)) (BN (w.heap.size+1))):=(aK.hc (BS4.hc (by omega)) BN.hc)
 have tk1:True:=trivial
 have tk2:True:=trivial
 have tk3:True:=trivial
 have tk4:True:=trivial
 go_region_held3 (aK (BS4 w.heap.size (.bool b) (.slice p n c) (.bool d) (.slice o m e)) (BN (w.heap.size+1))) (first|with_reducible exact wM|with_reducible exact gK.go (aK.hk BS4.hk BN.hk) (by assumption) (by assumption)|with_reducible exact dM.go4 j0 (by assumption)|(simp;done))
  (first
   | (((have:=tk1);clear tk1;have m0:=(h.below hA1).drew.num.raw;go_at_call 139;(with_reducible refine(xG _ ((q).num) _ m0 (by omega)).mono ?_);rintro e w1 ⟨v1,rfl,hi1,hb1⟩;obtain⟨g1,p1,n1,c1,rfl⟩:=hi1.form))
   | (((have:=tk2);clear tk2;have n0:=hi1.raw;go_at_call 139;(with_reducible refine(xG _ (-(((q).num))) _ n0 (by omega)).mono ?_);rintro e w2 ⟨v2,rfl,hi2,hb2⟩;obtain⟨g2,p2,n2,c2,rfl⟩:=hi2.form))
   | (((have:=tk3);clear tk3;have h_2:=(((h.below hA1).drew.below hb1).below hb2);have o0:=h_2.den.raw;go_at_call 139;(with_reducible refine(xG _ (((q).den:Int)) _ o0 (by omega)).mono ?_);rintro e w3 ⟨v3,rfl,hi3,hb3⟩;obtain⟨g3,p3,n3,c3,rfl⟩:=hi3.form))
   | (((have:=tk4);clear tk4;have p0:=hi3.raw;go_at_call 139;(with_reducible refine(xG _ (-((((q).den:Int)))) _ p0 (by omega)).mono ?_);rintro e w4 ⟨v4,rfl,hi4,hb4⟩;obtain⟨g4,p4,n4,c4,rfl⟩:=hi4.form;have kE:=((((i0.drew.to hb1).to hb2).to hb3).to hb4);obtain⟨a0,e0,b0,f0,c0,g0,d0,h0⟩:=kE.cf4)))
 have q0:=((hi2.below hb3).below hb4)
 have k0:=(Below.tr (Below.tr (Below.tr (Below.tr (Below.tr bP hA1).drew hb1) hb2) hb3) hb4)
 go_wp2_with fail
 exact bodyPost_ret (v:=.agg #[.bool g2,.slice p2 n2 c2,.bool g4,.slice p4 n4 c4]) (by simp[results,Tryz.results154,go_sem,a0,e0,b0,f0,c0,g0,d0,h0]) rfl ⟨_,rfl,RQ.mk' (q0.aX kE rfl rfl rfl rfl (.bool g2) (.slice p2 n2 c2) (.bool g4) (.slice p4 n4 c4)) (hi4.aX kE rfl rfl rfl rfl (.bool g2) (.slice p2 n2 c2) (.bool g4) (.slice p4 n4 c4)) (Int.neg_neg _) (Int.neg_neg _),(Below.aX k0 (b:=w.heap.size+1) (by omega) (.bool g2) (.slice p2 n2 c2) (.bool g4) (.slice p4 n4 c4))⟩
theorem TY (k:Int) (w:World) (h0:-9223372036854775808<=k) (h1:k<=9223372036854775807) :
  Calls Tryz.prog 80 #[.int .i64 k] w (GQ (k:Rat) w):=by
 have bP:Below w.heap.size w w:=Below.refl _ _
 go_enter Tryz.func80,Tryz.ntmps80
 go_wp2_with fail
 (with_reducible refine(a3j _ _ (by omega) (by omega)).mono ?_)
 rintro e w1 ⟨v1,rfl,hi1,hb1⟩
 obtain⟨g1,p1,n1,c1,rfl⟩:=hi1.form
 go_wp2_with fail
 (with_reducible refine(a3j _ _ (by omega) (by omega)).mono ?_)
 rintro e w2 ⟨v2,rfl,hi2,hb2⟩
 obtain⟨g2,p2,n2,c2,rfl⟩:=hi2.form
 obtain⟨hA1,k0⟩:=bx1 w rfl [.bool false,.slice none 0 0,.bool false,.slice none 0 0] 64
 have dG:=((k0.to hb1).to hb2)
 obtain⟨a0,e0,b0,f0,c0,g0,d0,i0⟩:=dG.cf4
 have l0:=(hi1.below hb2)
 have j0:=(Below.tr (Below.tr (Below.tr bP hA1) hb1) hb2)
 go_wp2_with fail
 exact bodyPost_ret (v:=.agg #[.bool g1,.slice p1 n1 c1,.bool g2,.slice p2 n2 c2]) (by simp[results,Tryz.results80,go_sem,a0,e0,b0,f0,c0,g0,d0,i0]) rfl ⟨_,rfl,RQ.mk' (l0.aX dG rfl rfl rfl rfl (.bool g1) (.slice p1 n1 c1) (.bool g2) (.slice p2 n2 c2)) (hi2.aX dG rfl rfl rfl rfl (.bool g1) (.slice p1 n1 c1) (.bool g2) (.slice p2 n2 c2)) (a4D k).symm (by rw[a4C];rfl),(Below.aX j0 (b:=w.heap.size) (by omega) (.bool g1) (.slice p1 n1 c1) (.bool g2) (.slice p2 n2 c2))⟩
theorem a2o (v:Value) (q:Rat) (w:World) (h:gQ w v true q) (hn:Qn v 1000000000) :
  Calls Tryz.prog 119 #[v] w (GQ q w):=by
 obtain⟨b,p,n,c,d,o,m,e,rfl⟩:=h.form
 have hl:=h.kF hn (by omega)
 have bP:Below w.heap.size w w:=Below.refl _ _
 go_enter Tryz.func119,Tryz.ntmps119
 go_wp2_with fail
 obtain⟨hA1,j0,k0⟩:=bx2 w rfl [.bool b,.slice p n c,.bool d,.slice o m e] 64 [.bool false,.slice none 0 0,.bool false,.slice none 0 0] 64
 have l0:=(h.below hA1)
 (with_reducible refine(EY _ _ _ _ l0 hn).mono ?_)
 rintro e w1 ⟨rfl,hb1⟩
 have dK:=(j0.to hb1)
 obtain⟨n0,o0,p0,q0⟩:=dK.cs4
 go_wp2_with fail
 have h_1:=((h.below hA1).below hb1)
 have m0:=h_1.rq
 (with_reducible refine(a0z _ (q) _ m0 (by omega)).mono ?_)
 rintro e w2 ⟨v2,rfl,hi2,hb2⟩
 obtain⟨g2,p2,n2,c2,h2,o2,m2,e2,rfl⟩:=hi2.form
 have dH:=((k0.to hb1).to hb2)
 obtain⟨a0,e0,b0,f0,c0,g0,d0,h0⟩:=dH.cf4
 have i0:=(Below.tr (Below.tr (Below.tr bP hA1) hb1) hb2)
 go_wp2_with fail
 exact bodyPost_ret (v:=.agg #[.bool g2,.slice p2 n2 c2,.bool h2,.slice o2 m2 e2]) (by simp[results,Tryz.results119,go_sem,a0,e0,b0,f0,c0,g0,d0,h0]) rfl ⟨_,rfl,(hi2.aX dH rfl rfl rfl rfl (.bool g2) (.slice p2 n2 c2) (.bool h2) (.slice o2 m2 e2)),(Below.aX i0 (b:=w.heap.size+1) (by omega) (.bool g2) (.slice p2 n2 c2) (.bool h2) (.slice o2 m2 e2))⟩
theorem a0j (v:Value) (q:Rat) (w:World) (h:gQ w v false q) (hn:Qn v 1000000000) :
  Calls Tryz.prog 119 #[v] w (GQ q w):=by
 obtain⟨b,p,n,c,d,o,m,e,rfl⟩:=h.form
 have hl:=h.kF hn (by omega)
 have HX:Hid (q=((0:Int):Rat)):=by unfold Hid;rw[h.no];rfl
 have bP:Below w.heap.size w w:=Below.refl _ _
 go_enter Tryz.func119,Tryz.ntmps119
 go_wp2_with fail
 obtain⟨hA1,l0,j0⟩:=bx2 w rfl [.bool b,.slice p n c,.bool d,.slice o m e] 64 [.bool false,.slice none 0 0,.bool false,.slice none 0 0] 64
 have k0:=(h.below hA1)
 (with_reducible refine(EY _ _ _ _ k0 hn).mono ?_)
 rintro e w1 ⟨rfl,hb1⟩
 go_wp2_with fail
 (with_reducible refine(TY _ _ (by omega) (by omega)).mono ?_)
 rintro e w2 ⟨v2,rfl,hi2,hb2⟩
 obtain⟨g2,p2,n2,c2,h2,o2,m2,e2,rfl⟩:=hi2.form
 have dH:=((j0.to hb1).to hb2)
 obtain⟨a0,e0,b0,f0,c0,g0,d0,h0⟩:=dH.cf4
 have i0:=(Below.tr (Below.tr (Below.tr bP hA1) hb1) hb2)
 go_wp2_with fail
 exact bodyPost_ret (v:=.agg #[.bool g2,.slice p2 n2 c2,.bool h2,.slice o2 m2 e2]) (by simp[results,Tryz.results119,go_sem,a0,e0,b0,f0,c0,g0,d0,h0]) rfl ⟨_,rfl,by rw[HX.out];exact(hi2.aX dH rfl rfl rfl rfl (.bool g2) (.slice p2 n2 c2) (.bool h2) (.slice o2 m2 e2)),(Below.aX i0 (b:=w.heap.size+1) (by omega) (.bool g2) (.slice p2 n2 c2) (.bool h2) (.slice o2 m2 e2))⟩
theorem iZ (v:Value) (ok:Bool) (q:Rat) (w:World) (h:gQ w v ok q) (hn:Qn v 1000000000) :
  Calls Tryz.prog 119 #[v] w (GQ q w):=by
 cases ok
 ·exact a0j v q w h hn
 ·exact a2o v q w h hn
structure jQ (F:Nat->Prop) (w w':World):Prop where
 blk:∀ b,F b->w'.heap[b]?=w.heap[b]?
 dig:∀ b o n,w.cell? ⟨b,o,none⟩=some (.int .u32 n)->w'.cell? ⟨b,o,none⟩=some (.int .u32 n)
 size:w.heap.size<=w'.heap.size
theorem jQ.refl (F:Nat->Prop) (w:World):jQ F w w:=⟨fun _ _=>rfl,fun _ _ _ h=>h,Nat.le_refl _⟩
theorem jQ.trans {F:Nat->Prop} {a b c:World} (h:jQ F a b) (k:jQ F b c):jQ F a c :=
 ⟨fun q hq=>(k.blk q hq).trans (h.blk q hq),fun q o n hc=>k.dig q o n (h.dig q o n hc),Nat.le_trans h.size k.size⟩
theorem jQ.less {F F':Nat->Prop} {a b:World} (h:jQ F' a b) (hF:∀ q,F q->F' q):jQ F a b:=⟨fun q hq=>h.blk q (hF q hq),h.dig,h.size⟩
theorem cell_lt {w:World} {b o:Nat} {v:Value} (h:w.cell? ⟨b,o,none⟩=some v):b<w.heap.size:=by
 simp only[World.cell?] at h
 by_cases hb:b<w.heap.size
 ·exact hb
 ·rw[Array.getElem?_eq_none (by omega)] at h;cases h
theorem jQ.below {F:Nat->Prop} {w w':World} (h:Below w.heap.size w w') (hF:∀ q,F q->q<w.heap.size):jQ F w w' :=
 ⟨fun q hq=>h.block q (hF q hq),fun b o n hc=>(h.cell (p:=⟨b,o,none⟩) (cell_lt hc)).trans hc,h.size⟩
theorem Rd.stay {F:Nat->Prop} {w w':World} {s:Value} {l:List Nat} (h:Rd w s l) (hs:jQ F w w'):Rd w' s l:=by
 rcases h with h|⟨b,o,c,h1,h2,h3,h4,h5⟩
 ·exact .inl h
 ·exact .inr ⟨b,o,c,h1,h2,h3,Nat.lt_of_lt_of_le h4 hs.size,fun i hi=>hs.dig _ _ _ (h5 i hi)⟩
theorem dN.stay {F:Nat->Prop} {w w':World} {v:Value} {x:Int} (h:dN w v x) (hs:jQ F w w'):dN w' v x:=by
 obtain⟨s,h1,h2⟩:=h
 exact⟨s,h1,h2.stay hs⟩
theorem RQ.stay {F:Nat->Prop} {w w':World} {v:Value} {x:Rat} (h:RQ w v x) (hs:jQ F w w'):RQ w' v x:=by
 obtain⟨b,s,c,t,h1,h2,h3⟩:=h
 exact⟨b,s,c,t,h1,h2.stay hs,h3.stay hs⟩
theorem iE.stay {F:Nat->Prop} {w w':World} {v:Value} {ok:Bool} {x:Int} (h:iE w v ok x) (hs:jQ F w w'):iE w' v ok x:=by
 obtain⟨neg,s,l,h1,h2,h3⟩:=h
 exact⟨neg,s,l,h1,h2.stay hs,h3⟩
theorem gQ.stay {F:Nat->Prop} {w w':World} {v:Value} {ok:Bool} {x:Rat} (h:gQ w v ok x) (hs:jQ F w w'):gQ w' v ok x:=by
 obtain⟨b,s,c,t,o1,x1,o2,x2,h1,h2,h3,h4⟩:=h
 exact⟨b,s,c,t,o1,x1,o2,x2,h1,h2.stay hs,h3.stay hs,h4⟩
structure a2F where
 ok:Bool
 x:Int
 g:List Nat
structure aF where
 ok:Bool
 x:Rat
 g:List Nat
 h:List Nat
abbrev a2F.n (x:a2F):Nat:=x.g.length
abbrev aF.n (x:aF):Nat:=x.g.length
abbrev aF.m (x:aF):Nat:=x.h.length
inductive Lf where
 | rat
 | big
 | dD
 | KY
 | str
 | grp
 | gsl
 | QF
 deriving DecidableEq
def Lf.den:Lf->Type
 | .rat=>Rat
 | .big=>Int
 | .dD=>aF
 | .KY=>a2F
 | .str=>ByteArray
 | .grp=>List Nat
 | .gsl=>List Nat
 | .QF=>Nat
def Lf.n:Lf->Nat
 | .rat=>4
 | .big=>2
 | .dD=>4
 | .KY=>2
 | .str=>1
 | .grp=>2
 | .gsl=>1
 | .QF=>1
def Lf.agg:Lf->Bool
 | .str=>false
 | .gsl=>false
 | .QF=>false
 | _=>true
def Lf.zero:(l:Lf)->l.den
 | .rat=>(0:Rat)
 | .big=>(0:Int)
 | .dD=>⟨false,0,[],[]⟩
 | .KY=>⟨true,0,[]⟩
 | .str=>ByteArray.empty
 | .grp=>[]
 | .gsl=>[]
 | .QF=>(0:Nat)
def Lf.rep (w:World) (cs:List Value):(l:Lf)->l.den->Prop
 | .rat,x=>RQ w (.agg cs.toArray) x
 | .big,x=>dN w (.agg cs.toArray) x
 | .dD,x=>∃ b p c b' p' c',cs=[.bool b,.slice p x.n c,.bool b',.slice p' x.m c']/\gQ w (.agg cs.toArray) x.ok x.x/\Rd w (.slice p x.n c) x.g/\Rd w (.slice p' x.m c') x.h
 | .KY,x=>∃ b p c,cs=[.bool b,.slice p x.n c]/\iE w (.agg cs.toArray) x.ok x.x/\Rd w (.slice p x.n c) x.g
 | .str,x=>cs=[.string x]
 | .grp,x=>∃ b s,cs=[.bool b,s]/\Rd w s x
 | .gsl,x=>∃ s,cs=[s]/\Rd w s x
 | .QF,x=>∃ b o,cs=[.pointer (some ⟨b,o,none⟩)]/\w.cell? ⟨b,o,none⟩=some (.int .u32 (Nat.cast (R:=Int) x))
inductive Ty where
 | bool
 | int (k:IntKind)
 | lf (l:Lf)
 | list (t:Ty)
 | arr (n:Nat) (t:Ty)
 | pair (a b:Ty)
 | unit
 | ref (t:Ty)
 | clo (f:Nat) (t:Ty)
 deriving DecidableEq
def Ty.den:Ty->Type
 | .bool=>Bool
 | .int _=>Int
 | .lf l=>l.den
 | .list t=>List t.den
 | .arr _ t=>List t.den
 | .pair a b=>a.den × b.den
 | .unit=>Unit
 | .ref t=>t.den
 | .clo _ t=>t.den
def Ty.n:Ty->Nat
 | .lf l=>l.n
 | .arr n t=>n*t.n
 | .pair a b=>a.n+b.n
 | .unit=>0
 | _=>1
def Ty.agg:Ty->Bool
 | .lf l=>l.agg
 | .arr _ _=>true
 | .pair _ _=>true
 | .unit=>true
 | _=>false
def chunks {α:Type} (R:List Value->α->Prop):List Value->List α->Prop
 | cs,[]=>cs=[]
 | cs,y::ys=>∃ c1 c2,cs=c1++c2/\R c1 y/\chunks R c2 ys
def rep (F:Nat->Prop) (w:World):(t:Ty)->List Value->t.den->Prop
 | .bool,cs,x=>cs=[.bool x]
 | .int k,cs,x=>cs=[.int k x]
 | .lf l,cs,x=>Lf.rep w cs l x
 | .list t,cs,x=>∃ p c,cs=[.slice p (List.length (α:=t.den) x) c]/\List.length (α:=t.den) x<=c/\c<=9223372036854775807/\((x:List t.den)=[]\/∃ b o ds,p=some ⟨b,o,none⟩/\F b/\w.rangeAt b o ds/\chunks (rep F w t) ds x)
 | .arr n t,cs,x=>List.length (α:=t.den) x=n/\chunks (rep F w t) cs x
 | .pair a b,cs,x=>∃ c1 c2,cs=c1++c2/\rep F w a c1 x.1/\rep F w b c2 x.2
 | .unit,cs,_=>cs=[]
 | .ref t,cs,x=>∃ b o ds,cs=[.pointer (some ⟨b,o,none⟩)]/\F b/\w.rangeAt b o ds/\rep F w t ds x
 | .clo f t,cs,x=>∃ ds,cs=[.func (.func f) #[] ds.toArray]/\rep F w t ds x
theorem aZ {α:Type} {R R':List Value->α->Prop} (h:∀ c y,R c y->R' c y):∀ (xs:List α) (cs:List Value),chunks R cs xs->chunks R' cs xs
 | [],_,hc=>hc
 | _::xs,_,⟨c1,c2,h1,h2,h3⟩=>⟨c1,c2,h1,h _ _ h2,aZ h xs c2 h3⟩
theorem ET {F:Nat->Prop} {w w':World} (hs:jQ F w w') {b o:Nat} {ds:List Value} (hF:F b) (h:w.rangeAt b o ds):w'.rangeAt b o ds:=fun j v hv=>(World.cell?_of_block (w:=w) (hs.blk b hF)).trans (h j v hv)
theorem Lf.stay {F:Nat->Prop} {w w':World} (hs:jQ F w w') {cs:List Value}:{l:Lf}->{x:l.den}->Lf.rep w cs l x->Lf.rep w' cs l x
 | .rat,_,h=>RQ.stay h hs
 | .big,_,h=>dN.stay h hs
 | .dD,_,⟨b,p,c,b',p',c',h1,h2,h3,h4⟩=>⟨b,p,c,b',p',c',h1,h2.stay hs,h3.stay hs,h4.stay hs⟩
 | .KY,_,⟨b,p,c,h1,h2,h3⟩=>⟨b,p,c,h1,h2.stay hs,h3.stay hs⟩
 | .str,_,h=>h
 | .grp,_,⟨b,s,h1,h2⟩=>⟨b,s,h1,h2.stay hs⟩
 | .gsl,_,⟨s,h1,h2⟩=>⟨s,h1,h2.stay hs⟩
 | .QF,_,⟨b,o,h1,h2⟩=>⟨b,o,h1,hs.dig _ _ _ h2⟩
theorem dL {F F':Nat->Prop} {w w':World} (hF:∀ b,F b->F' b) (hs:jQ F w w'):(t:Ty)->(cs:List Value)->(x:t.den)->rep F w t cs x->rep F' w' t cs x
 | .bool,_,_,h=>h
 | .int _,_,_,h=>h
 | .lf _,_,_,h=>Lf.stay hs h
 | .list t,_,x,⟨p,c,h1,h2,h3,h4⟩=>⟨p,c,h1,h2,h3,h4.imp id fun⟨b,o,ds,k1,k2,k3,k4⟩=>⟨b,o,ds,k1,hF b k2,ET hs k2 k3,aZ (fun c y=>dL hF hs t c y) _ _ k4⟩⟩
 | .arr n t,_,_,⟨h1,h2⟩=>⟨h1,aZ (fun c y=>dL hF hs t c y) _ _ h2⟩
 | .pair a b,_,_,⟨c1,c2,h1,h2,h3⟩=>⟨c1,c2,h1,dL hF hs a _ _ h2,dL hF hs b _ _ h3⟩
 | .unit,_,_,h=>h
 | .ref t,_,_,⟨b,o,ds,h1,h2,h3,h4⟩=>⟨b,o,ds,h1,hF b h2,ET hs h2 h3,dL hF hs t _ _ h4⟩
 | .clo _ t,_,_,⟨ds,h1,h2⟩=>⟨ds,h1,dL hF hs t _ _ h2⟩
theorem Lf.len {w:World} {cs:List Value}:{l:Lf}->{x:l.den}->Lf.rep w cs l x->cs.length=l.n
 | .rat,_,h=>by
  obtain⟨_,_,_,_,h1,_⟩:=h
  rw[Value.agg.injEq] at h1
  have:=congrArg Array.size h1
  simpa [Lf.n] using this
 | .big,_,h=>by
  obtain⟨_,h1,_⟩:=h
  rw[Value.agg.injEq] at h1
  have:=congrArg Array.size h1
  simpa [Lf.n] using this
 | .dD,_,⟨_,_,_,_,_,_,h1,_⟩=>by rw[h1];rfl
 | .KY,_,⟨_,_,_,h1,_⟩=>by rw[h1];rfl
 | .str,_,h=>by rw[show cs=_ from h];rfl
 | .grp,_,⟨_,_,h1,_⟩=>by rw[h1];rfl
 | .gsl,_,⟨_,h1,_⟩=>by rw[h1];rfl
 | .QF,_,⟨_,_,h1,_⟩=>by rw[h1];rfl
theorem wR {α:Type} {R:List Value->α->Prop} {n:Nat} (h:∀ c y,R c y->c.length=n):∀ (xs:List α) (cs:List Value),chunks R cs xs->cs.length=xs.length*n
 | [],cs,hc=>by rw[show cs=[] from hc];simp
 | _::xs,_,⟨c1,c2,h1,h2,h3⟩=>by rw[h1,List.length_append,h _ _ h2,wR h xs c2 h3,List.length_cons,Nat.succ_mul,Nat.add_comm]
theorem dZ {F:Nat->Prop} {w:World}:(t:Ty)->(cs:List Value)->(x:t.den)->rep F w t cs x->cs.length=t.n
 | .bool,_,_,h=>by rw[show _=_ from h];rfl
 | .int _,_,_,h=>by rw[show _=_ from h];rfl
 | .lf _,_,_,h=>Lf.len h
 | .list t,_,x,⟨p,c,h1,_⟩=>by rw[h1];rfl
 | .arr n t,_,_,⟨h1,h2⟩=>by rw[wR (fun c y=>dZ t c y) _ _ h2,h1];rfl
 | .pair a b,_,_,⟨c1,c2,h1,h2,h3⟩=>by rw[h1,List.length_append,dZ a _ _ h2,dZ b _ _ h3];rfl
 | .unit,_,_,h=>by rw[show _=_ from h];rfl
 | .ref t,_,_,⟨b,o,ds,h1,_⟩=>by rw[h1];rfl
 | .clo _ t,_,_,⟨ds,h1,_⟩=>by rw[h1];rfl
def dJ (v:Value):Bool:=v.oneCell'&&bF v
def Ty.still:Ty->Bool
 | .int .u32=>false
 | .arr _ t=>t.still
 | .pair a b=>a.still&&b.still
 | _=>true
theorem Lf.ok {w:World} {cs:List Value}:{l:Lf}->{x:l.den}->Lf.rep w cs l x->∀ v ∈ cs,dJ v=true
 | .rat,_,h=>by
  obtain⟨b,p,n,c,b',p',n',c',h1⟩:=RQ.form h
  rw[Value.agg.injEq] at h1
  rw[show cs=[.bool b,.slice p n c,.bool b',.slice p' n' c'] by simpa using congrArg Array.toList h1]
  simp[dJ,bF,Value.oneCell']
 | .big,_,h=>by
  obtain⟨b,p,n,c,h1⟩:=dN.form h
  rw[Value.agg.injEq] at h1
  rw[show cs=[.bool b,.slice p n c] by simpa using congrArg Array.toList h1]
  simp[dJ,bF,Value.oneCell']
 | .dD,_,⟨_,_,_,_,_,_,h1,_⟩=>by rw[h1];simp[dJ,bF,Value.oneCell']
 | .KY,_,⟨_,_,_,h1,_⟩=>by rw[h1];simp[dJ,bF,Value.oneCell']
 | .str,_,h=>by rw[show cs=_ from h];simp[dJ,bF,Value.oneCell']
 | .grp,_,⟨_,s,h1,h2⟩=>by
  obtain⟨p,c,rfl,_⟩:=h2.form
  rw[h1];simp[dJ,bF,Value.oneCell']
 | .gsl,_,⟨s,h1,h2⟩=>by
  obtain⟨p,c,rfl,_⟩:=h2.form
  rw[h1];simp[dJ,bF,Value.oneCell']
 | .QF,_,⟨_,_,h1,_⟩=>by rw[h1];simp[dJ,bF,Value.oneCell']
theorem BL {α:Type} {R:List Value->α->Prop} {p:Value->Bool} (h:∀ c y,R c y->∀ v ∈ c,p v=true):∀ (xs:List α) (cs:List Value),chunks R cs xs->∀ v ∈ cs,p v=true
 | [],cs,hc=>by rw[show cs=[] from hc];simp
 | _::xs,_,⟨c1,c2,h1,h2,h3⟩=>by
  rw[h1]
  intro v hv
  rcases List.mem_append.1 hv with hv|hv
  ·exact h _ _ h2 v hv
  ·exact BL h xs c2 h3 v hv
theorem xM {F:Nat->Prop} {w:World}:(t:Ty)->t.still=true->(cs:List Value)->(x:t.den)->rep F w t cs x->∀ v ∈ cs,dJ v=true
 | .bool,_,_,_,h=>by rw[show _=_ from h];simp[dJ,bF,Value.oneCell']
 | .int k,hk,_,_,h=>by
  rw[show _=_ from h]
  cases k<;>simp_all [dJ,bF,Value.oneCell',Ty.still]
 | .lf _,_,_,_,h=>Lf.ok h
 | .list t,_,_,x,⟨p,c,h1,_⟩=>by rw[h1];simp[dJ,bF,Value.oneCell']
 | .arr n t,hk,_,_,⟨h1,h2⟩=>BL (fun c y=>xM t hk c y) _ _ h2
 | .pair a b,hk,_,_,⟨c1,c2,h1,h2,h3⟩=>by
  simp only[Ty.still,Bool.and_eq_true] at hk
  rw[h1]
  intro v hv
  rcases List.mem_append.1 hv with hv|hv
  ·exact xM a hk.1 _ _ h2 v hv
  ·exact xM b hk.2 _ _ h3 v hv
 | .unit,_,_,_,h=>by rw[show _=_ from h];simp
 | .ref t,_,_,_,⟨b,o,ds,h1,_⟩=>by rw[h1];simp[dJ,bF,Value.oneCell']
 | .clo _ t,_,_,_,⟨ds,h1,_⟩=>by rw[h1];simp[dJ,bF,Value.oneCell']
def Ty.zero:(t:Ty)->t.den
 | .bool=>false
 | .int _=>(0:Int)
 | .lf l=>l.zero
 | .list _=>[]
 | .arr n t=>List.replicate n t.zero
 | .pair a b=>(a.zero,b.zero)
 | .unit=>()
 | .ref t=>t.zero
 | .clo _ t=>t.zero
theorem UZ {α:Type} {R:List Value->α->Prop} {n:Nat} (h:∀ c y,R c y->c.length=n):∀ (xs:List α) (cs:List Value),chunks R cs xs->∀ (i:Nat) (d:α),i<xs.length->∃ c,(cs.drop (i*n)).take n=c/\R c (xs.getD i d)
 | [],cs,hc,i,d,hi=>by simp at hi
 | x::xs,_,⟨c1,c2,h1,h2,h3⟩,0,d,_=>⟨c1,by rw[h1,Nat.zero_mul,List.drop_zero,<-h _ _ h2,List.take_left],h2⟩
 | x::xs,_,⟨c1,c2,h1,h2,h3⟩,i+1,d,hi=>by
  obtain⟨c,k1,k2⟩:=UZ h xs c2 h3 i d (by simpa using hi)
  refine⟨c,?_,k2⟩
  rw[h1,Nat.succ_mul,Nat.add_comm,<-List.drop_drop,<-h _ _ h2,List.drop_left,h _ _ h2]
  exact k1
theorem xI {w:World} {b o:Nat} {ds:List Value} (h:w.rangeAt b o ds) (k n:Nat):w.rangeAt b (o+k) ((ds.drop k).take n):=fun j v hv=>by
 have h1:ds[k+j]?=some v:=by
  rw[List.getElem?_take] at hv
  split at hv
  ·rwa [List.getElem?_drop] at hv
  ·cases hv
 have:=h (k+j) v h1
 rwa [Nat.add_assoc]
section
structure Part where
 t:Ty
 x:t.den
def nest:List Ty->Ty
 | []=>.unit
 | t::ts=>.pair t (nest ts)
def Ty.toV (t:Ty) (cs:List Value):Value:=if t.agg then .agg cs.toArray else cs.headD undef
def jY (F:Nat->Prop) (w:World) (t:Ty) (v:Value) (x:t.den):Prop:=∃ cs,v=t.toV cs/\rep F w t cs x
def jO (F:Nat->Prop) (w:World):(ts:List Ty)->List Value->(nest ts).den->Prop
 | [],vs,_=>vs=[]
 | t::ts,vs,x=>∃ v vs',vs=v::vs'/\jY F w t v x.1/\jO F w ts vs' x.2
theorem gB {F F':Nat->Prop} {w w':World} (hF:∀ b,F b->F' b) (hs:jQ F w w') {t:Ty} {v:Value} {x:t.den} (h:jY F w t v x):jY F' w' t v x:=by
 obtain⟨cs,h1,h2⟩:=h
 exact⟨cs,h1,dL hF hs t _ _ h2⟩
theorem kJ {F F':Nat->Prop} {w w':World} (hF:∀ b,F b->F' b) (hs:jQ F w w'):(ts:List Ty)->(vs:List Value)->(x:(nest ts).den)->jO F w ts vs x->jO F' w' ts vs x
 | [],_,_,h=>h
 | t::ts,_,x,⟨v,vs',h1,h2,h3⟩=>⟨v,vs',h1,gB hF hs h2,kJ hF hs ts vs' x.2 h3⟩
inductive K0 where
 | val (t:Ty) (x:t.den)
 | own (r ver:Nat)
 | ptr (r off:Nat)
 | lY (r:Nat)
inductive K where
 | any
 | val (t:Ty) (x:t.den)
 | nil
 | ptr (r off:Nat)
 | own (r ver:Nat)
 | when (b:Bool) (k:K)
 | tup (ts:List Ty) (x:(nest ts).den)
 | cell (r ver i:Nat)
 | mrow (r ver id:Nat)
 | mpos (r ver id j:Nat)
 | lY (r:Nat)
 | mix (l:List K0)
 | fn (g:FuncId) (l:List K0)
 | sng (r ver:Nat)
def k0K:K0->K
 | .val t x=>.val t x
 | .own r v=>.own r v
 | .ptr r o=>.ptr r o
 | .lY r=>.lY r
inductive Res where
 | none
 | box (ps:List Part)
 | row (e:TypeId) (t:Ty) (xs:List t.den) (ver:Nat)
 | fro (t:Ty) (xs:List t.den) (ver:Nat)
 | mat (e e2:TypeId) (t:Ty) (ids:Option (List Nat)) (xss:List (List t.den)) (ver:Nat)
 | lH (k:K)
 | gone
structure Env where
 blk:Nat->Option Nat
 sl:Nat->Value
 base:Nat->Prop
 inn:Nat->Nat->Value
 oO:Nat->Prop
 par:Nat->Value
structure Fix where
 base:Nat->Prop
 oO:Nat->Prop
 par:Nat->Value
def Env.fix (E:Env):Fix:=⟨E.base,E.oO,E.par⟩
def bV:Value->Option Nat
 | .slice (some a) _ _=>some a.block
 | _=>none
def fz (w:World) (E:Env) (q:Nat):Prop:=(q<w.heap.size/\E.base q)/\(∀ r,E.blk r≠some q)/\∀ r id,bV (E.inn r id)≠some q
def gv (v:Nat):Nat:=v / 65536
def nx (v:Nat):Nat:=(v / 65536+1)*65536
theorem a0Z (v:Nat):gv v<gv (nx v):=by unfold gv nx;omega
theorem a4K (v:Nat):v<=nx v:=by unfold nx;omega
theorem MN {v v':Nat} (h:v<=v'):gv v<=gv v':=by unfold gv;omega
def Res.isRow (v:Nat):Res->Prop
 | .row _ _ _ v'=>gv v'=gv v
 | .fro _ _ v'=>gv v'=gv v
 | .mat _ _ _ _ _ v'=>gv v'=gv v
 | _=>False
def Res.mP (v:Nat):Res->Prop
 | .mat _ _ _ _ _ v'=>v'=v
 | _=>False
def Res.fB (v:Nat):Res->Prop
 | .row _ _ _ v'=>v<=v'
 | .fro _ _ v'=>v<=v'
 | .mat _ _ _ _ _ v'=>v<=v'
 | _=>False
def Res.nK:Res->Prop
 | .box _=>True
 | _=>False
def Res.mF:Res->Prop
 | .lH _=>True
 | _=>False
def Res.CZ:Res->Prop
 | .lH _=>True
 | .gone=>True
 | _=>False
def Res.esz:Res->Nat
 | .row _ t _ _=>t.n
 | .fro t _ _=>t.n
 | .mat _ _ _ _ _ _=>1
 | _=>0
def Res.msz:Res->Nat
 | .mat _ _ t _ _ _=>t.n
 | _=>0
def Res.cnt:Res->Nat
 | .mat _ _ _ _ xss _=>xss.length
 | _=>0
def a4H (F:Nat->Prop) (E:Env) (ρ:Nat->Res) (w:World):K0->Value->Prop
 | .val t x,v=>jY F w t v x
 | .own r ver,v=>Res.isRow ver (ρ r)->v=E.sl r
 | .ptr r off,v=>∃ b,E.blk r=some b/\v=.pointer (some ⟨b,off,none⟩)
 | .lY r,v=>Res.mF (ρ r)->∃ b,E.blk r=some b/\v=.pointer (some ⟨b,0,none⟩)
def nI (F:Nat->Prop) (E:Env) (ρ:Nat->Res) (w:World):List K0->List Value->Prop
 | [],vs=>vs=[]
 | k::ks,vs=>∃ v vs',vs=v::vs'/\a4H F E ρ w k v/\nI F E ρ w ks vs'
def K.holds (E:Env) (ρ:Nat->Res) (w:World):K->Value->Prop
 | .any,_=>True
 | .val t x,v=>jY (fz w E) w t v x
 | .nil,v=>v=.slice none 0 0
 | .ptr r off,v=>∃ b,E.blk r=some b/\v=.pointer (some ⟨b,off,none⟩)
 | .own r ver,v=>Res.isRow ver (ρ r)->v=E.sl r
 | .when b k,v=>(b=true->k.holds E ρ w v)/\(b=false->v=undef)
 | .tup ts x,v=>∃ vs,v=.tuple vs.toArray/\jO (fz w E) w ts vs x
 | .cell r ver i,v=>Res.isRow ver (ρ r)->∃ b,bV (E.sl r)=some b/\v=.pointer (some ⟨b,i*(ρ r).esz,none⟩)
 | .mrow r ver id,v=>Res.mP ver (ρ r)->v=E.inn r id
 | .mpos r ver id j,v=>Res.mP ver (ρ r)->∃ b,bV (E.inn r id)=some b/\v=.pointer (some ⟨b,j*(ρ r).msz,none⟩)
 | .lY r,v=>Res.mF (ρ r)->∃ b,E.blk r=some b/\v=.pointer (some ⟨b,0,none⟩)
 | .mix ks,v=>∃ vs,v=.tuple vs.toArray/\nI (fz w E) E ρ w ks vs
 | .fn g ks,v=>∃ vs,v=.func (.func g) #[] vs.toArray/\nI (fz w E) E ρ w ks vs
 | .sng r ver,v=>Res.isRow ver (ρ r)->∃ b,v=.slice (some ⟨b,0,none⟩) 1 1/\fz w E b/\w.rangeAt b 0 [E.sl r]
theorem CJ {E:Env} {ρ:Nat->Res} {w:World} {k:K0} {v:Value}:a4H (fz w E) E ρ w k v↔(k0K k).holds E ρ w v:=by cases k<;>exact Iff.rfl
def aV:List Prop->Prop
 | []=>True
 | p::ps=>p/\aV ps
theorem bM {a b:List Prop}:aV (a++b)↔aV a/\aV b:=by
 induction a with
 | nil=>simp[aV]
 | cons p ps ih=>simp[aV,ih,and_assoc]
abbrev PK:=Option (List Prop × K)
def tH (P:Program) (t:TypeId):Option Bool:=(P.underlying t).map fun d=>match d with | .struct _ | .array _ _=>true|_=>false
def fitsT (P:Program) (t:TypeId) (ty:Ty):Bool:=(P.info? t).map (·.size)==some ty.n&&tH P t==some ty.agg
def oD:(t:Ty)->t.den->Nat->Option (Nat × Part)
 | .pair a _,x,0=>some (0,⟨a,x.1⟩)
 | .pair a b,x,i+1=>(oD b x.2 i).map fun p=>(a.n+p.1,p.2)
 | .lf .rat,x,0=>some (0,⟨.lf .big,Rat.num x⟩)
 | .lf .rat,x,1=>some (2,⟨.lf .big,(Rat.den x:Int)⟩)
 | .lf .dD,x,0=>some (0,⟨.lf .grp,aF.g x⟩)
 | .lf .dD,x,1=>some (2,⟨.lf .grp,aF.h x⟩)
 | .lf .grp,x,1=>some (1,⟨.lf .gsl,x⟩)
 | _,_,_=>none
def a2Q (P:Program) (s:TypeId) (i o:Nat) (ty:Ty):Bool:=match P.underlying s with
 | some (.struct fs)=>match fs[i]? with
  | some f=>f.offset==o&&fitsT P f.type ty&&decide (0<ty.n)
  | none=>false
 | _=>false
def qN (P:Program) (s:TypeId) (n:Option Nat) (ty:Ty):Bool:=match P.underlying s,n with
 | some (.slice e),none=>fitsT P e ty
 | some (.array m e),some k=>m==k&&fitsT P e ty
 | _,_=>false
def a4v (P:Program) (s:TypeId):Bool:=match P.underlying s with
 | some (.slice e)=>fitsT P e (.int .u32)
 | _=>false
theorem uN {F:Nat->Prop} {w:World}:(t:Ty)->(x:t.den)->(i o:Nat)->(p:Part)->(cs:List Value)->oD t x i=some (o,p)->rep F w t cs x->rep F w p.t ((cs.drop o).take p.t.n) p.x
 | .pair a b,x,0,o,p,cs,h,⟨c1,c2,h1,h2,h3⟩=>by
  simp only[oD,Option.some.injEq,Prod.mk.injEq] at h
  obtain⟨rfl,rfl⟩:=h
  have:=dZ a _ _ h2
  rw[h1,List.drop_zero,<-this,List.take_left]
  exact h2
 | .pair a b,x,i+1,o,p,cs,h,⟨c1,c2,h1,h2,h3⟩=>by
  simp only[oD,Option.map_eq_some_iff] at h
  obtain⟨⟨o',p'⟩,h4,h5⟩:=h
  simp only[Prod.mk.injEq] at h5
  obtain⟨rfl,rfl⟩:=h5
  have:=dZ a _ _ h2
  rw[h1,<-List.drop_drop,<-this,List.drop_left]
  exact uN b x.2 i o' p' c2 h4 h3
 | .lf .rat,x,0,o,p,cs,h,hr=>by
  simp only[oD,Option.some.injEq,Prod.mk.injEq] at h
  obtain⟨rfl,rfl⟩:=h
  obtain⟨b,s,c,t,h1,h2,h3⟩:RQ w (.agg cs.toArray) x:=hr
  rw[show cs=[b,s,c,t] by simpa using h1]
  exact h2
 | .lf .rat,x,1,o,p,cs,h,hr=>by
  simp only[oD,Option.some.injEq,Prod.mk.injEq] at h
  obtain⟨rfl,rfl⟩:=h
  obtain⟨b,s,c,t,h1,h2,h3⟩:RQ w (.agg cs.toArray) x:=hr
  rw[show cs=[b,s,c,t] by simpa using h1]
  exact h3
 | .lf .dD,x,0,o,p,cs,h,hr=>by
  simp only[oD,Option.some.injEq,Prod.mk.injEq] at h
  obtain⟨rfl,rfl⟩:=h
  obtain⟨b,q,c,b',q',c',rfl,h2,h3,h4⟩:=hr
  exact⟨b,_,rfl,h3⟩
 | .lf .dD,x,1,o,p,cs,h,hr=>by
  simp only[oD,Option.some.injEq,Prod.mk.injEq] at h
  obtain⟨rfl,rfl⟩:=h
  obtain⟨b,q,c,b',q',c',rfl,h2,h3,h4⟩:=hr
  exact⟨b',_,rfl,h4⟩
 | .lf .grp,x,1,o,p,cs,h,hr=>by
  simp only[oD,Option.some.injEq,Prod.mk.injEq] at h
  obtain⟨rfl,rfl⟩:=h
  obtain⟨b,s,rfl,h2⟩:=hr
  exact⟨s,rfl,h2⟩
def a2l:(ts:List Ty)->(nest ts).den->Nat->Option Part
 | [],_,_=>none
 | t::_,x,0=>some ⟨t,x.1⟩
 | _::ts,x,i+1=>a2l ts x.2 i
theorem XD {F:Nat->Prop} {w:World}:(ts:List Ty)->(x:(nest ts).den)->(i:Nat)->(p:Part)->(vs:List Value)->a2l ts x i=some p->jO F w ts vs x->∃ v,vs[i]?=some v/\jY F w p.t v p.x
 | [],_,_,_,_,h,_=>by simp[a2l] at h
 | t::ts,x,0,p,vs,h,⟨v,vs',h1,h2,h3⟩=>by
  simp only[a2l,Option.some.injEq] at h
  subst h
  exact⟨v,by rw[h1];rfl,h2⟩
 | t::ts,x,i+1,p,vs,h,⟨v,vs',h1,h2,h3⟩=>by
  obtain⟨v',k1,k2⟩:=XD ts x.2 i p vs' h h3
  exact⟨v',by rw[h1];exact k1,k2⟩
def jT (t t':Ty) (x:t.den):Option t'.den:=if h:t=t' then some (h ▸ x) else none
def lK (c:Bool):K->K->PK
 | .val t x,.val t' y=>(jT t' t y).map fun y=>([],.val t (bif c then x else y))
 | .when b (.val t x),.val t' y=>(jT t' t y).map fun y=>([c=true->b=true],.val t (bif c then x else y))
 | .val t x,.when b (.val t' y)=>(jT t' t y).map fun y=>([c=false->b=true],.val t (bif c then x else y))
 | .when b (.val t x),.when b' (.val t' y)=>(jT t' t y).map fun y=>([c=true->b=true,c=false->b'=true],.val t (bif c then x else y))
 | _,_=>none
def a8E (op:BinOp) (k:IntKind) (a b:Int):PK:=match op with
 | .add=>some ([],.val (.int k) (k.wrap (a+b)))
 | .sub=>some ([],.val (.int k) (k.wrap (a-b)))
 | .mul=>some ([],.val (.int k) (k.wrap (a*b)))
 | .quo=>some ([b≠0],.val (.int k) (k.wrap (a.tdiv b)))
 | .rem=>some ([b≠0],.val (.int k) (a.tmod b))
 | .eql=>some ([],.val .bool (a==b))
 | .neq=>some ([],.val .bool (a != b))
 | .lss=>some ([],.val .bool (decide (a<b)))
 | .leq=>some ([],.val .bool (decide (a<=b)))
 | .gtr=>some ([],.val .bool (decide (a > b)))
 | .geq=>some ([],.val .bool (decide (a ≥ b)))
 | _=>none
def wU:Value->K
 | .bool b=>.val .bool b
 | .int k n=>.val (.int k) n
 | .slice none 0 0=>.nil
 | _=>.any
def a4F (P:Program) (t:TypeId):Bool:=match P.underlying t with
 | some .bool=>true
 | _=>false
def b9y (P:Program) (s t:TypeId):Option IntKind:=match P.underlying s,P.underlying t with
 | some _,some (.int k)=>some k
 | _,_=>none
def zT (P:Program) (t:TypeId):Bool:=match P.underlying t with
 | some (.slice _)=>true
 | _=>false
def FU (ty:Ty) (ys:List ty.den) (m:Nat) (n:Int):PK:=some ([0<=n,n<m],.val (.ref ty) (ys.getD n.toNat ty.zero))
def b1z (ty:Ty) (ys:List ty.den) (m:Nat) (n:Int):PK:=some ([0<=n,n<m],.val ty (ys.getD n.toNat ty.zero))
def RU (ty:Ty) (ys:List ty.den):PK:=some ([],.val (.int .i64) (ys.length:Int))
def b4t (l:List Nat):PK:=some ([],.val (.int .i64) (l.length:Int))
def a4s (l:List Nat) (n:Int):PK:=some ([0<=n,n<l.length],.val (.lf .QF) (l.getD n.toNat 0))
def eqB (op:BinOp) (a b:Bool):PK:=match op with
 | .eql=>some ([],.val .bool (a==b))
 | .neq=>some ([],.val .bool (a != b))
 | _=>none
def XH (k:IntKind) (n:Int):PK:=some ([],.val (.int k) (k.wrap n))
def b4D (k:IntKind) (n:Int):PK:=XH k (0-n)
def b4F (b:Bool):PK:=some ([],.val .bool (!b))
def zJ (ref:Bool) (P:Program) (s:TypeId) (i:Nat) (ty:Ty) (y:ty.den):PK:=match oD ty y i with
 | some (o,p)=>if a2Q P s i o p.t&&ty.agg then some ([],if ref then .val (.ref p.t) p.x else .val p.t p.x) else none
 | none=>none
def fQ (P:Program) (k:Operand->K):Op->PK
 | .move x=>some ([],k x)
 | .assign x=>some ([],k x)
 | .pick c a b=>match k c with
  | .val .bool cb=>lK cb (k a) (k b)
  | _=>none
 | .load t x=>match k x with
  | .val (.ref ty) y=>if fitsT P t ty then some ([],.val ty y) else none
  | .val (.lf .QF) y=>if fitsT P t (.int .u32) then some ([],.val (.int .u32) (Nat.cast (R:=Int) y)) else none
  | _=>none
 | .fieldAddr s x i=>match k x with
  | .val (.ref ty) y=>zJ true P s i ty y
  | _=>none
 | .field s x i=>match k x with
  | .val ty y=>zJ false P s i ty y
  | _=>none
 | .indexAddr s x i=>match k x,k i with
  | .val (.list ty) ys,.val (.int _) n=>if qN P s none ty then FU ty ys (List.length (α:=ty.den) ys) n else none
  | .val (.ref (.arr m ty)) ys,.val (.int _) n=>if qN P s (some m) ty then FU ty ys m n else none
  | .val (.lf .gsl) l,.val (.int _) n=>if a4v P s then a4s l n else none
  | _,_=>none
 | .index s x i=>match k x,k i with
  | .val (.arr m ty) ys,.val (.int _) n=>if qN P s (some m) ty then b1z ty ys m n else none
  | _,_=>none
 | .extract x i=>match k x with
  | .tup ts y=>match a2l ts y i with
   | some p=>some ([],.val p.t p.x)
   | none=>none
  | .mix ks=>match ks[i]? with
   | some k=>some ([],k0K k)
   | none=>none
  | _=>none
 | .binOp op t x y _=>match k x,k y with
  | .val (.int ka) a,.val (.int kb) b=>if ka=kb then a8E op ka a b else none
  | .val .bool a,.val .bool b=>if a4F P t then eqB op a b else none
  | _,_=>none
 | .unOp .not _ x=>match k x with
  | .val .bool b=>b4F b
  | _=>none
 | .unOp .neg _ x=>match k x with
  | .val (.int kk) n=>b4D kk n
  | _=>none
 | .convert s t x=>match k x,b9y P s t with
  | .val (.int _) n,some kk=>XH kk n
  | _,_=>none
 | .nilCheck x=>match k x with
  | .val (.ref t) y=>some ([],.val (.ref t) y)
  | .val (.clo f t) y=>some ([],.val (.clo f t) y)
  | _=>none
 | .call { callee:=.builtin .len,args:=xs,argTypes:=ts }=>match xs.toList,ts.toList with
  | [x],[t]=>if zT P t then (match k x with
   | .val (.list ty) ys=>RU ty ys
   | .val (.lf .gsl) l=>b4t l
   | .nil=>RU .unit []
   | _=>none) else none
  | _,_=>none
 | _=>none
def yU (P:Program) (E:Env) (ρ:Nat->Res) (w:World) (o:Oper) (ev:Operand->Value) (k:K):Prop:=∃ v,(execOp ev o).run P w=.ok (.value v) w/\k.holds E ρ w v
section
variable {P:Program} {E:Env} {ρ:Nat->Res} {w:World}
theorem fH {t t':Ty} {x:t.den} {y:t'.den} (h:jT t t' x=some y):∃ e:t=t',e ▸ x=y:=by
 unfold jT at h
 split at h
 ·rename_i e;exact⟨e,by simpa using h⟩
 ·cases h
theorem a9o {c:Bool} {ka kb k:K} {vc:List Prop} (h:lK c ka kb=some (vc,k)) (hv:aV vc) {u v:Value} (ha:ka.holds E ρ w u) (hb:kb.holds E ρ w v):k.holds E ρ w (if c then u else v):=by
 cases ka<;>try (simp[lK] at h;done)
 case val t x =>
  cases kb<;>try (simp[lK] at h;done)
  case val t' y =>
   simp only[lK,Option.map_eq_some_iff,Prod.mk.injEq] at h
   obtain⟨y',h1,rfl,rfl⟩:=h
   obtain⟨rfl,rfl⟩:=fH h1
   cases c
   ·exact hb
   ·exact ha
  case when b kb =>
   cases kb<;>try (simp[lK] at h;done)
   case val t' y =>
    simp only[lK,Option.map_eq_some_iff,Prod.mk.injEq] at h
    obtain⟨y',h1,rfl,rfl⟩:=h
    obtain⟨rfl,rfl⟩:=fH h1
    cases c
    ·exact hb.1 (hv.1 rfl)
    ·exact ha
 case when b ka =>
  cases ka<;>try (simp[lK] at h;done)
  case val t x =>
   cases kb<;>try (simp[lK] at h;done)
   case val t' y =>
    simp only[lK,Option.map_eq_some_iff,Prod.mk.injEq] at h
    obtain⟨y',h1,rfl,rfl⟩:=h
    obtain⟨rfl,rfl⟩:=fH h1
    cases c
    ·exact hb
    ·exact ha.1 (hv.1 rfl)
   case when b' kb =>
    cases kb<;>try (simp[lK] at h;done)
    case val t' y =>
     simp only[lK,Option.map_eq_some_iff,Prod.mk.injEq] at h
     obtain⟨y',h1,rfl,rfl⟩:=h
     obtain⟨rfl,rfl⟩:=fH h1
     cases c
     ·exact hb.1 (hv.2.1 rfl)
     ·exact ha.1 (hv.1 rfl)
theorem a5O (v:Value):(wU v).holds E ρ w v:=by
 unfold wU
 split
 ·exact⟨[.bool _],rfl,rfl⟩
 ·exact⟨[.int _ _],rfl,rfl⟩
 ·rfl
 ·trivial
theorem EO {t:TypeId} {b:Bool} (h:tH P t=some b):(isAgg t).run P w=.ok b w:=by
 unfold tH at h
 cases hu:P.underlying t with
 | none=>rw[hu] at h;cases h
 | some d =>
  rw[hu] at h
  simp only[Option.map_some,Option.some.injEq] at h
  unfold isAgg
  rw[Sem.run_bind,run_underlying hu w]
  cases d<;>simp_all
theorem iL {t:TypeId} {ty:Ty} (h:fitsT P t ty=true):(∃ i,P.info? t=some i/\i.size=ty.n)/\tH P t=some ty.agg:=by
 unfold fitsT at h
 simp only[Bool.and_eq_true,beq_iff_eq] at h
 refine⟨?_,h.2⟩
 cases hi:P.info? t with
 | none=>rw[hi] at h;simp at h
 | some i=>rw[hi] at h;exact⟨i,rfl,by simpa using h.1⟩
theorem run_sizeOf {t:TypeId} {i:TypeInfo} (h:P.info? t=some i):(sizeOf t).run P w=.ok i.size w:=by simp[sizeOf,typeInfo,h]
theorem uV {t:TypeId} {ty:Ty} (h:fitsT P t ty=true) {cs:List Value} {o:Nat} {F:Nat->Prop} {x:ty.den} (hr:rep F w ty ((cs.drop o).take ty.n) x):(part t cs.toArray o).run P w=.ok (ty.toV ((cs.drop o).take ty.n)) w:=by
 obtain⟨⟨i,hi,hn⟩,ha⟩:=iL h
 have hl:=dZ ty _ _ hr
 unfold part Ty.toV
 rw[Sem.run_bind,EO ha]
 cases hg:ty.agg
 ·have h1:ty.n=1:=by cases ty<;>simp_all [Ty.agg,Ty.n];rename_i l;cases l<;>simp_all [Lf.agg,Lf.n]
  rw[h1] at hl ⊢
  have h2:o<cs.length:=by
   rw[List.length_take,List.length_drop] at hl;omega
  simp[List.getElem?_eq_getElem h2,List.take_one,List.head?_drop,h2]
 ·simp only[Result.andThen_ok,if_true,Sem.run_bind,run_sizeOf hi,hn,Sem.run_pure]
  congr 2
  simp[List.extract_eq_take_drop]
theorem kG {t:TypeId} {ty:Ty} (h:fitsT P t ty=true) {b o:Nat} {ds:List Value} {F:Nat->Prop} {x:ty.den} (hc:w.rangeAt b o ds) (hr:rep F w ty ds x):(loadVar t ⟨b,o,none⟩).run P w=.ok (ty.toV ds) w:=by
 obtain⟨⟨i,hi,hn⟩,ha⟩:=iL h
 have hl:=dZ ty _ _ hr
 unfold Ty.toV
 cases hg:ty.agg
 ·have h1:ty.n=1:=by cases ty<;>simp_all [Ty.agg,Ty.n];rename_i l;cases l<;>simp_all [Lf.agg,Lf.n]
  rw[h1] at hl
  obtain⟨v,rfl⟩:∃ v,ds=[v]:=by
   match ds,hl with
   | [v],_=>exact⟨v,rfl⟩
  have hc0:=hc 0 v rfl
  rw[Nat.add_zero] at hc0
  rw[hg] at ha
  simp[loadVar,Sem.run_bind,EO ha,hc0]
 ·rw[hg] at ha
  have hd:∃ d,P.underlying t=some d/\d.isRow=true:=by
   unfold tH at ha
   cases hu:P.underlying t with
   | none=>rw[hu] at ha;cases ha
   | some d=>rw[hu] at ha;exact⟨d,rfl,by cases d<;>simp_all⟩
  obtain⟨d,hu,hd⟩:=hd
  exact run_loadVar_mid w b o t ds d hc hu hd (by simp[hi,hn,hl])
end
end
end Go.Proofs.YtgplhbhfdgempaaGreat
