/-
  Lemmas for the theorem vtransforms_holds, part 8 of 39.
-/
import Derived.Deep.MidRow
import Derived.Laws.Tables
import Derived.Test.YtgplhbhfdgempaaGreatTr07
namespace Go.Proofs.YtgplhbhfdgempaaGreat
open Go Go.RowKit
theorem Ah:type_of% @Nat.succ_mul:=@Nat.succ_mul
theorem Du:type_of% @List.take_left:=@List.take_left
theorem Bo:type_of% @List.drop_left:=@List.drop_left
theorem je:type_of% @Option.map_eq_some_iff:=@Option.map_eq_some_iff
theorem ji:type_of% @beq_iff_eq:=@beq_iff_eq
set_option maxRecDepth 100000
set_option maxHeartbeats 4000000
set_option linter.unusedSimpArgs false
set_option linter.unusedVariables false
theorem mZ (v:Value) (ok:Bool) (x:Int) (w:World) (h:iQ w v ok x) :
  Calls Tryz.prog 142 #[v] w fun e w'=>e=.returned (.bool ok)/\Below w.heap.size w w':=by
 obtain⟨neg,s,l,rfl,k2,k3,k4,k5⟩:=h
 have:=NP neg s l w k2
 rw[<-k5] at this
 exact this
def sgn (x:Int):Int:=x.sign
theorem rM (v:Value) (x:Int) (w:World) (hv:Raw w v x) :
 Calls Tryz.prog 118 #[v] w fun e w'=>e=.returned (.int .i64 (sgn x))/\Below w.heap.size w w':=DU v x w hv
theorem zL {x:Int} (h:0<x):sgn x=1:=vw h
theorem KY {x:Int} (h:x<0):sgn x=-1:=uz h
theorem b1x {x:Int} (h:¬ 0<x):sgn x<=0:=Int.sign_nonpos_iff.2 (by omega)
theorem b1y {x:Int} (h:x≠0):sgn x≠0:=fun e=>h (Int.sign_eq_zero_iff_zero.1 e)
def Qn (v:Value) (k:Nat):Prop:=∃ b p n c b' p' n' c',v=.agg #[.bool b,.slice p n c,.bool b',.slice p' n' c']/\n<=k/\n'<=k
theorem dR.len {w:World} {b:Bool} {p:Option Addr} {n c:Nat} {x:Int} (h:dR w (.agg #[.bool b,.slice p n c]) x):n=isz x:=by
 obtain⟨s,k1,k2⟩:=h
 cases k1
 obtain⟨p',c',e,_⟩:=k2.form
 cases e
 rfl
theorem RQ.qn {w:World} {v:Value} {q:Rat} {k:Nat} (h:RQ w v q) (hk:rsz q<=k):Qn v k:=by
 obtain⟨b,s,c,t,e,h1,h2⟩:=h
 obtain⟨b1,p1,n1,c1,e1⟩:=h1.form
 obtain⟨b2,p2,n2,c2,e2⟩:=h2.form
 cases e1;cases e2
 refine⟨_,_,_,_,_,_,_,_,e,?_,?_⟩
 ·rw[h1.len];have:=fA q;omega
 ·rw[h2.len];have:=eF q;omega
theorem RQ.kS {w:World} {v:Value} {q:Rat} {k:Nat} (h:RQ w v q) (hn:Qn v k):rsz q<=k:=by
 obtain⟨b,s,c,t,e,h1,h2⟩:=h
 obtain⟨b1,p1,n1,c1,b2,p2,n2,c2,e1,l1,l2⟩:=hn
 rw[e1] at e
 cases e
 rw[h1.len] at l1
 rw[h2.len] at l2
 have:isz (q.den:Int)=nsz q.den:=by simp[isz]
 rw[this] at l2
 exact Nat.max_le.2 ⟨l1,l2⟩
theorem b1r:rsz 0=1:=by decide +kernel
theorem iD.kS {w:World} {v:Value} {ok:Bool} {q:Rat} {k:Nat} (h:iD w v ok q) (hn:Qn v k) (hk:1<=k):rsz q<=k:=by
 cases ok
 ·rw[h.no,b1r];exact hk
 ·exact h.rq.kS hn
theorem NT (x y:Int):(dV x y==0)=decide (x=y):=by
 unfold dV
 by_cases h1:x<y
 ·rw[gy h1];simp;omega
 ·rw[ig h1]
  by_cases h2:y<x
  ·rw[gy h2];simp;omega
  ·rw[ig h2];simp;omega
theorem a4X (x y:Int) (w:World) (b d:Bool) (p o:Option Addr) (n c m e:Nat) (k1:iQ w (.agg #[.bool b,.slice p n c]) false x) (k2:iQ w (.agg #[.bool d,.slice o m e]) false y) (hl:isz x<=1000000000) (hl2:isz y<=1000000000) :
  Calls Tryz.prog 98 #[.agg #[.bool b,.slice p n c,.bool d,.slice o m e]] w fun e w'=>e=.returned (.bool (false&&(false&&(decide (0<y)&&decide (Int.gcd x y=1)))))/\Below w.heap.size w w':=by
 have HX:Hid (false=(false&&(false&&(decide (0<y)&&decide (Int.gcd x y=1))))):=by unfold Hid;simp
 have bZ:Below w.heap.size w w:=dn _ _
 go_enter Tryz.func98,Tryz.ntmps98
 go_wp2_with fail
 obtain⟨hA1,c0⟩:=bx1 w rfl [.bool b,.slice p n c,.bool d,.slice o m e] 64
 have b0:=(k1.below hA1)
 (with_reducible refine(mZ _ _ _ _ b0).mono ?_)
 rintro e w1 ⟨rfl,hb1⟩
 have a0:=(Below.tr (Below.tr bZ hA1) hb1)
 go_wp2_with fail
 go_ret
 exact⟨iU HX.out,a0⟩
theorem a4Y (x y:Int) (w:World) (b d:Bool) (p o:Option Addr) (n c m e:Nat) (k1:iQ w (.agg #[.bool b,.slice p n c]) false x) (k2:iQ w (.agg #[.bool d,.slice o m e]) true y) (hl:isz x<=1000000000) (hl2:isz y<=1000000000) :
  Calls Tryz.prog 98 #[.agg #[.bool b,.slice p n c,.bool d,.slice o m e]] w fun e w'=>e=.returned (.bool (false&&(true&&(decide (0<y)&&decide (Int.gcd x y=1)))))/\Below w.heap.size w w':=by
 have HX:Hid (false=(false&&(true&&(decide (0<y)&&decide (Int.gcd x y=1))))):=by unfold Hid;simp
 have bZ:Below w.heap.size w w:=dn _ _
 go_enter Tryz.func98,Tryz.ntmps98
 go_wp2_with fail
 obtain⟨hA1,c0⟩:=bx1 w rfl [.bool b,.slice p n c,.bool d,.slice o m e] 64
 have b0:=(k1.below hA1)
 (with_reducible refine(mZ _ _ _ _ b0).mono ?_)
 rintro e w1 ⟨rfl,hb1⟩
 have a0:=(Below.tr (Below.tr bZ hA1) hb1)
 go_wp2_with fail
 go_ret
 exact⟨iU HX.out,a0⟩
theorem a4Z (x y:Int) (w:World) (b d:Bool) (p o:Option Addr) (n c m e:Nat) (k1:iQ w (.agg #[.bool b,.slice p n c]) true x) (k2:iQ w (.agg #[.bool d,.slice o m e]) false y) (hl:isz x<=1000000000) (hl2:isz y<=1000000000) :
  Calls Tryz.prog 98 #[.agg #[.bool b,.slice p n c,.bool d,.slice o m e]] w fun e w'=>e=.returned (.bool (true&&(false&&(decide (0<y)&&decide (Int.gcd x y=1)))))/\Below w.heap.size w w':=by
 have HX:Hid (false=(true&&(false&&(decide (0<y)&&decide (Int.gcd x y=1))))):=by unfold Hid;simp
 have bZ:Below w.heap.size w w:=dn _ _
 go_enter Tryz.func98,Tryz.ntmps98
 go_wp2_with fail
 obtain⟨hA1,b0⟩:=bx1 w rfl [.bool b,.slice p n c,.bool d,.slice o m e] 64
 have c0:=(k1.below hA1)
 (with_reducible refine(mZ _ _ _ _ c0).mono ?_)
 rintro e w1 ⟨rfl,hb1⟩
 have dP:=(b0.to hb1)
 obtain⟨e0,f0,g0,h0⟩:=dP.cs4
 go_wp2_with fail
 have IQ:=((k2.below hA1).below hb1)
 have d0:=IQ
 (with_reducible refine(mZ _ _ _ _ d0).mono ?_)
 rintro e w2 ⟨rfl,hb2⟩
 have a0:=(Below.tr (Below.tr (Below.tr bZ hA1) hb1) hb2)
 go_wp2_with fail
 go_ret
 exact⟨iU HX.out,a0⟩
theorem a5a (x y:Int) (w:World) (b d:Bool) (p o:Option Addr) (n c m e:Nat) (k1:iQ w (.agg #[.bool b,.slice p n c]) true x) (k2:iQ w (.agg #[.bool d,.slice o m e]) true y) (hl:isz x<=1000000000) (hl2:isz y<=1000000000) (hd:¬ 0<y) :
  Calls Tryz.prog 98 #[.agg #[.bool b,.slice p n c,.bool d,.slice o m e]] w fun e w'=>e=.returned (.bool (true&&(true&&(decide (0<y)&&decide (Int.gcd x y=1)))))/\Below w.heap.size w w':=by
 have HX:Hid (false=(true&&(true&&(decide (0<y)&&decide (Int.gcd x y=1))))):=by unfold Hid;simp[hd]
 have hsg:decide (sgn y<=0)=true:=by have:=b1x hd;simpa using this
 clear hd
 have bZ:Below w.heap.size w w:=dn _ _
 go_enter Tryz.func98,Tryz.ntmps98
 go_wp2_with fail
 obtain⟨hA1,b0⟩:=bx1 w rfl [.bool b,.slice p n c,.bool d,.slice o m e] 64
 have c0:=(k1.below hA1)
 (with_reducible refine(mZ _ _ _ _ c0).mono ?_)
 rintro e w1 ⟨rfl,hb1⟩
 have dP:=(b0.to hb1)
 obtain⟨f0,h0,j0,l0⟩:=dP.cs4
 go_wp2_with fail
 have IQ:=((k2.below hA1).below hb1)
 have d0:=IQ
 (with_reducible refine(mZ _ _ _ _ d0).mono ?_)
 rintro e w2 ⟨rfl,hb2⟩
 have dL:=(dP.to hb2)
 obtain⟨g0,i0,k0,m0⟩:=dL.cs4
 go_wp2_with fail
 have a0x:=(IQ.below hb2)
 have e0:=a0x.raw
 (with_reducible refine(rM _ (y) _ e0).mono ?_)
 rintro e w3 ⟨rfl,hb3⟩
 have a0:=(Below.tr (Below.tr (Below.tr (Below.tr bZ hA1) hb1) hb2) hb3)
 go_wp2_with fail
 go_ret
 exact⟨iU HX.out,a0⟩
theorem a5b (x y:Int) (w:World) (b d:Bool) (p o:Option Addr) (n c m e:Nat) (k1:iQ w (.agg #[.bool b,.slice p n c]) true x) (k2:iQ w (.agg #[.bool d,.slice o m e]) true y) (hl:isz x<=1000000000) (hl2:isz y<=1000000000) (hd:0<y) :
  Calls Tryz.prog 98 #[.agg #[.bool b,.slice p n c,.bool d,.slice o m e]] w fun e w'=>e=.returned (.bool (true&&(true&&(decide (0<y)&&decide (Int.gcd x y=1)))))/\Below w.heap.size w w':=by
 have HX:Hid ((dV ((Int.gcd x y:Nat):Int) 1==0)=(true&&(true&&(decide (0<y)&&decide (Int.gcd x y=1))))):=by unfold Hid;rw[NT];simp[hd];omega
 have hsg:decide (sgn y<=0)=false:=by rw[zL hd];rfl
 clear hd
 have bZ:Below w.heap.size w w:=dn _ _
 go_enter Tryz.func98,Tryz.ntmps98
 go_wp2_with fail
 obtain⟨hA1,b0⟩:=bx1 w rfl [.bool b,.slice p n c,.bool d,.slice o m e] 64
 have c0:=(k1.below hA1)
 (with_reducible refine(mZ _ _ _ _ c0).mono ?_)
 rintro e w1 ⟨rfl,hb1⟩
 have dP:=(b0.to hb1)
 obtain⟨k0,n0,q0,t0⟩:=dP.cs4
 go_wp2_with fail
 have IQ:=((k2.below hA1).below hb1)
 have d0:=IQ
 (with_reducible refine(mZ _ _ _ _ d0).mono ?_)
 rintro e w2 ⟨rfl,hb2⟩
 have dL:=(dP.to hb2)
 obtain⟨l0,o0,r0,u0⟩:=dL.cs4
 go_wp2_with fail
 have a0x:=(IQ.below hb2)
 have e0:=a0x.raw
 (with_reducible refine(rM _ (y) _ e0).mono ?_)
 rintro e w3 ⟨rfl,hb3⟩
 have lH:=(dL.to hb3)
 obtain⟨m0,p0,s0,v0⟩:=lH.cs4
 go_wp2_with fail
 have b6e:=((((k1.below hA1).below hb1).below hb2).below hb3)
 have f0:=b6e.raw
 have b6f:=(a0x.below hb3)
 have g0:=b6f.raw
 (with_reducible refine(a0k _ _ (x) (y) _ f0 g0 (by omega) (by omega)).mono ?_)
 rintro e w4 ⟨v4,rfl,hi4,hb4⟩
 obtain⟨g4,p4,n4,c4,rfl⟩:=hi4.form
 go_wp2_with fail
 (with_reducible refine(a4k _ _ (by omega) (by omega)).mono ?_)
 rintro e w5 ⟨v5,rfl,hi5,hb5⟩
 obtain⟨g5,p5,n5,c5,rfl⟩:=hi5.form
 go_wp2_with fail
 have j0:=(hi4.below hb5)
 have h0:=j0.raw
 have i0:=hi5.raw
 (with_reducible refine(JK _ _ ((Int.gcd (x) (y):Int)) (1) _ h0 i0).mono ?_)
 rintro e w6 ⟨rfl,hb6⟩
 have a0:=(Below.tr (Below.tr (Below.tr (Below.tr (Below.tr (Below.tr (Below.tr bZ hA1) hb1) hb2) hb3) hb4) hb5) hb6)
 go_wp2_with fail
 go_ret
 exact⟨iU HX.out,a0⟩
theorem JC (v:Value) (ok:Bool) (q:Rat) (w:World) (h:iD w v ok q) (hn:Qn v 1000000000) :
  Calls Tryz.prog 98 #[v] w fun e w'=>e=.returned (.bool ok)/\Below w.heap.size w w':=by
 obtain⟨b,s,c,t,o1,o2,x,y,e,h1,h2,rfl,_⟩:=h
 obtain⟨b1,p1,n1,c1,b2,p2,n2,c2,e1,l1,l2⟩:=hn
 rw[e1] at e
 cases e
 subst e1
 have l3:=h1.raw.len
 have l4:=h2.raw.len
 cases o1
 ·cases o2
  ·exact a4X x y w _ _ _ _ _ _ _ _ h1 h2 (by omega) (by omega)
  ·exact a4Y x y w _ _ _ _ _ _ _ _ h1 h2 (by omega) (by omega)
 ·cases o2
  ·exact a4Z x y w _ _ _ _ _ _ _ _ h1 h2 (by omega) (by omega)
  ·by_cases hd:0<y
   ·exact a5b x y w _ _ _ _ _ _ _ _ h1 h2 (by omega) (by omega) hd
   ·exact a5a x y w _ _ _ _ _ _ _ _ h1 h2 (by omega) (by omega) hd
theorem a1A (v:Value) (q:Rat) (w:World) (h:RQ w v q) (hl:rsz q<=1000000000) :
  Calls Tryz.prog 154 #[v] w (GQ q w):=by
 obtain⟨b,p,n,c,d,o,m,e,rfl⟩:=h.form
 have b1:=fA q
 have b2:=eF q
 have b3:isz (-q.num)<=1000000000:=by rw[nJ];omega
 have b4:isz (-(q.den:Int))<=1000000000:=by rw[nJ];omega
 have bZ:Below w.heap.size w w:=dn _ _
 go_enter Tryz.func154,Tryz.ntmps154
 go_wp2_with fail
 obtain⟨hA1,l0,i0⟩:=bx2 w rfl [.bool b,.slice p n c,.bool d,.slice o m e] 64 [.bool false,.slice none 0 0,.bool false,.slice none 0 0] 64
 have yG:=(aK.mk (l0.drew).bs4 (BN.of (i0.drew)))
 have j0:dQ (w.heap.size+1) (aK (BS4 w.heap.size (.bool b) (.slice p n c) (.bool d) (.slice o m e)) (BN (w.heap.size+1))):=(aK.hc (BS4.hc (by omega)) BN.hc)
 have tk1:True:=trivial
 have tk2:True:=trivial
 have tk3:True:=trivial
 have tk4:True:=trivial
 go_region_held3 (aK (BS4 w.heap.size (.bool b) (.slice p n c) (.bool d) (.slice o m e)) (BN (w.heap.size+1))) (first|with_reducible exact yG|with_reducible exact iC.go (aK.hk BS4.hk BN.hk) (by assumption) (by assumption)|with_reducible exact dQ.go4 j0 (by assumption)|(simp;done))
  (first
   | (((have:=tk1);clear tk1;have m0:=(h.below hA1).drew.num.raw;go_at_call 139;(with_reducible refine(yZ _ ((q).num) _ m0 (by omega)).mono ?_);rintro e w1 ⟨v1,rfl,hi1,hb1⟩;obtain⟨g1,p1,n1,c1,rfl⟩:=hi1.form))
   | (((have:=tk2);clear tk2;have n0:=hi1.raw;go_at_call 139;(with_reducible refine(yZ _ (-(((q).num))) _ n0 (by omega)).mono ?_);rintro e w2 ⟨v2,rfl,hi2,hb2⟩;obtain⟨g2,p2,n2,c2,rfl⟩:=hi2.form))
   | (((have:=tk3);clear tk3;have h_2:=(((h.below hA1).drew.below hb1).below hb2);have o0:=h_2.den.raw;go_at_call 139;(with_reducible refine(yZ _ (((q).den:Int)) _ o0 (by omega)).mono ?_);rintro e w3 ⟨v3,rfl,hi3,hb3⟩;obtain⟨g3,p3,n3,c3,rfl⟩:=hi3.form))
   | (((have:=tk4);clear tk4;have p0:=hi3.raw;go_at_call 139;(with_reducible refine(yZ _ (-((((q).den:Int)))) _ p0 (by omega)).mono ?_);rintro e w4 ⟨v4,rfl,hi4,hb4⟩;obtain⟨g4,p4,n4,c4,rfl⟩:=hi4.form;have kR:=((((i0.drew.to hb1).to hb2).to hb3).to hb4);obtain⟨a0,e0,b0,f0,c0,g0,d0,h0⟩:=kR.cf4)))
 have q0:=((hi2.below hb3).below hb4)
 have k0:=(Below.tr (Below.tr (Below.tr (Below.tr (Below.tr bZ hA1).drew hb1) hb2) hb3) hb4)
 go_wp2_with fail
 exact jh (v:=.agg #[.bool g2,.slice p2 n2 c2,.bool g4,.slice p4 n4 c4]) (by simp[results,Tryz.results154,go_sem,a0,e0,b0,f0,c0,g0,d0,h0]) rfl ⟨_,rfl,RQ.mk' (q0.bG kR rfl rfl rfl rfl (.bool g2) (.slice p2 n2 c2) (.bool g4) (.slice p4 n4 c4)) (hi4.bG kR rfl rfl rfl rfl (.bool g2) (.slice p2 n2 c2) (.bool g4) (.slice p4 n4 c4)) (Int.neg_neg _) (Int.neg_neg _),(Below.bG k0 (b:=w.heap.size+1) (by omega) (.bool g2) (.slice p2 n2 c2) (.bool g4) (.slice p4 n4 c4))⟩
theorem VP (k:Int) (w:World) (h0:-9223372036854775808<=k) (h1:k<=9223372036854775807) :
  Calls Tryz.prog 80 #[.int .i64 k] w (GQ (k:Rat) w):=by
 have bZ:Below w.heap.size w w:=dn _ _
 go_enter Tryz.func80,Tryz.ntmps80
 go_wp2_with fail
 (with_reducible refine(a4k _ _ (by omega) (by omega)).mono ?_)
 rintro e w1 ⟨v1,rfl,hi1,hb1⟩
 obtain⟨g1,p1,n1,c1,rfl⟩:=hi1.form
 go_wp2_with fail
 (with_reducible refine(a4k _ _ (by omega) (by omega)).mono ?_)
 rintro e w2 ⟨v2,rfl,hi2,hb2⟩
 obtain⟨g2,p2,n2,c2,rfl⟩:=hi2.form
 obtain⟨hA1,k0⟩:=bx1 w rfl [.bool false,.slice none 0 0,.bool false,.slice none 0 0] 64
 have dL:=((k0.to hb1).to hb2)
 obtain⟨a0,e0,b0,f0,c0,g0,d0,i0⟩:=dL.cf4
 have l0:=(hi1.below hb2)
 have j0:=(Below.tr (Below.tr (Below.tr bZ hA1) hb1) hb2)
 go_wp2_with fail
 exact jh (v:=.agg #[.bool g1,.slice p1 n1 c1,.bool g2,.slice p2 n2 c2]) (by simp[results,Tryz.results80,go_sem,a0,e0,b0,f0,c0,g0,d0,i0]) rfl ⟨_,rfl,RQ.mk' (l0.bG dL rfl rfl rfl rfl (.bool g1) (.slice p1 n1 c1) (.bool g2) (.slice p2 n2 c2)) (hi2.bG dL rfl rfl rfl rfl (.bool g1) (.slice p1 n1 c1) (.bool g2) (.slice p2 n2 c2)) (a5J k).symm (by rw[a5I];rfl),(Below.bG j0 (b:=w.heap.size) (by omega) (.bool g1) (.slice p1 n1 c1) (.bool g2) (.slice p2 n2 c2))⟩
theorem a3r (v:Value) (q:Rat) (w:World) (h:iD w v true q) (hn:Qn v 1000000000) :
  Calls Tryz.prog 119 #[v] w (GQ q w):=by
 obtain⟨b,p,n,c,d,o,m,e,rfl⟩:=h.form
 have hl:=h.kS hn (by omega)
 have bZ:Below w.heap.size w w:=dn _ _
 go_enter Tryz.func119,Tryz.ntmps119
 go_wp2_with fail
 obtain⟨hA1,j0,k0⟩:=bx2 w rfl [.bool b,.slice p n c,.bool d,.slice o m e] 64 [.bool false,.slice none 0 0,.bool false,.slice none 0 0] 64
 have l0:=(h.below hA1)
 (with_reducible refine(JC _ _ _ _ l0 hn).mono ?_)
 rintro e w1 ⟨rfl,hb1⟩
 have dP:=(j0.to hb1)
 obtain⟨n0,o0,p0,q0⟩:=dP.cs4
 go_wp2_with fail
 have h_1:=((h.below hA1).below hb1)
 have m0:=h_1.rq
 (with_reducible refine(a1A _ (q) _ m0 (by omega)).mono ?_)
 rintro e w2 ⟨v2,rfl,hi2,hb2⟩
 obtain⟨g2,p2,n2,c2,h2,o2,m2,e2,rfl⟩:=hi2.form
 have dM:=((k0.to hb1).to hb2)
 obtain⟨a0,e0,b0,f0,c0,g0,d0,h0⟩:=dM.cf4
 have i0:=(Below.tr (Below.tr (Below.tr bZ hA1) hb1) hb2)
 go_wp2_with fail
 exact jh (v:=.agg #[.bool g2,.slice p2 n2 c2,.bool h2,.slice o2 m2 e2]) (by simp[results,Tryz.results119,go_sem,a0,e0,b0,f0,c0,g0,d0,h0]) rfl ⟨_,rfl,(hi2.bG dM rfl rfl rfl rfl (.bool g2) (.slice p2 n2 c2) (.bool h2) (.slice o2 m2 e2)),(Below.bG i0 (b:=w.heap.size+1) (by omega) (.bool g2) (.slice p2 n2 c2) (.bool h2) (.slice o2 m2 e2))⟩
theorem a1j (v:Value) (q:Rat) (w:World) (h:iD w v false q) (hn:Qn v 1000000000) :
  Calls Tryz.prog 119 #[v] w (GQ q w):=by
 obtain⟨b,p,n,c,d,o,m,e,rfl⟩:=h.form
 have hl:=h.kS hn (by omega)
 have HX:Hid (q=((0:Int):Rat)):=by unfold Hid;rw[h.no];rfl
 have bZ:Below w.heap.size w w:=dn _ _
 go_enter Tryz.func119,Tryz.ntmps119
 go_wp2_with fail
 obtain⟨hA1,l0,j0⟩:=bx2 w rfl [.bool b,.slice p n c,.bool d,.slice o m e] 64 [.bool false,.slice none 0 0,.bool false,.slice none 0 0] 64
 have k0:=(h.below hA1)
 (with_reducible refine(JC _ _ _ _ k0 hn).mono ?_)
 rintro e w1 ⟨rfl,hb1⟩
 go_wp2_with fail
 (with_reducible refine(VP _ _ (by omega) (by omega)).mono ?_)
 rintro e w2 ⟨v2,rfl,hi2,hb2⟩
 obtain⟨g2,p2,n2,c2,h2,o2,m2,e2,rfl⟩:=hi2.form
 have dM:=((j0.to hb1).to hb2)
 obtain⟨a0,e0,b0,f0,c0,g0,d0,h0⟩:=dM.cf4
 have i0:=(Below.tr (Below.tr (Below.tr bZ hA1) hb1) hb2)
 go_wp2_with fail
 exact jh (v:=.agg #[.bool g2,.slice p2 n2 c2,.bool h2,.slice o2 m2 e2]) (by simp[results,Tryz.results119,go_sem,a0,e0,b0,f0,c0,g0,d0,h0]) rfl ⟨_,rfl,by rw[HX.out];exact(hi2.bG dM rfl rfl rfl rfl (.bool g2) (.slice p2 n2 c2) (.bool h2) (.slice o2 m2 e2)),(Below.bG i0 (b:=w.heap.size+1) (by omega) (.bool g2) (.slice p2 n2 c2) (.bool h2) (.slice o2 m2 e2))⟩
theorem jD (v:Value) (ok:Bool) (q:Rat) (w:World) (h:iD w v ok q) (hn:Qn v 1000000000) :
  Calls Tryz.prog 119 #[v] w (GQ q w):=by
 cases ok
 ·exact a1j v q w h hn
 ·exact a3r v q w h hn
structure jW (F:Nat->Prop) (w w':World):Prop where
 blk:∀ b,F b->w'.heap[b]?=w.heap[b]?
 dig:∀ b o n,w.cell? ⟨b,o,none⟩=some (.int .u32 n)->w'.cell? ⟨b,o,none⟩=some (.int .u32 n)
 size:w.heap.size<=w'.heap.size
theorem jW.refl (F:Nat->Prop) (w:World):jW F w w:=⟨fun _ _=>rfl,fun _ _ _ h=>h,aj _⟩
theorem jW.trans {F:Nat->Prop} {a b c:World} (h:jW F a b) (k:jW F b c):jW F a c :=
 ⟨fun q hq=>(k.blk q hq).trans (h.blk q hq),fun q o n hc=>k.dig q o n (h.dig q o n hc),jg h.size k.size⟩
theorem jW.less {F F':Nat->Prop} {a b:World} (h:jW F' a b) (hF:∀ q,F q->F' q):jW F a b:=⟨fun q hq=>h.blk q (hF q hq),h.dig,h.size⟩
theorem cell_lt {w:World} {b o:Nat} {v:Value} (h:w.cell? ⟨b,o,none⟩=some v):b<w.heap.size:=by
 simp only[World.cell?] at h
 by_cases hb:b<w.heap.size
 ·exact hb
 ·grind
theorem jW.below {F:Nat->Prop} {w w':World} (h:Below w.heap.size w w') (hF:∀ q,F q->q<w.heap.size):jW F w w' :=
 ⟨fun q hq=>h.block q (hF q hq),fun b o n hc=>(h.cell (p:=⟨b,o,none⟩) (cell_lt hc)).trans hc,h.size⟩
theorem Rd.stay {F:Nat->Prop} {w w':World} {s:Value} {l:List Nat} (h:Rd w s l) (hs:jW F w w'):Rd w' s l:=by
 rcases h with h|⟨b,o,c,h1,h2,h3,h4,h5⟩
 ·exact .inl h
 ·exact .inr ⟨b,o,c,h1,h2,h3,ku h4 hs.size,fun i hi=>hs.dig _ _ _ (h5 i hi)⟩
theorem dR.stay {F:Nat->Prop} {w w':World} {v:Value} {x:Int} (h:dR w v x) (hs:jW F w w'):dR w' v x:=by
 obtain⟨s,h1,h2⟩:=h
 exact⟨s,h1,h2.stay hs⟩
theorem RQ.stay {F:Nat->Prop} {w w':World} {v:Value} {x:Rat} (h:RQ w v x) (hs:jW F w w'):RQ w' v x:=by
 obtain⟨b,s,c,t,h1,h2,h3⟩:=h
 exact⟨b,s,c,t,h1,h2.stay hs,h3.stay hs⟩
theorem iQ.stay {F:Nat->Prop} {w w':World} {v:Value} {ok:Bool} {x:Int} (h:iQ w v ok x) (hs:jW F w w'):iQ w' v ok x:=by
 obtain⟨neg,s,l,h1,h2,h3⟩:=h
 exact⟨neg,s,l,h1,h2.stay hs,h3⟩
theorem iD.stay {F:Nat->Prop} {w w':World} {v:Value} {ok:Bool} {x:Rat} (h:iD w v ok x) (hs:jW F w w'):iD w' v ok x:=by
 obtain⟨b,s,c,t,o1,x1,o2,x2,h1,h2,h3,h4⟩:=h
 exact⟨b,s,c,t,o1,x1,o2,x2,h1,h2.stay hs,h3.stay hs,h4⟩
structure a3E where
 ok:Bool
 x:Int
 g:List Nat
structure aF where
 ok:Bool
 x:Rat
 g:List Nat
 h:List Nat
abbrev a3E.n (x:a3E):Nat:=x.g.length
abbrev aF.n (x:aF):Nat:=x.g.length
abbrev aF.m (x:aF):Nat:=x.h.length
inductive Lf where
 | rat
 | big
 | dF
 | ND
 | str
 | grp
 | gsl
 | RY
 deriving DecidableEq
def Lf.den:Lf->Type
 | .rat=>Rat
 | .big=>Int
 | .dF=>aF
 | .ND=>a3E
 | .str=>ByteArray
 | .grp=>List Nat
 | .gsl=>List Nat
 | .RY=>Nat
def Lf.n:Lf->Nat
 | .rat=>4
 | .big=>2
 | .dF=>4
 | .ND=>2
 | .str=>1
 | .grp=>2
 | .gsl=>1
 | .RY=>1
def Lf.agg:Lf->Bool
 | .str=>false
 | .gsl=>false
 | .RY=>false
 | _=>true
def Lf.zero:(l:Lf)->l.den
 | .rat=>(0:Rat)
 | .big=>(0:Int)
 | .dF=>⟨false,0,[],[]⟩
 | .ND=>⟨true,0,[]⟩
 | .str=>ByteArray.empty
 | .grp=>[]
 | .gsl=>[]
 | .RY=>(0:Nat)
def Lf.rep (w:World) (cs:List Value):(l:Lf)->l.den->Prop
 | .rat,x=>RQ w (.agg cs.toArray) x
 | .big,x=>dR w (.agg cs.toArray) x
 | .dF,x=>∃ b p c b' p' c',cs=[.bool b,.slice p x.n c,.bool b',.slice p' x.m c']/\iD w (.agg cs.toArray) x.ok x.x/\Rd w (.slice p x.n c) x.g/\Rd w (.slice p' x.m c') x.h
 | .ND,x=>∃ b p c,cs=[.bool b,.slice p x.n c]/\iQ w (.agg cs.toArray) x.ok x.x/\Rd w (.slice p x.n c) x.g
 | .str,x=>cs=[.string x]
 | .grp,x=>∃ b s,cs=[.bool b,s]/\Rd w s x
 | .gsl,x=>∃ s,cs=[s]/\Rd w s x
 | .RY,x=>∃ b o,cs=[.pointer (some ⟨b,o,none⟩)]/\w.cell? ⟨b,o,none⟩=some (.int .u32 (Nat.cast (R:=Int) x))
inductive Ty where
 | bool
 | int (k:IntKind)
 | lf (l:Lf)
 | list (t:Ty)
 | arr (n:Nat) (t:Ty)
 | pair (a b:Ty)
 | unit
 | ref (t:Ty)
 | clo (f:Nat) (t:Ty)
 | nls (t:Ty)
 deriving DecidableEq
def Ty.den:Ty->Type
 | .bool=>Bool
 | .int _=>Int
 | .lf l=>l.den
 | .list t=>List t.den
 | .arr _ t=>List t.den
 | .pair a b=>a.den × b.den
 | .unit=>Unit
 | .ref t=>t.den
 | .clo _ t=>t.den
 | .nls t=>Option (List t.den)
def Ty.n:Ty->Nat
 | .lf l=>l.n
 | .arr n t=>n*t.n
 | .pair a b=>a.n+b.n
 | .unit=>0
 | _=>1
def Ty.agg:Ty->Bool
 | .lf l=>l.agg
 | .arr _ _=>true
 | .pair _ _=>true
 | .unit=>true
 | _=>false
def chunks {α:Type} (R:List Value->α->Prop):List Value->List α->Prop
 | cs,[]=>cs=[]
 | cs,y::ys=>∃ c1 c2,cs=c1++c2/\R c1 y/\chunks R c2 ys
def rep (F:Nat->Prop) (w:World):(t:Ty)->List Value->t.den->Prop
 | .bool,cs,x=>cs=[.bool x]
 | .int k,cs,x=>cs=[.int k x]
 | .lf l,cs,x=>Lf.rep w cs l x
 | .list t,cs,x=>∃ p c,cs=[.slice p (List.length (α:=t.den) x) c]/\List.length (α:=t.den) x<=c/\c<=9223372036854775807/\((x:List t.den)=[]\/∃ b o ds,p=some ⟨b,o,none⟩/\F b/\w.rangeAt b o ds/\chunks (rep F w t) ds x)
 | .arr n t,cs,x=>List.length (α:=t.den) x=n/\chunks (rep F w t) cs x
 | .pair a b,cs,x=>∃ c1 c2,cs=c1++c2/\rep F w a c1 x.1/\rep F w b c2 x.2
 | .unit,cs,_=>cs=[]
 | .ref t,cs,x=>∃ b o ds,cs=[.pointer (some ⟨b,o,none⟩)]/\F b/\w.rangeAt b o ds/\rep F w t ds x
 | .clo f t,cs,x=>∃ ds,cs=[.func (.func f) #[] ds.toArray]/\rep F w t ds x
 | .nls t,cs,x=>(x=(none:Option (List t.den))/\cs=[.slice none 0 0])\/∃ (ys:List t.den) (b o c:Nat) (ds:List Value),x=some ys/\cs=[.slice (some ⟨b,o,none⟩) ys.length c]/\ys.length<=c/\c<=9223372036854775807/\(ys=[]\/F b/\w.rangeAt b o ds/\chunks (rep F w t) ds ys)
theorem aX {α:Type} {R R':List Value->α->Prop} (h:∀ c y,R c y->R' c y):∀ (xs:List α) (cs:List Value),chunks R cs xs->chunks R' cs xs
 | [],_,hc=>hc
 | _::xs,_,⟨c1,c2,h1,h2,h3⟩=>⟨c1,c2,h1,h _ _ h2,aX h xs c2 h3⟩
theorem zD {F:Nat->Prop} {w w':World} (hs:jW F w w') {b o:Nat} {ds:List Value} (hF:F b) (h:w.rangeAt b o ds):w'.rangeAt b o ds:=fun j v hv=>(Cj (w:=w) (hs.blk b hF)).trans (h j v hv)
theorem Lf.stay {F:Nat->Prop} {w w':World} (hs:jW F w w') {cs:List Value}:{l:Lf}->{x:l.den}->Lf.rep w cs l x->Lf.rep w' cs l x
 | .rat,_,h=>RQ.stay h hs
 | .big,_,h=>dR.stay h hs
 | .dF,_,⟨b,p,c,b',p',c',h1,h2,h3,h4⟩=>⟨b,p,c,b',p',c',h1,h2.stay hs,h3.stay hs,h4.stay hs⟩
 | .ND,_,⟨b,p,c,h1,h2,h3⟩=>⟨b,p,c,h1,h2.stay hs,h3.stay hs⟩
 | .str,_,h=>h
 | .grp,_,⟨b,s,h1,h2⟩=>⟨b,s,h1,h2.stay hs⟩
 | .gsl,_,⟨s,h1,h2⟩=>⟨s,h1,h2.stay hs⟩
 | .RY,_,⟨b,o,h1,h2⟩=>⟨b,o,h1,hs.dig _ _ _ h2⟩
theorem dD {F F':Nat->Prop} {w w':World} (hF:∀ b,F b->F' b) (hs:jW F w w'):(t:Ty)->(cs:List Value)->(x:t.den)->rep F w t cs x->rep F' w' t cs x
 | .bool,_,_,h=>h
 | .int _,_,_,h=>h
 | .lf _,_,_,h=>Lf.stay hs h
 | .list t,_,x,⟨p,c,h1,h2,h3,h4⟩=>⟨p,c,h1,h2,h3,h4.imp id fun⟨b,o,ds,k1,k2,k3,k4⟩=>⟨b,o,ds,k1,hF b k2,zD hs k2 k3,aX (fun c y=>dD hF hs t c y) _ _ k4⟩⟩
 | .arr n t,_,_,⟨h1,h2⟩=>⟨h1,aX (fun c y=>dD hF hs t c y) _ _ h2⟩
 | .pair a b,_,_,⟨c1,c2,h1,h2,h3⟩=>⟨c1,c2,h1,dD hF hs a _ _ h2,dD hF hs b _ _ h3⟩
 | .unit,_,_,h=>h
 | .ref t,_,_,⟨b,o,ds,h1,h2,h3,h4⟩=>⟨b,o,ds,h1,hF b h2,zD hs h2 h3,dD hF hs t _ _ h4⟩
 | .clo _ t,_,_,⟨ds,h1,h2⟩=>⟨ds,h1,dD hF hs t _ _ h2⟩
 | .nls t,_,_,h=>h.imp id fun⟨ys,b,o,c,ds,h1,h2,h3,h4,h5⟩=>⟨ys,b,o,c,ds,h1,h2,h3,h4,h5.imp id fun⟨k2,k3,k4⟩=>⟨hF b k2,zD hs k2 k3,aX (fun c y=>dD hF hs t c y) _ _ k4⟩⟩
theorem Lf.len {w:World} {cs:List Value}:{l:Lf}->{x:l.den}->Lf.rep w cs l x->cs.length=l.n
 | .rat,_,h=>by
  obtain⟨_,_,_,_,h1,_⟩:=h
  rw[Value.agg.injEq] at h1
  have:=xu Array.size h1
  simpa [Lf.n] using this
 | .big,_,h=>by
  obtain⟨_,h1,_⟩:=h
  rw[Value.agg.injEq] at h1
  have:=xu Array.size h1
  simpa [Lf.n] using this
 | .dF,_,⟨_,_,_,_,_,_,h1,_⟩=>by rw[h1];rfl
 | .ND,_,⟨_,_,_,h1,_⟩=>by rw[h1];rfl
 | .str,_,h=>by rw[show cs=_ from h];rfl
 | .grp,_,⟨_,_,h1,_⟩=>by rw[h1];rfl
 | .gsl,_,⟨_,h1,_⟩=>by rw[h1];rfl
 | .RY,_,⟨_,_,h1,_⟩=>by rw[h1];rfl
theorem qV {α:Type} {R:List Value->α->Prop} {n:Nat} (h:∀ c y,R c y->c.length=n):∀ (xs:List α) (cs:List Value),chunks R cs xs->cs.length=xs.length*n
 | [],cs,hc=>by rw[show cs=[] from hc];simp
 | _::xs,_,⟨c1,c2,h1,h2,h3⟩=>by rw[h1,iw,h _ _ h2,qV h xs c2 h3,List.length_cons,Ah,Eb]
theorem dZ {F:Nat->Prop} {w:World}:(t:Ty)->(cs:List Value)->(x:t.den)->rep F w t cs x->cs.length=t.n
 | .bool,_,_,h=>by rw[show _=_ from h];rfl
 | .int _,_,_,h=>by rw[show _=_ from h];rfl
 | .lf _,_,_,h=>Lf.len h
 | .list t,_,x,⟨p,c,h1,_⟩=>by rw[h1];rfl
 | .arr n t,_,_,⟨h1,h2⟩=>by rw[qV (fun c y=>dZ t c y) _ _ h2,h1];rfl
 | .pair a b,_,_,⟨c1,c2,h1,h2,h3⟩=>by rw[h1,iw,dZ a _ _ h2,dZ b _ _ h3];rfl
 | .unit,_,_,h=>by rw[show _=_ from h];rfl
 | .ref t,_,_,⟨b,o,ds,h1,_⟩=>by rw[h1];rfl
 | .clo _ t,_,_,⟨ds,h1,_⟩=>by rw[h1];rfl
 | .nls t,_,_,h=>by rcases h with⟨_,rfl⟩|⟨ys,b,o,c,ds,_,rfl,_⟩<;>rfl
def dN (v:Value):Bool:=v.oneCell'&&bK v
def Ty.still:Ty->Bool
 | .int .u32=>false
 | .arr _ t=>t.still
 | .pair a b=>a.still&&b.still
 | _=>true
theorem Lf.ok {w:World} {cs:List Value}:{l:Lf}->{x:l.den}->Lf.rep w cs l x->∀ v ∈ cs,dN v=true
 | .rat,_,h=>by
  obtain⟨b,p,n,c,b',p',n',c',h1⟩:=RQ.form h
  rw[Value.agg.injEq] at h1
  rw[show cs=[.bool b,.slice p n c,.bool b',.slice p' n' c'] by simpa using xu Array.toList h1]
  simp[dN,bK,Value.oneCell']
 | .big,_,h=>by
  obtain⟨b,p,n,c,h1⟩:=dR.form h
  rw[Value.agg.injEq] at h1
  rw[show cs=[.bool b,.slice p n c] by simpa using xu Array.toList h1]
  simp[dN,bK,Value.oneCell']
 | .dF,_,⟨_,_,_,_,_,_,h1,_⟩=>by rw[h1];simp[dN,bK,Value.oneCell']
 | .ND,_,⟨_,_,_,h1,_⟩=>by rw[h1];simp[dN,bK,Value.oneCell']
 | .str,_,h=>by rw[show cs=_ from h];simp[dN,bK,Value.oneCell']
 | .grp,_,⟨_,s,h1,h2⟩=>by
  obtain⟨p,c,rfl,_⟩:=h2.form
  rw[h1];simp[dN,bK,Value.oneCell']
 | .gsl,_,⟨s,h1,h2⟩=>by
  obtain⟨p,c,rfl,_⟩:=h2.form
  rw[h1];simp[dN,bK,Value.oneCell']
 | .RY,_,⟨_,_,h1,_⟩=>by rw[h1];simp[dN,bK,Value.oneCell']
theorem EJ {α:Type} {R:List Value->α->Prop} {p:Value->Bool} (h:∀ c y,R c y->∀ v ∈ c,p v=true):∀ (xs:List α) (cs:List Value),chunks R cs xs->∀ v ∈ cs,p v=true
 | [],cs,hc=>by rw[show cs=[] from hc];simp
 | _::xs,_,⟨c1,c2,h1,h2,h3⟩=>by
  rw[h1]
  intro v hv
  rcases uq.1 hv with hv|hv
  ·grind
  ·exact EJ h xs c2 h3 v hv
theorem zH {F:Nat->Prop} {w:World}:(t:Ty)->t.still=true->(cs:List Value)->(x:t.den)->rep F w t cs x->∀ v ∈ cs,dN v=true
 | .bool,_,_,_,h=>by rw[show _=_ from h];simp[dN,bK,Value.oneCell']
 | .int k,hk,_,_,h=>by
  rw[show _=_ from h]
  cases k<;>simp_all [dN,bK,Value.oneCell',Ty.still]
 | .lf _,_,_,_,h=>Lf.ok h
 | .list t,_,_,x,⟨p,c,h1,_⟩=>by rw[h1];simp[dN,bK,Value.oneCell']
 | .arr n t,hk,_,_,⟨h1,h2⟩=>EJ (fun c y=>zH t hk c y) _ _ h2
 | .pair a b,hk,_,_,⟨c1,c2,h1,h2,h3⟩=>by
  simp only[Ty.still,ak] at hk
  rw[h1]
  intro v hv
  rcases uq.1 hv with hv|hv
  ·exact zH a hk.1 _ _ h2 v hv
  ·exact zH b hk.2 _ _ h3 v hv
 | .unit,_,_,_,h=>by rw[show _=_ from h];simp
 | .ref t,_,_,_,⟨b,o,ds,h1,_⟩=>by rw[h1];simp[dN,bK,Value.oneCell']
 | .clo _ t,_,_,_,⟨ds,h1,_⟩=>by rw[h1];simp[dN,bK,Value.oneCell']
 | .nls t,_,_,_,h=>by rcases h with⟨_,rfl⟩|⟨ys,b,o,c,ds,_,rfl,_⟩<;>simp[dN,bK,Value.oneCell']
def Ty.zero:(t:Ty)->t.den
 | .bool=>false
 | .int _=>(0:Int)
 | .lf l=>l.zero
 | .list _=>[]
 | .arr n t=>List.replicate n t.zero
 | .pair a b=>(a.zero,b.zero)
 | .unit=>()
 | .ref t=>t.zero
 | .clo _ t=>t.zero
 | .nls _=>none
theorem WU {α:Type} {R:List Value->α->Prop} {n:Nat} (h:∀ c y,R c y->c.length=n):∀ (xs:List α) (cs:List Value),chunks R cs xs->∀ (i:Nat) (d:α),i<xs.length->∃ c,(cs.drop (i*n)).take n=c/\R c (xs.getD i d)
 | x::xs,_,⟨c1,c2,h1,h2,h3⟩,0,d,_=>⟨c1,by rw[h1,Nat.zero_mul,List.drop_zero,<-h _ _ h2,Du],h2⟩
 | x::xs,_,⟨c1,c2,h1,h2,h3⟩,i+1,d,hi=>by
  obtain⟨c,k1,k2⟩:=WU h xs c2 h3 i d (by simpa using hi)
  refine⟨c,?_,k2⟩
  rw[h1,Ah,Eb,<-List.drop_drop,<-h _ _ h2,Bo,h _ _ h2]
  exact k1
theorem zC {w:World} {b o:Nat} {ds:List Value} (h:w.rangeAt b o ds) (k n:Nat):w.rangeAt b (o+k) ((ds.drop k).take n):=fun j v hv=>by
 have h1:ds[k+j]?=some v:=by
  rw[List.getElem?_take] at hv
  split at hv
  ·grind
  ·cases hv
 have:=h (k+j) v h1
 grind
section
structure Part where
 t:Ty
 x:t.den
def nest:List Ty->Ty
 | []=>.unit
 | t::ts=>.pair t (nest ts)
def Ty.toV (t:Ty) (cs:List Value):Value:=if t.agg then .agg cs.toArray else cs.headD undef
def kC (F:Nat->Prop) (w:World) (t:Ty) (v:Value) (x:t.den):Prop:=∃ cs,v=t.toV cs/\rep F w t cs x
def jT (F:Nat->Prop) (w:World):(ts:List Ty)->List Value->(nest ts).den->Prop
 | [],vs,_=>vs=[]
 | t::ts,vs,x=>∃ v vs',vs=v::vs'/\kC F w t v x.1/\jT F w ts vs' x.2
theorem gW {F F':Nat->Prop} {w w':World} (hF:∀ b,F b->F' b) (hs:jW F w w') {t:Ty} {v:Value} {x:t.den} (h:kC F w t v x):kC F' w' t v x:=by
 obtain⟨cs,h1,h2⟩:=h
 exact⟨cs,h1,dD hF hs t _ _ h2⟩
theorem kZ {F F':Nat->Prop} {w w':World} (hF:∀ b,F b->F' b) (hs:jW F w w'):(ts:List Ty)->(vs:List Value)->(x:(nest ts).den)->jT F w ts vs x->jT F' w' ts vs x
 | [],_,_,h=>h
 | t::ts,_,x,⟨v,vs',h1,h2,h3⟩=>⟨v,vs',h1,gW hF hs h2,kZ hF hs ts vs' x.2 h3⟩
inductive K0 where
 | val (t:Ty) (x:t.den)
 | own (r ver:Nat)
 | ptr (r off:Nat)
 | nK (r:Nat)
inductive K where
 | any
 | val (t:Ty) (x:t.den)
 | nil
 | ptr (r off:Nat)
 | own (r ver:Nat)
 | when (b:Bool) (k:K)
 | tup (ts:List Ty) (x:(nest ts).den)
 | cell (r ver i:Nat)
 | mrow (r ver id:Nat)
 | mpos (r ver id j:Nat)
 | nK (r:Nat)
 | mix (l:List K0)
 | fn (g:FuncId) (l:List K0)
 | sng (r ver:Nat)
def k0K:K0->K
 | .val t x=>.val t x
 | .own r v=>.own r v
 | .ptr r o=>.ptr r o
 | .nK r=>.nK r
inductive Res where
 | none
 | box (ps:List Part)
 | row (e:TypeId) (t:Ty) (xs:List t.den) (ver:Nat)
 | fro (t:Ty) (xs:List t.den) (ver:Nat)
 | mat (e e2:TypeId) (t:Ty) (ids:Option (List Nat)) (xss:List (List t.den)) (ver:Nat)
 | mJ (k:K)
 | gone
structure Env where
 blk:Nat->Option Nat
 sl:Nat->Value
 base:Nat->Prop
 inn:Nat->Nat->Value
 qK:Nat->Prop
 par:Nat->Value
structure Fix where
 base:Nat->Prop
 qK:Nat->Prop
 par:Nat->Value
def Env.fix (E:Env):Fix:=⟨E.base,E.qK,E.par⟩
def bU:Value->Option Nat
 | .slice (some a) _ _=>some a.block
 | _=>none
def fz (w:World) (E:Env) (q:Nat):Prop:=(q<w.heap.size/\E.base q)/\(∀ r,E.blk r≠some q)/\∀ r id,bU (E.inn r id)≠some q
def gv (v:Nat):Nat:=v / 65536
def nx (v:Nat):Nat:=(v / 65536+1)*65536
theorem XL (v:Nat):gv v<gv (nx v):=by unfold gv nx;omega
def nxf (v:Nat):Nat:=nx v+v%2
theorem a9B (v:Nat):gv v<gv (nxf v):=by unfold gv nxf nx;omega
theorem b0h (v:Nat):v<=nxf v:=by unfold nxf nx;omega
theorem a2n (v:Nat):v<=nx v:=by unfold nx;omega
theorem JY {v v':Nat} (h:v<=v'):gv v<=gv v':=by unfold gv;omega
def Res.isRow (v:Nat):Res->Prop
 | .row _ _ _ v'=>gv v'=gv v
 | .fro _ _ v'=>gv v'=gv v
 | .mat _ _ _ _ _ v'=>gv v'=gv v
 | _=>False
def Res.nZ (v:Nat):Res->Prop
 | .mat _ _ _ _ _ v'=>v'=v
 | _=>False
def Res.fJ (v:Nat):Res->Prop
 | .row _ _ _ v'=>v<=v'
 | .fro _ _ v'=>v<=v'
 | .mat _ _ _ _ _ v'=>v<=v'
 | _=>False
def Res.oW:Res->Prop
 | .box _=>True
 | _=>False
def Res.nR:Res->Prop
 | .mJ _=>True
 | _=>False
def Res.FQ:Res->Prop
 | .mJ _=>True
 | .gone=>True
 | _=>False
def Res.esz:Res->Nat
 | .row _ t _ _=>t.n
 | .fro t _ _=>t.n
 | .mat _ _ _ _ _ _=>1
 | _=>0
def Res.msz:Res->Nat
 | .mat _ _ t _ _ _=>t.n
 | _=>0
def Res.cnt:Res->Nat
 | .mat _ _ _ _ xss _=>xss.length
 | _=>0
def a5O (F:Nat->Prop) (E:Env) (ρ:Nat->Res) (w:World):K0->Value->Prop
 | .val t x,v=>kC F w t v x
 | .own r ver,v=>Res.isRow ver (ρ r)->v=E.sl r
 | .ptr r off,v=>∃ b,E.blk r=some b/\v=.pointer (some ⟨b,off,none⟩)
 | .nK r,v=>Res.nR (ρ r)->∃ b,E.blk r=some b/\v=.pointer (some ⟨b,0,none⟩)
def oU (F:Nat->Prop) (E:Env) (ρ:Nat->Res) (w:World):List K0->List Value->Prop
 | [],vs=>vs=[]
 | k::ks,vs=>∃ v vs',vs=v::vs'/\a5O F E ρ w k v/\oU F E ρ w ks vs'
def K.holds (E:Env) (ρ:Nat->Res) (w:World):K->Value->Prop
 | .any,_=>True
 | .val t x,v=>kC (fz w E) w t v x
 | .nil,v=>v=.slice none 0 0
 | .ptr r off,v=>∃ b,E.blk r=some b/\v=.pointer (some ⟨b,off,none⟩)
 | .own r ver,v=>Res.isRow ver (ρ r)->v=E.sl r
 | .when b k,v=>(b=true->k.holds E ρ w v)/\(b=false->v=undef)
 | .tup ts x,v=>∃ vs,v=.tuple vs.toArray/\jT (fz w E) w ts vs x
 | .cell r ver i,v=>Res.isRow ver (ρ r)->∃ b,bU (E.sl r)=some b/\v=.pointer (some ⟨b,i*(ρ r).esz,none⟩)
 | .mrow r ver id,v=>Res.nZ ver (ρ r)->v=E.inn r id
 | .mpos r ver id j,v=>Res.nZ ver (ρ r)->∃ b,bU (E.inn r id)=some b/\v=.pointer (some ⟨b,j*(ρ r).msz,none⟩)
 | .nK r,v=>Res.nR (ρ r)->∃ b,E.blk r=some b/\v=.pointer (some ⟨b,0,none⟩)
 | .mix ks,v=>∃ vs,v=.tuple vs.toArray/\oU (fz w E) E ρ w ks vs
 | .fn g ks,v=>∃ vs,v=.func (.func g) #[] vs.toArray/\oU (fz w E) E ρ w ks vs
 | .sng r ver,v=>Res.isRow ver (ρ r)->∃ b,v=.slice (some ⟨b,0,none⟩) 1 1/\fz w E b/\w.rangeAt b 0 [E.sl r]
theorem EX {E:Env} {ρ:Nat->Res} {w:World} {k:K0} {v:Value}:a5O (fz w E) E ρ w k v↔(k0K k).holds E ρ w v:=by cases k<;>exact Iff.rfl
def bY:List Prop->Prop
 | []=>True
 | p::ps=>p/\bY ps
theorem bW {a b:List Prop}:bY (a++b)↔bY a/\bY b:=by
 induction a with
 | nil=>simp[bY]
 | cons p ps ih=>simp[bY,ih,and_assoc]
abbrev PK:=Option (List Prop × K)
def uU (P:Program) (t:TypeId):Option Bool:=(P.underlying t).map fun d=>match d with | .struct _ | .array _ _=>true|_=>false
def fitsT (P:Program) (t:TypeId) (ty:Ty):Bool:=(P.info? t).map (·.size)==some ty.n&&uU P t==some ty.agg
def JU:(t:Ty)->t.den->Nat->Option (Nat × Part)
 | .pair a _,x,0=>some (0,⟨a,x.1⟩)
 | .pair a b,x,i+1=>(JU b x.2 i).map fun p=>(a.n+p.1,p.2)
 | .lf .rat,x,0=>some (0,⟨.lf .big,Rat.num x⟩)
 | .lf .rat,x,1=>some (2,⟨.lf .big,(Rat.den x:Int)⟩)
 | .lf .dF,x,0=>some (0,⟨.lf .grp,aF.g x⟩)
 | .lf .dF,x,1=>some (2,⟨.lf .grp,aF.h x⟩)
 | .lf .grp,x,1=>some (1,⟨.lf .gsl,x⟩)
 | _,_,_=>none
def a3R (P:Program) (s:TypeId) (i o:Nat) (ty:Ty):Bool:=match P.underlying s with
 | some (.struct fs)=>match fs[i]? with
  | some f=>f.offset==o&&fitsT P f.type ty&&decide (0<ty.n)
  | none=>false
 | _=>false
def qO (P:Program) (s:TypeId) (n:Option Nat) (ty:Ty):Bool:=match P.underlying s,n with
 | some (.slice e),none=>fitsT P e ty
 | some (.array m e),some k=>m==k&&fitsT P e ty
 | _,_=>false
def a5B (P:Program) (s:TypeId):Bool:=match P.underlying s with
 | some (.slice e)=>fitsT P e (.int .u32)
 | _=>false
theorem vW {F:Nat->Prop} {w:World}:(t:Ty)->(x:t.den)->(i o:Nat)->(p:Part)->(cs:List Value)->JU t x i=some (o,p)->rep F w t cs x->rep F w p.t ((cs.drop o).take p.t.n) p.x
 | .pair a b,x,0,o,p,cs,h,⟨c1,c2,h1,h2,h3⟩=>by
  obtain⟨rfl,rfl⟩:=h
  have:=dZ a _ _ h2
  grind
 | .pair a b,x,i+1,o,p,cs,h,⟨c1,c2,h1,h2,h3⟩=>by
  simp only[JU,je] at h
  obtain⟨⟨o',p'⟩,h4,h5⟩:=h
  obtain⟨rfl,rfl⟩:=h5
  have:=dZ a _ _ h2
  rw[h1,<-List.drop_drop,<-this,Bo]
  exact vW b x.2 i o' p' c2 h4 h3
 | .lf .rat,x,0,o,p,cs,h,hr=>by
  obtain⟨rfl,rfl⟩:=h
  obtain⟨b,s,c,t,h1,h2,h3⟩:RQ w (.agg cs.toArray) x:=hr
  rw[show cs=[b,s,c,t] by simpa using h1]
  exact h2
 | .lf .rat,x,1,o,p,cs,h,hr=>by
  obtain⟨rfl,rfl⟩:=h
  obtain⟨b,s,c,t,h1,h2,h3⟩:RQ w (.agg cs.toArray) x:=hr
  rw[show cs=[b,s,c,t] by simpa using h1]
  exact h3
 | .lf .dF,x,0,o,p,cs,h,hr=>by
  obtain⟨rfl,rfl⟩:=h
  obtain⟨b,q,c,b',q',c',rfl,h2,h3,h4⟩:=hr
  exact⟨b,_,rfl,h3⟩
 | .lf .dF,x,1,o,p,cs,h,hr=>by
  obtain⟨rfl,rfl⟩:=h
  obtain⟨b,q,c,b',q',c',rfl,h2,h3,h4⟩:=hr
  exact⟨b',_,rfl,h4⟩
 | .lf .grp,x,1,o,p,cs,h,hr=>by
  obtain⟨rfl,rfl⟩:=h
  obtain⟨b,s,rfl,h2⟩:=hr
  exact⟨s,rfl,h2⟩
def a6L:(ts:List Ty)->(nest ts).den->Nat->Option Part
 | [],_,_=>none
 | t::_,x,0=>some ⟨t,x.1⟩
 | _::ts,x,i+1=>a6L ts x.2 i
theorem YW {F:Nat->Prop} {w:World}:(ts:List Ty)->(x:(nest ts).den)->(i:Nat)->(p:Part)->(vs:List Value)->a6L ts x i=some p->jT F w ts vs x->∃ v,vs[i]?=some v/\kC F w p.t v p.x
 | t::ts,x,0,p,vs,h,⟨v,vs',h1,h2,h3⟩=>by
  simp only[a6L] at h
  grind
 | t::ts,x,i+1,p,vs,h,⟨v,vs',h1,h2,h3⟩=>by
  obtain⟨v',k1,k2⟩:=YW ts x.2 i p vs' h h3
  grind
def jE (t t':Ty) (x:t.den):Option t'.den:=if h:t=t' then some (h ▸ x) else none
def mQ (c:Bool):K->K->PK
 | .val t x,.val t' y=>(jE t' t y).map fun y=>([],.val t (bif c then x else y))
 | .when b (.val t x),.val t' y=>(jE t' t y).map fun y=>([c=true->b=true],.val t (bif c then x else y))
 | .val t x,.when b (.val t' y)=>(jE t' t y).map fun y=>([c=false->b=true],.val t (bif c then x else y))
 | .when b (.val t x),.when b' (.val t' y)=>(jE t' t y).map fun y=>([c=true->b=true,c=false->b'=true],.val t (bif c then x else y))
 | _,_=>none
def a9Y (op:BinOp) (k:IntKind) (a b:Int):PK:=match op with
 | .add=>some ([],.val (.int k) (k.wrap (a+b)))
 | .sub=>some ([],.val (.int k) (k.wrap (a-b)))
 | .mul=>some ([],.val (.int k) (k.wrap (a*b)))
 | .quo=>some ([b≠0],.val (.int k) (k.wrap (a.tdiv b)))
 | .rem=>some ([b≠0],.val (.int k) (a.tmod b))
 | .eql=>some ([],.val .bool (a==b))
 | .neq=>some ([],.val .bool (a != b))
 | .lss=>some ([],.val .bool (decide (a<b)))
 | .leq=>some ([],.val .bool (decide (a<=b)))
 | .gtr=>some ([],.val .bool (decide (a > b)))
 | .geq=>some ([],.val .bool (decide (a ≥ b)))
 | _=>none
def yL:Value->K
 | .bool b=>.val .bool b
 | .int k n=>.val (.int k) n
 | .slice none 0 0=>.nil
 | _=>.any
def a5M (P:Program) (t:TypeId):Bool:=match P.underlying t with
 | some .bool=>true
 | _=>false
def c1Q (P:Program) (s t:TypeId):Option IntKind:=match P.underlying s,P.underlying t with
 | some _,some (.int k)=>some k
 | _,_=>none
def rZ (P:Program) (t:TypeId):Bool:=match P.underlying t with
 | some (.slice _)=>true
 | _=>false
def JO (ty:Ty) (ys:List ty.den) (m:Nat) (n:Int):PK:=some ([0<=n,n<m],.val (.ref ty) (ys.getD n.toNat ty.zero))
def b3f (ty:Ty) (ys:List ty.den) (m:Nat) (n:Int):PK:=some ([0<=n,n<m],.val ty (ys.getD n.toNat ty.zero))
def MW (ty:Ty) (ys:List ty.den):PK:=some ([],.val (.int .i64) (ys.length:Int))
def b6j (l:List Nat):PK:=some ([],.val (.int .i64) (l.length:Int))
def a5y (l:List Nat) (n:Int):PK:=some ([0<=n,n<l.length],.val (.lf .RY) (l.getD n.toNat 0))
def eqB (op:BinOp) (a b:Bool):PK:=match op with
 | .eql=>some ([],.val .bool (a==b))
 | .neq=>some ([],.val .bool (a != b))
 | _=>none
def b3D (op:BinOp) (b:Bool):PK:=match op with
 | .eql=>some ([],.val .bool (!b))
 | .neq=>some ([],.val .bool b)
 | _=>none
def ZB (k:IntKind) (n:Int):PK:=some ([],.val (.int k) (k.wrap n))
def b6t (k:IntKind) (n:Int):PK:=ZB k (0-n)
def b6w (b:Bool):PK:=some ([],.val .bool (!b))
def BR (ref:Bool) (P:Program) (s:TypeId) (i:Nat) (ty:Ty) (y:ty.den):PK:=match JU ty y i with
 | some (o,p)=>if a3R P s i o p.t&&ty.agg then some ([],if ref then .val (.ref p.t) p.x else .val p.t p.x) else none
 | none=>none
def gI (P:Program) (k:Operand->K):Op->PK
 | .move x=>some ([],k x)
 | .assign x=>some ([],k x)
 | .pick c a b=>match k c with
  | .val .bool cb=>mQ cb (k a) (k b)
  | _=>none
 | .load t x=>match k x with
  | .val (.ref ty) y=>if fitsT P t ty then some ([],.val ty y) else none
  | .val (.lf .RY) y=>if fitsT P t (.int .u32) then some ([],.val (.int .u32) (Nat.cast (R:=Int) y)) else none
  | _=>none
 | .fieldAddr s x i=>match k x with
  | .val (.ref ty) y=>BR true P s i ty y
  | _=>none
 | .field s x i=>match k x with
  | .val ty y=>BR false P s i ty y
  | _=>none
 | .indexAddr s x i=>match k x,k i with
  | .val (.list ty) ys,.val (.int _) n=>if qO P s none ty then JO ty ys (List.length (α:=ty.den) ys) n else none
  | .val (.ref (.arr m ty)) ys,.val (.int _) n=>if qO P s (some m) ty then JO ty ys m n else none
  | .val (.lf .gsl) l,.val (.int _) n=>if a5B P s then a5y l n else none
  | _,_=>none
 | .index s x i=>match k x,k i with
  | .val (.arr m ty) ys,.val (.int _) n=>if qO P s (some m) ty then b3f ty ys m n else none
  | _,_=>none
 | .extract x i=>match k x with
  | .tup ts y=>match a6L ts y i with
   | some p=>some ([],.val p.t p.x)
   | none=>none
  | .mix ks=>match ks[i]? with
   | some k=>some ([],k0K k)
   | none=>none
  | _=>none
 | .binOp op t x y _=>match k x,k y with
  | .val (.int ka) a,.val (.int kb) b=>if ka=kb then a9Y op ka a b else none
  | .val .bool a,.val .bool b=>if a5M P t then eqB op a b else none
  | .val (.nls ty) x,.nil=>if rZ P t then b3D op (Option.isSome (α:=List ty.den) x) else none
  | _,_=>none
 | .unOp .not _ x=>match k x with
  | .val .bool b=>b6w b
  | _=>none
 | .unOp .neg _ x=>match k x with
  | .val (.int kk) n=>b6t kk n
  | _=>none
 | .convert s t x=>match k x,c1Q P s t with
  | .val (.int _) n,some kk=>ZB kk n
  | _,_=>none
 | .nilCheck x=>match k x with
  | .val (.ref t) y=>some ([],.val (.ref t) y)
  | .val (.clo f t) y=>some ([],.val (.clo f t) y)
  | _=>none
 | .call { callee:=.builtin .len,args:=xs,argTypes:=ts }=>match xs.toList,ts.toList with
  | [x],[t]=>if rZ P t then (match k x with
   | .val (.list ty) ys=>MW ty ys
   | .val (.lf .gsl) l=>b6j l
   | .nil=>MW .unit []
   | .val (.nls ty) ys=>MW ty (Option.getD (α:=List ty.den) ys [])
   | _=>none) else none
  | _,_=>none
 | _=>none
def BF (P:Program) (E:Env) (ρ:Nat->Res) (w:World) (o:Oper) (ev:Operand->Value) (k:K):Prop:=∃ v,(execOp ev o).run P w=.ok (.value v) w/\k.holds E ρ w v
section
variable {P:Program} {E:Env} {ρ:Nat->Res} {w:World}
theorem fC {t t':Ty} {x:t.den} {y:t'.den} (h:jE t t' x=some y):∃ e:t=t',e ▸ x=y:=by
 unfold jE at h
 split at h
 ·grind
 ·cases h
theorem b0M {c:Bool} {ka kb k:K} {vc:List Prop} (h:mQ c ka kb=some (vc,k)) (hv:bY vc) {u v:Value} (ha:ka.holds E ρ w u) (hb:kb.holds E ρ w v):k.holds E ρ w (if c then u else v):=by
 cases ka<;>try (simp[mQ] at h;done)
 case val t x =>
  cases kb<;>try (simp[mQ] at h;done)
  case val t' y =>
   simp only[mQ,je] at h
   obtain⟨y',h1,rfl,rfl⟩:=h
   obtain⟨rfl,rfl⟩:=fC h1
   cases c
   ·exact hb
   ·exact ha
  case when b kb =>
   cases kb<;>try (simp[mQ] at h;done)
   case val t' y =>
    simp only[mQ,je] at h
    obtain⟨y',h1,rfl,rfl⟩:=h
    obtain⟨rfl,rfl⟩:=fC h1
    cases c
    ·exact hb.1 (hv.1 rfl)
    ·exact ha
 case when b ka =>
  cases ka<;>try (simp[mQ] at h;done)
  case val t x =>
   cases kb<;>try (simp[mQ] at h;done)
   case val t' y =>
    simp only[mQ,je] at h
    obtain⟨y',h1,rfl,rfl⟩:=h
    obtain⟨rfl,rfl⟩:=fC h1
    cases c
    ·exact hb
    ·exact ha.1 (hv.1 rfl)
   case when b' kb =>
    cases kb<;>try (simp[mQ] at h;done)
    case val t' y =>
     simp only[mQ,je] at h
     obtain⟨y',h1,rfl,rfl⟩:=h
     obtain⟨rfl,rfl⟩:=fC h1
     cases c
     ·exact hb.1 (hv.2.1 rfl)
     ·exact ha.1 (hv.1 rfl)
theorem a7e (v:Value):(yL v).holds E ρ w v:=by
 unfold yL
 split
 ·exact⟨[.bool _],rfl,rfl⟩
 ·exact⟨[.int _ _],rfl,rfl⟩
 ·rfl
 ·trivial
theorem IL {t:TypeId} {b:Bool} (h:uU P t=some b):(isAgg t).run P w=.ok b w:=by
 unfold uU at h
 cases hu:P.underlying t with
 | none=>rw[hu] at h;cases h
 | some d =>
  rw[hu] at h
  unfold isAgg
  rw[jc,qj hu w]
  cases d<;>simp_all
theorem iI {t:TypeId} {ty:Ty} (h:fitsT P t ty=true):(∃ i,P.info? t=some i/\i.size=ty.n)/\uU P t=some ty.agg:=by
 unfold fitsT at h
 simp only[ak,ji] at h
 refine⟨?_,h.2⟩
 cases hi:P.info? t with
 | none=>rw[hi] at h;simp at h
 | some i=>rw[hi] at h;exact⟨i,rfl,by simpa using h.1⟩
theorem run_sizeOf {t:TypeId} {i:TypeInfo} (h:P.info? t=some i):(sizeOf t).run P w=.ok i.size w:=by simp[sizeOf,typeInfo,h]
theorem wG {t:TypeId} {ty:Ty} (h:fitsT P t ty=true) {cs:List Value} {o:Nat} {F:Nat->Prop} {x:ty.den} (hr:rep F w ty ((cs.drop o).take ty.n) x):(part t cs.toArray o).run P w=.ok (ty.toV ((cs.drop o).take ty.n)) w:=by
 obtain⟨⟨i,hi,hn⟩,ha⟩:=iI h
 have hl:=dZ ty _ _ hr
 unfold part Ty.toV
 rw[jc,IL ha]
 cases hg:ty.agg
 ·have h1:ty.n=1:=by cases ty<;>simp_all [Ty.agg,Ty.n];rename_i l;cases l<;>simp_all [Lf.agg,Lf.n]
  rw[h1] at hl ⊢
  have h2:o<cs.length:=by
   grind
  simp[dw h2,List.take_one]
 ·simp only[Result.andThen_ok,Dk,jc,run_sizeOf hi,Sem.run_pure]
  grind
theorem kT {t:TypeId} {ty:Ty} (h:fitsT P t ty=true) {b o:Nat} {ds:List Value} {F:Nat->Prop} {x:ty.den} (hc:w.rangeAt b o ds) (hr:rep F w ty ds x):(loadVar t ⟨b,o,none⟩).run P w=.ok (ty.toV ds) w:=by
 obtain⟨⟨i,hi,hn⟩,ha⟩:=iI h
 have hl:=dZ ty _ _ hr
 unfold Ty.toV
 cases hg:ty.agg
 ·have h1:ty.n=1:=by cases ty<;>simp_all [Ty.agg,Ty.n];rename_i l;cases l<;>simp_all [Lf.agg,Lf.n]
  rw[h1] at hl
  obtain⟨v,rfl⟩:∃ v,ds=[v]:=by
   match ds,hl with
   | [v],_=>exact⟨v,rfl⟩
  have hc0:=hc 0 v rfl
  rw[Nat.add_zero] at hc0
  rw[hg] at ha
  simp[loadVar,IL ha,hc0]
 ·rw[hg] at ha
  have hd:∃ d,P.underlying t=some d/\d.isRow=true:=by
   unfold uU at ha
   cases hu:P.underlying t with
   | none=>rw[hu] at ha;cases ha
   | some d=>rw[hu] at ha;exact⟨d,rfl,by cases d<;>simp_all⟩
  obtain⟨d,hu,hd⟩:=hd
  exact run_loadVar_mid w b o t ds d hc hu hd (by simp[hi,hn,hl])
end
end
end Go.Proofs.YtgplhbhfdgempaaGreat
