/-
  Lemmas for the theorem vofmatrices_holds, part 10 of 32.
-/
import Derived.Test.YtidfgdchcpmnfaaGreatOm06
import Derived.Test.YtidfgdchcpmnfaaGreatOm09
namespace Go.Proofs.YtidfgdchcpmnfaaGreat
open Go.RowKit
set_option maxRecDepth 100000
set_option maxHeartbeats 4000000
set_option linter.unusedSimpArgs false
set_option linter.unusedVariables false
def GQC (q:Rat) (c:Int) (w:World) (e:Ending) (w':World):Prop:=∃ v,e=.returned (.tuple #[v,.int .i64 c])/\RQ w' v q/\Below w.heap.size w w'
def a9p (c:Int) (w:World) (e:Ending) (w':World):Prop:=e=.returned (.tuple #[.agg #[.bool false,.slice none 0 0,.bool false,.slice none 0 0],.int .i64 c])/\Below w.heap.size w w'
def a1J (q:Rat):Rat:=if q<0 then -q else q
theorem a6H (q:Rat):((q.num.natAbs:Nat):Int)=(a1J q).num:=by
 unfold a1J
 have h:=Rat.lt_iff q 0
 simp at h
 by_cases hq:q<0
 ·rw[if_pos hq,zD];have:=h.1 hq;omega
 ·rw[if_neg hq];have:¬ q.num<0:=fun k=>hq (h.2 k);omega
theorem a6G (q:Rat):(q.den:Int)=((a1J q).den:Int):=by unfold a1J;split<;>simp
theorem JX:∀ (a b c d:Value) (w:World),Sem.run Tryz.prog (Instr.field 30 (.agg #[a,b,c,d]) 0) w=.ok (.agg #[a,b]) w:=fun a b c d w=>by kernel_rfl
theorem a4t (v u:Value) (o1 o2:Bool) (x y:Int) (w:World) (hv:fJ w v o1 x) (hu:fJ w u o2 y) (hl:isz x<=1000000000) (hl2:isz y<=1000000000) (hd:y≠0) :
  Calls Tryz.prog 70 #[v,u] w (GQC (Rat.divInt x y) 0 w):=by
 obtain⟨b,p,n,c,rfl⟩:=hv.raw.form
 obtain⟨d,o,m,e,rfl⟩:=hu.raw.form
 have hsg:decide (sgn y=0)=false:=by have:=JE hd;simpa using this
 have KY:(sgn y==0)=false:=by have:=JE hd;simpa using this
 have aY:Below w.heap.size w w:=Below.refl _ _
 go_enter Tryz.func70,Tryz.ntmps70
 go_wp2_with fail
 obtain⟨hA1,q0,r0,t0⟩:=bx3 w rfl [.bool b,.slice p n c] 28 [.bool d,.slice o m e] 28 [.bool false,.slice none 0 0,.bool false,.slice none 0 0] 30
 obtain⟨b1,j1,f1,l1⟩:=q0.drew.cf2
 obtain⟨q1,a2,u1,d2⟩:=r0.drew.cf2
 have tk1:True:=trivial
 have tk2:True:=trivial
 go_region_with
  (first
   | (((have:=tk1);clear tk1;have u0:=(hv.below hA1).drew;go_at_call 116;(with_reducible refine(qR _ _ (x) _ u0 ).mono ?_);rintro e w1 ⟨v1,rfl,hi1,hb1⟩;obtain⟨g1,p1,n1,c1,rfl⟩:=hi1.form;have dF:=(r0.drew.to hb1);obtain⟨r1,b2,x1,e2⟩:=dF.cf2;have bF:=(q0.drew.to hb1);obtain⟨d1,k1,h1,m1⟩:=bF.cf2))
   | (((have:=tk2);clear tk2;have iU:=((hu.below hA1).drew.below hb1);have v0:=iU;go_at_call 116;(with_reducible refine(qR _ _ (y) _ v0 ).mono ?_);rintro e w2 ⟨v2,rfl,hi2,hb2⟩;obtain⟨g2,p2,n2,c2,rfl⟩:=hi2.form;have bV:=(bF.to hb2);obtain⟨a0,c0,b0,d0⟩:=bV.cf2;have bJ:=(dF.to hb2);obtain⟨e0,g0,f0,h0⟩:=bJ.cf2)))
 all_goals
  obtain⟨s1,y1⟩:=((bJ.aJ (b:=w.heap.size) (by omega) (.bool g1) (.slice p1 n1 c1)).store2 (.bool g2) (.slice p2 n2 c2)).cs2
  go_wp2_with fail
  have w0:=((hi2.aF bV rfl rfl (.bool g1) (.slice p1 n1 c1)).aF (bJ.aJ (b:=w.heap.size) (by omega) (.bool g1) (.slice p1 n1 c1)) rfl rfl (.bool g2) (.slice p2 n2 c2)).raw
  (with_reducible refine(lN _ ((y)) _ w0).mono ?_)
  rintro e w3 ⟨rfl,hb3⟩
  have gV:=(((bV.store2 (.bool g1) (.slice p1 n1 c1)).aJ (b:=w.heap.size+1) (by omega) (.bool g2) (.slice p2 n2 c2)).to hb3)
  obtain⟨e1,i1⟩:=gV.cs2
  have lY:=(((bJ.aJ (b:=w.heap.size) (by omega) (.bool g1) (.slice p1 n1 c1)).store2 (.bool g2) (.slice p2 n2 c2)).to hb3)
  obtain⟨t1,z1⟩:=lY.cs2
  go_wp2_with fail
  have z0:=((((hi1.below hb2).aF bV rfl rfl (.bool g1) (.slice p1 n1 c1)).aF (bJ.aJ (b:=w.heap.size) (by omega) (.bool g1) (.slice p1 n1 c1)) rfl rfl (.bool g2) (.slice p2 n2 c2)).below hb3)
  have x0:=z0
  have a1:=(((hi2.aF bV rfl rfl (.bool g1) (.slice p1 n1 c1)).aF (bJ.aJ (b:=w.heap.size) (by omega) (.bool g1) (.slice p1 n1 c1)) rfl rfl (.bool g2) (.slice p2 n2 c2)).below hb3)
  have y0:=a1
  (with_reducible refine(qV _ _ ((x)) ((y)) _ x0 y0 hl hl2 hd).mono ?_)
  rintro e w4 ⟨v4,rfl,hi4,hb4⟩
  obtain⟨g4,p4,n4,c4,h4,o4,m4,e4,rfl⟩:=hi4.form
  have lK:=((((((t0.drew.to hb1).to hb2).aJ (b:=w.heap.size) (by omega) (.bool g1) (.slice p1 n1 c1)).aJ (b:=w.heap.size+1) (by omega) (.bool g2) (.slice p2 n2 c2)).to hb3).to hb4)
  obtain⟨i0,m0,j0,n0,k0,o0,l0,p0⟩:=lK.cf4
  have s0:=(Below.tr (Below.tr (Below.aF (Below.aF (Below.tr (Below.tr (Below.tr aY hA1).drew hb1) hb2) (b:=w.heap.size) (by omega) (.bool g1) (.slice p1 n1 c1)) (b:=w.heap.size+1) (by omega) (.bool g2) (.slice p2 n2 c2)) hb3) hb4)
  go_wp2_with fail
  exact bodyPost_ret (v:=.tuple #[.agg #[.bool g4,.slice p4 n4 c4,.bool h4,.slice o4 m4 e4],.int .i64 0]) (by simp[results,Tryz.results70,go_sem,a0,c0,b0,d0,e0,g0,f0,h0,i0,m0,j0,n0,k0,o0,l0,p0]) rfl ⟨_,rfl,(hi4.aT lK rfl rfl rfl rfl (.bool g4) (.slice p4 n4 c4) (.bool h4) (.slice o4 m4 e4)),(Below.aT s0 (b:=w.heap.size+1+1) (by omega) (.bool g4) (.slice p4 n4 c4) (.bool h4) (.slice o4 m4 e4))⟩
theorem b0q (v u:Value) (o1 o2:Bool) (x y:Int) (w:World) (hv:fJ w v o1 x) (hu:fJ w u o2 y) (hd:y=0) :
  Calls Tryz.prog 70 #[v,u] w (a9p 14 w):=by
 obtain⟨b,p,n,c,rfl⟩:=hv.raw.form
 obtain⟨d,o,m,e,rfl⟩:=hu.raw.form
 have KY:(sgn y==0)=true:=by rw[hd];rfl
 have hd2:=Lib.hid hd
 clear hd
 have aY:Below w.heap.size w w:=Below.refl _ _
 go_enter Tryz.func70,Tryz.ntmps70
 go_wp2_with fail
 obtain⟨hA1,q0,r0,t0⟩:=bx3 w rfl [.bool b,.slice p n c] 28 [.bool d,.slice o m e] 28 [.bool false,.slice none 0 0,.bool false,.slice none 0 0] 30
 obtain⟨x0,b1,z0,e1⟩:=q0.drew.cf2
 obtain⟨h1,q1,k1,s1⟩:=r0.drew.cf2
 have tk1:True:=trivial
 have tk2:True:=trivial
 go_region_with
  (first
   | (((have:=tk1);clear tk1;have u0:=(hv.below hA1).drew;go_at_call 116;(with_reducible refine(qR _ _ (x) _ u0 ).mono ?_);rintro e w1 ⟨v1,rfl,hi1,hb1⟩;obtain⟨g1,p1,n1,c1,rfl⟩:=hi1.form;have dF:=(r0.drew.to hb1);obtain⟨i1,r1,l1,t1⟩:=dF.cf2;have bF:=(q0.drew.to hb1);obtain⟨y0,d1,a1,f1⟩:=bF.cf2))
   | (((have:=tk2);clear tk2;have iU:=((hu.below hA1).drew.below hb1);have v0:=iU;go_at_call 116;(with_reducible refine(qR _ _ (y) _ v0 ).mono ?_);rintro e w2 ⟨v2,rfl,hi2,hb2⟩;obtain⟨g2,p2,n2,c2,rfl⟩:=hi2.form;have bV:=(bF.to hb2);obtain⟨a0,c0,b0,d0⟩:=bV.cf2;have bJ:=(dF.to hb2);obtain⟨e0,g0,f0,h0⟩:=bJ.cf2)))
 all_goals
  obtain⟨j1,m1⟩:=((bJ.aJ (b:=w.heap.size) (by omega) (.bool g1) (.slice p1 n1 c1)).store2 (.bool g2) (.slice p2 n2 c2)).cs2
  go_wp2_with fail
  have w0:=((hi2.aF bV rfl rfl (.bool g1) (.slice p1 n1 c1)).aF (bJ.aJ (b:=w.heap.size) (by omega) (.bool g1) (.slice p1 n1 c1)) rfl rfl (.bool g2) (.slice p2 n2 c2)).raw
  (with_reducible refine(lN _ ((y)) _ w0).mono ?_)
  rintro e w3 ⟨rfl,hb3⟩
  have BK:=(((((t0.drew.to hb1).to hb2).aJ (b:=w.heap.size) (by omega) (.bool g1) (.slice p1 n1 c1)).aJ (b:=w.heap.size+1) (by omega) (.bool g2) (.slice p2 n2 c2)).to hb3)
  obtain⟨i0,m0,j0,n0,k0,o0,l0,p0⟩:=BK.cf4
  have s0:=(Below.tr (Below.aF (Below.aF (Below.tr (Below.tr (Below.tr aY hA1).drew hb1) hb2) (b:=w.heap.size) (by omega) (.bool g1) (.slice p1 n1 c1)) (b:=w.heap.size+1) (by omega) (.bool g2) (.slice p2 n2 c2)) hb3)
  go_wp2_with fail
  exact bodyPost_ret (v:=.tuple #[.agg #[.bool false,.slice none 0 0,.bool false,.slice none 0 0],.int .i64 14]) (by simp[results,Tryz.results70,go_sem,a0,c0,b0,d0,e0,g0,f0,h0,i0,m0,j0,n0,k0,o0,l0,p0]) rfl ⟨rfl,(Below.aT s0 (b:=w.heap.size+1+1) (by omega) (.bool false) (.slice none 0 0) (.bool false) (.slice none 0 0))⟩
theorem a6j (v:Value) (ok:Bool) (q:Rat) (w:World) (h:fE w v ok q) (hn:Qn v 1000000000) :
  Calls Tryz.prog 109 #[v] w (fun e w'=>e=.returned (.int .i64 (sgn q.num))/\Below w.heap.size w w'):=by
 obtain⟨b,p,n,c,d,o,m,e,rfl⟩:=h.form
 have hl:=h.iV hn (by omega)
 have b1:=dL q
 have b2:=cO q
 have b0:=JX
 have aY:Below w.heap.size w w:=Below.refl _ _
 go_enter Tryz.func109,Tryz.ntmps109
 go_wp2_with fail
 obtain⟨hA1,e0⟩:=bx1 w rfl [.bool b,.slice p n c,.bool d,.slice o m e] 30
 have c0:=(h.below hA1)
 (with_reducible refine(gZ _ _ (q) _ c0 hn).mono ?_)
 rintro e w1 ⟨v1,rfl,hi1,hb1⟩
 obtain⟨g1,p1,n1,c1,h1,o1,m1,e1,rfl⟩:=hi1.form
 go_wp2_with fail
 have d0:=hi1.num.raw
 (with_reducible refine(lN _ (((q)).num) _ d0).mono ?_)
 rintro e w2 ⟨rfl,hb2⟩
 have a0:=(Below.tr (Below.tr (Below.tr aY hA1) hb1) hb2)
 go_wp2_with fail
 go_ret
 exact⟨rfl,a0⟩
theorem a0E (v:Value) (ok:Bool) (q:Rat) (w:World) (h:fE w v ok q) (hn:Qn v 1000000000) :
  Calls Tryz.prog 108 #[v] w (GQ (-q) w):=by
 obtain⟨b,p,n,c,d,o,m,e,rfl⟩:=h.form
 have hl:=h.iV hn (by omega)
 have b1:=dL q
 have b2:=cO q
 have aY:Below w.heap.size w w:=Below.refl _ _
 go_enter Tryz.func108,Tryz.ntmps108
 go_wp2_with fail
 obtain⟨hA1,s0,t0⟩:=bx2 w rfl [.bool b,.slice p n c,.bool d,.slice o m e] 30 [.bool false,.slice none 0 0,.bool false,.slice none 0 0] 30
 have u0:=(h.below hA1)
 (with_reducible refine(gZ _ _ (q) _ u0 hn).mono ?_)
 rintro e w1 ⟨v1,rfl,hi1,hb1⟩
 obtain⟨g1,p1,n1,c1,h1,o1,m1,e1,rfl⟩:=hi1.form
 have bF:=(s0.to hb1)
 obtain⟨a0,e0,b0,f0,c0,g0,d0,h0⟩:=bF.cf4
 go_wp2_with fail
 have dF:=(t0.to hb1)
 have MI:=(aP.mk ((bF.jS (.bool g1) (.slice p1 n1 c1) (.bool h1) (.slice o1 m1 e1)).drew).bs4 (BN.of ((dF.dI (b:=w.heap.size) (by omega) (.bool g1) (.slice p1 n1 c1) (.bool h1) (.slice o1 m1 e1)).drew)))
 have q0:dD (w.heap.size+1) (aP (BS4 w.heap.size (.bool g1) (.slice p1 n1 c1) (.bool h1) (.slice o1 m1 e1)) (BN (w.heap.size+1))):=(aP.hc (BS4.hc (by omega)) BN.hc)
 have tk1:True:=trivial
 go_region_held3 (aP (BS4 w.heap.size (.bool g1) (.slice p1 n1 c1) (.bool h1) (.slice o1 m1 e1)) (BN (w.heap.size+1))) (first|with_reducible exact MI|with_reducible exact gB.go (aP.hk BS4.hk BN.hk) (by assumption) (by assumption)|with_reducible exact dD.go4 q0 (by assumption)|(simp;done))
  (first
   | (((have:=tk1);clear tk1;have v0:=(hi1.aT bF rfl rfl rfl rfl (.bool g1) (.slice p1 n1 c1) (.bool h1) (.slice o1 m1 e1)).drew.num.raw;go_at_call 134;(with_reducible refine(tY _ (((q)).num) _ v0 (by omega)).mono ?_);rintro e w2 ⟨v2,rfl,hi2,hb2⟩;obtain⟨g2,p2,n2,c2,rfl⟩:=hi2.form;have bJ:=((dF.dI (b:=w.heap.size) (by omega) (.bool g1) (.slice p1 n1 c1) (.bool h1) (.slice o1 m1 e1)).drew.to hb2);obtain⟨i0,m0,j0,n0,k0,o0,l0,p0⟩:=bJ.cf4)))
 have w0:=((hi1.aT bF rfl rfl rfl rfl (.bool g1) (.slice p1 n1 c1) (.bool h1) (.slice o1 m1 e1)).drew.below hb2)
 have r0:=(Below.tr (Below.aT (Below.tr (Below.tr aY hA1) hb1) (b:=w.heap.size) (by omega) (.bool g1) (.slice p1 n1 c1) (.bool h1) (.slice o1 m1 e1)).drew hb2)
 go_wp2_with fail
 exact bodyPost_ret (v:=.agg #[.bool g2,.slice p2 n2 c2,.bool h1,.slice o1 m1 e1]) (by simp[results,Tryz.results108,go_sem,a0,e0,b0,f0,c0,g0,d0,h0,i0,m0,j0,n0,k0,o0,l0,p0]) rfl ⟨_,rfl,RQ.mk' (hi2.aT bJ rfl rfl rfl rfl (.bool g2) (.slice p2 n2 c2) (.bool h1) (.slice o1 m1 e1)) (w0.aT bJ rfl rfl rfl rfl (.bool g2) (.slice p2 n2 c2) (.bool h1) (.slice o1 m1 e1)).den (zD q).symm (by rw[KI]),(Below.aT r0 (b:=w.heap.size+1) (by omega) (.bool g2) (.slice p2 n2 c2) (.bool h1) (.slice o1 m1 e1))⟩
theorem a6I (v:Value) (ok:Bool) (q:Rat) (w:World) (h:fE w v ok q) (hn:Qn v 1000000000) :
  Calls Tryz.prog 89 #[v] w (GQ (a1J q) w):=by
 obtain⟨b,p,n,c,d,o,m,e,rfl⟩:=h.form
 have hl:=h.iV hn (by omega)
 have b1:=dL q
 have b2:=cO q
 have aY:Below w.heap.size w w:=Below.refl _ _
 go_enter Tryz.func89,Tryz.ntmps89
 go_wp2_with fail
 obtain⟨hA1,s0,t0⟩:=bx2 w rfl [.bool b,.slice p n c,.bool d,.slice o m e] 30 [.bool false,.slice none 0 0,.bool false,.slice none 0 0] 30
 have u0:=(h.below hA1)
 (with_reducible refine(gZ _ _ (q) _ u0 hn).mono ?_)
 rintro e w1 ⟨v1,rfl,hi1,hb1⟩
 obtain⟨g1,p1,n1,c1,h1,o1,m1,e1,rfl⟩:=hi1.form
 have bF:=(s0.to hb1)
 obtain⟨a0,e0,b0,f0,c0,g0,d0,h0⟩:=bF.cf4
 go_wp2_with fail
 have dF:=(t0.to hb1)
 have MI:=(aP.mk ((bF.jS (.bool g1) (.slice p1 n1 c1) (.bool h1) (.slice o1 m1 e1)).drew).bs4 (BN.of ((dF.dI (b:=w.heap.size) (by omega) (.bool g1) (.slice p1 n1 c1) (.bool h1) (.slice o1 m1 e1)).drew)))
 have q0:dD (w.heap.size+1) (aP (BS4 w.heap.size (.bool g1) (.slice p1 n1 c1) (.bool h1) (.slice o1 m1 e1)) (BN (w.heap.size+1))):=(aP.hc (BS4.hc (by omega)) BN.hc)
 have tk1:True:=trivial
 go_region_held3 (aP (BS4 w.heap.size (.bool g1) (.slice p1 n1 c1) (.bool h1) (.slice o1 m1 e1)) (BN (w.heap.size+1))) (first|with_reducible exact MI|with_reducible exact gB.go (aP.hk BS4.hk BN.hk) (by assumption) (by assumption)|with_reducible exact dD.go4 q0 (by assumption)|(simp;done))
  (first
   | (((have:=tk1);clear tk1;have v0:=(hi1.aT bF rfl rfl rfl rfl (.bool g1) (.slice p1 n1 c1) (.bool h1) (.slice o1 m1 e1)).drew.num.raw;go_at_call 131;(with_reducible refine(a9t _ (((q)).num) _ v0 (by omega)).mono ?_);rintro e w2 ⟨v2,rfl,hi2,hb2⟩;obtain⟨g2,p2,n2,c2,rfl⟩:=hi2.form;have bJ:=((dF.dI (b:=w.heap.size) (by omega) (.bool g1) (.slice p1 n1 c1) (.bool h1) (.slice o1 m1 e1)).drew.to hb2);obtain⟨i0,m0,j0,n0,k0,o0,l0,p0⟩:=bJ.cf4)))
 have w0:=((hi1.aT bF rfl rfl rfl rfl (.bool g1) (.slice p1 n1 c1) (.bool h1) (.slice o1 m1 e1)).drew.below hb2)
 have r0:=(Below.tr (Below.aT (Below.tr (Below.tr aY hA1) hb1) (b:=w.heap.size) (by omega) (.bool g1) (.slice p1 n1 c1) (.bool h1) (.slice o1 m1 e1)).drew hb2)
 go_wp2_with fail
 exact bodyPost_ret (v:=.agg #[.bool g2,.slice p2 n2 c2,.bool h1,.slice o1 m1 e1]) (by simp[results,Tryz.results89,go_sem,a0,e0,b0,f0,c0,g0,d0,h0,i0,m0,j0,n0,k0,o0,l0,p0]) rfl ⟨_,rfl,RQ.mk' (hi2.aT bJ rfl rfl rfl rfl (.bool g2) (.slice p2 n2 c2) (.bool h1) (.slice o1 m1 e1)) (w0.aT bJ rfl rfl rfl rfl (.bool g2) (.slice p2 n2 c2) (.bool h1) (.slice o1 m1 e1)).den (a6H q) (a6G q),(Below.aT r0 (b:=w.heap.size+1) (by omega) (.bool g2) (.slice p2 n2 c2) (.bool h1) (.slice o1 m1 e1))⟩
theorem a2c (v:Value) (ok:Bool) (q:Rat) (w:World) (h:fE w v ok q) (hn:Qn v 1000000000) :
  Calls Tryz.prog 92 #[v] w (kP q.floor w):=by
 obtain⟨b,p,n,c,d,o,m,e,rfl⟩:=h.form
 have hl:=h.iV hn (by omega)
 have b1:=dL q
 have b2:=cO q
 have hd0:(q.den:Int)≠0:=by have:=q.den_nz;omega
 have HX:Hid (q.num.fdiv (q.den:Int)=q.floor):=by unfold Hid;rw[Int.fdiv_eq_ediv_of_nonneg _ (by omega)];exact a5U q
 have aY:Below w.heap.size w w:=Below.refl _ _
 go_enter Tryz.func92,Tryz.ntmps92
 go_wp2_with fail
 obtain⟨hA1,r0,s0⟩:=bx2 w rfl [.bool b,.slice p n c,.bool d,.slice o m e] 30 [.bool false,.slice none 0 0] 28
 have t0:=(h.below hA1)
 (with_reducible refine(gZ _ _ (q) _ t0 hn).mono ?_)
 rintro e w1 ⟨v1,rfl,hi1,hb1⟩
 obtain⟨g1,p1,n1,c1,h1,o1,m1,e1,rfl⟩:=hi1.form
 have bF:=(r0.to hb1)
 obtain⟨a0,e0,b0,f0,c0,g0,d0,h0⟩:=bF.cf4
 go_wp2_with fail
 have u0:=(hi1.aT bF rfl rfl rfl rfl (.bool g1) (.slice p1 n1 c1) (.bool h1) (.slice o1 m1 e1)).num.raw
 have v0:=(hi1.aT bF rfl rfl rfl rfl (.bool g1) (.slice p1 n1 c1) (.bool h1) (.slice o1 m1 e1)).den.raw
 (with_reducible refine(oK _ _ (((q)).num) ((((q)).den:Int)) _ u0 v0 (by omega) (by omega) hd0).mono ?_)
 rintro e w2 ⟨v2,u2,rfl,hi2,hj2,hb2⟩
 obtain⟨g2,p2,n2,c2,rfl⟩:=hi2.form
 obtain⟨h2,o2,m2,e2,rfl⟩:=hj2.form
 have bJ:=(((s0.to hb1).dI (b:=w.heap.size) (by omega) (.bool g1) (.slice p1 n1 c1) (.bool h1) (.slice o1 m1 e1)).to hb2)
 obtain⟨i0,k0,j0,l0⟩:=bJ.cf2
 have bV:=((bF.jS (.bool g1) (.slice p1 n1 c1) (.bool h1) (.slice o1 m1 e1)).to hb2)
 have m0:=(bV).1
 have o0:=(bJ).1
 obtain⟨hA2,w0⟩:=bx1 w2 rfl [.bool false,.slice none 0 0] 28
 have n0:=((bV.to hA2)).1
 have p0:=((bJ.to hA2)).1
 obtain⟨hA3,x0,y0⟩:=bx2 w2 rfl [.bool g2,.slice p2 n2 c2] 28 [.bool h2,.slice o2 m2 e2] 28
 obtain⟨hA4,z0,a1⟩:=bx2 ((w2.setCell ⟨w.heap.size+1,0,none⟩ (.bool g2)).setCell ⟨w.heap.size+1,1,none⟩ (.slice p2 n2 c2)) (by simp:_=w2.heap.size) [.bool g2,.slice p2 n2 c2] 28 [.bool h2,.slice o2 m2 e2] 28
 have q0:=(Below.tr (Below.aT (Below.tr (Below.tr aY hA1) hb1) (b:=w.heap.size) (by omega) (.bool g1) (.slice p1 n1 c1) (.bool h1) (.slice o1 m1 e1)) hb2)
 go_wp2_with fail
 exact bodyPost_ret (v:=.agg #[.bool g2,.slice p2 n2 c2]) (by simp[results,Tryz.results92,go_sem,a0,e0,b0,f0,c0,g0,d0,h0,m0,o0,n0,p0,i0,k0,j0,l0]) rfl ⟨_,rfl,dK ((hi2.aF bJ rfl rfl (.bool g2) (.slice p2 n2 c2)).below hA4) HX.out,(Below.tr (Below.aF q0 (b:=w.heap.size+1) (by omega) (.bool g2) (.slice p2 n2 c2)) hA4)⟩
theorem a4e {x:Int} (h0:-9223372036854775808<=x) (h1:x<=9223372036854775807):isz x<=1000000000 :=
 Nat.le_trans (uS (k:=3) (by rw[bG];omega)) (by omega)
theorem b0r (i k:Int) (w:World) (h0:-9223372036854775808<=i) (h1:i<=9223372036854775807) (h2:-9223372036854775808<=k) (h3:k<=9223372036854775807) (hk:k≠0) :
  Calls Tryz.prog 64 #[.int .i64 i,.int .i64 k] w (GQC (Rat.divInt i k) 0 w):=by
 have hz1:=a4e h0 h1
 have hz2:=a4e h2 h3
 have aY:Below w.heap.size w w:=Below.refl _ _
 go_enter Tryz.func64,Tryz.ntmps64
 go_wp2_with fail
 (with_reducible refine(DC _ _ (by omega) (by omega)).mono ?_)
 rintro e w1 ⟨v1,rfl,hi1,hb1⟩
 obtain⟨g1,p1,n1,c1,rfl⟩:=hi1.form
 go_wp2_with fail
 (with_reducible refine(DC _ _ (by omega) (by omega)).mono ?_)
 rintro e w2 ⟨v2,rfl,hi2,hb2⟩
 obtain⟨g2,p2,n2,c2,rfl⟩:=hi2.form
 go_wp2_with fail
 have n0:=(hi1.below hb2)
 have l0:=n0.QG
 have m0:=hi2.QG
 (with_reducible refine(a4t _ _ _ _ (i) (k) _ l0 m0 hz1 hz2 hk).mono ?_)
 rintro e w3 ⟨v3,rfl,hi3,hb3⟩
 obtain⟨g3,p3,n3,c3,h3,o3,m3,e3,rfl⟩:=hi3.form
 obtain⟨hA1,k0⟩:=bx1 w rfl [.bool false,.slice none 0 0,.bool false,.slice none 0 0] 30
 have gV:=(((k0.to hb1).to hb2).to hb3)
 obtain⟨a0,e0,b0,f0,c0,g0,d0,i0⟩:=gV.cf4
 have j0:=(Below.tr (Below.tr (Below.tr (Below.tr aY hA1) hb1) hb2) hb3)
 go_wp2_with fail
 exact bodyPost_ret (v:=.tuple #[.agg #[.bool g3,.slice p3 n3 c3,.bool h3,.slice o3 m3 e3],.int .i64 0]) (by simp[results,Tryz.results64,go_sem,a0,e0,b0,f0,c0,g0,d0,i0]) rfl ⟨_,rfl,(hi3.aT gV rfl rfl rfl rfl (.bool g3) (.slice p3 n3 c3) (.bool h3) (.slice o3 m3 e3)),(Below.aT j0 (b:=w.heap.size) (by omega) (.bool g3) (.slice p3 n3 c3) (.bool h3) (.slice o3 m3 e3))⟩
theorem lQ (v:Value) (q:Rat) (w:World) (h:RQ w v q) (hl:rsz q<=1000000000) :
 Calls Tryz.prog 109 #[v] w (fun e w'=>e=.returned (.int .i64 (sgn q.num))/\Below w.heap.size w w'):=a6j v true q w h.raw (h.qn hl)
theorem a0D (v:Value) (q:Rat) (w:World) (h:RQ w v q) (hl:rsz q<=1000000000) :
 Calls Tryz.prog 108 #[v] w (GQ (-q) w):=a0E v true q w h.raw (h.qn hl)
theorem a6F (v:Value) (q:Rat) (w:World) (h:RQ w v q) (hl:rsz q<=1000000000) :
 Calls Tryz.prog 89 #[v] w (GQ (a1J q) w):=a6I v true q w h.raw (h.qn hl)
theorem a2b (v:Value) (q:Rat) (w:World) (h:RQ w v q) (hl:rsz q<=1000000000) :
 Calls Tryz.prog 92 #[v] w (kP q.floor w):=a2c v true q w h.raw (h.qn hl)
theorem Qn.up {v:Value} {k m:Nat} (h:Qn v k) (hk:k<=m):Qn v m:=by
 obtain⟨b,p,n,c,b',p',n',c',e,h1,h2⟩:=h
 exact⟨b,p,n,c,b',p',n',c',e,by omega,by omega⟩
theorem wF (x y:Rat):(x.den:Int)*y.den≠0:=by
 have:=kY x;have:=kY y
 exact Int.ne_of_gt (Int.mul_pos (by assumption) (by assumption))
theorem ZA (v u:Value) (o1 o2:Bool) (x y:Rat) (w:World) (h1:fE w v o1 x) (h2:fE w u o2 y) (n1:Qn v 400000000) (n2:Qn u 400000000) :
  Calls Tryz.prog 52 #[v,u] w (GQ (x+y) w):=by
 obtain⟨b,p,n,c,d,o,m,e,rfl⟩:=h1.form
 obtain⟨f,i,j,k,g,r,t,a,rfl⟩:=h2.form
 have hl:=h1.iV n1 (by omega)
 have hl2:=h2.iV n2 (by omega)
 have m1:=n1.up (show 400000000<=1000000000 by omega)
 have m2:=n2.up (show 400000000<=1000000000 by omega)
 have b1:=dL x
 have b2:=cO x
 have b3:=dL y
 have b4:=cO y
 have c1:=eF x.num y.den
 have c2:=eF y.num x.den
 have c3:=LM (x.num*y.den) (y.num*x.den)
 have c4:=eF x.den y.den
 have HX:=Lib.hid (XW x y)
 have hd0:=wF x y
 have aY:Below w.heap.size w w:=Below.refl _ _
 go_enter Tryz.func52,Tryz.ntmps52
 go_wp2_with fail
 obtain⟨hA1,y0,z0,k1⟩:=bx3 w rfl [.bool b,.slice p n c,.bool d,.slice o m e] 30 [.bool f,.slice i j k,.bool g,.slice r t a] 30 [.bool false,.slice none 0 0,.bool false,.slice none 0 0] 30
 obtain⟨q2,a3,s2,e3,u2,h3,y2,j3⟩:=y0.drew.cf4
 obtain⟨l3,x3,o3,z3,r3,d4,t3,f4⟩:=z0.drew.cf4
 have tk1:True:=trivial
 have tk2:True:=trivial
 go_region_with
  (first
   | (((have:=tk1);clear tk1;have l1:=(h1.below hA1).drew;go_at_call 105;(with_reducible refine(gZ _ _ (x) _ l1 m1).mono ?_);rintro e w1 ⟨v1,rfl,hi1,hb1⟩;obtain⟨g1,p1,n1,c1,h1,o1,m1,e1,rfl⟩:=hi1.form;have dF:=(z0.drew.to hb1);obtain⟨m3,y3,q3,a4,s3,e4,u3,h4⟩:=dF.cf4;have bF:=(y0.drew.to hb1);obtain⟨r2,d3,t2,f3,x2,i3,z2,k3⟩:=bF.cf4))
   | (((have:=tk2);clear tk2;have WY:=((h2.below hA1).drew.below hb1);have q1:=WY;go_at_call 105;(with_reducible refine(gZ _ _ (y) _ q1 m2).mono ?_);rintro e w2 ⟨v2,rfl,hi2,hb2⟩;obtain⟨g2,p2,n2,c2,h2,o2,m2,e2,rfl⟩:=hi2.form;have bV:=(bF.to hb2);obtain⟨a0,e0,b0,f0,c0,g0,d0,h0⟩:=bV.cf4;have bJ:=(dF.to hb2);obtain⟨i0,m0,j0,n0,k0,o0,l0,p0⟩:=bJ.cf4)))
 all_goals
  go_wp2_with fail
  have kX:=((k1.drew.to hb1).to hb2)
  have MI:=(aP.mk (((bV.jS (.bool g1) (.slice p1 n1 c1) (.bool h1) (.slice o1 m1 e1)).dI (b:=w.heap.size+1) (by omega) (.bool g2) (.slice p2 n2 c2) (.bool h2) (.slice o2 m2 e2)).drew).bs4 (aP.mk (((bJ.dI (b:=w.heap.size) (by omega) (.bool g1) (.slice p1 n1 c1) (.bool h1) (.slice o1 m1 e1)).jS (.bool g2) (.slice p2 n2 c2) (.bool h2) (.slice o2 m2 e2)).drew).bs4 (BN.of (((kX.dI (b:=w.heap.size) (by omega) (.bool g1) (.slice p1 n1 c1) (.bool h1) (.slice o1 m1 e1)).dI (b:=w.heap.size+1) (by omega) (.bool g2) (.slice p2 n2 c2) (.bool h2) (.slice o2 m2 e2)).drew))))
  have i1:dD (w.heap.size+1+1) (aP (BS4 w.heap.size (.bool g1) (.slice p1 n1 c1) (.bool h1) (.slice o1 m1 e1)) (aP (BS4 (w.heap.size+1) (.bool g2) (.slice p2 n2 c2) (.bool h2) (.slice o2 m2 e2)) (BN (w.heap.size+1+1)))):=(aP.hc (BS4.hc (by omega)) (aP.hc (BS4.hc (by omega)) BN.hc))
  have tk3:True:=trivial
  have tk4:True:=trivial
  have tk5:True:=trivial
  have tk6:True:=trivial
  have tk7:True:=trivial
  go_region_held3 (aP (BS4 w.heap.size (.bool g1) (.slice p1 n1 c1) (.bool h1) (.slice o1 m1 e1)) (aP (BS4 (w.heap.size+1) (.bool g2) (.slice p2 n2 c2) (.bool h2) (.slice o2 m2 e2)) (BN (w.heap.size+1+1)))) (first|with_reducible exact MI|with_reducible exact gB.go (aP.hk BS4.hk (aP.hk BS4.hk BN.hk)) (by assumption) (by assumption)|with_reducible exact dD.go4 i1 (by assumption)|(simp;done))
   (first
    | (((have:=tk3);clear tk3;have a1:=(hi1.below hb2);have r1:=((a1.aT bV rfl rfl rfl rfl (.bool g1) (.slice p1 n1 c1) (.bool h1) (.slice o1 m1 e1)).aT (bJ.dI (b:=w.heap.size) (by omega) (.bool g1) (.slice p1 n1 c1) (.bool h1) (.slice o1 m1 e1)) rfl rfl rfl rfl (.bool g2) (.slice p2 n2 c2) (.bool h2) (.slice o2 m2 e2)).drew.num.raw;have s1:=((hi2.aT bV rfl rfl rfl rfl (.bool g1) (.slice p1 n1 c1) (.bool h1) (.slice o1 m1 e1)).aT (bJ.dI (b:=w.heap.size) (by omega) (.bool g1) (.slice p1 n1 c1) (.bool h1) (.slice o1 m1 e1)) rfl rfl rfl rfl (.bool g2) (.slice p2 n2 c2) (.bool h2) (.slice o2 m2 e2)).drew.den.raw;go_at_call 71;(with_reducible refine(mul_any _ _ (((x)).num) ((((y)).den:Int)) _ r1 s1 (by omega) (by omega)).mono ?_);rintro e w3 ⟨v3,rfl,hi3,hb3⟩;obtain⟨g3,p3,n3,c3,rfl⟩:=hi3.form))
    | (((have:=tk4);clear tk4;have f1:=(((hi2.aT bV rfl rfl rfl rfl (.bool g1) (.slice p1 n1 c1) (.bool h1) (.slice o1 m1 e1)).aT (bJ.dI (b:=w.heap.size) (by omega) (.bool g1) (.slice p1 n1 c1) (.bool h1) (.slice o1 m1 e1)) rfl rfl rfl rfl (.bool g2) (.slice p2 n2 c2) (.bool h2) (.slice o2 m2 e2)).drew.below hb3);have t1:=f1.num.raw;have d1:=(((a1.aT bV rfl rfl rfl rfl (.bool g1) (.slice p1 n1 c1) (.bool h1) (.slice o1 m1 e1)).aT (bJ.dI (b:=w.heap.size) (by omega) (.bool g1) (.slice p1 n1 c1) (.bool h1) (.slice o1 m1 e1)) rfl rfl rfl rfl (.bool g2) (.slice p2 n2 c2) (.bool h2) (.slice o2 m2 e2)).drew.below hb3);have u1:=d1.den.raw;go_at_call 71;(with_reducible refine(mul_any _ _ (((y)).num) ((((x)).den:Int)) _ t1 u1 (by omega) (by omega)).mono ?_);rintro e w4 ⟨v4,rfl,hi4,hb4⟩;obtain⟨g4,p4,n4,c4,rfl⟩:=hi4.form))
    | (((have:=tk5);clear tk5;have k2:=(hi3.below hb4);have x1:=k2.raw;have y1:=hi4.raw;go_at_call 107;(with_reducible refine(add_any _ _ ((((x)).num)*((((y)).den:Int))) ((((y)).num)*((((x)).den:Int))) _ x1 y1 (by omega) (by omega)).mono ?_);rintro e w5 ⟨v5,rfl,hi5,hb5⟩;obtain⟨g5,p5,n5,c5,rfl⟩:=hi5.form))
    | (((have:=tk6);clear tk6;have i2:=((d1.below hb4).below hb5);have z1:=i2.den.raw;have j2:=((f1.below hb4).below hb5);have a2:=j2.den.raw;go_at_call 71;(with_reducible refine(mul_any _ _ ((((x)).den:Int)) ((((y)).den:Int)) _ z1 a2 (by omega) (by omega)).mono ?_);rintro e w6 ⟨v6,rfl,hi6,hb6⟩;obtain⟨g6,p6,n6,c6,rfl⟩:=hi6.form))
    | (((have:=tk7);clear tk7;have l2:=(hi5.below hb6);have d2:=l2;have f2:=hi6;go_at_call 106;(with_reducible refine(qV _ _ (((((x)).num)*((((y)).den:Int)))+((((y)).num)*((((x)).den:Int)))) (((((x)).den:Int))*((((y)).den:Int))) _ d2 f2 (by omega) (by omega) hd0).mono ?_);rintro e w7 ⟨v7,rfl,hi7,hb7⟩;obtain⟨g7,p7,n7,c7,h7,o7,m7,e7,rfl⟩:=hi7.form;have a8F:=(((((((kX.dI (b:=w.heap.size) (by omega) (.bool g1) (.slice p1 n1 c1) (.bool h1) (.slice o1 m1 e1)).dI (b:=w.heap.size+1) (by omega) (.bool g2) (.slice p2 n2 c2) (.bool h2) (.slice o2 m2 e2)).drew.to hb3).to hb4).to hb5).to hb6).to hb7);obtain⟨q0,u0,r0,v0,s0,w0,t0,x0⟩:=a8F.cf4)))
  have j1:=(Below.tr (Below.tr (Below.tr (Below.tr (Below.tr (Below.aT (Below.aT (Below.tr (Below.tr (Below.tr aY hA1).drew hb1) hb2) (b:=w.heap.size) (by omega) (.bool g1) (.slice p1 n1 c1) (.bool h1) (.slice o1 m1 e1)) (b:=w.heap.size+1) (by omega) (.bool g2) (.slice p2 n2 c2) (.bool h2) (.slice o2 m2 e2)).drew hb3) hb4) hb5) hb6) hb7)
  go_wp2_with fail
  exact bodyPost_ret (v:=.agg #[.bool g7,.slice p7 n7 c7,.bool h7,.slice o7 m7 e7]) (by simp[results,Tryz.results52,go_sem,a0,e0,b0,f0,c0,g0,d0,h0,i0,m0,j0,n0,k0,o0,l0,p0,q0,u0,r0,v0,s0,w0,t0,x0]) rfl ⟨_,rfl,by rw[<-HX.out];exact(hi7.aT a8F rfl rfl rfl rfl (.bool g7) (.slice p7 n7 c7) (.bool h7) (.slice o7 m7 e7)),(Below.aT j1 (b:=w.heap.size+1+1) (by omega) (.bool g7) (.slice p7 n7 c7) (.bool h7) (.slice o7 m7 e7))⟩
theorem a8p (v u:Value) (o1 o2:Bool) (x y:Rat) (w:World) (h1:fE w v o1 x) (h2:fE w u o2 y) (n1:Qn v 400000000) (n2:Qn u 400000000) :
  Calls Tryz.prog 53 #[v,u] w (GQ (x*y) w):=by
 obtain⟨b,p,n,c,d,o,m,e,rfl⟩:=h1.form
 obtain⟨f,i,j,k,g,r,t,a,rfl⟩:=h2.form
 have hl:=h1.iV n1 (by omega)
 have hl2:=h2.iV n2 (by omega)
 have m1:=n1.up (show 400000000<=1000000000 by omega)
 have m2:=n2.up (show 400000000<=1000000000 by omega)
 have b1:=dL x
 have b2:=cO x
 have b3:=dL y
 have b4:=cO y
 have c1:=eF x.num y.num
 have c4:=eF x.den y.den
 have HX:=Lib.hid (XY x y)
 have hd0:=wF x y
 have aY:Below w.heap.size w w:=Below.refl _ _
 go_enter Tryz.func53,Tryz.ntmps53
 go_wp2_with fail
 obtain⟨hA1,y0,z0,i1⟩:=bx3 w rfl [.bool b,.slice p n c,.bool d,.slice o m e] 30 [.bool f,.slice i j k,.bool g,.slice r t a] 30 [.bool false,.slice none 0 0,.bool false,.slice none 0 0] 30
 obtain⟨a2,r2,f2,t2,j2,x2,l2,z2⟩:=y0.drew.cf4
 obtain⟨d3,m3,f3,q3,i3,s3,k3,u3⟩:=z0.drew.cf4
 have tk1:True:=trivial
 have tk2:True:=trivial
 go_region_with
  (first
   | (((have:=tk1);clear tk1;have j1:=(h1.below hA1).drew;go_at_call 105;(with_reducible refine(gZ _ _ (x) _ j1 m1).mono ?_);rintro e w1 ⟨v1,rfl,hi1,hb1⟩;obtain⟨g1,p1,n1,c1,h1,o1,m1,e1,rfl⟩:=hi1.form;have dF:=(z0.drew.to hb1);obtain⟨e3,o3,h3,r3,j3,t3,l3,x3⟩:=dF.cf4;have bF:=(y0.drew.to hb1);obtain⟨d2,s2,i2,u2,k2,y2,q2,a3⟩:=bF.cf4))
   | (((have:=tk2);clear tk2;have WY:=((h2.below hA1).drew.below hb1);have k1:=WY;go_at_call 105;(with_reducible refine(gZ _ _ (y) _ k1 m2).mono ?_);rintro e w2 ⟨v2,rfl,hi2,hb2⟩;obtain⟨g2,p2,n2,c2,h2,o2,m2,e2,rfl⟩:=hi2.form;have bV:=(bF.to hb2);obtain⟨a0,e0,b0,f0,c0,g0,d0,h0⟩:=bV.cf4;have bJ:=(dF.to hb2);obtain⟨i0,m0,j0,n0,k0,o0,l0,p0⟩:=bJ.cf4)))
 all_goals
  go_wp2_with fail
  have kX:=((i1.drew.to hb1).to hb2)
  have MI:=(aP.mk (((bV.jS (.bool g1) (.slice p1 n1 c1) (.bool h1) (.slice o1 m1 e1)).dI (b:=w.heap.size+1) (by omega) (.bool g2) (.slice p2 n2 c2) (.bool h2) (.slice o2 m2 e2)).drew).bs4 (aP.mk (((bJ.dI (b:=w.heap.size) (by omega) (.bool g1) (.slice p1 n1 c1) (.bool h1) (.slice o1 m1 e1)).jS (.bool g2) (.slice p2 n2 c2) (.bool h2) (.slice o2 m2 e2)).drew).bs4 (BN.of (((kX.dI (b:=w.heap.size) (by omega) (.bool g1) (.slice p1 n1 c1) (.bool h1) (.slice o1 m1 e1)).dI (b:=w.heap.size+1) (by omega) (.bool g2) (.slice p2 n2 c2) (.bool h2) (.slice o2 m2 e2)).drew))))
  have d1:dD (w.heap.size+1+1) (aP (BS4 w.heap.size (.bool g1) (.slice p1 n1 c1) (.bool h1) (.slice o1 m1 e1)) (aP (BS4 (w.heap.size+1) (.bool g2) (.slice p2 n2 c2) (.bool h2) (.slice o2 m2 e2)) (BN (w.heap.size+1+1)))):=(aP.hc (BS4.hc (by omega)) (aP.hc (BS4.hc (by omega)) BN.hc))
  have tk3:True:=trivial
  have tk4:True:=trivial
  have tk5:True:=trivial
  go_region_held3 (aP (BS4 w.heap.size (.bool g1) (.slice p1 n1 c1) (.bool h1) (.slice o1 m1 e1)) (aP (BS4 (w.heap.size+1) (.bool g2) (.slice p2 n2 c2) (.bool h2) (.slice o2 m2 e2)) (BN (w.heap.size+1+1)))) (first|with_reducible exact MI|with_reducible exact gB.go (aP.hk BS4.hk (aP.hk BS4.hk BN.hk)) (by assumption) (by assumption)|with_reducible exact dD.go4 d1 (by assumption)|(simp;done))
   (first
    | (((have:=tk3);clear tk3;have a1:=(hi1.below hb2);have l1:=((a1.aT bV rfl rfl rfl rfl (.bool g1) (.slice p1 n1 c1) (.bool h1) (.slice o1 m1 e1)).aT (bJ.dI (b:=w.heap.size) (by omega) (.bool g1) (.slice p1 n1 c1) (.bool h1) (.slice o1 m1 e1)) rfl rfl rfl rfl (.bool g2) (.slice p2 n2 c2) (.bool h2) (.slice o2 m2 e2)).drew.num.raw;have q1:=((hi2.aT bV rfl rfl rfl rfl (.bool g1) (.slice p1 n1 c1) (.bool h1) (.slice o1 m1 e1)).aT (bJ.dI (b:=w.heap.size) (by omega) (.bool g1) (.slice p1 n1 c1) (.bool h1) (.slice o1 m1 e1)) rfl rfl rfl rfl (.bool g2) (.slice p2 n2 c2) (.bool h2) (.slice o2 m2 e2)).drew.num.raw;go_at_call 71;(with_reducible refine(mul_any _ _ (((x)).num) (((y)).num) _ l1 q1 (by omega) (by omega)).mono ?_);rintro e w3 ⟨v3,rfl,hi3,hb3⟩;obtain⟨g3,p3,n3,c3,rfl⟩:=hi3.form))
    | (((have:=tk4);clear tk4;have x1:=(((a1.aT bV rfl rfl rfl rfl (.bool g1) (.slice p1 n1 c1) (.bool h1) (.slice o1 m1 e1)).aT (bJ.dI (b:=w.heap.size) (by omega) (.bool g1) (.slice p1 n1 c1) (.bool h1) (.slice o1 m1 e1)) rfl rfl rfl rfl (.bool g2) (.slice p2 n2 c2) (.bool h2) (.slice o2 m2 e2)).drew.below hb3);have r1:=x1.den.raw;have y1:=(((hi2.aT bV rfl rfl rfl rfl (.bool g1) (.slice p1 n1 c1) (.bool h1) (.slice o1 m1 e1)).aT (bJ.dI (b:=w.heap.size) (by omega) (.bool g1) (.slice p1 n1 c1) (.bool h1) (.slice o1 m1 e1)) rfl rfl rfl rfl (.bool g2) (.slice p2 n2 c2) (.bool h2) (.slice o2 m2 e2)).drew.below hb3);have s1:=y1.den.raw;go_at_call 71;(with_reducible refine(mul_any _ _ ((((x)).den:Int)) ((((y)).den:Int)) _ r1 s1 (by omega) (by omega)).mono ?_);rintro e w4 ⟨v4,rfl,hi4,hb4⟩;obtain⟨g4,p4,n4,c4,rfl⟩:=hi4.form))
    | (((have:=tk5);clear tk5;have z1:=(hi3.below hb4);have t1:=z1;have u1:=hi4;go_at_call 106;(with_reducible refine(qV _ _ ((((x)).num)*(((y)).num)) (((((x)).den:Int))*((((y)).den:Int))) _ t1 u1 (by omega) (by omega) hd0).mono ?_);rintro e w5 ⟨v5,rfl,hi5,hb5⟩;obtain⟨g5,p5,n5,c5,h5,o5,m5,e5,rfl⟩:=hi5.form;have zC:=(((((kX.dI (b:=w.heap.size) (by omega) (.bool g1) (.slice p1 n1 c1) (.bool h1) (.slice o1 m1 e1)).dI (b:=w.heap.size+1) (by omega) (.bool g2) (.slice p2 n2 c2) (.bool h2) (.slice o2 m2 e2)).drew.to hb3).to hb4).to hb5);obtain⟨q0,u0,r0,v0,s0,w0,t0,x0⟩:=zC.cf4)))
  have f1:=(Below.tr (Below.tr (Below.tr (Below.aT (Below.aT (Below.tr (Below.tr (Below.tr aY hA1).drew hb1) hb2) (b:=w.heap.size) (by omega) (.bool g1) (.slice p1 n1 c1) (.bool h1) (.slice o1 m1 e1)) (b:=w.heap.size+1) (by omega) (.bool g2) (.slice p2 n2 c2) (.bool h2) (.slice o2 m2 e2)).drew hb3) hb4) hb5)
  go_wp2_with fail
  exact bodyPost_ret (v:=.agg #[.bool g5,.slice p5 n5 c5,.bool h5,.slice o5 m5 e5]) (by simp[results,Tryz.results53,go_sem,a0,e0,b0,f0,c0,g0,d0,h0,i0,m0,j0,n0,k0,o0,l0,p0,q0,u0,r0,v0,s0,w0,t0,x0]) rfl ⟨_,rfl,by rw[<-HX.out];exact(hi5.aT zC rfl rfl rfl rfl (.bool g5) (.slice p5 n5 c5) (.bool h5) (.slice o5 m5 e5)),(Below.aT f1 (b:=w.heap.size+1+1) (by omega) (.bool g5) (.slice p5 n5 c5) (.bool h5) (.slice o5 m5 e5))⟩
theorem YZ (v u:Value) (x y:Rat) (w:World) (h1:RQ w v x) (h2:RQ w u y) (l1:rsz x<=400000000) (l2:rsz y<=400000000) :
 Calls Tryz.prog 52 #[v,u] w (GQ (x+y) w):=ZA v u true true x y w h1.raw h2.raw (h1.qn l1) (h2.qn l2)
theorem EW (v u:Value) (x y:Rat) (w:World) (h1:RQ w v x) (h2:RQ w u y) (l1:rsz x<=400000000) (l2:rsz y<=400000000) :
 Calls Tryz.prog 53 #[v,u] w (GQ (x*y) w):=a8p v u true true x y w h1.raw h2.raw (h1.qn l1) (h2.qn l2)
def qP (x y:Rat):Int:=if x<y then -1 else if y<x then 1 else 0
theorem a9A (x y:Rat):dB (x.num*y.den) (y.num*x.den)=qP x y:=by
 unfold dB qP
 simp only[a2M]
theorem a1Y (v u:Value) (o1 o2:Bool) (x y:Rat) (w:World) (h1:fE w v o1 x) (h2:fE w u o2 y) (n1:Qn v 400000000) (n2:Qn u 400000000) (hy:y≠0) :
  Calls Tryz.prog 91 #[v,u] w (GQC (x / y) 0 w):=by
 obtain⟨b,p,n,c,d,o,m,e,rfl⟩:=h1.form
 obtain⟨f,i,j,k,g,r,t,a,rfl⟩:=h2.form
 have hl:=h1.iV n1 (by omega)
 have hl2:=h2.iV n2 (by omega)
 have m1:=n1.up (show 400000000<=1000000000 by omega)
 have m2:=n2.up (show 400000000<=1000000000 by omega)
 have b1:=dL x
 have b2:=cO x
 have b3:=dL y
 have b4:=cO y
 have c1:=eF x.num y.den
 have c4:=eF x.den y.num
 have HX:=Lib.hid (a4D x y)
 have hn0:y.num≠0:=fun h=>hy ((FD y).1 h)
 have hd0:(x.den:Int)*y.num≠0:=fun h=>by
  have:=x.den_nz
  rcases Int.mul_eq_zero.1 h with h|h<;>omega
 have KY:(sgn y.num==0)=false:=by have:=JE hn0;simpa using this
 clear hy hn0
 have aY:Below w.heap.size w w:=Below.refl _ _
 go_enter Tryz.func91,Tryz.ntmps91
 go_wp2_with fail
 obtain⟨hA1,y0,z0,j1⟩:=bx3 w rfl [.bool b,.slice p n c,.bool d,.slice o m e] 30 [.bool f,.slice i j k,.bool g,.slice r t a] 30 [.bool false,.slice none 0 0,.bool false,.slice none 0 0] 30
 obtain⟨f2,t2,j2,x2,l2,z2,r2,c3⟩:=y0.drew.cf4
 obtain⟨e3,q3,h3,s3,k3,u3,n3,x3⟩:=z0.drew.cf4
 have tk1:True:=trivial
 have tk2:True:=trivial
 go_region_with
  (first
   | (((have:=tk1);clear tk1;have k1:=(h1.below hA1).drew;go_at_call 105;(with_reducible refine(gZ _ _ (x) _ k1 m1).mono ?_);rintro e w1 ⟨v1,rfl,hi1,hb1⟩;obtain⟨g1,p1,n1,c1,h1,o1,m1,e1,rfl⟩:=hi1.form;have dF:=(z0.drew.to hb1);obtain⟨f3,r3,i3,t3,l3,v3,o3,y3⟩:=dF.cf4;have bF:=(y0.drew.to hb1);obtain⟨i2,u2,k2,y2,q2,a3,s2,d3⟩:=bF.cf4))
   | (((have:=tk2);clear tk2;have WY:=((h2.below hA1).drew.below hb1);have l1:=WY;go_at_call 105;(with_reducible refine(gZ _ _ (y) _ l1 m2).mono ?_);rintro e w2 ⟨v2,rfl,hi2,hb2⟩;obtain⟨g2,p2,n2,c2,h2,o2,m2,e2,rfl⟩:=hi2.form;have bV:=(bF.to hb2);obtain⟨a0,e0,b0,f0,c0,g0,d0,h0⟩:=bV.cf4;have bJ:=(dF.to hb2);obtain⟨i0,m0,j0,n0,k0,o0,l0,p0⟩:=bJ.cf4)))
 all_goals
  obtain⟨g3,j3,m3,p3⟩:=((bJ.dI (b:=w.heap.size) (by omega) (.bool g1) (.slice p1 n1 c1) (.bool h1) (.slice o1 m1 e1)).jS (.bool g2) (.slice p2 n2 c2) (.bool h2) (.slice o2 m2 e2)).cs4
  go_wp2_with fail
  have q1:=((hi2.aT bV rfl rfl rfl rfl (.bool g1) (.slice p1 n1 c1) (.bool h1) (.slice o1 m1 e1)).aT (bJ.dI (b:=w.heap.size) (by omega) (.bool g1) (.slice p1 n1 c1) (.bool h1) (.slice o1 m1 e1)) rfl rfl rfl rfl (.bool g2) (.slice p2 n2 c2) (.bool h2) (.slice o2 m2 e2)).num.raw
  (with_reducible refine(lN _ (((y)).num) _ q1).mono ?_)
  rintro e w3 ⟨rfl,hb3⟩
  go_wp2_with fail
  have gV:=(((bV.jS (.bool g1) (.slice p1 n1 c1) (.bool h1) (.slice o1 m1 e1)).dI (b:=w.heap.size+1) (by omega) (.bool g2) (.slice p2 n2 c2) (.bool h2) (.slice o2 m2 e2)).to hb3)
  have lY:=(((bJ.dI (b:=w.heap.size) (by omega) (.bool g1) (.slice p1 n1 c1) (.bool h1) (.slice o1 m1 e1)).jS (.bool g2) (.slice p2 n2 c2) (.bool h2) (.slice o2 m2 e2)).to hb3)
  have BK:=(((((j1.drew.to hb1).to hb2).dI (b:=w.heap.size) (by omega) (.bool g1) (.slice p1 n1 c1) (.bool h1) (.slice o1 m1 e1)).dI (b:=w.heap.size+1) (by omega) (.bool g2) (.slice p2 n2 c2) (.bool h2) (.slice o2 m2 e2)).to hb3)
  have b7v:=(aP.mk (gV.drew).bs4 (aP.mk (lY.drew).bs4 (BN.of (BK.drew))))
  have f1:dD (w.heap.size+1+1) (aP (BS4 w.heap.size (.bool g1) (.slice p1 n1 c1) (.bool h1) (.slice o1 m1 e1)) (aP (BS4 (w.heap.size+1) (.bool g2) (.slice p2 n2 c2) (.bool h2) (.slice o2 m2 e2)) (BN (w.heap.size+1+1)))):=(aP.hc (BS4.hc (by omega)) (aP.hc (BS4.hc (by omega)) BN.hc))
  have tk3:True:=trivial
  have tk4:True:=trivial
  have tk5:True:=trivial
  go_region_held3 (aP (BS4 w.heap.size (.bool g1) (.slice p1 n1 c1) (.bool h1) (.slice o1 m1 e1)) (aP (BS4 (w.heap.size+1) (.bool g2) (.slice p2 n2 c2) (.bool h2) (.slice o2 m2 e2)) (BN (w.heap.size+1+1)))) (first|with_reducible exact b7v|with_reducible exact gB.go (aP.hk BS4.hk (aP.hk BS4.hk BN.hk)) (by assumption) (by assumption)|with_reducible exact dD.go4 f1 (by assumption)|(simp;done))
   (first
    | (((have:=tk3);clear tk3;have a1:=((((hi1.below hb2).aT bV rfl rfl rfl rfl (.bool g1) (.slice p1 n1 c1) (.bool h1) (.slice o1 m1 e1)).aT (bJ.dI (b:=w.heap.size) (by omega) (.bool g1) (.slice p1 n1 c1) (.bool h1) (.slice o1 m1 e1)) rfl rfl rfl rfl (.bool g2) (.slice p2 n2 c2) (.bool h2) (.slice o2 m2 e2)).below hb3);have r1:=a1.drew.num.raw;have d1:=(((hi2.aT bV rfl rfl rfl rfl (.bool g1) (.slice p1 n1 c1) (.bool h1) (.slice o1 m1 e1)).aT (bJ.dI (b:=w.heap.size) (by omega) (.bool g1) (.slice p1 n1 c1) (.bool h1) (.slice o1 m1 e1)) rfl rfl rfl rfl (.bool g2) (.slice p2 n2 c2) (.bool h2) (.slice o2 m2 e2)).below hb3);have s1:=d1.drew.den.raw;go_at_call 71;(with_reducible refine(mul_any _ _ (((x)).num) ((((y)).den:Int)) _ r1 s1 (by omega) (by omega)).mono ?_);rintro e w4 ⟨v4,rfl,hi4,hb4⟩;obtain⟨g4,p4,n4,c4,rfl⟩:=hi4.form))
    | (((have:=tk4);clear tk4;have z1:=(a1.drew.below hb4);have t1:=z1.den.raw;have a2:=(d1.drew.below hb4);have u1:=a2.num.raw;go_at_call 71;(with_reducible refine(mul_any _ _ ((((x)).den:Int)) (((y)).num) _ t1 u1 (by omega) (by omega)).mono ?_);rintro e w5 ⟨v5,rfl,hi5,hb5⟩;obtain⟨g5,p5,n5,c5,rfl⟩:=hi5.form))
    | (((have:=tk5);clear tk5;have d2:=(hi4.below hb5);have x1:=d2;have y1:=hi5;go_at_call 106;(with_reducible refine(qV _ _ ((((x)).num)*((((y)).den:Int))) (((((x)).den:Int))*(((y)).num)) _ x1 y1 (by omega) (by omega) hd0).mono ?_);rintro e w6 ⟨v6,rfl,hi6,hb6⟩;obtain⟨g6,p6,n6,c6,h6,o6,m6,e6,rfl⟩:=hi6.form;have qC:=(((BK.drew.to hb4).to hb5).to hb6);obtain⟨q0,u0,r0,v0,s0,w0,t0,x0⟩:=qC.cf4)))
  have i1:=(Below.tr (Below.tr (Below.tr (Below.tr (Below.aT (Below.aT (Below.tr (Below.tr (Below.tr aY hA1).drew hb1) hb2) (b:=w.heap.size) (by omega) (.bool g1) (.slice p1 n1 c1) (.bool h1) (.slice o1 m1 e1)) (b:=w.heap.size+1) (by omega) (.bool g2) (.slice p2 n2 c2) (.bool h2) (.slice o2 m2 e2)) hb3).drew hb4) hb5) hb6)
  go_wp2_with fail
  exact bodyPost_ret (v:=.tuple #[.agg #[.bool g6,.slice p6 n6 c6,.bool h6,.slice o6 m6 e6],.int .i64 0]) (by simp[results,Tryz.results91,go_sem,a0,e0,b0,f0,c0,g0,d0,h0,i0,m0,j0,n0,k0,o0,l0,p0,q0,u0,r0,v0,s0,w0,t0,x0]) rfl ⟨_,rfl,by rw[<-HX.out];exact(hi6.aT qC rfl rfl rfl rfl (.bool g6) (.slice p6 n6 c6) (.bool h6) (.slice o6 m6 e6)),(Below.aT i1 (b:=w.heap.size+1+1) (by omega) (.bool g6) (.slice p6 n6 c6) (.bool h6) (.slice o6 m6 e6))⟩
theorem a1X (v u:Value) (o1 o2:Bool) (x y:Rat) (w:World) (h1:fE w v o1 x) (h2:fE w u o2 y) (n1:Qn v 400000000) (n2:Qn u 400000000) (hy:y=0) :
  Calls Tryz.prog 91 #[v,u] w (a9p 14 w):=by
 obtain⟨b,p,n,c,d,o,m,e,rfl⟩:=h1.form
 obtain⟨f,i,j,k,g,r,t,a,rfl⟩:=h2.form
 have hl:=h1.iV n1 (by omega)
 have hl2:=h2.iV n2 (by omega)
 have m1:=n1.up (show 400000000<=1000000000 by omega)
 have m2:=n2.up (show 400000000<=1000000000 by omega)
 have b1:=dL x
 have b2:=cO x
 have b3:=dL y
 have b4:=cO y
 have KY:(sgn y.num==0)=true:=by rw[hy];rfl
 clear hy
 have aY:Below w.heap.size w w:=Below.refl _ _
 go_enter Tryz.func91,Tryz.ntmps91
 go_wp2_with fail
 obtain⟨hA1,y0,z0,d1⟩:=bx3 w rfl [.bool b,.slice p n c,.bool d,.slice o m e] 30 [.bool f,.slice i j k,.bool g,.slice r t a] 30 [.bool false,.slice none 0 0,.bool false,.slice none 0 0] 30
 obtain⟨k1,y1,q1,a2,s1,f2,u1,j2⟩:=y0.drew.cf4
 obtain⟨l2,e3,s2,g3,x2,i3,a3,k3⟩:=z0.drew.cf4
 have tk1:True:=trivial
 have tk2:True:=trivial
 go_region_with
  (first
   | (((have:=tk1);clear tk1;have f1:=(h1.below hA1).drew;go_at_call 105;(with_reducible refine(gZ _ _ (x) _ f1 m1).mono ?_);rintro e w1 ⟨v1,rfl,hi1,hb1⟩;obtain⟨g1,p1,n1,c1,h1,o1,m1,e1,rfl⟩:=hi1.form;have dF:=(z0.drew.to hb1);obtain⟨q2,f3,t2,h3,y2,j3,c3,l3⟩:=dF.cf4;have bF:=(y0.drew.to hb1);obtain⟨l1,z1,r1,d2,t1,i2,x1,k2⟩:=bF.cf4))
   | (((have:=tk2);clear tk2;have WY:=((h2.below hA1).drew.below hb1);have i1:=WY;go_at_call 105;(with_reducible refine(gZ _ _ (y) _ i1 m2).mono ?_);rintro e w2 ⟨v2,rfl,hi2,hb2⟩;obtain⟨g2,p2,n2,c2,h2,o2,m2,e2,rfl⟩:=hi2.form;have bV:=(bF.to hb2);obtain⟨a0,e0,b0,f0,c0,g0,d0,h0⟩:=bV.cf4;have bJ:=(dF.to hb2);obtain⟨i0,m0,j0,n0,k0,o0,l0,p0⟩:=bJ.cf4)))
 all_goals
  obtain⟨r2,u2,z2,d3⟩:=((bJ.dI (b:=w.heap.size) (by omega) (.bool g1) (.slice p1 n1 c1) (.bool h1) (.slice o1 m1 e1)).jS (.bool g2) (.slice p2 n2 c2) (.bool h2) (.slice o2 m2 e2)).cs4
  go_wp2_with fail
  have j1:=((hi2.aT bV rfl rfl rfl rfl (.bool g1) (.slice p1 n1 c1) (.bool h1) (.slice o1 m1 e1)).aT (bJ.dI (b:=w.heap.size) (by omega) (.bool g1) (.slice p1 n1 c1) (.bool h1) (.slice o1 m1 e1)) rfl rfl rfl rfl (.bool g2) (.slice p2 n2 c2) (.bool h2) (.slice o2 m2 e2)).num.raw
  (with_reducible refine(lN _ (((y)).num) _ j1).mono ?_)
  rintro e w3 ⟨rfl,hb3⟩
  have BK:=(((((d1.drew.to hb1).to hb2).dI (b:=w.heap.size) (by omega) (.bool g1) (.slice p1 n1 c1) (.bool h1) (.slice o1 m1 e1)).dI (b:=w.heap.size+1) (by omega) (.bool g2) (.slice p2 n2 c2) (.bool h2) (.slice o2 m2 e2)).to hb3)
  obtain⟨q0,u0,r0,v0,s0,w0,t0,x0⟩:=BK.cf4
  have a1:=(Below.tr (Below.aT (Below.aT (Below.tr (Below.tr (Below.tr aY hA1).drew hb1) hb2) (b:=w.heap.size) (by omega) (.bool g1) (.slice p1 n1 c1) (.bool h1) (.slice o1 m1 e1)) (b:=w.heap.size+1) (by omega) (.bool g2) (.slice p2 n2 c2) (.bool h2) (.slice o2 m2 e2)) hb3)
  go_wp2_with fail
  exact bodyPost_ret (v:=.tuple #[.agg #[.bool false,.slice none 0 0,.bool false,.slice none 0 0],.int .i64 14]) (by simp[results,Tryz.results91,go_sem,a0,e0,b0,f0,c0,g0,d0,h0,i0,m0,j0,n0,k0,o0,l0,p0,q0,u0,r0,v0,s0,w0,t0,x0]) rfl ⟨rfl,(Below.aT a1 (b:=w.heap.size+1+1) (by omega) (.bool false) (.slice none 0 0) (.bool false) (.slice none 0 0))⟩
theorem WS (v u:Value) (o1 o2:Bool) (x y:Rat) (w:World) (h1:fE w v o1 x) (h2:fE w u o2 y) (n1:Qn v 400000000) (n2:Qn u 400000000) :
  Calls Tryz.prog 90 #[v,u] w (fun e w'=>e=.returned (.int .i64 (qP x y))/\Below w.heap.size w w'):=by
 obtain⟨b,p,n,c,d,o,m,e,rfl⟩:=h1.form
 obtain⟨f,i,j,k,g,r,t,a,rfl⟩:=h2.form
 have hl:=h1.iV n1 (by omega)
 have hl2:=h2.iV n2 (by omega)
 have m1:=n1.up (show 400000000<=1000000000 by omega)
 have m2:=n2.up (show 400000000<=1000000000 by omega)
 have b1:=dL x
 have b2:=cO x
 have b3:=dL y
 have b4:=cO y
 have c1:=eF x.num y.den
 have c2:=eF y.num x.den
 have aY:Below w.heap.size w w:=Below.refl _ _
 go_enter Tryz.func90,Tryz.ntmps90
 go_wp2_with fail
 obtain⟨hA1,a0,b0⟩:=bx2 w rfl [.bool b,.slice p n c,.bool d,.slice o m e] 30 [.bool f,.slice i j k,.bool g,.slice r t a] 30
 obtain⟨p0,d1,s0,j1,v0,q1,y0,t1⟩:=a0.drew.cf4
 obtain⟨y1,t2,d2,y2,j2,d3,q2,h3⟩:=b0.drew.cf4
 have tk1:True:=trivial
 have tk2:True:=trivial
 go_region_with
  (first
   | (((have:=tk1);clear tk1;have e0:=(h1.below hA1).drew;go_at_call 105;(with_reducible refine(gZ _ _ (x) _ e0 m1).mono ?_);rintro e w1 ⟨v1,rfl,hi1,hb1⟩;obtain⟨g1,p1,n1,c1,h1,o1,m1,e1,rfl⟩:=hi1.form;have dF:=(b0.drew.to hb1);obtain⟨z1,u2,f2,z2,k2,e3,r2,i3⟩:=dF.cf4;have bF:=(a0.drew.to hb1);obtain⟨q0,f1,t0,k1,w0,r1,z0,u1⟩:=bF.cf4))
   | (((have:=tk2);clear tk2;have WY:=((h2.below hA1).drew.below hb1);have f0:=WY;go_at_call 105;(with_reducible refine(gZ _ _ (y) _ f0 m2).mono ?_);rintro e w2 ⟨v2,rfl,hi2,hb2⟩;obtain⟨g2,p2,n2,c2,h2,o2,m2,e2,rfl⟩:=hi2.form;have bV:=(bF.to hb2);obtain⟨r0,i1,u0,l1,x0,s1,a1,x1⟩:=bV.cf4;have bJ:=(dF.to hb2);obtain⟨a2,x2,i2,a3,l2,f3,s2,j3⟩:=bJ.cf4)))
 all_goals
  go_wp2_with fail
  have MI:=(aP.mk (((bV.jS (.bool g1) (.slice p1 n1 c1) (.bool h1) (.slice o1 m1 e1)).dI (b:=w.heap.size+1) (by omega) (.bool g2) (.slice p2 n2 c2) (.bool h2) (.slice o2 m2 e2)).drew).bs4 (((bJ.dI (b:=w.heap.size) (by omega) (.bool g1) (.slice p1 n1 c1) (.bool h1) (.slice o1 m1 e1)).jS (.bool g2) (.slice p2 n2 c2) (.bool h2) (.slice o2 m2 e2)).drew).bs4)
  have tk3:True:=trivial
  have tk4:True:=trivial
  have tk5:True:=trivial
  go_region_held3 (aP (BS4 w.heap.size (.bool g1) (.slice p1 n1 c1) (.bool h1) (.slice o1 m1 e1)) (BS4 (w.heap.size+1) (.bool g2) (.slice p2 n2 c2) (.bool h2) (.slice o2 m2 e2))) (first|with_reducible exact MI|with_reducible exact gB.go (aP.hk BS4.hk BS4.hk) (by assumption) (by assumption)|(simp;done))
   (first
    | (((have:=tk3);clear tk3;have c0:=(hi1.below hb2);have g0:=((c0.aT bV rfl rfl rfl rfl (.bool g1) (.slice p1 n1 c1) (.bool h1) (.slice o1 m1 e1)).aT (bJ.dI (b:=w.heap.size) (by omega) (.bool g1) (.slice p1 n1 c1) (.bool h1) (.slice o1 m1 e1)) rfl rfl rfl rfl (.bool g2) (.slice p2 n2 c2) (.bool h2) (.slice o2 m2 e2)).drew.num.raw;have h0:=((hi2.aT bV rfl rfl rfl rfl (.bool g1) (.slice p1 n1 c1) (.bool h1) (.slice o1 m1 e1)).aT (bJ.dI (b:=w.heap.size) (by omega) (.bool g1) (.slice p1 n1 c1) (.bool h1) (.slice o1 m1 e1)) rfl rfl rfl rfl (.bool g2) (.slice p2 n2 c2) (.bool h2) (.slice o2 m2 e2)).drew.den.raw;go_at_call 71;(with_reducible refine(mul_any _ _ (((x)).num) ((((y)).den:Int)) _ g0 h0 (by omega) (by omega)).mono ?_);rintro e w3 ⟨v3,rfl,hi3,hb3⟩;obtain⟨g3,p3,n3,c3,rfl⟩:=hi3.form))
    | (((have:=tk4);clear tk4;have n0:=(((hi2.aT bV rfl rfl rfl rfl (.bool g1) (.slice p1 n1 c1) (.bool h1) (.slice o1 m1 e1)).aT (bJ.dI (b:=w.heap.size) (by omega) (.bool g1) (.slice p1 n1 c1) (.bool h1) (.slice o1 m1 e1)) rfl rfl rfl rfl (.bool g2) (.slice p2 n2 c2) (.bool h2) (.slice o2 m2 e2)).drew.below hb3);have i0:=n0.num.raw;have m0:=(((c0.aT bV rfl rfl rfl rfl (.bool g1) (.slice p1 n1 c1) (.bool h1) (.slice o1 m1 e1)).aT (bJ.dI (b:=w.heap.size) (by omega) (.bool g1) (.slice p1 n1 c1) (.bool h1) (.slice o1 m1 e1)) rfl rfl rfl rfl (.bool g2) (.slice p2 n2 c2) (.bool h2) (.slice o2 m2 e2)).drew.below hb3);have j0:=m0.den.raw;go_at_call 71;(with_reducible refine(mul_any _ _ (((y)).num) ((((x)).den:Int)) _ i0 j0 (by omega) (by omega)).mono ?_);rintro e w4 ⟨v4,rfl,hi4,hb4⟩;obtain⟨g4,p4,n4,c4,rfl⟩:=hi4.form))
    | (((have:=tk5);clear tk5;have o0:=(hi3.below hb4);have k0:=o0.raw;have l0:=hi4.raw;go_at_call 132;(with_reducible refine(EC _ _ ((((x)).num)*((((y)).den:Int))) ((((y)).num)*((((x)).den:Int))) _ k0 l0).mono ?_);rintro e w5 ⟨rfl,hb5⟩)))
  have d0:=(Below.tr (Below.tr (Below.tr (Below.aT (Below.aT (Below.tr (Below.tr (Below.tr aY hA1).drew hb1) hb2) (b:=w.heap.size) (by omega) (.bool g1) (.slice p1 n1 c1) (.bool h1) (.slice o1 m1 e1)) (b:=w.heap.size+1) (by omega) (.bool g2) (.slice p2 n2 c2) (.bool h2) (.slice o2 m2 e2)).drew hb3) hb4) hb5)
  go_wp2_with fail
  go_ret
  exact⟨fH (a9A x y),d0⟩
theorem qQ (v u:Value) (x y:Rat) (w:World) (h1:RQ w v x) (h2:RQ w u y) (l1:rsz x<=400000000) (l2:rsz y<=400000000) :
 Calls Tryz.prog 90 #[v,u] w (fun e w'=>e=.returned (.int .i64 (qP x y))/\Below w.heap.size w w'):=WS v u true true x y w h1.raw h2.raw (h1.qn l1) (h2.qn l2)
theorem a3N (v u:Value) (x y:Rat) (w:World) (h1:RQ w v x) (h2:RQ w u y) (l1:rsz x<=400000000) (l2:rsz y<=400000000) (hy:y≠0) :
 Calls Tryz.prog 91 #[v,u] w (GQC (x / y) 0 w):=a1Y v u true true x y w h1.raw h2.raw (h1.qn l1) (h2.qn l2) hy
theorem a9f (v u:Value) (o1 o2:Bool) (x y:Rat) (w:World) (fa:fE w v o1 x) (fb:fE w u o2 y) (qa:Qn v 400000000) (qb:Qn u 400000000) :
  Calls Tryz.prog 56 #[v,u] w (GQ (x-y) w):=by
 obtain⟨b,p,n,c,d,o,m,e,rfl⟩:=fa.form
 obtain⟨f,i,j,k,g,r,t,a,rfl⟩:=fb.form
 have hl:=fa.iV qa (by omega)
 have hl2:=fb.iV qb (by omega)
 have ma:=qa.up (show 400000000<=1000000000 by omega)
 have mb:=qb.up (show 400000000<=1000000000 by omega)
 have b1:=dL x
 have b2:=cO x
 have b3:=dL y
 have b4:=cO y
 have hc5:rsz (-y)<=400000000:=by rw[FP];exact hl2
 have aY:Below w.heap.size w w:=Below.refl _ _
 go_enter Tryz.func56,Tryz.ntmps56
 go_wp2_with fail
 obtain⟨hA1,l0,m0,i0⟩:=bx3 w rfl [.bool b,.slice p n c,.bool d,.slice o m e] 30 [.bool f,.slice i j k,.bool g,.slice r t a] 30 [.bool false,.slice none 0 0,.bool false,.slice none 0 0] 30
 have vT:=(aP.mk (l0.drew).bs4 (aP.mk (m0.drew).bs4 (BN.of (i0.drew))))
 have j0:dD (w.heap.size+1+1) (aP (BS4 w.heap.size (.bool b) (.slice p n c) (.bool d) (.slice o m e)) (aP (BS4 (w.heap.size+1) (.bool f) (.slice i j k) (.bool g) (.slice r t a)) (BN (w.heap.size+1+1)))):=(aP.hc (BS4.hc (by omega)) (aP.hc (BS4.hc (by omega)) BN.hc))
 have tk1:True:=trivial
 have tk2:True:=trivial
 go_region_held3 (aP (BS4 w.heap.size (.bool b) (.slice p n c) (.bool d) (.slice o m e)) (aP (BS4 (w.heap.size+1) (.bool f) (.slice i j k) (.bool g) (.slice r t a)) (BN (w.heap.size+1+1)))) (first|with_reducible exact vT|with_reducible exact gB.go (aP.hk BS4.hk (aP.hk BS4.hk BN.hk)) (by assumption) (by assumption)|with_reducible exact dD.go4 j0 (by assumption)|(simp;done))
  (first
   | (((have:=tk1);clear tk1;have n0:=(fb.below hA1).drew;go_at_call 108;(with_reducible refine(a0E _ _ (y) _ n0 mb).mono ?_);rintro e w1 ⟨v1,rfl,hi1,hb1⟩;obtain⟨g1,p1,n1,c1,h1,o1,m1,e1,rfl⟩:=hi1.form))
   | (((have:=tk2);clear tk2;have b1J:=((fa.below hA1).drew.below hb1);have o0:=b1J;have p0:=hi1.raw;go_at_call 52;(with_reducible refine(ZA _ _ _ _ (x) (-(y)) _ o0 p0 qa (RQ.qn hi1 hc5)).mono ?_);rintro e w2 ⟨v2,rfl,hi2,hb2⟩;obtain⟨g2,p2,n2,c2,h2,o2,m2,e2,rfl⟩:=hi2.form;have kX:=((i0.drew.to hb1).to hb2);obtain⟨a0,e0,b0,f0,c0,g0,d0,h0⟩:=kX.cf4)))
 have k0:=(Below.tr (Below.tr (Below.tr aY hA1).drew hb1) hb2)
 go_wp2_with fail
 exact bodyPost_ret (v:=.agg #[.bool g2,.slice p2 n2 c2,.bool h2,.slice o2 m2 e2]) (by simp[results,Tryz.results56,go_sem,a0,e0,b0,f0,c0,g0,d0,h0]) rfl ⟨_,rfl,by rw[Rat.sub_eq_add_neg];exact(hi2.aT kX rfl rfl rfl rfl (.bool g2) (.slice p2 n2 c2) (.bool h2) (.slice o2 m2 e2)),(Below.aT k0 (b:=w.heap.size+1+1) (by omega) (.bool g2) (.slice p2 n2 c2) (.bool h2) (.slice o2 m2 e2))⟩
theorem a1o (v u:Value) (x y:Rat) (w:World) (h1:RQ w v x) (h2:RQ w u y) (l1:rsz x<=400000000) (l2:rsz y<=400000000) :
 Calls Tryz.prog 56 #[v,u] w (GQ (x-y) w):=a9f v u true true x y w h1.raw h2.raw (h1.qn l1) (h2.qn l2)
end Go.Proofs.YtidfgdchcpmnfaaGreat
