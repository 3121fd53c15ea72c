/-
  Lemmas for the theorem vtransforms_holds, part 4 of 39.
-/
import Derived.Test.YtgplhbhfdgempaaGreatTr03
namespace Go.Proofs.YtgplhbhfdgempaaGreat
open Go Go.RowKit
theorem uz:type_of% @Int.sign_eq_neg_one_of_neg:=@Int.sign_eq_neg_one_of_neg
theorem vw:type_of% @Int.sign_eq_one_of_pos:=@Int.sign_eq_one_of_pos
theorem Aq:type_of% @Nat.add_mul:=@Nat.add_mul
set_option maxRecDepth 100000
set_option maxHeartbeats 800000
set_option linter.unusedSimpArgs false
set_option linter.unusedVariables false
theorem sum_any (neg oth:Bool) (s t:Value) (a b:List Nat) (w:World) (hs:Rd w s a) (ht:Rd w t b) (ha:Canon a) (hb:Canon b) (la:a.length<=1000000000) (lb:b.length<=1000000000) :
  Calls Tryz.prog 175 #[.bool neg,s,.bool oth,t] w (sO (sg neg (val a)+sg oth (val b)) w):=by
 have q0:=Bx.new w [.bool false,.slice none 0 0] 62
 have hs1:=hs.alloc (.cells #[.bool false,.slice none 0 0] 62)
 have ht1:=ht.alloc (.cells #[.bool false,.slice none 0 0] 62)
 have hB0:Below w.heap.size w (w.alloc (.cells #[.bool false,.slice none 0 0] 62)):=(dn _ _).alloc (aj _) _
 by_cases he:neg=oth
 ·subst he
  have hd:(neg==neg)=true:=by simp
  have HX:Hid (sg neg (val (dig (val a+val b)))=sg neg (val a)+sg neg (val b)):=by unfold Hid;rw[aJ];cases neg<;>simp[sg]<;>omega
  go_enter Tryz.func175,Tryz.ntmps175
  go_wp2_with fail
  refine(a2G _ _ a b _ hs1 ht1 ha.1 hb.1 la lb).mono ?_
  rintro e w1 ⟨v1,rfl,ho1,hb1⟩
  go_wp2_with fail
  refine(jB neg _ _ _ (Rd.dO ho1) (dB _)).mono ?_
  rw[HX.out]
  rintro e w2 ⟨v2,rfl,hi2,hb2⟩
  obtain⟨g2,p2,n2,c2,rfl⟩:=hi2.form
  have q2:=(q0.to hb1).to hb2
  have r0:=q2.c0
  have r1:=q2.c1
  have f0:=q2.f0
  have f1:=q2.f1
  have hB:Below w.heap.size w w2:=(hB0.trans (hb1.mono (by simp))).trans (hb2.mono (by have:=hb1.size;simp at this;omega))
  go_wp2_with fail
  exact jh (v:=.agg #[.bool g2,.slice p2 n2 c2]) (by simp[results,Tryz.results175,go_sem,r0,r1]) rfl ⟨_,rfl,hi2.a1v r0 r1 _ _,mD hB (aj _) _ _⟩
 ·have hd:(neg==oth)=false:=by simpa using he
  by_cases hle:val b<=val a
  ·have HX:Hid (sg neg (val (dig (val a-val b)))=sg neg (val a)+sg oth (val b)):=by unfold Hid;rw[aJ];cases neg<;>cases oth<;>simp[sg] at he ⊢<;>omega
   have hlen:b.length<=a.length:=by
    have:=aN hle
    rwa [fE ha,fE hb] at this
   have hc:0<=dV (val a) (val b):=by unfold dV;rw[ig (by omega)];split<;>omega
   have hdc:decide (0<=dV (val a) (val b))=true:=by simpa using hc
   have HE:=bn he
   clear he hc
   generalize hcv:dV (val a) (val b)=cv at hdc
   have HCV:=bn hcv
   clear hcv
   go_enter Tryz.func175,Tryz.ntmps175
   go_wp2_with fail
   refine(mG _ _ a b _ hs1 ht1 ha hb).mono ?_
   rw[HCV.out]
   rintro e w1 ⟨rfl,hb1⟩
   go_wp2_with fail
   refine(MX _ _ a b _ (hs1.below hb1) (ht1.below hb1) ha.1 hb.1 la hlen hle).mono ?_
   rintro e w2 ⟨v2,rfl,ho2,hb2⟩
   go_wp2_with fail
   refine(jB neg _ _ _ (Rd.dO ho2) (dB _)).mono ?_
   rw[HX.out]
   rintro e w3 ⟨v3,rfl,hi3,hb3⟩
   obtain⟨g2,p2,n2,c2,rfl⟩:=hi3.form
   have q2:=((q0.to hb1).to hb2).to hb3
   have r0:=q2.c0
   have r1:=q2.c1
   have f0:=q2.f0
   have f1:=q2.f1
   have hz1:=hb1.size
   have hz2:=hb2.size
   simp at hz1
   have hB:Below w.heap.size w w3:=((hB0.trans (hb1.mono (by simp))).trans (hb2.mono (by omega))).trans (hb3.mono (by omega))
   go_wp2_with fail
   exact jh (v:=.agg #[.bool g2,.slice p2 n2 c2]) (by simp[results,Tryz.results175,go_sem,r0,r1]) rfl ⟨_,rfl,hi3.a1v r0 r1 _ _,mD hB (aj _) _ _⟩
  ·have HX:Hid (sg oth (val (dig (val b-val a)))=sg neg (val a)+sg oth (val b)):=by unfold Hid;rw[aJ];cases neg<;>cases oth<;>simp[sg] at he ⊢<;>omega
   have hle':val a<=val b:=by omega
   have hlen:a.length<=b.length:=by
    have:=aN hle'
    rwa [fE ha,fE hb] at this
   have hc:dV (val a) (val b)<0:=by unfold dV;rw[gy (by omega)];omega
   have hdc:decide (0<=dV (val a) (val b))=false:=by simpa using hc
   have HE:=bn he
   clear he hc hle
   generalize hcv:dV (val a) (val b)=cv at hdc
   have HCV:=bn hcv
   clear hcv
   go_enter Tryz.func175,Tryz.ntmps175
   go_wp2_with fail
   refine(mG _ _ a b _ hs1 ht1 ha hb).mono ?_
   rw[HCV.out]
   rintro e w1 ⟨rfl,hb1⟩
   go_wp2_with fail
   refine(MX _ _ b a _ (ht1.below hb1) (hs1.below hb1) hb.1 ha.1 lb hlen hle').mono ?_
   rintro e w2 ⟨v2,rfl,ho2,hb2⟩
   go_wp2_with fail
   refine(jB oth _ _ _ (Rd.dO ho2) (dB _)).mono ?_
   rw[HX.out]
   rintro e w3 ⟨v3,rfl,hi3,hb3⟩
   obtain⟨g2,p2,n2,c2,rfl⟩:=hi3.form
   have q2:=((q0.to hb1).to hb2).to hb3
   have r0:=q2.c0
   have r1:=q2.c1
   have f0:=q2.f0
   have f1:=q2.f1
   have hz1:=hb1.size
   have hz2:=hb2.size
   simp at hz1
   have hB:Below w.heap.size w w3:=((hB0.trans (hb1.mono (by simp))).trans (hb2.mono (by omega))).trans (hb3.mono (by omega))
   go_wp2_with fail
   exact jh (v:=.agg #[.bool g2,.slice p2 n2 c2]) (by simp[results,Tryz.results175,go_sem,r0,r1]) rfl ⟨_,rfl,hi3.a1v r0 r1 _ _,mD hB (aj _) _ _⟩
set_option maxHeartbeats 2000000
theorem DU (v:Value) (x:Int) (w:World) (hv:Raw w v x) :
  Calls Tryz.prog 118 #[v] w fun e w'=>e=.returned (.int .i64 x.sign)/\Below w.heap.size w w':=by
 obtain⟨b,p,n,c,rfl⟩:=hv.form
 have bZ:Below w.heap.size w w:=dn _ _
 have qZ:=hv.alloc (.cells #[.bool b,.slice p n c] 62)
 have qY:=Below.alloc bZ bZ.size (.cells #[.bool b,.slice p n c] 62)
 clear bZ
 have q_1:Bx (w.alloc (.cells #[.bool b,.slice p n c] 62)) (w.heap.size) [.bool b,.slice p n c]:=by
  have:=Bx.new w [.bool b,.slice p n c] 62
  simpa using this
 have d0:=q_1.c0
 have e0:=q_1.c1
 have HS:=bn (fun h:x≠0=>hv.sign h)
 by_cases hx:x=0
 ·have hl0:(dig x.natAbs).length=0:=by subst hx;simp[dY]
  have HV:=bn hx
  clear hx
  go_enter Tryz.func118,Tryz.ntmps118
  go_wp2_with fail
  refine(fG _ x _ qZ).mono ?_
  rintro e w1 ⟨s1,rfl,hs1,hb1⟩
  have IK:=qZ.below hb1
  have xE:=qY.trans (hb1.mono qY.size)
  have q_2:=q_1.to hb1
  clear qZ qY q_1
  obtain⟨p1,c1,rfl,hc1,hc2⟩:=hs1.form
  rw[hl0]
  go_wp2_with fail
  go_ret
  exact⟨by rw[HV.out];rfl,xE⟩
 ·have hb:b=decide (x<0):=HS.out hx
  have hl0:0<(dig x.natAbs).length:=by
   rcases yj (dig x.natAbs).length with h|h
   ·have:=(kF (n:=x.natAbs)).1 (ou h)
    omega
   ·exact h
  by_cases hn:x<0
  ·have hbt:b=true:=by rw[hb];simpa using hn
   have HV:=bn (And.intro hx hn)
   clear hx hn hb
   subst hbt
   go_enter Tryz.func118,Tryz.ntmps118
   go_wp2_with fail
   refine(fG _ x _ qZ).mono ?_
   rintro e w1 ⟨s1,rfl,hs1,hb1⟩
   have IK:=qZ.below hb1
   have xE:=qY.trans (hb1.mono qY.size)
   have q_2:=q_1.to hb1
   clear qZ qY q_1
   obtain⟨p1,c1,rfl,hc1,hc2⟩:=hs1.form
   have a0:=q_2.c0
   have b0:=q_2.c1
   go_wp2_with fail
   go_ret
   exact⟨by rw[uz HV.out.2];rfl,xE⟩
  ·have hbt:b=false:=by rw[hb];simpa using hn
   have HV:=bn (And.intro hx hn)
   clear hx hn hb
   subst hbt
   go_enter Tryz.func118,Tryz.ntmps118
   go_wp2_with fail
   refine(fG _ x _ qZ).mono ?_
   rintro e w1 ⟨s1,rfl,hs1,hb1⟩
   have IK:=qZ.below hb1
   have xE:=qY.trans (hb1.mono qY.size)
   have q_2:=q_1.to hb1
   clear qZ qY q_1
   obtain⟨p1,c1,rfl,hc1,hc2⟩:=hs1.form
   have a0:=q_2.c0
   have b0:=q_2.c1
   go_wp2_with fail
   go_ret
   exact⟨by rw[vw (by have:=HV.out;omega)];rfl,xE⟩
theorem add_any (v u:Value) (x y:Int) (w:World) (hv:Raw w v x) (hu:Raw w u y) (hl:isz x<=1000000000) (hl2:isz y<=1000000000) :
  Calls Tryz.prog 152 #[v,u] w (sO (x+y) w):=by
 obtain⟨b,p,n,c,rfl⟩:=hv.form
 obtain⟨d,o,m,e,rfl⟩:=hu.form
 have HX:Hid (sg b (val (dig x.natAbs))+sg d (val (dig y.natAbs))=x+y):=by unfold Hid;rw[aJ,aJ,yA hv,yA hu]
 have bZ:Below w.heap.size w w:=dn _ _
 have qZ:=hv.alloc (.cells #[.bool b,.slice p n c] 62)
 have jZ:=hu.alloc (.cells #[.bool b,.slice p n c] 62)
 have qY:=Below.alloc bZ bZ.size (.cells #[.bool b,.slice p n c] 62)
 clear bZ
 have q_1:Bx (w.alloc (.cells #[.bool b,.slice p n c] 62)) (w.heap.size) [.bool b,.slice p n c]:=by
  have:=Bx.new w [.bool b,.slice p n c] 62
  simpa using this
 have IK:=qZ.alloc (.cells #[.bool d,.slice o m e] 62)
 have VZ:=jZ.alloc (.cells #[.bool d,.slice o m e] 62)
 have xE:=Below.alloc qY qY.size (.cells #[.bool d,.slice o m e] 62)
 have q_2:=q_1.alloc (.cells #[.bool d,.slice o m e] 62)
 clear qZ jZ qY q_1
 have t_2:Bx ((w.alloc (.cells #[.bool b,.slice p n c] 62)).alloc (.cells #[.bool d,.slice o m e] 62)) (w.heap.size+1) [.bool d,.slice o m e]:=by
  have:=Bx.new (w.alloc (.cells #[.bool b,.slice p n c] 62)) [.bool d,.slice o m e] 62
  simpa using this
 have KD:=IK.alloc (.cells #[.bool false,.slice none 0 0] 62)
 have KC:=VZ.alloc (.cells #[.bool false,.slice none 0 0] 62)
 have AU:=Below.alloc xE xE.size (.cells #[.bool false,.slice none 0 0] 62)
 have q_3:=q_2.alloc (.cells #[.bool false,.slice none 0 0] 62)
 have t_3:=t_2.alloc (.cells #[.bool false,.slice none 0 0] 62)
 clear IK VZ xE q_2 t_2
 have r_3:Bx (((w.alloc (.cells #[.bool b,.slice p n c] 62)).alloc (.cells #[.bool d,.slice o m e] 62)).alloc (.cells #[.bool false,.slice none 0 0] 62)) (w.heap.size+2) [.bool false,.slice none 0 0]:=by
  have:=Bx.new ((w.alloc (.cells #[.bool b,.slice p n c] 62)).alloc (.cells #[.bool d,.slice o m e] 62)) [.bool false,.slice none 0 0] 62
  simpa using this
 have MH:=KD.drew
 have IJ:=KC.drew
 have II:=AU.drew
 have q_4:=q_3.drew
 have t_4:=t_3.drew
 have r_4:=r_3.drew
 clear KD KC AU q_3 t_3 r_3
 have S0:(fun w':World=>w'.cell? ⟨w.heap.size,0,none⟩=some (.bool b)/\w'.cell? ⟨w.heap.size,1,none⟩=some (.slice p n c)/\w'.cell? ⟨w.heap.size+1,0,none⟩=some (.bool d)/\w'.cell? ⟨w.heap.size+1,1,none⟩=some (.slice o m e)/\w.heap.size+1<w'.heap.size) (((w.alloc (.cells #[.bool b,.slice p n c] 62)).alloc (.cells #[.bool d,.slice o m e] 62)).alloc (.cells #[.bool false,.slice none 0 0] 62)).drew:=⟨q_4.c0,q_4.c1,t_4.c0,t_4.c1,t_4.1⟩
 have K:∀ A B:World,(fun w':World=>w'.cell? ⟨w.heap.size,0,none⟩=some (.bool b)/\w'.cell? ⟨w.heap.size,1,none⟩=some (.slice p n c)/\w'.cell? ⟨w.heap.size+1,0,none⟩=some (.bool d)/\w'.cell? ⟨w.heap.size+1,1,none⟩=some (.slice o m e)/\w.heap.size+1<w'.heap.size) A->Below A.heap.size A B->(fun w':World=>w'.cell? ⟨w.heap.size,0,none⟩=some (.bool b)/\w'.cell? ⟨w.heap.size,1,none⟩=some (.slice p n c)/\w'.cell? ⟨w.heap.size+1,0,none⟩=some (.bool d)/\w'.cell? ⟨w.heap.size+1,1,none⟩=some (.slice o m e)/\w.heap.size+1<w'.heap.size) B:=by
  rintro A B ⟨h0,h1,h2,h3,h4⟩ hb
  have hs:=hb.size
  exact⟨by rw[(gU hb).1 _ _ (by omega)];exact h0,by rw[(gU hb).1 _ _ (by omega)];exact h1,by rw[(gU hb).1 _ _ (by omega)];exact h2,by rw[(gU hb).1 _ _ (by omega)];exact h3,by omega⟩
 have KS0:∀ (A:World) (x0 x1:Value),(fun w':World=>w'.cell? ⟨w.heap.size,0,none⟩=some (.bool b)/\w'.cell? ⟨w.heap.size,1,none⟩=some (.slice p n c)/\w'.cell? ⟨w.heap.size+1,0,none⟩=some (.bool d)/\w'.cell? ⟨w.heap.size+1,1,none⟩=some (.slice o m e)/\w.heap.size+1<w'.heap.size) A->(fun w':World=>w'.cell? ⟨w.heap.size,0,none⟩=some (.bool b)/\w'.cell? ⟨w.heap.size,1,none⟩=some (.slice p n c)/\w'.cell? ⟨w.heap.size+1,0,none⟩=some (.bool d)/\w'.cell? ⟨w.heap.size+1,1,none⟩=some (.slice o m e)/\w.heap.size+1<w'.heap.size) ((A.setCell ⟨w.heap.size+2,0,none⟩ x0).setCell ⟨w.heap.size+2,1,none⟩ x1):=by
  rintro A x0 x1 ⟨h0,h1,h2,h3,h4⟩
  simp[go_sem,h0,h1,h2,h3,h4]
 have tk1:True:=trivial
 have tk2:True:=trivial
 go_enter Tryz.func152,Tryz.ntmps152
 go_wp2_with fail
 go_region_held3 (fun w':World=>w'.cell? ⟨w.heap.size,0,none⟩=some (.bool b)/\w'.cell? ⟨w.heap.size,1,none⟩=some (.slice p n c)/\w'.cell? ⟨w.heap.size+1,0,none⟩=some (.bool d)/\w'.cell? ⟨w.heap.size+1,1,none⟩=some (.slice o m e)/\w.heap.size+1<w'.heap.size) (first|exact S0|(simp;done)|exact K _ _ (by assumption) (by assumption)|exact KS0 _ _ _ (by assumption))
  (first
   | ((have:=tk1;skip);clear tk1;go_at_call 153;refine(fG _ x _ MH).mono ?_;rintro e w1 ⟨s1,rfl,hs1,hb1⟩;have a0s:=MH.below hb1;have TB:=IJ.below hb1;have OZ:=II.trans (hb1.mono II.size);have q_5:=q_4.to hb1;have t_5:=t_4.to hb1;have r_5:=r_4.to hb1;clear MH IJ II q_4 t_4 r_4)
   | ((have:=tk2;skip);clear tk2;go_at_call 153;refine(fG _ y _ TB).mono ?_;rintro e w2 ⟨s2,rfl,hs2,hb2⟩;have a0t:=a0s.below hb2;have a2g:=TB.below hb2;have SV:=OZ.trans (hb2.mono OZ.size);have q_6:=q_5.to hb2;have t_6:=t_5.to hb2;have r_6:=r_5.to hb2;have a3U:=hs1.below hb2;clear a0s TB OZ q_5 t_5 r_5 hs1)
   | (go_at_call 175;refine(sum_any _ _ _ _ _ _ _ a3U hs2 (cZ _) (cZ _) hl hl2).mono ?_;rintro e w3 ⟨s3,rfl,hi3,hb3⟩;have a7t:=a0t.below hb3;have a3V:=a2g.below hb3;have a0m:=SV.trans (hb3.mono SV.size);have q_7:=q_6.to hb3;have t_7:=t_6.to hb3;have r_7:=r_6.to hb3;have b5S:=a3U.below hb3;have d0:=hs2.below hb3;clear a0t a2g SV q_6 t_6 r_6 a3U;obtain⟨g3,p3,n3,c3,rfl⟩:=hi3.form;have a0:=r_7.c0;have e0:=r_7.f0;have b0:=r_7.c1;have g0:=r_7.f1))
 go_wp2_with fail
 exact jh (v:=.agg #[.bool g3,.slice p3 n3 c3]) (by simp[results,Tryz.results152,go_sem, *]) rfl ⟨_,rfl,by rw[<-HX.out];exact hi3.a1v a0 b0 _ _,mD a0m (by omega) _ _⟩
theorem mul_any (v u:Value) (x y:Int) (w:World) (hv:Raw w v x) (hu:Raw w u y) (hl:isz x<=1000000000) (hl2:isz y<=1000000000) :
  Calls Tryz.prog 136 #[v,u] w (sO (x*y) w):=by
 obtain⟨b,p,n,c,rfl⟩:=hv.form
 obtain⟨d,o,m,e,rfl⟩:=hu.form
 have HX:Hid (sg (b != d) (val (dig (val (dig x.natAbs)*val (dig y.natAbs))))=x*y):=by
  have h1:=yA hv
  have h2:=yA hu
  unfold Hid;rw[aJ,aJ,aJ]
  generalize x.natAbs=k at *
  generalize y.natAbs=l at *
  subst h1
  subst h2
  cases b<;>cases d<;>simp[sg,Int.neg_mul,Int.mul_neg]
 have bZ:Below w.heap.size w w:=dn _ _
 have qZ:=hv.alloc (.cells #[.bool b,.slice p n c] 62)
 have jZ:=hu.alloc (.cells #[.bool b,.slice p n c] 62)
 have qY:=Below.alloc bZ bZ.size (.cells #[.bool b,.slice p n c] 62)
 clear bZ
 have q_1:Bx (w.alloc (.cells #[.bool b,.slice p n c] 62)) (w.heap.size) [.bool b,.slice p n c]:=by
  have:=Bx.new w [.bool b,.slice p n c] 62
  simpa using this
 have IK:=qZ.alloc (.cells #[.bool d,.slice o m e] 62)
 have VZ:=jZ.alloc (.cells #[.bool d,.slice o m e] 62)
 have xE:=Below.alloc qY qY.size (.cells #[.bool d,.slice o m e] 62)
 have q_2:=q_1.alloc (.cells #[.bool d,.slice o m e] 62)
 clear qZ jZ qY q_1
 have t_2:Bx ((w.alloc (.cells #[.bool b,.slice p n c] 62)).alloc (.cells #[.bool d,.slice o m e] 62)) (w.heap.size+1) [.bool d,.slice o m e]:=by
  have:=Bx.new (w.alloc (.cells #[.bool b,.slice p n c] 62)) [.bool d,.slice o m e] 62
  simpa using this
 have KD:=IK.alloc (.cells #[.bool false,.slice none 0 0] 62)
 have KC:=VZ.alloc (.cells #[.bool false,.slice none 0 0] 62)
 have AU:=Below.alloc xE xE.size (.cells #[.bool false,.slice none 0 0] 62)
 have q_3:=q_2.alloc (.cells #[.bool false,.slice none 0 0] 62)
 have t_3:=t_2.alloc (.cells #[.bool false,.slice none 0 0] 62)
 clear IK VZ xE q_2 t_2
 have r_3:Bx (((w.alloc (.cells #[.bool b,.slice p n c] 62)).alloc (.cells #[.bool d,.slice o m e] 62)).alloc (.cells #[.bool false,.slice none 0 0] 62)) (w.heap.size+2) [.bool false,.slice none 0 0]:=by
  have:=Bx.new ((w.alloc (.cells #[.bool b,.slice p n c] 62)).alloc (.cells #[.bool d,.slice o m e] 62)) [.bool false,.slice none 0 0] 62
  simpa using this
 have MH:=KD.drew
 have IJ:=KC.drew
 have II:=AU.drew
 have q_4:=q_3.drew
 have t_4:=t_3.drew
 have r_4:=r_3.drew
 clear KD KC AU q_3 t_3 r_3
 have S0:(fun w':World=>w'.cell? ⟨w.heap.size,0,none⟩=some (.bool b)/\w'.cell? ⟨w.heap.size,1,none⟩=some (.slice p n c)/\w'.cell? ⟨w.heap.size+1,0,none⟩=some (.bool d)/\w'.cell? ⟨w.heap.size+1,1,none⟩=some (.slice o m e)/\w.heap.size+1<w'.heap.size) (((w.alloc (.cells #[.bool b,.slice p n c] 62)).alloc (.cells #[.bool d,.slice o m e] 62)).alloc (.cells #[.bool false,.slice none 0 0] 62)).drew:=⟨q_4.c0,q_4.c1,t_4.c0,t_4.c1,t_4.1⟩
 have K:∀ A B:World,(fun w':World=>w'.cell? ⟨w.heap.size,0,none⟩=some (.bool b)/\w'.cell? ⟨w.heap.size,1,none⟩=some (.slice p n c)/\w'.cell? ⟨w.heap.size+1,0,none⟩=some (.bool d)/\w'.cell? ⟨w.heap.size+1,1,none⟩=some (.slice o m e)/\w.heap.size+1<w'.heap.size) A->Below A.heap.size A B->(fun w':World=>w'.cell? ⟨w.heap.size,0,none⟩=some (.bool b)/\w'.cell? ⟨w.heap.size,1,none⟩=some (.slice p n c)/\w'.cell? ⟨w.heap.size+1,0,none⟩=some (.bool d)/\w'.cell? ⟨w.heap.size+1,1,none⟩=some (.slice o m e)/\w.heap.size+1<w'.heap.size) B:=by
  rintro A B ⟨h0,h1,h2,h3,h4⟩ hb
  have hs:=hb.size
  exact⟨by rw[(gU hb).1 _ _ (by omega)];exact h0,by rw[(gU hb).1 _ _ (by omega)];exact h1,by rw[(gU hb).1 _ _ (by omega)];exact h2,by rw[(gU hb).1 _ _ (by omega)];exact h3,by omega⟩
 have KS0:∀ (A:World) (x0 x1:Value),(fun w':World=>w'.cell? ⟨w.heap.size,0,none⟩=some (.bool b)/\w'.cell? ⟨w.heap.size,1,none⟩=some (.slice p n c)/\w'.cell? ⟨w.heap.size+1,0,none⟩=some (.bool d)/\w'.cell? ⟨w.heap.size+1,1,none⟩=some (.slice o m e)/\w.heap.size+1<w'.heap.size) A->(fun w':World=>w'.cell? ⟨w.heap.size,0,none⟩=some (.bool b)/\w'.cell? ⟨w.heap.size,1,none⟩=some (.slice p n c)/\w'.cell? ⟨w.heap.size+1,0,none⟩=some (.bool d)/\w'.cell? ⟨w.heap.size+1,1,none⟩=some (.slice o m e)/\w.heap.size+1<w'.heap.size) ((A.setCell ⟨w.heap.size+2,0,none⟩ x0).setCell ⟨w.heap.size+2,1,none⟩ x1):=by
  rintro A x0 x1 ⟨h0,h1,h2,h3,h4⟩
  simp[go_sem,h0,h1,h2,h3,h4]
 have tk1:True:=trivial
 have tk2:True:=trivial
 go_enter Tryz.func136,Tryz.ntmps136
 go_wp2_with fail
 go_region_held3 (fun w':World=>w'.cell? ⟨w.heap.size,0,none⟩=some (.bool b)/\w'.cell? ⟨w.heap.size,1,none⟩=some (.slice p n c)/\w'.cell? ⟨w.heap.size+1,0,none⟩=some (.bool d)/\w'.cell? ⟨w.heap.size+1,1,none⟩=some (.slice o m e)/\w.heap.size+1<w'.heap.size) (first|exact S0|(simp;done)|exact K _ _ (by assumption) (by assumption)|exact KS0 _ _ _ (by assumption))
  (first
   | ((have:=tk1;skip);clear tk1;go_at_call 153;refine(fG _ x _ MH).mono ?_;rintro e w1 ⟨s1,rfl,hs1,hb1⟩;have a0s:=MH.below hb1;have TB:=IJ.below hb1;have OZ:=II.trans (hb1.mono II.size);have q_5:=q_4.to hb1;have t_5:=t_4.to hb1;have r_5:=r_4.to hb1;clear MH IJ II q_4 t_4 r_4)
   | ((have:=tk2;skip);clear tk2;go_at_call 153;refine(fG _ y _ TB).mono ?_;rintro e w2 ⟨s2,rfl,hs2,hb2⟩;have a0t:=a0s.below hb2;have a2g:=TB.below hb2;have SV:=OZ.trans (hb2.mono OZ.size);have q_6:=q_5.to hb2;have t_6:=t_5.to hb2;have r_6:=r_5.to hb2;have a3U:=hs1.below hb2;clear a0s TB OZ q_5 t_5 r_5 hs1)
   | (go_at_call 166;refine(times_any _ _ _ _ _ a3U hs2 (dB _) (dB _) hl hl2).mono ?_;rintro e w3 ⟨s3,rfl,hs3,hb3⟩;have a7t:=a0t.below hb3;have a3V:=a2g.below hb3;have a0m:=SV.trans (hb3.mono SV.size);have q_7:=q_6.to hb3;have t_7:=t_6.to hb3;have r_7:=r_6.to hb3;have b5S:=a3U.below hb3;have a0:=hs2.below hb3;clear a0t a2g SV q_6 t_6 r_6 a3U;have b5R:=Rd.dO hs3)
   | (go_at_call 158;refine(jB _ _ _ _ b5R (dB _)).mono ?_;rintro e w4 ⟨s4,rfl,hi4,hb4⟩;have b5X:=a7t.below hb4;have b5W:=a3V.below hb4;have a9C:=a0m.trans (hb4.mono a0m.size);have q_8:=q_7.to hb4;have t_8:=t_7.to hb4;have r_8:=r_7.to hb4;have b3c:=b5S.below hb4;have e0:=a0.below hb4;have g0:=b5R.below hb4;clear a7t a3V a0m q_7 t_7 r_7 b5S a0 b5R;obtain⟨g4,p4,n4,c4,rfl⟩:=hi4.form;have b0:=r_8.c0;have i0:=r_8.f0;have d0:=r_8.c1;have j0:=r_8.f1))
 go_wp2_with fail
 exact jh (v:=.agg #[.bool g4,.slice p4 n4 c4]) (by simp[results,Tryz.results136,go_sem, *]) rfl ⟨_,rfl,by rw[<-HX.out];exact hi4.a1v b0 d0 _ _,mD a9C (by omega) _ _⟩
theorem a1i {l:List Nat} {k v:Nat} (h:k<l.length):val (l.set k v)+BB ^ k*gr l k=val l+BB ^ k*v:=by
 induction l generalizing k with
 | nil=>simp at h
 | cons g l ih =>
  cases k with
  | zero=>simp[dH,gr];omega
  | succ k =>
   have:=ih (k:=k) (by simpa using h)
   have e:gr (g::l) (k+1)=gr l k:=by simp[gr]
   rw[List.set_cons_succ,dH,dH,e,Nat.pow_succ]
   generalize val (l.set k v)=a at *
   generalize BB ^ k=p at *
   grind
theorem a1Y {X D P T m g xl:Nat} (hX:X=T*P+xl) (hxl:xl<P) (hD:m*P<=D) (h:T<g*m):X<g*D:=by
 have h1:(T+1)*P<=g*m*P:=jq _ h
 have h2:g*(m*P)<=g*D:=Az _ hD
 rw[Nat.mul_assoc] at h1
 have h3:(T+1)*P=T*P+P:=by rw[Aq,Nat.one_mul]
 omega
theorem a9A {X D P T m g:Nat} (hX:T*P<=X) (hD:D<(m+1)*P) (hg:g<=m+1) (h:g*m<=T):g*D<=X+D:=by
 cases g with
 | zero=>simp
 | succ g =>
  have h1:g*D<=g*((m+1)*P):=Az _ (by omega)
  have h2:g*(m+1)<=T:=by
   have:(g+1)*m=g*m+m:=by rw[Aq,Nat.one_mul]
   have:g*(m+1)=g*m+g:=by rw[Nat.mul_add,Nat.mul_one]
   omega
  have h3:g*(m+1)*P<=T*P:=jq _ h2
  rw[Nat.mul_assoc] at h3
  have h4:(g+1)*D=g*D+D:=by rw[Aq,Nat.one_mul]
  omega
structure kL (S V n L:Nat) (u q:List Nat) (k:Nat):Prop where
 lu:u.length=L
 low:Low u
 lq:q.length+n=L
 b6m:Low q
 zero:∀ m,m<k->gr q m=0
 eq:val u+V*val q=S
 lt:val u<V*BB ^ k
structure a5i (X D g:Nat):Prop where
 hi:X<(g+1)*D
 lo:g*D<=X+D
theorem VL (l:List Nat) (k:Nat):val l=val (l.take k)+BB ^ (min k l.length)*val (l.drop k):=by
 conv=>lhs;rw[<-Cc k l]
 rw[val_append,jm]
theorem b0d {l:List Nat} (h:l≠[]):l.getLast?=some (gr l (l.length-1)):=by
 have:0<l.length:=qp.2 h
 rw[List.getLast?_eq_getElem?,qQ (by omega)]
 exact dw _
theorem QK {l:List Nat} {k:Nat} (h:∀ m,k<=m->gr l m=0):val l=val (l.take k):=by
 by_cases hk:k<l.length
 ·rw[VL l k]
  have:val (l.drop k)=0:=by
   suffices ∀ r:List Nat,(∀ m,gr r m=0)->val r=0 by
    refine this _ (fun m=>?_)
    have:=h (k+m) (by omega)
    simpa [gr,List.getElem?_drop] using this
   intro r
   induction r with
   | nil=>intro _;rfl
   | cons g r ih =>
    intro hz
    have h0:=hz 0
    have h1:=ih (fun m=>by have:=hz (m+1);simpa [gr] using this)
    simp[gr] at h0
    rw[dH,h0,h1];simp
  rw[this];simp
 ·rw[jd (by omega)]
structure yH (u v o:List Nat) (L g j i bo ca:Nat):Prop where
 len:o.length=L
 low:Low o
 same:∀ m,j+i<=m->gr o m=gr u m
 vl:val (o.take (j+i))+BB ^ j*(g*val (v.take i))=val (u.take (j+i))+BB ^ (j+i)*(bo+ca)
 bor:bo<=1
 car:ca<1000000000
theorem yH.start {u v:List Nat} {L g j:Nat} (h1:u.length=L) (h2:Low u):yH u v u L g j 0 0 0:=⟨h1,h2,fun _ _=>rfl,by simp,by omega,by omega⟩
theorem yH.step {u v o:List Nat} {L g j i bo ca d bo':Nat} (h:yH u v o L g j i bo ca) (hg:g<1000000000) (hv:gr v i<1000000000) (hk:j+i<L)
  (hd:d<1000000000) (hb:bo'<=1) (he:gr o (j+i)+1000000000*bo'=d+bo+(g*gr v i+ca)%1000000000) :
  yH u v (o.set (j+i) d) L g j (i+1) bo' ((g*gr v i+ca) / 1000000000):=by
 have hl:j+i<o.length:=by rw[h.len];exact hk
 have hc:=h.car
 have hm:g*gr v i<=999999999*999999999:=uf (by omega) (by omega)
 refine⟨by simp[h.len],low_set h.low hd,?_,?_,hb,by omega⟩
 ·intro m hm
  rw[CG hl,ig (by omega)]
  exact h.same m (by omega)
 ·have e1:=h.vl
  have e2:=h.same (j+i) (aj _)
  have e3:=bI u (j+i)
  have e4:=bI v i
  rw[show j+(i+1)=(j+i)+1 from by omega,gJ hl,val_append,jm,yw (by omega),e3,e4,<-e2]
  simp only[dH,tX]
  have e5:=Nat.mod_add_div (g*gr v i+ca) 1000000000
  generalize (g*gr v i+ca)%1000000000=r at *
  generalize (g*gr v i+ca) / 1000000000=c' at *
  rw[Nat.pow_succ,Dy] at *
  rw[dG] at *
  have e6:1000000000 ^ j*1000000000 ^ i*(r+1000000000*c')=1000000000 ^ j*1000000000 ^ i*(g*gr v i+ca):=by rw[e5]
  have e7:1000000000 ^ j*1000000000 ^ i*(gr o (j+i)+1000000000*bo')=1000000000 ^ j*1000000000 ^ i*(d+bo+r):=by rw[he]
  grind
structure AY (u v o:List Nat) (L j i c:Nat):Prop where
 len:o.length=L
 low:Low o
 same:∀ m,j+i<=m->gr o m=gr u m
 vl:val (o.take (j+i))+BB ^ (j+i)*c=val (u.take (j+i))+BB ^ j*val (v.take i)
 car:c<=1
theorem AY.start {u v:List Nat} {L j:Nat} (h1:u.length=L) (h2:Low u):AY u v u L j 0 0:=⟨h1,h2,fun _ _=>rfl,by simp,by omega⟩
theorem AY.step {u v o:List Nat} {L j i c d c':Nat} (h:AY u v o L j i c) (hk:j+i<L) (hd:d<1000000000) (hc:c'<=1) (he:gr o (j+i)+gr v i+c=d+1000000000*c') :
  AY u v (o.set (j+i) d) L j (i+1) c':=by
 have hl:j+i<o.length:=by rw[h.len];exact hk
 refine⟨by simp[h.len],low_set h.low hd,?_,?_,hc⟩
 ·intro m hm
  rw[CG hl,ig (by omega)]
  exact h.same m (by omega)
 ·have e1:=h.vl
  have e2:=h.same (j+i) (aj _)
  have e3:=bI u (j+i)
  have e4:=bI v i
  rw[show j+(i+1)=(j+i)+1 from by omega,gJ hl,val_append,jm,yw (by omega),e3,e4,<-e2]
  simp only[dH,tX]
  rw[Nat.pow_succ,Dy] at *
  rw[dG] at *
  have e7:1000000000 ^ j*1000000000 ^ i*(gr o (j+i)+gr v i+c)=1000000000 ^ j*1000000000 ^ i*(d+1000000000*c'):=by rw[he]
  grind
theorem uT {l:List Nat} {k m:Nat} (hv:val l<BB ^ k) (hk:k<=m):gr l m=0:=by
 rcases yj (gr l m) with h|h
 ·exact h
 ·exfalso
  have h1:=bI l m
  have h2:val (l.take (m+1))<=val l:=by rw[VL l (m+1)];omega
  have h3:BB ^ m*1<=BB ^ m*gr l m:=Az _ h
  have h4:BB ^ k<=BB ^ m:=wz jL hk
  omega
theorem pG {l:List Nat} (h:Low l) (k:Nat):val (l.take k)<BB ^ k :=
 ku (qH (h.take k)) (wz jL (by rw[jm];omega))
theorem zU {v:List Nat} {n:Nat} (h:Low v) (hn:v.length=n):val v<BB ^ n:=by subst hn;exact qH h
theorem kL.bound {S n L j:Nat} {u q v:List Nat} (h:kL S (val v) n L u q (j+1)) (hv:Low v) (hn:v.length=n):val u<BB ^ (j+n+1):=by
 have h1:=h.lt
 have h2:=zU hv hn
 have h3:val v*BB ^ (j+1)<=BB ^ n*BB ^ (j+1):=jq _ (by omega)
 rw[<-Dy] at h3
 rw[show j+n+1=n+(j+1) from by omega]
 omega
theorem kL.top {S n L j:Nat} {u q v:List Nat} (h:kL S (val v) n L u q (j+1)) (hv:Low v) (hn:v.length=n):val u=val (u.take (j+n))+BB ^ (j+n)*gr u (j+n):=by
 rw[<-bI]
 exact QK (fun m hm=>uT (h.bound hv hn) hm)
structure a3A (X D v1 v2 uh u1 u2 P:Nat):Prop where
 x:∃ xl,X=((uh*BB+u1)*BB+u2)*P+xl/\xl<P
 d1:(v1*BB+v2)*P<=D
 d2:D<(v1*BB+v2+1)*P
 xb:X<BB*D
 uv:uh<=v1
 v1p:1<=v1
 b1:v1<1000000000
 b2:v2<1000000000
 b3:u1<1000000000
 b4:u2<1000000000
theorem kL.c3z {S n L j:Nat} {u q v:List Nat} (h:kL S (val v) n L u q (j+1)) (hv:Canon v) (hn:v.length=n) (h2:2<=n) :
  a3A (val u) (BB ^ j*val v) (gr v (n-1)) (gr v (n-2)) (gr u (j+n)) (gr u (j+n-1)) (gr u (j+n-2)) (BB ^ (j+n-2)):=by
 obtain⟨m,rfl⟩:∃ m,n=m+2:=⟨n-2,by omega⟩
 have hne:v≠[]:=by intro e;subst e;simp at hn
 have hp:1<=gr v (m+1):=by
  have:=hv.2
  rw[b0d hne,hn] at this
  have h3:gr v (m+2-1)≠0:=by simpa using this
  have:m+2-1=m+1:=by omega
  rw[this] at h3
  omega
 have e1:m+2-1=m+1:=by omega
 have e2:m+2-2=m:=by omega
 have e3:j+(m+2)-1=j+m+1:=by omega
 have e4:j+(m+2)-2=j+m:=by omega
 have e5:j+(m+2)=j+m+2:=by omega
 have hV:val v=val (v.take m)+BB ^ m*gr v m+BB ^ (m+1)*gr v (m+1):=by
  rw[<-bI,<-bI,fF (by omega)]
 have hX:val u=val (u.take (j+m))+BB ^ (j+m)*gr u (j+m)+BB ^ (j+m+1)*gr u (j+m+1)+BB ^ (j+m+2)*gr u (j+m+2):=by
  rw[<-bI,<-bI,<-bI]
  exact QK (fun k hk=>uT (h.bound hv.1 hn) (by omega))
 have hvl:=pG hv.1 m
 have hul:=pG h.low (j+m)
 have hlt:=h.lt
 rw[e1,e2,e3,e4,e5]
 have hP:BB ^ (j+m)=BB ^ j*BB ^ m:=Dy _ _ _
 have hd:BB ^ j*val v=(gr v (m+1)*BB+gr v m)*BB ^ (j+m)+BB ^ j*val (v.take m):=by
  rw[hV,hP,Nat.pow_succ]
  grind
 have hd2:BB ^ j*val (v.take m)<BB ^ (j+m):=by
  rw[hP]
  exact Nat.mul_lt_mul_of_pos_left hvl (Nat.pow_pos jL)
 refine⟨⟨val (u.take (j+m)),?_,hul⟩,?_,?_,?_,?_,hp,IG hv.1 _,IG hv.1 _,IG h.low _,IG h.low _⟩
 ·rw[hX,Nat.pow_succ,Nat.pow_succ]
  grind
 ·rw[hd];omega
 ·rw[hd,Aq _ 1,Nat.one_mul]
  omega
 ·rw[Nat.pow_succ] at hlt
  have:BB*(BB ^ j*val v)=val v*(BB ^ j*BB):=by grind
  omega
 ·
  rcases Bl (gr v (m+1)) (gr u (j+m+2)) with h4|h4
  ·exfalso
   have h5:BB ^ (j+m+2)*(gr v (m+1)+1)<=BB ^ (j+m+2)*gr u (j+m+2):=Az _ h4
   have h6:val v<BB ^ (m+1)*(gr v (m+1)+1):=by
    have:=pG hv.1 (m+1)
    have h7:=bI v (m+1)
    rw[fF (by omega)] at h7
    rw[Nat.mul_add,Nat.mul_one]
    omega
   have h8:val v*BB ^ (j+1)<BB ^ (m+1)*(gr v (m+1)+1)*BB ^ (j+1):=Nat.mul_lt_mul_of_pos_right h6 (Nat.pow_pos jL)
   have h9:BB ^ (m+1)*(gr v (m+1)+1)*BB ^ (j+1)=BB ^ (j+m+2)*(gr v (m+1)+1):=by
    rw[show j+m+2=(m+1)+(j+1) from by omega,Dy]
    grind
   omega
  ·exact h4
structure GInv (X D v1 uh u1 g r:Nat):Prop where
 eq:g*v1+r=uh*BB+u1
 hi:X<(g+1)*D
theorem a3A.start {X D v1 v2 uh u1 u2 P:Nat} (h:a3A X D v1 v2 uh u1 u2 P):GInv X D v1 uh u1 ((uh*BB+u1) / v1) ((uh*BB+u1)%v1):=by
 have hp:=h.v1p
 have e:=Nat.mod_add_div (uh*BB+u1) v1
 have hm:=yg (uh*BB+u1) (show 0<v1 by omega)
 refine⟨by rw[wu];omega,?_⟩
 obtain⟨xl,hx,hxl⟩:=h.x
 refine a1Y hx hxl h.d1 ?_
 generalize (uh*BB+u1) / v1=g at *
 generalize (uh*BB+u1)%v1=r at *
 have h1:uh*BB+u1+1<=(g+1)*v1:=by rw[Aq,wu g];omega
 have h2:(uh*BB+u1+1)*BB<=(g+1)*v1*BB:=jq _ h1
 have h3:=h.b4
 have h4:(g+1)*(v1*BB+v2)=(g+1)*v1*BB+(g+1)*v2:=by grind
 rw[h4]
 rw[dG] at *
 omega
theorem GInv.le {X D v1 v2 uh u1 u2 P g r:Nat} (h:a3A X D v1 v2 uh u1 u2 P) (k:GInv X D v1 uh u1 g r):g<=2*BB:=by
 rcases Bl (2*BB) g with h1|h1
 ·exfalso
  have e:=k.eq
  have h2:(2*BB+1)*v1<=g*v1:=jq _ h1
  have h3:uh*BB<=v1*BB:=jq _ h.uv
  have h4:=h.b3
  have h5:=h.v1p
  rw[dG] at *
  omega
 ·exact h1
theorem GInv.step {X D v1 v2 uh u1 u2 P g r:Nat} (h:a3A X D v1 v2 uh u1 u2 P) (k:GInv X D v1 uh u1 g r) (hc:BB<=g\/r*BB+u2<g*v2):1<=g/\GInv X D v1 uh u1 (g-1) (r+v1):=by
 have hg:1<=g:=by
  rcases hc with hc|hc
  ·rw[dG] at hc;omega
  ·rcases yj g with e|e
   ·subst e;omega
   ·exact e
 obtain⟨g',rfl⟩:∃ g',g=g'+1:=⟨g-1,by omega⟩
 refine⟨hg,?_,?_⟩
 ·have:=k.eq
  rw[Aq,Nat.one_mul] at this
  rw[Nat.add_sub_cancel]
  omega
 ·rw[Nat.add_sub_cancel]
  rcases hc with hc|hc
  ·exact ku h.xb (jq _ hc)
  ·obtain⟨xl,hx,hxl⟩:=h.x
   refine a1Y hx hxl h.d1 ?_
   have e:=k.eq
   have e2:(uh*BB+u1)*BB=((g'+1)*v1+r)*BB:=by rw[e]
   rw[e2]
   have:(g'+1)*(v1*BB+v2)=(g'+1)*v1*BB+(g'+1)*v2:=by grind
   rw[this,Aq]
   omega
theorem GInv.done {X D v1 v2 uh u1 u2 P g r:Nat} (h:a3A X D v1 v2 uh u1 u2 P) (k:GInv X D v1 uh u1 g r) (hg:g<BB) (hr:g*v2<=r*BB+u2):a5i X D g:=by
 refine⟨k.hi,?_⟩
 obtain⟨xl,hx,hxl⟩:=h.x
 have hp:=h.v1p
 refine a9A (T:=(uh*BB+u1)*BB+u2) (by omega) h.d2 ?_ ?_
 ·have:1*BB<=v1*BB:=jq _ hp
  omega
 ·have e:=k.eq
  have e2:(uh*BB+u1)*BB=(g*v1+r)*BB:=by rw[e]
  rw[e2]
  have:g*(v1*BB+v2)=g*v1*BB+g*v2:=by grind
  rw[this,Aq]
  omega
theorem GInv.brk {X D v1 v2 uh u1 u2 P g r:Nat} (h:a3A X D v1 v2 uh u1 u2 P) (k:GInv X D v1 uh u1 g r) (hr:BB<=r):g<BB/\g*v2<=r*BB+u2:=by
 have e:=k.eq
 have h3:uh*BB<=v1*BB:=jq _ h.uv
 have h4:=h.b3
 have hg:g<BB:=by
  rcases Bl g BB with h1|h1
  ·exact h1
  ·exfalso
   have h2:BB*v1<=g*v1:=jq _ h1
   rw[wu BB v1] at h2
   rw[dG] at *
   omega
 refine⟨hg,?_⟩
 have h5:g*v2<=BB*BB:=uf (by omega) (by have:=h.b2;rw[dG];omega)
 have h6:BB*BB<=r*BB:=jq _ hr
 omega
theorem OT {o:List Nat} {k d X:Nat} (hl:k<o.length) (hz:∀ m,k+1<=m->gr o m=0):val (o.set k d)=val (o.take k)+BB ^ k*d:=by
 have h1:=a1i (l:=o) (k:=k) (v:=d) hl
 have h2:val o=val (o.take k)+BB ^ k*gr o k:=by
  rw[<-bI];exact QK hz
 omega
theorem a4c {S n L j g bo ca:Nat} {u q v o:List Nat} (h:kL S (val v) n L u q (j+1)) (hv:Low v) (hn:v.length=n) (hj:j+n<L) (hG:a5i (val u) (BB ^ j*val v) g) (hg:g<BB)
  (hS:yH u v o L g j n bo ca) (hd:bo+ca<=gr u (j+n)) :
  gr u (j+n)=bo+ca/\kL S (val v) n L (o.set (j+n) 0) (q.set j g) j:=by
 have e1:=hS.vl
 rw[fF (show v.length<=n by omega)] at e1
 have e2:=h.top hv hn
 have e3:=pG hS.low (j+n)
 have e4:=hG.hi
 have e5:BB ^ j*val v<BB ^ (j+n):=by
  rw[Dy];exact Nat.mul_lt_mul_of_pos_left (zU hv hn) (Nat.pow_pos jL)
 obtain⟨d,hdd⟩:∃ d,gr u (j+n)=bo+ca+d:=⟨gr u (j+n)-(bo+ca),by omega⟩
 have e6:BB ^ j*(g*val v)=g*(BB ^ j*val v):=by grind
 rw[e6] at e1
 have e7:(g+1)*(BB ^ j*val v)=g*(BB ^ j*val v)+BB ^ j*val v:=by rw[Aq,Nat.one_mul]
 rw[e7] at e4
 have e8:BB ^ (j+n)*(bo+ca+d)=BB ^ (j+n)*(bo+ca)+BB ^ (j+n)*d:=Nat.mul_add _ _ _
 rw[hdd,e8] at e2
 have hd0:d=0:=by
  rcases yj d with e|e
  ·exact e
  ·exfalso
   have:BB ^ (j+n)*1<=BB ^ (j+n)*d:=Az _ e
   omega
 subst hd0
 refine⟨by omega,?_⟩
 have hol:j+n<o.length:=by rw[hS.len];exact hj
 have hz:∀ m,j+n+1<=m->gr o m=0:=fun m hm=>by
  rw[hS.same m (by omega)];exact uT (h.bound hv hn) hm
 have e9:=OT (X:=0) (d:=0) hol hz
 have hjq:j<q.length:=by have:=h.lq;omega
 have e10:=a1i (l:=q) (k:=j) (v:=g) hjq
 rw[h.zero j (by omega)] at e10
 have e11:=h.eq
 refine⟨by simp[hS.len],low_set hS.low (by omega),by simpa using h.lq,low_set h.b6m (by rw[dG] at hg;exact hg),?_,?_,?_⟩
 ·intro m hm
  rw[CG hjq,ig (by omega)]
  exact h.zero m (by omega)
 ·rw[e9]
  have e12:val (q.set j g)=val q+BB ^ j*g:=by omega
  rw[e12]
  have e13:val v*(val q+BB ^ j*g)=val v*val q+g*(BB ^ j*val v):=by grind
  rw[e13]
  omega
 ·rw[e9,wu (val v)]
  omega
theorem TR {S n L j g bo ca c:Nat} {u q v o o2:List Nat} (h:kL S (val v) n L u q (j+1)) (hv:Low v) (hn:v.length=n) (hj:j+n<L) (hG:a5i (val u) (BB ^ j*val v) g) (hg:g<BB)
  (hS:yH u v o L g j n bo ca) (hd:gr u (j+n)<bo+ca) :
  bo+ca=gr u (j+n)+1/\1<=g/\(AY (o.set (j+n) 999999999) v o2 L j n c->c=1/\gr o2 (j+n)=999999999/\kL S (val v) n L (o2.set (j+n) 0) (q.set j (g-1)) j):=by
 have e1:=hS.vl
 rw[fF (show v.length<=n by omega)] at e1
 have e2:=h.top hv hn
 have e3:=pG hS.low (j+n)
 have e4:=hG.lo
 have e5:BB ^ j*val v<BB ^ (j+n):=by
  rw[Dy];exact Nat.mul_lt_mul_of_pos_left (zU hv hn) (Nat.pow_pos jL)
 obtain⟨d,hdd⟩:∃ d,bo+ca=gr u (j+n)+1+d:=⟨bo+ca-gr u (j+n)-1,by omega⟩
 have e6:BB ^ j*(g*val v)=g*(BB ^ j*val v):=by grind
 rw[e6] at e1
 have e8:BB ^ (j+n)*(gr u (j+n)+1+d)=BB ^ (j+n)*gr u (j+n)+BB ^ (j+n)+BB ^ (j+n)*d:=by rw[Nat.mul_add,Nat.mul_add,Nat.mul_one]
 rw[hdd,e8] at e1
 have hd0:d=0:=by
  rcases yj d with e|e
  ·exact e
  ·exfalso
   have:BB ^ (j+n)*1<=BB ^ (j+n)*d:=Az _ e
   omega
 subst hd0
 have hg1:1<=g:=by
  rcases yj g with e|e
  ·subst e;simp at e1;omega
  ·exact e
 refine⟨by omega,hg1,fun hA=>?_⟩
 have hol:j+n<o.length:=by rw[hS.len];exact hj
 have ho2:j+n<o2.length:=by rw[hA.len];exact hj
 have a1:=hA.vl
 rw[fF (show v.length<=n by omega),a3n (aj _)] at a1
 have a3:=pG hA.low (j+n)
 have hc:c=0\/c=1:=by have:=hA.car;omega
 have hc1:c=1:=by
  rcases hc with rfl|rfl
  ·exfalso;simp at e1 a1;omega
  ·rfl
 subst hc1
 have g2:gr o2 (j+n)=999999999:=by
  rw[hA.same _ (aj _),CG hol,gy rfl]
 refine⟨rfl,g2,?_⟩
 have hz:∀ m,j+n+1<=m->gr o2 m=0:=fun m hm=>by
  rw[hA.same m (by omega),CG hol,ig (by omega),hS.same m (by omega)]
  exact uT (h.bound hv hn) hm
 have e9:=OT (X:=0) (d:=0) ho2 hz
 have hjq:j<q.length:=by have:=h.lq;omega
 have e10:=a1i (l:=q) (k:=j) (v:=g-1) hjq
 rw[h.zero j (by omega)] at e10
 have e11:=h.eq
 obtain⟨g',rfl⟩:∃ g',g=g'+1:=⟨g-1,by omega⟩
 rw[Nat.add_sub_cancel] at *
 have e7:(g'+1)*(BB ^ j*val v)=g'*(BB ^ j*val v)+BB ^ j*val v:=by rw[Aq,Nat.one_mul]
 rw[e7] at e1 e4
 refine⟨by simp[hA.len],low_set hA.low (by omega),by simpa using h.lq,low_set h.b6m (by rw[dG] at hg;omega),?_,?_,?_⟩
 ·intro m hm
  rw[CG hjq,ig (by omega)]
  exact h.zero m (by omega)
 ·rw[e9]
  have e12:val (q.set j g')=val q+BB ^ j*g':=by omega
  rw[e12]
  have e13:val v*(val q+BB ^ j*g')=val v*val q+g'*(BB ^ j*val v):=by grind
  rw[e13]
  simp only[Nat.mul_one,Nat.mul_zero,Nat.add_zero] at *
  omega
 ·rw[e9,wu (val v)]
  simp only[Nat.mul_one,Nat.mul_zero,Nat.add_zero] at *
  omega
theorem kL.done {S n L:Nat} {u q v:List Nat} (h:kL S (val v) n L u q 0):val q=S / val v/\val u=S%val v:=by
 have h1:=h.lt
 have h2:=h.eq
 simp at h1
 have hp:0<val v:=by omega
 have h3:S=val u+val v*val q:=h2.symm
 constructor
 ·rw[h3,Nat.add_mul_div_left _ _ hp,Dw h1];omega
 ·rw[h3,Nat.add_mul_mod_self_left,Dj h1]
end Go.Proofs.YtgplhbhfdgempaaGreat
