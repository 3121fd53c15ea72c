/-
  Lemmas for the theorem vtransforms_holds, part 29 of 39.
-/
import Derived.Test.YtgplhbhfdgempaaGreatTr28
namespace Go.Proofs.YtgplhbhfdgempaaGreat
open Go Go.RowKit
set_option maxRecDepth 1000000
set_option maxHeartbeats 4000000
set_option linter.unusedSimpArgs false
set_option linter.unusedVariables false
theorem a7Y (s t:Value) (a b:List Nat) (w:World) (hs:Rd w s a) (ht:Rd w t b) (ha:Canon a) (hb:Canon b) (la:a.length<=1000000000) (hb2:2<=b.length) (hlt:val a<val b) :
  Calls Tryz.prog 156 #[s,t] w (ZI (dig (val a / val b)) (dig (val a%val b)) w):=by
 obtain⟨p,c,rfl,hc1,hc2⟩:=hs.form
 obtain⟨q,d,rfl,hd1,hd2⟩:=ht.form
 have HX:Hid (dig (val a / val b)=[]/\dig (val a%val b)=a):=by
  refine⟨by rw[Dw hlt,dY],by rw[Dj hlt,fE ha]⟩
 have hcv:dV (val a) (val b)=-1:=by unfold dV;rw[gy (by omega)]
 have HCV:=bn hcv
 have hn1:((b.length:Int)==1)=false:=by simp;omega
 clear hcv hlt
 go_enter Tryz.func156,Tryz.ntmps156
 go_wp2_with fail
 refine(uH _ _ a b _ hs ht ha hb (by omega)).mono ?_
 rw[HCV.out]
 rintro e w1 ⟨rfl,hb1⟩
 go_wp2_with fail
 go_ret2
 exact⟨_,_,rfl,by rw[HX.out.1];exact .inr ⟨w1.heap.size,0,0,rfl,by simp,by omega,by simp,fun i hi=>by simp at hi⟩,by rw[HX.out.2];exact(hs.below hb1).alloc _,Below.al hb1 _⟩
theorem a4I (s t:Value) (a:List Nat) (d0:Nat) (w:World) (hs:Rd w s a) (ht:Rd w t [d0]) (ha:Canon a) (hb:Canon [d0]) (la:a.length<=1000000000) :
  Calls Tryz.prog 156 #[s,t] w (ZI (dig (val a / d0)) (dig (val a%d0)) w):=by
 obtain⟨p,c,rfl,hc1,hc2⟩:=hs.form
 obtain⟨q,d,rfl,hd1,hd2⟩:=ht.form
 have ht':Rd w (.slice q 1 d) [d0]:=ht
 show Calls Tryz.prog 156 #[.slice p a.length c,.slice q 1 d] w _
 obtain⟨gb,ob,rfl,hgb,hcb⟩:=ht'.at (by simp)
 have hc0:w.cell? ⟨gb,ob,none⟩=some (.int .u32 (d0:Nat)):=by simpa [gr] using hcb 0 (by simp)
 have b5L:d0<=999999999:=by have:=hb.1 d0 (by simp);rw[dG] at this;omega
 have hvd:val [d0]=d0:=by simp[dH]
 have hd0:1<=d0:=by have:=hb.pos (by simp);rw[hvd] at this;exact this
 have hr0:val a%d0<d0:=yg _ hd0
 have hf1:=iP
 clear hvd hcb
 go_enter Tryz.func156,Tryz.ntmps156
 go_wp2_with fail
 refine(UR _ a d0 _ hs ha.1 (by omega) hd0 b5L).mono ?_
 rintro e w1 ⟨v1,rfl,hv1,hb1⟩
 obtain⟨R,hR⟩:∃ R,val a%d0=R:=⟨_,rfl⟩
 rw[hR] at hr0 ⊢
 have HR:=bn hR
 clear hR
 have hone:=a0E w1 R
 have HV:Hid (sg false (val [R])=(R:Nat)):=by unfold Hid;simp[dH,sg]
 go_wp2_with fail
 refine(iM false _ _ _ hone (Low.cons.2 ⟨by rw[dG];omega,Low.nil⟩) (by simp)).mono ?_
 rw[HV.out]
 rintro e2 w2 ⟨v2,rfl,hi2,hb2⟩
 obtain⟨g2,p2,n2,c2,rfl⟩:=hi2.form
 have hR2:=hi2.rd
 go_wp2_with fail
 go_ret2
 exact⟨_,_,rfl,(hv1.alloc _).below hb2,by rw[HR.out];exact hR2,Below.tr (Below.al hb1 _) hb2⟩
theorem Rd.b0K {w:World} {s:Value} {l:List Nat} (h:Rd w s l) (hn:l≠[]):∀ k,s.ownBlock=some k->k<w.heap.size:=by
 rcases h with⟨_,_,e⟩|⟨b,o,c,rfl,h2,h3,h4,h5⟩
 ·exact absurd e hn
 ·intro k hk;simp[Value.ownBlock] at hk;omega
theorem Rd.drewN {w:World} {s:Value} {l:List Nat} (h:Rd w s l) (k:Nat):Rd (w.drewN k) s l:=h.below (Below.qN (dn _ _) k)
theorem Rd.a4N {w:World} {s:Value} {l:List Nat} (h:Rd w s l) {a:Addr} (hs:∀ k,s.ownBlock=some k->k≠a.block) (u:Value):Rd (w.setCell a u) s l:=by
 rcases h with h|⟨b,o,c,rfl,h2,h3,h4,h5⟩
 ·exact .inl h
 ·refine .inr ⟨b,o,c,rfl,h2,h3,by simpa [World.setCell] using h4,fun i hi=>?_⟩
  rw[jr _ _ _ _ (fun e=>hs b rfl e.symm)]
  exact h5 i hi
theorem a2U (s t:Value) (a b:List Nat) (w:World) (hs:Rd w s a) (ht:Rd w t b) (ha:Canon a) (hb:Canon b) (la:a.length<=1000000000) (hb2:2<=b.length) (hle:val b<=val a) :
  Calls Tryz.prog 156 #[s,t] w (ZI (dig (val a / val b)) (dig (val a%val b)) w):=by
 obtain⟨i0,hi,hz0,hz1,hz2⟩:=Aj iZ
 obtain⟨p,c,rfl,_,_⟩:=hs.form
 obtain⟨q,d,rfl,_,_⟩:=ht.form
 have hf1:=iP
 have hbn:b≠[]:=by intro e;subst e;simp at hb2
 obtain⟨gb,ob,rfl,hgb,hcb⟩:=ht.at hbn
 have hlb:b.length<=a.length:=by
  have:=aN hle
  rwa [fE ha,fE hb] at this
 have htop:gr b (b.length-1)<=999999999:=iJ hb.1 _
 have hct:=hcb (b.length-1) (by omega)
 have htp:1<=gr b (b.length-1):=by
  have:=hb.2
  rw[PW hbn] at this
  have:gr b (b.length-1)≠0:=by simpa using this
  omega
 obtain⟨n,hn⟩:∃ n,b.length=n:=⟨_,rfl⟩
 have b5U:=fun f h1 h2=>a4M (f:=f) hb hn (by omega) h1 h2
 rw[hn] at hb2 htop hct htp hlb ⊢
 obtain⟨tp,c1M⟩:∃ tp,gr b (n-1)=tp:=⟨_,rfl⟩
 rw[c1M] at htop hct htp b5U
 obtain⟨sc,hsc⟩:∃ sc:Nat,(1000000000:Int) / ((tp:Int)+1)=sc:=⟨1000000000 / (tp+1),by simp⟩
 have hsc2:1000000000 / (tp+1)=sc:=by
  have:((1000000000 / (tp+1):Nat):Int)=sc:=by rw[<-hsc];simp
  omega
 have a2f:1<=sc:=by rw[<-hsc2];exact(Nat.le_div_iff_mul_le (by omega)).2 (by omega)
 have c3T:sc<=500000000:=by rw[<-hsc2];exact jg (Nat.div_le_div_left (c:=2) (by omega) (by omega)) (by omega)
 have c1I:sc*(tp+1)<=1000000000:=by rw[<-hsc2];exact Nat.div_mul_le_self _ _
 have HLB:=bn (b5U sc a2f c1I)
 have HA:=bn ha
 have HB:=bn hb
 have HLE:=bn hle
 have HN:=bn hn
 have hcv:0<=dV (val a) (val b):=by unfold dV;rw[ig (by omega)];split<;>omega
 obtain⟨cv,b5K⟩:∃ cv,dV (val a) (val b)=cv:=⟨_,rfl⟩
 rw[b5K] at hcv
 have hdc:decide (cv<0)=false:=by simpa using hcv
 have HCV:=bn b5K
 have hn1:((n:Int)==1)=false:=by simp;omega
 have hw1:IntKind.u64.wrap (sc:Int)=sc:=wrap_u64 (by omega)
 have hidx:((n:Int)-1).toNat=n-1:=by omega
 clear hsc2 hcb ha hb hle hn b5K hcv b5U c1I c1M hbn
 rw[HN.out] at ht
 go_enter Tryz.func156,Tryz.ntmps156
 go_wp2_with fail
 refine(uH _ _ a b _ hs ht HA.out HB.out (by omega)).mono ?_
 rw[HCV.out]
 rintro e w1 ⟨rfl,hb1⟩
 have c3H:w1.cell? ⟨gb,ob+(n-1),none⟩=some (.int .u32 (tp:Nat)):=(hb1.cell (p:=⟨gb,ob+(n-1),none⟩) hgb).trans hct
 go_wp2_with fail
 refine(DR _ a sc _ (hs.below hb1) HA.out.1 (by omega) (by omega)).mono ?_
 rintro e w2 ⟨v2,rfl,hv2,_,hb2'⟩
 obtain⟨pa,ca,rfl,_,_⟩:=hv2.form
 go_wp2_with fail
 refine(DR _ b sc _ ((ht.below hb1).below hb2') HB.out.1 (by have:=HN.out;omega) (by omega)).mono ?_
 rintro e w3 ⟨v3,rfl,hv3,_,hb3⟩
 obtain⟨pb,cb,rfl,_,_⟩:=hv3.form
 have U0:a.length<=(dig (val a*sc)).length:=by
  have:=aN (show val a<=val a*sc from Nat.le_mul_of_pos_right _ a2f)
  rwa [fE HA.out] at this
 have U1:(dig (val a*sc)).length<=1000000001:=by
  have:=wB (val a) sc
  have h2:nsz sc<=1:=fM (by rw[dG];omega)
  unfold nsz at this h2
  rw[fE HA.out] at this
  omega
 have hB3:Below w.heap.size w w3:=Below.tr (Below.tr hb1 hb2') hb3
 have hU3:=hv2.below hb3
 have HU:=bn (show val (dig (val a*sc))=val a*sc from aJ _)
 have HV:=bn (show val (dig (val b*sc))=val b*sc from aJ _)
 have HUc:=bn (cZ (val a*sc))
 have HVc:=bn (cZ (val b*sc))
 have hvl:=HLB.out
 generalize dig (val a*sc)=U at *
 generalize dig (val b*sc)=V at *
 rw[hvl] at hv3 ⊢
 have HVL:=bn hvl
 obtain⟨lu,hlu⟩:∃ lu,U.length=lu:=⟨_,rfl⟩
 rw[hlu] at hU3 U0 U1 ⊢
 have HLU:=bn hlu
 clear hlu hvl hv2 HLB hb1 hb2' hb3 hct c3H hsc hw1
 obtain⟨M,hM⟩:∃ M:Nat,(lu:Int)-n+1=M:=⟨lu-n+1,by omega⟩
 have hM2:M+n=lu+1:=by omega
 obtain⟨ga,oa,rfl,hga,hua⟩:=hU3.at (by intro e;have:=HLU.out;subst e;simp at this;omega)
 have HUA:=bn hua
 have hcap:lu<=ca:=by
  obtain⟨_,_,e,h,_⟩:=hU3.form
  cases e;have:=HLU.out;omega
 have m1:(0:Int)<=M:=by omega
 have m2:(M:Int)<=lu:=by omega
 have m3:M<ca:=by omega
 clear hua
 have hV0:BB ^ (n-1)<=val V:=xI (n:=val V) (k:=n-1) (by rw[fE HVc.out,HVL.out];omega)
 have c1q:Rd w3 (.slice (some ⟨ga,oa+M,none⟩) (lu-M) (ca-M)) (U.drop M):=by
  have e1:=HLU.out
  refine .inr ⟨ga,oa+M,ca-M,by rw[Ap,e1],by rw[Ap,e1];omega,by omega,hga,fun i hi=>?_⟩
  rw[Ap] at hi
  rw[Nat.add_assoc,HUA.out (M+i) (by omega)]
  unfold gr;simp
 have hR0:val (U.drop M)<val V:=by
  have h1:=qH (HUc.out.1.drop M)
  rw[Ap,HLU.out,show lu-M=n-1 by omega] at h1
  omega
 have b5q:=bn (RInv.start (a:=U) hR0)
 have hlenV:(dig (val V)).length=n:=by rw[fE HVc.out,HVL.out]
 have HLV:=bn hlenV
 have b4R:∀ R,R<val V->(dig R).length<=1000000000:=fun R h=>by
  have:=aN (Nat.le_of_lt h)
  rw[hlenV] at this;omega
 have HLR:=bn b4R
 obtain⟨R0,b5F⟩:∃ R0,val (U.drop M)=R0:=⟨_,rfl⟩
 rw[b5F] at b5q
 have HMV:Hid (sg false (val (U.drop M))=((R0:Nat):Int)):=by unfold Hid;rw[b5F];rfl
 have b4T:=HUc.out.1.drop M
 have b4S:(U.drop M).length<=2000000001:=by rw[Ap,HLU.out];omega
 clear hR0 hlenV b4R b5F hV0
 go_wp2_with fail
 refine(iM false _ _ _ c1q b4T b4S).mono ?_
 rw[HMV.out]
 rintro e w4 ⟨v4,rfl,hi4,hb4⟩
 obtain⟨g4,p4,n4,c4,rfl⟩:=hi4.form
 have hR4:Rd w4 (.slice p4 n4 c4) (dig R0):=by simpa using hi4.rd
 obtain⟨_,_,e4,_,_⟩:=hR4.form
 cases e4
 clear c1q b4T b4S hi4
 have hU4:=hU3.below hb4
 have hV4:=hv3.below hb4
 have hB4:=Below.tr hB3 hb4
 have hz4:=hb4.size
 have hzB:=hB4.size
 have hvo:=hv3.b0K (fun e=>by have:=HVL.out;rw[e] at this;simp at this;omega)
 go_wp2_with (at_make;refine Dx _ rfl _ _ 60 rfl w.heap.size 133 i0 (.int .u32 0) 1 jo hi hz0 hz1 _ _ _ _ M rfl rfl (by omega) (by omega) (by rw[hz2];omega) (by unfold maxLen;omega) (by omega) ?_)
 intro w5 hq5 hgr5
 rw[kE] at hq5
 have hb5:Below w4.heap.size w4 w5:=(dn _ _).grown hgr5 (aj _) (fun k e=>by cases e)
 have hU5:=hU4.below hb5
 have hV5:=hV4.below hb5
 have hR5:=hR4.below hb5
 have hB5:=Below.tr hB4 hb5
 have hz5:=hgr5.size
 have c1G:w4.heap.size<w5.heap.size:=by
  have:=(hq5.lt w4.heap.size rfl).2
  exact this
 obtain⟨gq,hgq⟩:∃ gq,w4.heap.size=gq:=⟨_,rfl⟩
 rw[hgq] at hq5 c1G hz4 hzB ⊢
 have c1J:ga≠gq:=by omega
 have b4Z:∀ k,(Value.slice pb n cb).ownBlock=some k->k≠gq:=fun k hk=>by have:=hvo k hk;omega
 have HSV:=bn b4Z
 clear hgr5 hb5 hU4 hV4 hR4 hB4 hb4 hB3 hU3 hv3 hgq hvo b4Z hi hz0 hz1 hz2 hz5 HUA hM HMV
 go_wp2_with fail
 go_loopw [10,12,13,74,75,76,77,78,79,80,81,82,83,84,85,86,87,88,89,90,91,92,93,94,95,96,97,98,99,100,101,102,103,104,105,106,107,108,109,110,111,112,113,114,115,116,117,118,119] (fun rest i g _ _ _ _ _ _ _ _ _ _ _ _ _ _ _ _ _ _ _ _ _ _ _ _ _ _ _ _ _ _ _ _ _ _ _ _ _ _ _ _ _ _ _ _ _ _ wr=>∃ (k R:Nat) (i':Int) (o:List Nat) (pr:Option Addr) (cr:Nat),i=.int .i64 i'/\Hid (i'=(k:Int)-1)/\k<=M/\rest=.slice pr (dig R).length cr/\Rd wr (.slice pr (dig R).length cr) (dig R)/\Hid (RInv U o M (val V) k R)/\Rd wr (.slice (some ⟨ga,oa,none⟩) lu ca) U/\Rd wr (.slice pb n cb) V/\wr.ownsRow w.heap.size 133 1 (.slice (some ⟨gq,0,none⟩) M M) M (cells32 o)/\Below w.heap.size w wr) (fun _ i _ _ _ _ _ _ _ _ _ _ _ _ _ _ _ _ _ _ _ _ _ _ _ _ _ _ _ _ _ _ _ _ _ _ _ _ _ _ _ _ _ _ _ _ _ _ _ _=>(intOf i+1).toNat)
 case atStart=>exact⟨M,R0,_,_,p4,c4,rfl,by unfold Hid;omega,aj _,rfl,hR5,b5q,hU5,hV5,hq5,hB5⟩
 case round =>
  obtain⟨k,R,i',o,pr,cr,rfl,hk',hkM,rfl,hrest,hI,hU,hV,hO,hB⟩:=hrel
  clear hR5 hU5 hV5 hq5 hB5 b5q
  cases k with
  | zero =>
   obtain rfl:i'=-1:=by have:=hk'.out;simpa using this
   have hD:=hI.out.done
   have hRV:=hI.out.rest
   have hRl:=HLR.out R hRV
   have hlo:o.length=M:=hI.out.len
   have HX:Hid (sg false (val o)=((val a / val b:Nat):Int)/\dig (val (dig R) / sc)=dig (val a%val b)):=by
    have h1:=hD.2.1
    have h2:=hD.2.2
    rw[HU.out,HV.out] at h1 h2
    rw[Nat.mul_div_mul_right _ _ (by omega)] at h1
    rw[Nat.mul_mod_mul_right] at h2
    refine⟨by rw[h1];rfl,?_⟩
    rw[aJ,h2,Nat.mul_div_cancel _ (by omega)]
   have hlow:=hD.1
   have HLO:=bn hlo
   clear hD hRV hlo
   go_wp2_with fail
   refine(UR _ (dig R) sc _ hrest (dB _) (by omega) a2f (by omega)).mono ?_
   rintro e w6 ⟨v6,rfl,hv6,hb6⟩
   rw[HX.out.2] at hv6
   have hR:=Rd.dO (l:=o) (by rw[HLO.out];exact kM hO hb6)
   go_wp2_with fail
   refine(iM false _ _ _ hR hlow (by rw[HLO.out];omega)).mono ?_
   rw[HX.out.1]
   rintro e2 w7 ⟨v2,rfl,hi2,hb7⟩
   obtain⟨g2,p2,n2,c2,rfl⟩:=hi2.form
   have hR2:=hi2.rd
   rw[Int.natAbs_natCast] at hR2
   go_wp2_with fail
   go_ret2
   exact⟨_,_,rfl,hR2,hv6.below hb7,Below.tr (Below.tr hB hb6) hb7⟩
  | succ k =>
   obtain rfl:i'=(k:Int):=by have:=hk'.out;simp at this;omega
   have hLU:=HLU.out
   have gx:gr U k<=999999999:=iJ HUc.out.1 k
   obtain⟨g0',o0',e0',hba,hcu⟩:=hU.at (by intro e;subst e;simp at hLU;omega)
   cases e0'
   have hcell:wr.cell? ⟨ga,oa+k,none⟩=some (.int .u32 (gr U k:Nat)):=hcu k (by omega)
   have hRV:=hI.out.rest
   have hRl:=HLR.out R hRV
   have k1:(0:Int)<=k:=by omega
   have k2:(k:Int)<lu:=by omega
   have c2H:=bn hLU
   have HRV:=bn hRV
   clear hcu hLU hRV
   go_wp2_with fail
   refine(a0P _ (dig R) (gr U k) _ hrest (dB _) hRl gx).mono ?_
   rw[aJ]
   obtain⟨T,hT⟩:∃ T,gr U k+1000000000*R=T:=⟨_,rfl⟩
   rw[hT]
   rintro e w6 ⟨v6,rfl,hv6,_,hb6⟩
   obtain⟨p6,c6,rfl,_,_⟩:=hv6.form
   have HT:=bn hT
   clear hT
   have hU6:=hU.below hb6
   have hV6:=hV.below hb6
   have hO6:=kM hO hb6
   have hB6:=Below.tr hB hb6
   have hzw:=hb6.size
   have hqw:=(hO.lt gq rfl).2
   have hVL:=HVL.out
   obtain⟨gv,ov,rfl,hgv,hcv⟩:=hV6.at (by intro e;subst e;simp at hVL;omega)
   have a9G:w6.cell? ⟨gv,ov+(n-1),none⟩=some (.int .u32 (gr V (n-1):Nat)):=hcv (n-1) (by omega)
   clear hcv hVL
   have hbt:gr V (n-1)<=999999999:=iJ HVc.out.1 _
   have hVt:Hid (val V<(gr V (n-1)+1)*BB ^ (n-1)):=VK HVc.out.1 HVL.out (by omega)
   obtain⟨bt,c1t⟩:∃ bt,gr V (n-1)=bt:=⟨_,rfl⟩
   rw[c1t] at a9G hbt hVt
   obtain⟨x1,hx1⟩:∃ x1,gr (dig T) n=x1:=⟨_,rfl⟩
   obtain⟨x0,hx0⟩:∃ x0,gr (dig T) (n-1)=x0:=⟨_,rfl⟩
   have bx1:x1<=999999999:=by rw[<-hx1];exact iJ (dB T) n
   have bx0:x0<=999999999:=by rw[<-hx0];exact iJ (dB T) (n-1)
   obtain⟨S,hS⟩:∃ S:Nat,(x1:Int)*1000000000+x0=S:=⟨x1*1000000000+x0,by simp⟩
   have hSn:x1*1000000000+x0=S:=by omega
   have hSb:S<=999999999999999999:=by omega
   obtain⟨y,hy⟩:∃ y:Nat,(bt:Int)+1=y:=⟨bt+1,by simp⟩
   have hyn:bt+1=y:=by omega
   obtain⟨g0,hg0⟩:∃ g0,S / y=g0:=⟨_,rfl⟩
   have hgm:g0*y<=S:=by rw[<-hg0];exact Nat.div_mul_le_self _ _
   have hgT:g0*val V<=T:=by
    have:=a9z (l:=dig T) (n:=n) (V:=val V) (bt:=bt) (g:=g0) (by omega) hVt.out (by rw[hx1,hx0,hyn];omega)
    rwa [aJ] at this
   have c1p:=HRV.out
   have HTo:=HT.out
   obtain⟨R1,hR1⟩:∃ R1,g0*val V+R1=T:=⟨T-g0*val V,by omega⟩
   have c1w:g0<=999999999:=OG (V:=val V) (R:=R) (x:=gr U k) (R':=R1) c1p gx (by omega)
   have i1:(S:Int) / y=g0:=by rw[<-hg0];simp
   have w1':IntKind.u64.wrap (g0:Int)=g0:=wrap_u64 (by omega)
   have hyz:((y:Int)==0)=false:=by simp;omega
   have a9O:=fun w=>UE (n:=S) (d:=y) (v:=g0) (by omega) hSb i1 w1' w
   have HRW:Hid (dig (val (dig T)-val (dig (val V*g0)))=dig R1):=by
    unfold Hid;rw[aJ,aJ,wu (val V)];congr 1;omega
   have hlT:(dig T).length<=1000000001:=by
    have h1:R<BB ^ (dig R).length:=jK (aj _)
    have h2:T<BB ^ ((dig R).length+1):=by
     rw[Nat.pow_succ]
     generalize BB ^ (dig R).length=z at *
     rw[dG];omega
    have:=fM h2
    omega
   have hls:(dig (val V*g0)).length<=(dig T).length:=aN (by rw[wu];exact hgT)
   have hlv:val (dig (val V*g0))<=val (dig T):=by rw[aJ,aJ,wu];exact hgT
   have HGR:=bn (fun(i:Int) (W:World) (h:Rd W (.slice p6 (dig T).length c6) (dig T)) (h0:0<=i)=>group_any _ (dig T) i W h (dB T) h0)
   have HR1:=bn hv6
   have hvd:=hv6.drew
   have HR2:=bn hvd
   have c2J:=bn hR1
   have b2q:=bn (And.intro hlT (And.intro hls hlv))
   have hn1':(0:Int)<=n:=by omega
   have c4y:(0:Int)<=(n:Int)-1:=by omega
   have c4z:(n:Int)-1<n:=by omega
   clear c1t hSn hyn hg0 hgm hgT c1p HTo hR1 hlT hls hlv hvd hVt hrest
   go_wp2_with fail
   go_quiet ((go_at_call 160;exact Calls.quiet_of_same ((HGR.out _ _ (by first|exact HR1.out|exact HR2.out) (by omega)).mono fun e w' h=>⟨h.1,h.2.symm⟩)))
   go_wp2_with fail
   refine(DR _ V g0 _ (Rd.drewN hV6 _) HVc.out.1 (by have:=HVL.out;omega) c1w).mono ?_
   rintro e w7 ⟨v7,rfl,hv7,_,hb7⟩
   obtain⟨p7,c7,rfl,_,_⟩:=hv7.form
   go_wp2_with fail
   refine(zI _ _ (dig T) (dig (val V*g0)) _ ((Rd.drewN HR1.out _).below hb7) hv7 (dB _) (dB _) (by have:=b2q.out.1;omega) b2q.out.2.1 b2q.out.2.2).mono ?_
   rw[HRW.out]
   rintro e w8 ⟨v8,rfl,hv8,c1u,hb8⟩
   obtain⟨p8,c8,rfl,_,_⟩:=hv8.form
   have hU8:=((Rd.drewN hU6 _).below hb7).below hb8
   have hV8:=((Rd.drewN hV6 _).below hb7).below hb8
   have hO8:=kM (kM (kM hO6 (Below.qN (dn _ _) _)) hb7) hb8
   have hB8:=Below.tr (Below.tr (Below.qN hB6 _) hb7) hb8
   have hz7:w6.heap.size<=w7.heap.size:=jg (Below.qN (dn w6.heap.size w6) _).size hb7.size
   have b4Y:Hid (∀ z,(Value.slice p8 (dig R1).length c8).ownBlock=some z->gq<z):=fun z hz=>by have:=c1u z hz;omega
   clear c1u hv7 hb7 hb8 HGR HR1 HR2 hU hV hO hB hU6 hV6 hO6 hB6 hv6 a9G hcell a9O
   go_wp2_with fail
   go_loopg [10,13,106,107,108,109,110,111,112,113,114] R1 (fun kk rest g _ _ _ _ _ _ _ _ _ wr=>∃ (Rr gg:Nat) (pr:Option Addr) (cr:Nat),Hid (kk=Rr)/\rest=.slice pr (dig Rr).length cr/\Rd wr (.slice pr (dig Rr).length cr) (dig Rr)/\Hid (∀ z,(Value.slice pr (dig Rr).length cr).ownBlock=some z->gq<z)/\g=.int .u64 (gg:Nat)/\Hid (gg*val V+Rr=T)/\gg<=999999999/\Rd wr (.slice (some ⟨ga,oa,none⟩) lu ca) U/\Rd wr (.slice (some ⟨gv,ov,none⟩) n cb) V/\wr.ownsRow w.heap.size 133 1 (.slice (some ⟨gq,0,none⟩) M M) M (cells32 o)/\Below w.heap.size w wr)
   case atStart=>exact⟨R1,g0,p8,c8,rfl,rfl,hv8,b4Y,rfl,c2J,c1w,hU8,hV8,hO8,hB8⟩
   case round =>
    obtain⟨Rr,gg,pr2,cr2,hkk,rfl,hr9,hsep,rfl,hg9,c4q,hU9,hV9,hO9,hB9⟩:=hrel
    clear hU8 hV8 hO8 hB8 hv8 b4Y
    have hlr:(dig Rr).length<=1000000001:=by
     have h1:=hg9.out
     have:=aN (show Rr<=T by omega)
     have:=b2q.out.1
     omega
    obtain⟨cv2,hcv2⟩:∃ cv2,dV (val (dig Rr)) (val V)=cv2:=⟨_,rfl⟩
    have c0n:=bn hcv2
    rw[aJ] at hcv2
    by_cases hge:val V<=Rr
    ·have hc0:0<=cv2:=by rw[<-hcv2];unfold dV;rw[ig (by omega)];split<;>omega
     have c3I:decide (0<=cv2)=true:=by simpa using hc0
     obtain⟨R2,hR2⟩:∃ R2,Rr=val V+R2:=⟨Rr-val V,by omega⟩
     have b5N:(gg+1)*val V+R2=T:=by have:=hg9.out;rw[Aq];omega
     have c1x:gg+1<=999999999:=OG (V:=val V) (R:=R) (x:=gr U k) (R':=R2) HRV.out gx (by rw[b5N];exact HT.out.symm)
     have c2K:Hid (dig (val (dig Rr)-val V)=dig R2):=by unfold Hid;rw[aJ];congr 1;omega
     have hlv2:V.length<=(dig Rr).length:=by have:=aN hge;rwa [fE HVc.out] at this
     have hle2:Hid (val V<=val (dig Rr)):=by unfold Hid;rw[aJ];exact hge
     have b5G:Hid (R2<Rr):=by have:=HVc.out.pos (by intro e;have:=HVL.out;rw[e] at this;simp at this;omega);unfold Hid;omega
     have c2G:=bn b5N
     clear hcv2 hge hc0 hR2 b5N
     go_wp2_with fail
     refine(uH _ _ (dig Rr) V _ hr9 hV9 (cZ _) HVc.out (by omega)).mono ?_
     rw[c0n.out]
     rintro e w9 ⟨rfl,hb9⟩
     go_wp2_with fail
     refine(zI _ _ (dig Rr) V _ (hr9.below hb9) (hV9.below hb9) (dB _) HVc.out.1 (by omega) hlv2 hle2.out).mono ?_
     rw[c2K.out]
     rintro e w10 ⟨v10,rfl,c1O,b4P,b2T⟩
     obtain⟨p10,c10,rfl,_,_⟩:=c1O.form
     have b5H:=(hU9.below hb9).below b2T
     have b5I:=(hV9.below hb9).below b2T
     have a9D:=kM (kM hO9 hb9) b2T
     have b5E:=Below.tr (Below.tr hB9 hb9) b2T
     have hqz:=(hO9.lt gq rfl).2
     have hz9:=hb9.size
     have a0:Hid (∀ z,(Value.slice p10 (dig R2).length c10).ownBlock=some z->gq<z):=fun z hz=>by have:=b4P z hz;omega
     clear b4P
     go_wp2_with fail
     go_roundg R2
     case measure=>rw[hkk.out];exact b5G.out
     case rel=>exact⟨R2,gg+1,p10,c10,rfl,rfl,c1O,a0,by go_num,c2G,c1x,b5H,b5I,a9D,b5E⟩
    ·have hc0:cv2<0:=by rw[<-hcv2];unfold dV;rw[gy (by omega)];omega
     have c3I:decide (0<=cv2)=false:=by simp;omega
     have hN:=hI.out.step (q:=gg) (R':=Rr) (by omega) (by have:=c2H.out;omega) (by rw[hg9.out];exact HT.out) (by omega) gx
     have HN:=bn hN.1
     have hlo:o.length=M:=hI.out.len
     clear hcv2 hge hc0 hN
     have c4s:k<M:=by omega
     go_wp2_with fail
     refine(uH _ _ (dig Rr) V _ hr9 hV9 (cZ _) HVc.out (by omega)).mono ?_
     rw[c0n.out]
     rintro e w9 ⟨rfl,hb9⟩
     have a9D:=kM hO9 hb9
     have hcl:w9.cell? ⟨gq,k,none⟩=some (.int .u32 (gr o k:Nat)):=by
      rw[a9D.cellAt k (by omega)];exact fO (by omega)
     have hfr:=a9D.frozenAt k
     have hst:=a9D.stored k (.int .u32 (gg:Nat))
     rw[gV] at hst
     have HST:=bn hst
     have b5H:=(hU9.below hb9).a4N (a:=⟨gq,k,none⟩) (fun z hz=>by simp[Value.ownBlock] at hz;subst hz;exact c1J) (.int .u32 (gg:Nat))
     have b5I:=(hV9.below hb9).a4N (a:=⟨gq,k,none⟩) HSV.out (.int .u32 (gg:Nat))
     have c3Q:=(hr9.below hb9).a4N (a:=⟨gq,k,none⟩) (fun z hz=>by have:=hsep.out z hz;show z≠gq;omega) (.int .u32 (gg:Nat))
     have b5E:=(Below.tr hB9 hb9).setCell (p:=⟨gq,k,none⟩) hzB (.int .u32 (gg:Nat))
     have c4t:(k:Int)<M:=by omega
     clear hst hlo
     go_wp2_with fail
     go_roundw
     case rel=>exact⟨k,Rr,_,_,pr2,cr2,rfl,rfl,by omega,rfl,c3Q,HN,b5H,b5I,HST.out.1,b5E⟩
     case measure=>simp[intOf]
set_option maxRecDepth 100000
theorem vF (s t:Value) (a b:List Nat) (w:World) (hs:Rd w s a) (ht:Rd w t b) (ha:Canon a) (hb:Canon b) (la:a.length<=1000000000) (hb0:b≠[]) :
  Calls Tryz.prog 156 #[s,t] w (ZI (dig (val a / val b)) (dig (val a%val b)) w):=by
 by_cases h2:2<=b.length
 ·by_cases hlt:val a<val b
  ·exact a7Y s t a b w hs ht ha hb la h2 hlt
  ·exact a2U s t a b w hs ht ha hb la h2 (by omega)
 ·obtain⟨d0,rfl⟩:∃ d0,b=[d0]:=by
   cases b with
   | nil=>exact absurd rfl hb0
   | cons x t=>cases t with
    | nil=>exact⟨x,rfl⟩
    | cons=>simp at h2
  have:=a4I s t a d0 w hs ht ha hb la
  have e:val [d0]=d0:=by simp[dH]
  rwa [e]
theorem dR.flag {w:World} {g:Bool} {s:Value} {x:Int} (h:dR w (.agg #[.bool g,s]) x):g=decide (x<0):=by
 obtain⟨s',e,_⟩:=h;cases e;rfl
theorem wH (x:Int):sg (decide (x<0)) x.natAbs=x:=by
 unfold sg
 by_cases h:x<0<;>simp[h]<;>omega
theorem b1j {g:Bool} {x:Int} (h:g=decide (x<0)):sg (!g) (val (dig x.natAbs))=-x:=by
 subst h;rw[aJ];unfold sg
 by_cases h:x<0<;>simp[h]<;>omega
theorem a7R {g1 g2:Bool} {x y:Int} (h1:g1=decide (x<0)) (h2:g2=decide (y<0)) (h:decide (x<0)=decide (y<0)):sg g1 (val (dig (val (dig x.natAbs)+val (dig y.natAbs))))=x+y:=by
 subst h1;subst h2
 rw[aJ,aJ,aJ]
 simp only[Bh] at h
 unfold sg
 by_cases hx:x<0<;>simp[hx]<;>omega
theorem a7Q {g1 g2:Bool} {x y:Int} (h1:g1=decide (x<0)) (h2:g2=decide (y<0)) (h:decide (x<0)≠decide (y<0)) (hle:y.natAbs<=x.natAbs):sg g1 (val (dig (val (dig x.natAbs)-val (dig y.natAbs))))=x+y:=by
 subst h1;subst h2
 rw[aJ,aJ,aJ]
 simp only[ne_eq,Bh] at h
 unfold sg
 by_cases hx:x<0<;>simp[hx]<;>omega
theorem a4y {g1 g2:Bool} {x y:Int} (h1:g1=decide (x<0)) (h2:g2=decide (y<0)) (h:decide (x<0)≠decide (y<0)) (hlt:x.natAbs<y.natAbs):sg g2 (val (dig (val (dig y.natAbs)-val (dig x.natAbs))))=x+y:=by
 subst h1;subst h2
 rw[aJ,aJ,aJ]
 simp only[ne_eq,Bh] at h
 unfold sg
 by_cases hx:y<0<;>simp[hx]<;>omega
theorem UN (v:Value) (x:Int) (w:World) (hv:Raw w v x) (hl:isz x<=1000000000) :
  Calls Tryz.prog 96 #[v] w (sO (-x) w):=by
 obtain⟨b,p,n,c,rfl⟩:=hv.form
 have hl2:(dig x.natAbs).length<=2000000001:=by have:(dig x.natAbs).length<=1000000000:=hl;omega
 have bZ:Below w.heap.size w w:=dn _ _
 go_enter Tryz.func96,Tryz.ntmps96
 go_wp2_with fail
 obtain⟨hA1,j0,k0⟩:=bx2 w rfl [.bool b,.slice p n c] 62 [.bool false,.slice none 0 0] 62
 have l0:=(hv.below hA1)
 (with_reducible refine(iF _ (x) _ l0 (by omega)).mono ?_)
 rintro e w1 ⟨v1,rfl,hi1,hb1⟩
 obtain⟨g1,p1,n1,c1,rfl⟩:=hi1.form
 have hf1:=bn (dR.flag hi1)
 have dP:=(j0.to hb1)
 obtain⟨a0,c0,b0,d0⟩:=dP.cf2
 go_wp2_with fail
 have m0:=(hi1.aI dP rfl rfl (.bool g1) (.slice p1 n1 c1)).rd
 (with_reducible refine(iM _ _ _ _ m0 (dB _) hl2).mono ?_)
 rintro e w2 ⟨v2,rfl,hi2,hb2⟩
 obtain⟨g2,p2,n2,c2,rfl⟩:=hi2.form
 have dM:=(((k0.to hb1).aO (b:=w.heap.size) (by omega) (.bool g1) (.slice p1 n1 c1)).to hb2)
 obtain⟨e0,g0,f0,h0⟩:=dM.cf2
 have i0:=(Below.tr (Below.aI (Below.tr (Below.tr bZ hA1) hb1) (b:=w.heap.size) (by omega) (.bool g1) (.slice p1 n1 c1)) hb2)
 go_wp2_with fail
 exact jh (v:=.agg #[.bool g2,.slice p2 n2 c2]) (by simp[results,Tryz.results96,go_sem,a0,c0,b0,d0,e0,g0,f0,h0]) rfl ⟨_,rfl,dX (hi2.aI dM rfl rfl (.bool g2) (.slice p2 n2 c2)) (b1j hf1.out),(Below.aI i0 (b:=w.heap.size+1) (by omega) (.bool g2) (.slice p2 n2 c2))⟩
theorem a5N {x:Int} (h:x≠0):isz x≠0:=fun e=>h (by
 have:=kF.1 (ou (show (dig x.natAbs).length=0 from e))
 omega)
theorem b4e (v:Value) (x:Int) (w:World) (hv:Raw w v x) (hl:isz x<=1000000000) (h:x=0) :
  Calls Tryz.prog 121 #[v] w fun e w'=>e=.returned (.int .i64 (sgn x))/\Below w.heap.size w w':=by
 obtain⟨b,p,n,c,rfl⟩:=hv.form
 have HX:Hid (isz x=0/\(0:Int)=sgn x):=by subst h;exact⟨KF,rfl⟩
 clear h
 have bZ:Below w.heap.size w w:=dn _ _
 go_enter Tryz.func121,Tryz.ntmps121
 go_wp2_with fail
 obtain⟨hA1,b0⟩:=bx1 w rfl [.bool b,.slice p n c] 62
 have c0:=(hv.below hA1)
 (with_reducible refine(iF _ (x) _ c0 (by omega)).mono ?_)
 rintro e w1 ⟨v1,rfl,hi1,hb1⟩
 obtain⟨g1,p1,n1,c1,rfl⟩:=hi1.form
 have hf1:=bn (dR.flag hi1)
 have hz:((n1:Int)==0)=true:=by rw[hi1.len,HX.out.1];rfl
 have dP:=(b0.to hb1)
 obtain⟨d0,f0,e0,g0⟩:=dP.cf2
 have a0:=(Below.tr (Below.tr bZ hA1) hb1)
 go_wp2_with fail
 go_ret
 exact⟨iR HX.out.2,(Below.aI a0 (b:=w.heap.size) (by omega) (.bool g1) (.slice p1 n1 c1))⟩
theorem b4c (v:Value) (x:Int) (w:World) (hv:Raw w v x) (hl:isz x<=1000000000) (h:x<0) :
  Calls Tryz.prog 121 #[v] w fun e w'=>e=.returned (.int .i64 (sgn x))/\Below w.heap.size w w':=by
 obtain⟨b,p,n,c,rfl⟩:=hv.form
 have HX:Hid (isz x≠0/\decide (x<0)=true/\(-1:Int)=sgn x):=⟨a5N (by omega),by simpa using h,(KY h).symm⟩
 clear h
 have bZ:Below w.heap.size w w:=dn _ _
 go_enter Tryz.func121,Tryz.ntmps121
 go_wp2_with fail
 obtain⟨hA1,b0⟩:=bx1 w rfl [.bool b,.slice p n c] 62
 have c0:=(hv.below hA1)
 (with_reducible refine(iF _ (x) _ c0 (by omega)).mono ?_)
 rintro e w1 ⟨v1,rfl,hi1,hb1⟩
 obtain⟨g1,p1,n1,c1,rfl⟩:=hi1.form
 have hf1:=bn (dR.flag hi1)
 have hz:((n1:Int)==0)=false:=by rw[hi1.len];simpa using HX.out.1
 obtain rfl:g1=true:=by rw[hf1.out];exact HX.out.2.1
 have dP:=(b0.to hb1)
 obtain⟨d0,f0,e0,g0⟩:=dP.cf2
 have a0:=(Below.tr (Below.tr bZ hA1) hb1)
 go_wp2_with fail
 go_ret
 exact⟨iR HX.out.2.2,(Below.aI a0 (b:=w.heap.size) (by omega) (.bool true) (.slice p1 n1 c1))⟩
theorem b4d (v:Value) (x:Int) (w:World) (hv:Raw w v x) (hl:isz x<=1000000000) (h:0<x) :
  Calls Tryz.prog 121 #[v] w fun e w'=>e=.returned (.int .i64 (sgn x))/\Below w.heap.size w w':=by
 obtain⟨b,p,n,c,rfl⟩:=hv.form
 have HX:Hid (isz x≠0/\decide (x<0)=false/\(1:Int)=sgn x):=⟨a5N (by omega),by simp;omega,(zL h).symm⟩
 clear h
 have bZ:Below w.heap.size w w:=dn _ _
 go_enter Tryz.func121,Tryz.ntmps121
 go_wp2_with fail
 obtain⟨hA1,b0⟩:=bx1 w rfl [.bool b,.slice p n c] 62
 have c0:=(hv.below hA1)
 (with_reducible refine(iF _ (x) _ c0 (by omega)).mono ?_)
 rintro e w1 ⟨v1,rfl,hi1,hb1⟩
 obtain⟨g1,p1,n1,c1,rfl⟩:=hi1.form
 have hf1:=bn (dR.flag hi1)
 have hz:((n1:Int)==0)=false:=by rw[hi1.len];simpa using HX.out.1
 obtain rfl:g1=false:=by rw[hf1.out];exact HX.out.2.1
 have dP:=(b0.to hb1)
 obtain⟨d0,f0,e0,g0⟩:=dP.cf2
 have a0:=(Below.tr (Below.tr bZ hA1) hb1)
 go_wp2_with fail
 go_ret
 exact⟨iR HX.out.2.2,(Below.aI a0 (b:=w.heap.size) (by omega) (.bool false) (.slice p1 n1 c1))⟩
theorem rH (v:Value) (x:Int) (w:World) (hv:Raw w v x) (hl:isz x<=1000000000) :
  Calls Tryz.prog 121 #[v] w fun e w'=>e=.returned (.int .i64 (sgn x))/\Below w.heap.size w w':=by
 rcases Ae x 0 with h|h|h
 ·exact b4c v x w hv hl h
 ·exact b4e v x w hv hl h
 ·exact b4d v x w hv hl h
theorem b1l (n:Int) (w:World) (h0:-9223372036854775808<=n) (h1:n<=9223372036854775807) (h:n<0) :
  Calls Tryz.prog 125 #[.int .i64 n] w (sO n w):=by
 obtain⟨i0,hi,hz0,hz1,hz2⟩:=Aj iZ
 obtain⟨j,rfl⟩:∃ j:Nat,n=-((j:Int)+1):=⟨(-n-1).toNat,by omega⟩
 have hj:j<=9223372036854775807:=by omega
 have e1:-((j:Int)+1)+1=-(j:Int):=by omega
 have hlt:decide (-((j:Int)+1)<0)=true:=pz (by omega)
 obtain⟨k0,hk0⟩:∃ k0,j+1=k0:=⟨_,rfl⟩
 have HX:Hid (sg true (val (dig k0))=-((j:Int)+1)):=by unfold Hid;rw[aJ,<-hk0];simp[sg]
 have hk1:k0<=9223372036854775808:=by omega
 have hk2:(j:Int)+1=k0:=by omega
 obtain⟨z,hz⟩:∃ z:Int,-((j:Int)+1)=z:=⟨_,rfl⟩
 rw[hz] at e1 hlt HX h0 h1 ⊢
 clear hk0 hz h
 have hlen:Hid ((dig k0).length<=3):=fM (by rw[dG];omega)
 have hO:=wZ w [.bool false,.slice none 0 0] 62
 have hB0:Below (w.heap.size+1) (w.alloc (.cells #[.bool false,.slice none 0 0] 62)) ((w.alloc (.cells #[.bool false,.slice none 0 0] 62)).alloc (.cells #[] 133)):=(dn _ _).alloc (by simp) _
 go_enter Tryz.func125,Tryz.ntmps125
 go_wp2_with fail
 go_loopw [3,4,15,16,17,18,19,20,21,22,23,24] (fun m v _ _ _ _ _ _ _ _ _ _ wr=>∃ (k:Nat) (l:List Nat),k<=9223372036854775808/\m=.int .u64 (k:Nat)/\Hid (l++dig k=dig k0)/\wr.ownsRow (w.heap.size+1) 133 1 v l.length (cells32 l)/\Below (w.heap.size+1) (w.alloc (.cells #[.bool false,.slice none 0 0] 62)) wr) (fun m _ _ _ _ _ _ _ _ _ _ _ _=>(intOf m).toNat)
 case atStart=>exact⟨k0,[],hk1,by first|rfl|rw[hk2]|simp[hk2],by simp[Hid],hO,hB0⟩
 case round =>
  obtain⟨k,l,hk,rfl,hl,hown,hB⟩:=hrel
  have hsz:w.heap.size+1<=wr.heap.size:=by have:=hB.size;simpa using this
  by_cases hk0':0<k
  ·have HS:=bn (wL hk0' hl.out)
   have hll:l.length<=2:=by
    have h1:=xu List.length hl.out
    have h2:=hlen.out
    rw[iw,pR (by omega:k≠0),List.length_cons] at h1
    omega
   go_wp2_with (at_builtin;refine yh _ rfl _ _ 60 rfl (w.heap.size+1) 133 i0 (.int .u32 0) 1 4 jo hi hz0 hz1 hz2 rfl (by decide) _ _ _ rfl (hown.alloc _) ⟨wr.heap.size,0,none⟩ 1 1 [.int .u32 ((k%1000000000:Nat):Int)] rfl rfl (cell_one_new _ _ _) (by simp[Value.oneCell']) (by unfold maxLen;omega) (by omega) (by simp;omega) ?_)
   intro v' w1 hown' hgrow _
   have hown2:w1.ownsRow (w.heap.size+1) 133 1 v' (l++[k%1000000000]).length (cells32 (l++[k%1000000000])):=by
    rw[iw,List.length_singleton]
    have:cells32 (l++[k%1000000000])=cells32 l++[.int .u32 ((k%1000000000:Nat):Int)]:=by simp[cells32]
    rw[this];exact hown'
   have hB1:Below (w.heap.size+1) (w.alloc (.cells #[.bool false,.slice none 0 0] 62)) w1:=(hB.alloc hsz _).grown hgrow (by simp;omega) (fun j e=>(hown.lt j e).1)
   clear hown' hgrow
   go_wp2_with fail
   go_roundw
   case rel=>exact⟨k / 1000000000,l++[k%1000000000],by omega,by go_num,HS,hown2,hB1⟩
   case measure=>simp[intOf];omega
  ·obtain rfl:k=0:=by omega
   have e:l=dig k0:=by rw[<-hl.out,dY,Bd]
   have hR:=Rd.dO hown
   rw[e] at hR
   have hll:(dig k0).length<=2000000001:=by have:=hlen.out;omega
   have q0:=(Bx.new w [.bool false,.slice none 0 0] 62).below hB (by omega)
   have hBw:Below w.heap.size w wr:=((dn _ _).alloc (aj _) _).trans (hB.mono (by omega))
   have HE:=bn e
   rw[e] at hown
   clear hk0' hl e
   obtain rfl:=HE.out
   go_wp2_with fail
   refine(iM true _ _ _ hR (dB _) hll).mono ?_
   rw[HX.out]
   rintro e2 w2 ⟨v2,rfl,hi2,hb2⟩
   obtain⟨g2,p2,n2,c2,rfl⟩:=hi2.form
   have q2:=q0.to hb2
   have r0:=q2.c0
   have r1:=q2.c1
   have f0:=q2.f0
   have f1:=q2.f1
   go_wp2_with fail
   exact jh (v:=.agg #[.bool g2,.slice p2 n2 c2]) (by simp[results,Tryz.results125,go_sem,r0,r1]) rfl ⟨_,rfl,dR.aI hi2 q2 rfl rfl _ _,Below.aI (Below.tr hBw hb2) (aj _) _ _⟩
theorem a7X (n:Int) (w:World) (h0:-9223372036854775808<=n) (h1:n<=9223372036854775807) (h:¬ n<0) :
  Calls Tryz.prog 125 #[.int .i64 n] w (sO n w):=by
 obtain⟨i0,hi,hz0,hz1,hz2⟩:=Aj iZ
 obtain⟨k0,rfl⟩:=Ad (Int.not_lt.1 h)
 have hk1:k0<=9223372036854775808:=by omega
 have hlt:decide ((k0:Int)<0)=false:=by simp
 have HX:Hid (sg false (val (dig k0))=(k0:Int)):=by unfold Hid;rw[aJ];rfl
 clear h
 have hlen:Hid ((dig k0).length<=3):=fM (by rw[dG];omega)
 have hO:=wZ w [.bool false,.slice none 0 0] 62
 have hB0:Below (w.heap.size+1) (w.alloc (.cells #[.bool false,.slice none 0 0] 62)) ((w.alloc (.cells #[.bool false,.slice none 0 0] 62)).alloc (.cells #[] 133)):=(dn _ _).alloc (by simp) _
 go_enter Tryz.func125,Tryz.ntmps125
 go_wp2_with fail
 go_loopw [3,4,15,16,17,18,19,20,21,22,23,24] (fun m v _ _ _ _ _ _ _ _ _ _ wr=>∃ (k:Nat) (l:List Nat),k<=9223372036854775808/\m=.int .u64 (k:Nat)/\Hid (l++dig k=dig k0)/\wr.ownsRow (w.heap.size+1) 133 1 v l.length (cells32 l)/\Below (w.heap.size+1) (w.alloc (.cells #[.bool false,.slice none 0 0] 62)) wr) (fun m _ _ _ _ _ _ _ _ _ _ _ _=>(intOf m).toNat)
 case atStart=>exact⟨k0,[],hk1,rfl,by simp[Hid],hO,hB0⟩
 case round =>
  obtain⟨k,l,hk,rfl,hl,hown,hB⟩:=hrel
  have hsz:w.heap.size+1<=wr.heap.size:=by have:=hB.size;simpa using this
  by_cases hk0':0<k
  ·have HS:=bn (wL hk0' hl.out)
   have hll:l.length<=2:=by
    have h1:=xu List.length hl.out
    have h2:=hlen.out
    rw[iw,pR (by omega:k≠0),List.length_cons] at h1
    omega
   go_wp2_with (at_builtin;refine yh _ rfl _ _ 60 rfl (w.heap.size+1) 133 i0 (.int .u32 0) 1 4 jo hi hz0 hz1 hz2 rfl (by decide) _ _ _ rfl (hown.alloc _) ⟨wr.heap.size,0,none⟩ 1 1 [.int .u32 ((k%1000000000:Nat):Int)] rfl rfl (cell_one_new _ _ _) (by simp[Value.oneCell']) (by unfold maxLen;omega) (by omega) (by simp;omega) ?_)
   intro v' w1 hown' hgrow _
   have hown2:w1.ownsRow (w.heap.size+1) 133 1 v' (l++[k%1000000000]).length (cells32 (l++[k%1000000000])):=by
    rw[iw,List.length_singleton]
    have:cells32 (l++[k%1000000000])=cells32 l++[.int .u32 ((k%1000000000:Nat):Int)]:=by simp[cells32]
    rw[this];exact hown'
   have hB1:Below (w.heap.size+1) (w.alloc (.cells #[.bool false,.slice none 0 0] 62)) w1:=(hB.alloc hsz _).grown hgrow (by simp;omega) (fun j e=>(hown.lt j e).1)
   clear hown' hgrow
   go_wp2_with fail
   go_roundw
   case rel=>exact⟨k / 1000000000,l++[k%1000000000],by omega,by go_num,HS,hown2,hB1⟩
   case measure=>simp[intOf];omega
  ·obtain rfl:k=0:=by omega
   have e:l=dig k0:=by rw[<-hl.out,dY,Bd]
   have hR:=Rd.dO hown
   rw[e] at hR
   have hll:(dig k0).length<=2000000001:=by have:=hlen.out;omega
   have q0:=(Bx.new w [.bool false,.slice none 0 0] 62).below hB (by omega)
   have hBw:Below w.heap.size w wr:=((dn _ _).alloc (aj _) _).trans (hB.mono (by omega))
   have HE:=bn e
   rw[e] at hown
   clear hk0' hl e
   obtain rfl:=HE.out
   go_wp2_with fail
   refine(iM false _ _ _ hR (dB _) hll).mono ?_
   rw[HX.out]
   rintro e2 w2 ⟨v2,rfl,hi2,hb2⟩
   obtain⟨g2,p2,n2,c2,rfl⟩:=hi2.form
   have q2:=q0.to hb2
   have r0:=q2.c0
   have r1:=q2.c1
   have f0:=q2.f0
   have f1:=q2.f1
   go_wp2_with fail
   exact jh (v:=.agg #[.bool g2,.slice p2 n2 c2]) (by simp[results,Tryz.results125,go_sem,r0,r1]) rfl ⟨_,rfl,dR.aI hi2 q2 rfl rfl _ _,Below.aI (Below.tr hBw hb2) (aj _) _ _⟩
theorem a6u (n:Int) (w:World) (h0:-9223372036854775808<=n) (h1:n<=9223372036854775807) :
  Calls Tryz.prog 125 #[.int .i64 n] w (sO n w):=by
 by_cases h:n<0
 ·exact b1l n w h0 h1 h
 ·exact a7X n w h0 h1 h
theorem b3Z {a b:Int} (h:a=b):Ending.returned (.int .u64 a)=.returned (.int .u64 b):=by rw[h]
theorem b0L {l:List Nat} (h:l.length<=2):gr l 1*1000000000+gr l 0=val l:=by
 match l,h with
 | [],_=>simp[gr,val]
 | [a],_=>simp[gr,dH,val]
 | [a,b],_=>simp[gr,dH,val,dG];omega
theorem YK (s:Value) (l:List Nat) (w:World) (hs:Rd w s l) (hl:Low l) (h2:l.length<=2) :
  Calls Tryz.prog 157 #[s] w fun e w'=>e=.returned (.int .u64 (val l:Nat))/\w=w':=by
 have hv:=b0L h2
 have g1:=iJ hl 1
 have g0:=iJ hl 0
 obtain⟨x1,hx1⟩:∃ x1,gr l 1=x1:=⟨_,rfl⟩
 obtain⟨x0,hx0⟩:∃ x0,gr l 0=x0:=⟨_,rfl⟩
 rw[hx1,hx0] at hv
 rw[hx1] at g1
 rw[hx0] at g0
 have HX:=bn (And.intro hx1 (And.intro hx0 hv))
 clear hx1 hx0 hv
 go_enter Tryz.func157,Tryz.ntmps157
 go_wp2_with fail
 refine(group_any _ l 1 _ hs hl (by omega)).mono ?_
 rw[show (1:Int).toNat=1 from rfl,HX.out.1]
 rintro e w' ⟨rfl,rfl⟩
 go_wp2_with fail
 refine(group_any _ l 0 _ hs hl (by omega)).mono ?_
 rw[show (0:Int).toNat=0 from rfl,HX.out.2.1]
 rintro e w' ⟨rfl,rfl⟩
 go_wp2_with fail
 go_ret
 exact⟨b3Z (by rw[<-HX.out.2.2];simp),rfl⟩
end Go.Proofs.YtgplhbhfdgempaaGreat
