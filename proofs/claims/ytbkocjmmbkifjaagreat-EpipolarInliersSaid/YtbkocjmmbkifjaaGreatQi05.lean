/-
  Lemmas for the theorem vinliers_holds, part 5 of 32.
-/
import Derived.Test.YtbkocjmmbkifjaaGreatQi04
namespace Go.Proofs.YtbkocjmmbkifjaaGreat
open Go Go.RowKit
theorem zi:type_of% @Int.lt_trichotomy:=@Int.lt_trichotomy
theorem Ce:type_of% @if_true:=@if_true
theorem Du:type_of% @Int.sign_eq_zero_iff_zero:=@Int.sign_eq_zero_iff_zero
theorem yu:type_of% @Bool.false_eq_true:=@Bool.false_eq_true
theorem xw:type_of% @Rat.intCast_mul:=@Rat.intCast_mul
theorem Ad:type_of% @Nat.div_le_self:=@Nat.div_le_self
theorem jd:type_of% @World.cell?_setCell_far:=@World.cell?_setCell_far
set_option maxRecDepth 1000000
set_option maxHeartbeats 4000000
set_option linter.unusedSimpArgs false
set_option linter.unusedVariables false
theorem YR (w:World) (s:Nat):Rd (w.alloc (.cells #[.int .u32 (s:Nat)] 148)) (.slice (some ⟨w.heap.size,0,none⟩) 1 1) [s]:=by
 refine .inr ⟨w.heap.size,0,1,rfl,by simp,by omega,by simp,fun i hi=>?_⟩
 have:i=0:=by simp at hi;exact hi
 subst this
 simp[gr,World.cell?_alloc_at]
theorem EC (l:List Nat) (g:Nat):cells32 (l++[g])=cells32 l++[.int .u32 (g:Nat)]:=by simp[cells32]
theorem a8E (s t:Value) (a b:List Nat) (w:World) (hs:Rd w s a) (ht:Rd w t b) (ha:Canon a) (hb:Canon b) (la:a.length<=1000000000) (hb2:2<=b.length) (hle:val b<=val a) :
  Calls Tryz.prog 277 #[s,t] w fun e w'=>∃ v1 v2,e=.returned (.tuple #[v1,v2])/\Rd w' v1 (dig (val a / val b))/\Rd w' v2 (dig (val a%val b))/\Below w.heap.size w w':=by
 obtain⟨i0,hi,hz0,hz1,hz2⟩:=zh gB
 obtain⟨p,c,rfl,_,_⟩:=hs.form
 obtain⟨q,d,rfl,_,_⟩:=ht.form
 have hbn:b≠[]:=by intro e;subst e;simp at hb2
 obtain⟨gb,ob,rfl,hgb,hcb⟩:=ht.at hbn
 have hlb:b.length<=a.length:=by
  have:=aJ hle
  rwa [dN ha,dN hb] at this
 have htop:gr b (b.length-1)<=999999999:=fU hb.1 _
 have hct:=hcb (b.length-1) (by omega)
 have htp:1<=gr b (b.length-1):=by
  have:=hb.2
  rw[MH hbn] at this
  have:gr b (b.length-1)≠0:=by simpa using this
  omega
 generalize gr b (b.length-1)=tp at htop hct htp
 obtain⟨sc,hsc⟩:∃ sc:Nat,(1000000000:Int) / ((tp:Int)+1)=sc:=⟨1000000000 / (tp+1),by simp⟩
 have hsc2:1000000000 / (tp+1)=sc:=by
  have:((1000000000 / (tp+1):Nat):Int)=sc:=by rw[<-hsc];simp
  omega
 have a0L:1<=sc:=by rw[<-hsc2];exact(Nat.le_div_iff_mul_le (by omega)).2 (by omega)
 have c0U:sc<=500000000:=by rw[<-hsc2];exact iq (Nat.div_le_div_left (c:=2) (by omega) (by omega)) (by omega)
 have HSC:=bn hsc2
 have HCB:=bn hcb
 clear hsc2 hcb
 have HA:=bn ha
 have HB:=bn hb
 have HLE:=bn hle
 clear ha hb hle
 have hw1:IntKind.u32.wrap (sc:Int)=sc:=by simp[IntKind.wrap,IntKind.bits,IntKind.signed];omega
 have hidx:((b.length:Int)-1).toNat=b.length-1:=by omega
 go_enter Tryz.func277,Tryz.ntmps277
 go_wp2_with fail
 have hs1:=hs.alloc (.cells #[.int .u32 (sc:Nat)] 148)
 have lsc:Low [sc]:=Low.cons.2 ⟨by rw[bI];omega,Low.nil⟩
 have vsc:val [sc]=sc:=by simp[bP]
 refine(times_any _ _ a [sc] _ hs1 (YR w sc) HA.out.1 lsc la (by simp)).mono ?_
 rw[vsc]
 rintro e w1 ⟨uv,rfl,hu1,hb1⟩
 go_wp2_with fail
 have ht1:Rd (w1.alloc (.cells #[.int .u32 (sc:Nat)] 148)) (.slice (some ⟨gb,ob,none⟩) b.length d) b:=((ht.alloc _).below hb1).alloc _
 refine(times_any _ _ b [sc] _ ht1 (YR w1 sc) HB.out.1 lsc (by omega) (by simp)).mono ?_
 rw[vsc]
 rintro e w2 ⟨vv,rfl,hv2,hb2'⟩
 have U0:a.length<=(dig (val a*sc)).length:=by
  have:=aJ (show val a<=val a*sc from Nat.le_mul_of_pos_right _ a0L)
  rwa [dN HA.out] at this
 have U1:(dig (val a*sc)).length<=1000000001:=by
  have:=tY (val a) sc
  have h2:nsz sc<=1:=dV (by rw[bI];omega)
  unfold nsz at this h2
  rw[dN HA.out] at this
  omega
 have V0:b.length<=(dig (val b*sc)).length:=by
  have:=aJ (show val b<=val b*sc from Nat.le_mul_of_pos_right _ a0L)
  rwa [dN HB.out] at this
 have V1:(dig (val b*sc)).length<=(dig (val a*sc)).length:=aJ (ku _ HLE.out)
 have hz1':w.heap.size+1<=w1.heap.size:=by have:=hb1.size;simpa using this
 have hz2':w1.heap.size+1<=w2.heap.size:=by have:=hb2'.size;simpa using this
 obtain⟨gu,cu,hue,hgu1,hgu2,_⟩:=JH hu1 (by omega)
 obtain⟨gv,cv,hve,b9h,c0O,hcv⟩:=JH hv2 (by omega)
 rw[hue] at hu1
 rw[hve] at hv2
 rw[hue,hve]
 simp only[Ae] at hgu1 b9h
 have hu2:=jH (jH hu1 ((bg _ w1).alloc (ak _) (.cells #[.int .u32 (sc:Nat)] 148))) hb2'
 have hB2:Below w.heap.size w w2:=(((bg _ _).alloc (ak _) _).trans (hb1.mono (by simp))).trans (((bg _ _).alloc (by omega) _).trans (hb2'.mono (by simp;omega)))
 have HU:=bn (show val (dig (val a*sc))=val a*sc from aH _)
 have HV:=bn (show val (dig (val b*sc))=val b*sc from aH _)
 have HUc:=bn (aY (val a*sc))
 have HVc:=bn (aY (val b*sc))
 generalize dig (val a*sc)=U at *
 generalize dig (val b*sc)=V at *
 clear hue hve hu1 hb1 hb2' hs1 ht1 hct lsc vsc hidx hw1
 obtain⟨lu,hlu⟩:∃ lu,U.length=lu:=⟨_,rfl⟩
 obtain⟨n,hn⟩:∃ n,V.length=n:=⟨_,rfl⟩
 rw[hlu] at hu2 U0 U1 V1 ⊢
 rw[hn] at hv2 V0 V1 hcv ⊢
 have HLU:=bn hlu
 have HN:=bn hn
 clear hlu hn
 have hd1:decide ((lu:Int)+1<=a.length)=false:=by simp;omega
 go_wp2_with (at_builtin;refine wpList_append_lies rfl _ _ 43 rfl w.heap.size 148 i0 (.int .u32 0) 1 4 jw hi hz0 hz1 hz2 rfl (by decide) _ _ _ rfl ((qZ hu2 (by simp)).alloc _) ⟨w2.heap.size,0,none⟩ 1 1 [.int .u32 (((0:Nat)):Int)] rfl rfl (cell_one_new _ _ _) (by simp[Value.oneCell']) (by omega) (by unfold maxLen;omega) (by omega) (by simp;omega) ?_)
 intro gu' cu' w3 hu3 a0I hgx hgl
 have hgu:gu'=gu\/gu'=w2.heap.size+1:=by
  rcases hgx with h|h
  ·left;simpa [Value.ownBlock] using h.symm
  ·right;simpa using h
 have hne1:gu'≠gv:=by omega
 have c0N:w.heap.size<=gu':=by omega
 have hv3:w3.ownsRow w.heap.size 148 1 (.slice (some ⟨gv,0,none⟩) n cv) n (cells32 V) :=
  ((qZ hv2 (by simp;omega)).alloc _).kept a0I (.inr (by simp[Value.ownBlock];omega))
 have hB3:Below w.heap.size w w3:=(hB2.alloc (by omega) _).grown a0I (by simp;omega) (fun k e=>by simp[Value.ownBlock] at e;omega)
 have hz3:w2.heap.size+1<=w3.heap.size:=by have:=a0I.size;simpa using this
 have b9s:w3.ownsRow w.heap.size 148 1 (.slice (some ⟨gu',0,none⟩) (lu+1) cu') (lu+1) (cells32 (U++[0])):=by rw[EC];exact hu3
 have hvb:gv<w3.heap.size:=by omega
 clear hgx a0I hu2 hv2 hu3 hgu2 c0O hB2
 obtain⟨M,hM⟩:∃ M:Nat,(lu:Int)+1-n=M:=⟨lu+1-n,by omega⟩
 have hM2:M+n=lu+1:=by omega
 go_wp2_with (at_make;refine Cm _ rfl _ _ 43 rfl w.heap.size 148 i0 (.int .u32 0) 1 jw hi hz0 hz1 _ _ _ _ M rfl rfl (by omega) (by omega) (by rw[hz2];omega) (by unfold maxLen;omega) (by omega) ?_)
 intro w4 hq4 XW
 rw[iE] at hq4
 have hv4:=hv3.kept XW (.inr (by simp[Value.ownBlock]))
 have hu4:=b9s.kept XW (.inr (by simp[Value.ownBlock]))
 have hB4:Below w.heap.size w w4:=hB3.grown XW (by omega) (fun k e=>by cases e)
 obtain⟨gq,hgq⟩:∃ gq,w3.heap.size=gq:=⟨_,rfl⟩
 rw[hgq] at hq4 hgl hvb ⊢
 have c0M:w.heap.size<=gq:=by omega
 have hne2:gu'≠gq:=by omega
 have b1k:gv≠gq:=by omega
 clear hv3 b9s hB3 XW hgq hz3 hgu
 go_wp2
 have hI0:jG (val a*sc) (val V) n (lu+1) (U++[0]) (List.replicate M 0) M:=by
  have e1:=HLU.out
  have e2:=HN.out
  have e3:val (U++[0])=val a*sc:=by rw[val_append,HU.out];simp[bP]
  refine⟨by simp[e1],Low.append.2 ⟨HUc.out.1,Low.cons.2 ⟨gV,Low.nil⟩⟩,by simp;omega,fun g hg=>by rw[(Di.1 hg).2];exact gV,fun m _=>EO _ _,by rw[e3,JU];simp,?_⟩
  rw[e3,<-HU.out]
  have h1:=mG HUc.out.1
  rw[e1] at h1
  have h2:BB ^ (n-1)<=val V:=by
   have:=oP (n:=val V) (k:=n-1) (by rw[dN HVc.out];omega)
   exact this
  have h3:BB ^ (n-1)*BB ^ M<=val V*BB ^ M:=ku _ h2
  rw[<-Dj,show n-1+M=lu from by omega] at h3
  omega
 have HI0:=bn hI0
 have hn2:2<=n:=by omega
 have hcu:lu+1<=cu':=by
  obtain⟨_,_,e1,_,_,e2⟩:=JH hu4 (by omega)
  cases e1;exact e2
 have b3D:=bn a0L
 have HNE:=bn hne1
 clear hI0 hi hz0 hz1 hz2 hcv hne1 hM U0 V0 V1 hsc a0L hd1 hgu1 b9h
 go_loopw [10,11,12,13,14,15,16,17,18,19,20,21,22,64,65,66,67,68,69,70,71,72,73,74,75,76,77,78,79,80,81,82,83,84,85,86,87,88,89,90,91,92,93,94,95,96,97,98,99,100,101,102,103,104,105,106,107,108,109,110,111,112,113,114,115,116,117,118,119,120,121,122,123,124,125,126,127,128,129,130,131,132,133,134,135,136,137,138,139,140,141,142,143,144,145,146,147,148,149,150,151,152,153,154,155,156,157,158,159,160,161,162,163,164,165,166,167,168,169,170,171,172,173,174,175,176,177,178,179,180,181,182,183,184,185,186,187,188,189,190,191,192,193,194,195,196,197,198,199,200,201,202,203,204,205,206,207,208,209,210,211,212,213,214,215,216,217,218,219,220,221,222,223,224,225,226,227,228,229,230,231,232,233,234,235,236,237,238,239,240,241,242,243,244,245,246,247,248,249,250,251,252,253] (fun i _ _ _ _ _ _ _ _ _ _ _ _ _ _ _ _ _ _ _ _ _ _ _ _ _ _ _ _ _ _ _ _ _ _ _ _ _ _ _ _ _ _ _ _ _ _ _ _ _ _ _ _ _ _ _ _ _ _ _ _ _ _ _ _ _ _ _ _ _ _ _ _ _ _ _ _ _ _ _ _ _ _ _ _ _ _ _ _ _ _ _ _ _ _ _ _ _ _ _ _ _ _ _ _ _ _ _ _ _ _ _ _ _ _ _ _ _ _ _ _ _ _ _ _ _ _ _ _ _ _ _ _ _ _ _ _ _ _ _ _ _ _ _ _ _ _ _ _ _ _ _ _ _ _ _ _ _ _ _ _ _ _ _ _ _ _ _ _ _ _ _ _ _ _ _ _ _ _ _ _ _ _ _ _ _ _ _ _ _ _ _ _ _ _ _ _ _ _ _ _ _ _ wr=>∃ (k:Nat) (i':Int) (u qq:List Nat),i=.int .i64 i'/\Hid (i'=(k:Int)-1)/\k<=M/\Hid (jG (val a*sc) (val V) n (lu+1) u qq k)/\wr.ownsRow w.heap.size 148 1 (.slice (some ⟨gu',0,none⟩) (lu+1) cu') (lu+1) (cells32 u)/\wr.ownsRow w.heap.size 148 1 (.slice (some ⟨gv,0,none⟩) n cv) n (cells32 V)/\wr.ownsRow w.heap.size 148 1 (.slice (some ⟨gq,0,none⟩) M M) M (cells32 qq)/\Below w.heap.size w wr) (fun i _ _ _ _ _ _ _ _ _ _ _ _ _ _ _ _ _ _ _ _ _ _ _ _ _ _ _ _ _ _ _ _ _ _ _ _ _ _ _ _ _ _ _ _ _ _ _ _ _ _ _ _ _ _ _ _ _ _ _ _ _ _ _ _ _ _ _ _ _ _ _ _ _ _ _ _ _ _ _ _ _ _ _ _ _ _ _ _ _ _ _ _ _ _ _ _ _ _ _ _ _ _ _ _ _ _ _ _ _ _ _ _ _ _ _ _ _ _ _ _ _ _ _ _ _ _ _ _ _ _ _ _ _ _ _ _ _ _ _ _ _ _ _ _ _ _ _ _ _ _ _ _ _ _ _ _ _ _ _ _ _ _ _ _ _ _ _ _ _ _ _ _ _ _ _ _ _ _ _ _ _ _ _ _ _ _ _ _ _ _ _ _ _ _ _ _ _ _ _ _ _ _ wr=>(intOf i+1).toNat)
 case atStart=>exact⟨M,_,_,_,rfl,rfl,ak _,HI0,hu4,hv4,hq4,hB4⟩
 case round =>
  obtain⟨k,i',u,qq,rfl,hk',hkM,hI,hu,hv,hq,hB⟩:=hrel
  clear hu4 hv4 hq4 hB4 HI0
  cases k with
  | zero =>
   obtain rfl:i'=-1:=by have:=hk'.out;simpa using this
   go_wp2_with fail
   have hd:=hI.out.done
   have hlt:=hI.out.lt
   rw[HV.out] at hd hlt
   rw[Nat.mul_mod_mul_right,Nat.mul_div_mul_right _ _ (by have:=b3D.out;omega)] at hd
   have b9j:=hI.out.lu
   have hlow:=hI.out.low
   have b9a:=xE HVc.out.1 HN.out
   rw[HV.out] at b9a
   have htk:val (u.take n)=val a%val b*sc:=by
    rw[<-MX (fun m hm=>rX (k:=n) (by simp at hlt;omega) hm)];exact hd.2
   have hown:=FI hu (m:=n) (by omega)
   have hck:(cells32 u).take n=cells32 (u.take n):=by simp[cells32,List.map_take]
   rw[hck] at hown
   have hlt2:(u.take n).length=n:=by rw[jy,b9j];omega
   have b1h:Low (u.take n):=fun g hg=>hlow g (Aw hg)
   have hR:=Rd.bU (l:=u.take n) (by rw[hlt2];exact hown)
   refine(JR _ _ n _ _ hR b1h hlt2).mono ?_
   rintro e w' ⟨rfl,rfl⟩
   have hto:=rC hown b1h hlt2
   have hqd:=hd.1
   have b3f:=hI.out.b4y
   have hql:qq.length=M:=by have:=hI.out.lq;omega
   have htz:eH (u.take n)=dig (val a%val b*sc):=by unfold eH;rw[htk]
   rw[htz] at hto ⊢
   have hlen3:(dig (val a%val b*sc)).length<=2000000000:=by
    have h1:=wZ b1h
    rw[htz,hlt2] at h1
    omega
   have HD:=bn hd
   have HTK:=bn htk
   have HX:=bn (And.intro hqd (And.intro b3f (And.intro hql (And.intro hown hlow))))
   have hRt:=Rd.bU hto
   clear hd htk hqd b3f hql hown hlow hlt b9j b9a hck hlt2 b1h hR hto htz
   go_wp2_with fail
   refine(short_any _ _ sc _ hRt (bH _) b3D.out (by omega) hlen3).mono ?_
   rintro e w' ⟨v2,rfl,hv2,hbel⟩
   rw[aH,Nat.mul_div_cancel _ (show 0<sc from b3D.out)] at hv2
   have hq5:=jH hq hbel
   have hB5:=hB.trans (hbel.mono hB.size)
   have hR2:=Rd.bU (l:=qq) (by rw[HX.out.2.2.1];exact hq5)
   have htq:=JR _ _ M _ _ hR2 HX.out.2.1 HX.out.2.2.1
   have hoq:=rC hq5 HX.out.2.1 HX.out.2.2.1
   have hR3:=Rd.bU hv2
   have hR4:=Rd.bU hoq
   have htz:eH qq=dig (val a / val b):=by unfold eH;rw[HX.out.1]
   rw[htz] at hR4
   have HR4:=bn hR4
   have HTZ:=bn htz
   clear hoq hR4 htz
   go_wp2_with fail
   refine htq.mono ?_
   rintro e w' ⟨rfl,rfl⟩
   rw[HTZ.out]
   go_wp2_with fail
   go_ret2
   exact⟨_,_,rfl,HR4.out,hR3,hB5⟩
  | succ j =>
   obtain rfl:i'=(j:Int):=by have:=hk'.out;simp at this;omega
   refine a2o (val a*sc) V u qq gu' gv gq (lu+1) n M cu' cv j w.heap.size wr w HVc.out HN.out hn2 (by omega) hM2 hcu hI.out hkM HNE.out hne2 b1k c0N c0M hu hv hq hB _ _ _ _ _ _ _ _ _ _ _ _ _ _ _ _ _ _ _ _ _ _ _ _ _ _ _ _ _ _ _ _ _ _ _ _ _ _ _ _ _ _ _ _ _  _ ?_ _ _ _ _ _ _ _ _ _ _ _ _ _ _ _ _ _ _ _ _ _ _ _ _ _ _ _ _ _ _ _ _ _ _ _ _ _ _ _ _ _ _ _ _ _ _ _ _ _ _ _ _ _ _ _ _ _ _ _ _ _ _ _ _ _ _ _ _ _ _ _ _ _ _ _ _ _ _ _ _ _ _ _ _ _ _ _ _ _ _ _ _ _ _ _ _ _ _ _ _ _ _ _ _ _ _ _ _ _ _ _ _ _ _ _ _ _ _ _ _ _ _ _ _ _ _ _ _ _ _ _ _ _ _ _ _ _ _ _ _ _ _ _ _ _ _ _ _ _ _ _ _ _ _ _ _ _ _ _ _ _ _ _ _ _ _ _ _ _ _ _ _ _ _ _ _ _ _ _ _ _ _ _ _ _ _ _ _ _ _ _ _ _ _ _ _ _ _ _ _ _ _
   intro _ _ _ _ _ _ _ _ _ _ _ _ _ _ _ _ _ _ _ _ _ _ _ _ _ _ _ _ _ _ _ _ _ _ _ _ _ _ _ _ _ _ _ _ _ _ _ _ _ _ _ _ _ _ _ _ _ _ _ _ _ _ _ _ _ _ _ _ _ _ _ _ _ _ _ _ _ _ _ _ _ _ _ _ _ _ _ _ _ _ _ _ _ _ _ _ _ _ _ _ _ _ _ _ _ _ _ _ _ _ _ _ _ _ _ _ _ _ _ _ _ _ _ _ _ _ _ _ _ _ _ _ _ _ _ _ _ _ _ _ _ _ _ _ _ _ _ _ _ _ _ _ _ _ _ _ _ _ _ _ _ _ _ _ _ _ _ _ _ _ _ _ _ _ _ _ _ _ _ _ _ _ _ _ _ _ _ _ _ _ _ _ _ _ _ _ _ _ _ _ _ _  u' qq' w' hI' hu' hv' hq' hB'
   go_wp2_with fail
   go_roundw
   case rel =>
    (repeat apply Exists.intro)
    exact⟨⟨j,_,u',qq',rfl,rfl,by omega,bn hI',hu',hv',hq',hB'⟩,rfl⟩
   case measure=>simp[intOf]
set_option maxRecDepth 100000
set_option maxHeartbeats 2000000
theorem a5p {x y:Int} (h:x.sign≠y.sign):dF x.sign y.sign=dF x y:=by
 rcases zi x 0 with hx|rfl|hx<;>rcases zi y 0 with hy|rfl|hy
 ·exact absurd (by rw[uo hx,uo hy]) h
 ·rw[uo hx];simp[dF,hx]
 ·rw[uo hx,vg hy];unfold dF;rw[jq (by omega),jq (by omega)]
 ·rw[uo hy];unfold dF;simp;omega
 ·simp at h
 ·rw[vg hy];unfold dF;simp;omega
 ·rw[vg hx,uo hy];unfold dF;rw[jk (by omega),jq (by omega),jk (by omega),jq (by omega)]
 ·rw[vg hx];unfold dF;simp;omega
 ·exact absurd (by rw[vg hx,vg hy]) h
theorem a7c {x y:Int} (h:x.sign=y.sign) (b:Bool) (hb:x≠0->b=decide (x<0)):(if b then -dF (x.natAbs:Nat) (y.natAbs:Nat) else dF (x.natAbs:Nat) (y.natAbs:Nat))=dF x y:=by
 rcases zi x 0 with hx|rfl|hx
 ·have hy:y<0:=by
   rw[uo hx] at h
   exact Int.sign_eq_neg_one_iff_neg.1 h.symm
  rw[hb (by omega)]
  simp only[hx,decide_true,Ce]
  unfold dF
  split<;>split<;>(try split)<;>(try split)<;>omega
 ·simp at h
  have:y=0:=Du.1 h.symm
  subst this
  cases b<;>simp[dF]
 ·have hy:0<y:=by
   rw[vg hx] at h
   exact Int.sign_eq_one_iff_pos.1 h.symm
  rw[hb (by omega)]
  have:¬ x<0:=by omega
  simp only[this,decide_false,yu,if_false]
  unfold dF
  split<;>split<;>(try split)<;>(try split)<;>omega
theorem a3y (x y:Int):-1<=dF x y/\dF x y<=1:=by unfold dF;split<;>(try split)<;>omega
theorem wF (v u:Value) (x y:Int) (w:World) (hv:Raw w v x) (hu:Raw w u y) :
  Calls Tryz.prog 182 #[v,u] w fun e w'=>e=.returned (.int .i64 (dF x y))/\Below w.heap.size w w':=by
 obtain⟨b,p,n,c,rfl⟩:=hv.form
 obtain⟨d,o,m,e,rfl⟩:=hu.form
 have HS:=bn (fun h:x≠0=>hv.sign h)
 obtain⟨sx,hsx⟩:∃ sx,x.sign=sx:=⟨_,rfl⟩
 obtain⟨sy,hsy⟩:∃ sy,y.sign=sy:=⟨_,rfl⟩
 have HSX:=bn hsx
 have HSY:=bn hsy
 clear hsx hsy
 obtain⟨cv,hcv⟩:∃ cv,dF (val (dig x.natAbs)) (val (dig y.natAbs))=cv:=⟨_,rfl⟩
 have hc1:-1<=cv:=by rw[<-hcv];exact(a3y _ _).1
 have hc2:cv<=1:=by rw[<-hcv];exact(a3y _ _).2
 have HCV:=bn hcv
 clear hcv
 have aZ:Below w.heap.size w w:=bg _ _
 have oN:=hv.alloc (.cells #[.bool b,.slice p n c] 45)
 have iF:=hu.alloc (.cells #[.bool b,.slice p n c] 45)
 have oM:=Below.alloc aZ aZ.size (.cells #[.bool b,.slice p n c] 45)
 clear aZ
 have q_1:Bx (w.alloc (.cells #[.bool b,.slice p n c] 45)) (w.heap.size) [.bool b,.slice p n c]:=by
  have:=Bx.new w [.bool b,.slice p n c] 45
  simpa using this
 have CY:=oN.alloc (.cells #[.bool d,.slice o m e] 45)
 have SK:=iF.alloc (.cells #[.bool d,.slice o m e] 45)
 have vJ:=Below.alloc oM oM.size (.cells #[.bool d,.slice o m e] 45)
 have q_2:=q_1.alloc (.cells #[.bool d,.slice o m e] 45)
 clear oN iF oM q_1
 have t_2:Bx ((w.alloc (.cells #[.bool b,.slice p n c] 45)).alloc (.cells #[.bool d,.slice o m e] 45)) (w.heap.size+1) [.bool d,.slice o m e]:=by
  have:=Bx.new (w.alloc (.cells #[.bool b,.slice p n c] 45)) [.bool d,.slice o m e] 45
  simpa using this
 have EU:=CY.drew
 have ET:=SK.drew
 have xW:=vJ.drew
 have q_3:=q_2.drew
 have t_3:=t_2.drew
 clear CY SK vJ q_2 t_2
 have S0:(fun w':World=>w'.cell? ⟨w.heap.size,0,none⟩=some (.bool b)/\w'.cell? ⟨w.heap.size,1,none⟩=some (.slice p n c)/\w'.cell? ⟨w.heap.size+1,0,none⟩=some (.bool d)/\w'.cell? ⟨w.heap.size+1,1,none⟩=some (.slice o m e)/\w.heap.size+1<w'.heap.size) ((w.alloc (.cells #[.bool b,.slice p n c] 45)).alloc (.cells #[.bool d,.slice o m e] 45)).drew:=⟨q_3.c0,q_3.c1,t_3.c0,t_3.c1,t_3.1⟩
 have K:∀ A B:World,(fun w':World=>w'.cell? ⟨w.heap.size,0,none⟩=some (.bool b)/\w'.cell? ⟨w.heap.size,1,none⟩=some (.slice p n c)/\w'.cell? ⟨w.heap.size+1,0,none⟩=some (.bool d)/\w'.cell? ⟨w.heap.size+1,1,none⟩=some (.slice o m e)/\w.heap.size+1<w'.heap.size) A->Below A.heap.size A B->(fun w':World=>w'.cell? ⟨w.heap.size,0,none⟩=some (.bool b)/\w'.cell? ⟨w.heap.size,1,none⟩=some (.slice p n c)/\w'.cell? ⟨w.heap.size+1,0,none⟩=some (.bool d)/\w'.cell? ⟨w.heap.size+1,1,none⟩=some (.slice o m e)/\w.heap.size+1<w'.heap.size) B:=by
  rintro A B ⟨h0,h1,h2,h3,h4⟩ hb
  have hs:=hb.size
  exact⟨by rw[(eY hb).1 _ _ (by omega)];exact h0,by rw[(eY hb).1 _ _ (by omega)];exact h1,by rw[(eY hb).1 _ _ (by omega)];exact h2,by rw[(eY hb).1 _ _ (by omega)];exact h3,by omega⟩
 have tk1:True:=trivial
 have tk2:True:=trivial
 by_cases hs:sx=sy
 ·have hne:(sx != sy)=false:=by simpa using hs
  have HE:=bn hs
  clear hs
  go_enter Tryz.func182,Tryz.ntmps182
  go_wp2_with fail
  go_region_held3 (fun w':World=>w'.cell? ⟨w.heap.size,0,none⟩=some (.bool b)/\w'.cell? ⟨w.heap.size,1,none⟩=some (.slice p n c)/\w'.cell? ⟨w.heap.size+1,0,none⟩=some (.bool d)/\w'.cell? ⟨w.heap.size+1,1,none⟩=some (.slice o m e)/\w.heap.size+1<w'.heap.size) (first|exact S0|(simp;done)|exact K _ _ (by assumption) (by assumption))
   (first
    | ((have:=tk1;skip);clear tk1;go_at_call 179;refine(vT _ x _ EU).mono ?_;rintro e w1 ⟨rfl,hb1⟩;have IW:=EU.below hb1;have CX:=ET.below hb1;have CW:=xW.trans (hb1.mono xW.size);have q_4:=q_3.to hb1;have t_4:=t_3.to hb1;clear EU ET xW q_3 t_3;rw[HSX.out])
    | ((have:=tk2;skip);clear tk2;go_at_call 179;refine(vT _ y _ CX).mono ?_;rintro e w2 ⟨rfl,hb2⟩;have YB:=IW.below hb2;have OQ:=CX.below hb2;have LG:=CW.trans (hb2.mono CW.size);have q_5:=q_4.to hb2;have t_5:=t_4.to hb2;clear IW CX CW q_4 t_4;rw[HSY.out]))
  have YC:=YB.drew
  have a0M:=OQ.drew
  have OJ:=LG.drew
  have q_6:=q_5.drew
  have t_6:=t_5.drew
  clear YB OQ LG q_5 t_5
  have S0b:(fun w':World=>w'.cell? ⟨w.heap.size,0,none⟩=some (.bool b)/\w'.cell? ⟨w.heap.size,1,none⟩=some (.slice p n c)/\w'.cell? ⟨w.heap.size+1,0,none⟩=some (.bool d)/\w'.cell? ⟨w.heap.size+1,1,none⟩=some (.slice o m e)/\w.heap.size+1<w'.heap.size) w2.drew:=⟨q_6.c0,q_6.c1,t_6.c0,t_6.c1,t_6.1⟩
  have tk3:True:=trivial
  have tk4:True:=trivial
  go_wp2_with fail
  go_region_held3 (fun w':World=>w'.cell? ⟨w.heap.size,0,none⟩=some (.bool b)/\w'.cell? ⟨w.heap.size,1,none⟩=some (.slice p n c)/\w'.cell? ⟨w.heap.size+1,0,none⟩=some (.bool d)/\w'.cell? ⟨w.heap.size+1,1,none⟩=some (.slice o m e)/\w.heap.size+1<w'.heap.size) (first|exact S0b|(simp;done)|exact K _ _ (by assumption) (by assumption))
   (first
    | ((have:=tk3;skip);clear tk3;go_at_call 192;refine(dJ _ x _ YC).mono ?_;rintro e w3 ⟨s1,rfl,hs1,hb3⟩;have a5H:=YC.below hb3;have a2f:=a0M.below hb3;have XR:=OJ.trans (hb3.mono OJ.size);have q_7:=q_6.to hb3;have t_7:=t_6.to hb3;clear YC a0M OJ q_6 t_6)
    | ((have:=tk4;skip);clear tk4;go_at_call 192;refine(dJ _ y _ a2f).mono ?_;rintro e w4 ⟨s2,rfl,hs2,hb4⟩;have b4l:=a5H.below hb4;have b4k:=a2f.below hb4;have a7H:=XR.trans (hb4.mono XR.size);have q_8:=q_7.to hb4;have t_8:=t_7.to hb4;have b1l:=hs1.below hb4;clear a5H a2f XR q_7 t_7 hs1)
    | (go_at_call 254;refine(iW _ _ _ _ _ b1l hs2 (aY _) (aY _)).mono ?_;rintro e w5 ⟨rfl,hb5⟩;have c1z:=b4l.below hb5;have c1y:=b4k.below hb5;have b8X:=a7H.trans (hb5.mono a7H.size);have q_9:=q_8.to hb5;have t_9:=t_8.to hb5;have c1x:=b1l.below hb5;have a0:=hs2.below hb5;clear b4l b4k a7H q_8 t_8 b1l;rw[HCV.out];have b0:=q_9.c0;have d0:=q_9.c1))
  have hfin:=a7c (HSX.out.trans (HE.out.trans HSY.out.symm)) b HS.out
  rw[<-aH x.natAbs,<-aH y.natAbs,HCV.out] at hfin
  have HF:=bn hfin
  clear hfin
  cases b with
  | true =>
   go_wp2_with fail
   go_ret
   exact⟨by rw[<-HF.out];rfl,b8X⟩
  | false =>
   go_wp2_with fail
   go_ret
   exact⟨by rw[<-HF.out];rfl,b8X⟩
 ·have hne:(sx != sy)=true:=by simpa using hs
  have HE:=bn hs
  clear hs
  go_enter Tryz.func182,Tryz.ntmps182
  go_wp2_with fail
  go_region_held3 (fun w':World=>w'.cell? ⟨w.heap.size,0,none⟩=some (.bool b)/\w'.cell? ⟨w.heap.size,1,none⟩=some (.slice p n c)/\w'.cell? ⟨w.heap.size+1,0,none⟩=some (.bool d)/\w'.cell? ⟨w.heap.size+1,1,none⟩=some (.slice o m e)/\w.heap.size+1<w'.heap.size) (first|exact S0|(simp;done)|exact K _ _ (by assumption) (by assumption))
   (first
    | ((have:=tk1;skip);clear tk1;go_at_call 179;refine(vT _ x _ EU).mono ?_;rintro e w1 ⟨rfl,hb1⟩;have IW:=EU.below hb1;have CX:=ET.below hb1;have CW:=xW.trans (hb1.mono xW.size);have q_4:=q_3.to hb1;have t_4:=t_3.to hb1;clear EU ET xW q_3 t_3;rw[HSX.out])
    | ((have:=tk2;skip);clear tk2;go_at_call 179;refine(vT _ y _ CX).mono ?_;rintro e w2 ⟨rfl,hb2⟩;have YB:=IW.below hb2;have OQ:=CX.below hb2;have LG:=CW.trans (hb2.mono CW.size);have q_5:=q_4.to hb2;have t_5:=t_4.to hb2;clear IW CX CW q_4 t_4;rw[HSY.out]))
  go_wp2_with fail
  refine(NP _ _ _).mono ?_
  rintro e w' ⟨rfl,rfl⟩
  go_wp2_with fail
  go_ret
  exact⟨by rw[<-HSX.out,<-HSY.out,a5p (fun h=>HE.out (HSX.out.symm.trans (h.trans HSY.out)))];rfl,LG⟩
theorem yK {x y q r:Int} (hy:y≠0) (h:x=y*q+r) (h1:0<y->0<=r/\r<y) (h2:y<0->y<r/\r<=0):x.fdiv y=q/\x.fmod y=r:=by
 have e:=Int.fmod_add_mul_fdiv x y
 rcases zi y 0 with h0|h0|h0
 ·have a1:=Int.fmod_nonneg_of_pos (-x) (show 0 < -y by omega)
  have a2:=Int.fmod_lt_of_pos (-x) (show 0 < -y by omega)
  rw[Int.neg_fmod_neg] at a1 a2
  have ⟨b1,b2⟩:=h2 h0
  have:x.fdiv y=q:=by
   generalize x.fdiv y=Q at *
   generalize x.fmod y=R at *
   have h3:y*(Q-q)=r-R:=by rw[Int.mul_sub];omega
   rcases zi Q q with h|h|h
   ·have:y*(Q-q) ≥ -y:=by
     have:=Int.mul_le_mul_of_nonneg_left (show Q-q<=-1 by omega) (show 0<=-y by omega)
     rw[Int.neg_mul,Int.neg_mul_neg] at this;omega
    omega
   ·exact h
   ·have:y*(Q-q)<=y:=by
     have:=Int.mul_le_mul_of_nonneg_left (show 1<=Q-q by omega) (show 0<=-y by omega)
     rw[Int.neg_mul,Int.neg_mul] at this;omega
    omega
  refine⟨this,?_⟩
  rw[this] at e;omega
 ·exact absurd h0 hy
 ·have a1:=Int.fmod_nonneg_of_pos x h0
  have a2:=Int.fmod_lt_of_pos x h0
  have ⟨b1,b2⟩:=h1 h0
  have:x.fdiv y=q:=by
   generalize x.fdiv y=Q at *
   generalize x.fmod y=R at *
   have h3:y*(Q-q)=r-R:=by rw[Int.mul_sub];omega
   rcases zi Q q with h|h|h
   ·have:y*(Q-q)<=y*(-1):=Int.mul_le_mul_of_nonneg_left (show Q-q<=-1 by omega) (show 0<=y by omega)
    omega
   ·exact h
   ·have:y*1<=y*(Q-q):=Int.mul_le_mul_of_nonneg_left (show 1<=Q-q by omega) (show 0<=y by omega)
    omega
  refine⟨this,?_⟩
  rw[this] at e;omega
theorem II (b:Bool) (m n:Nat) (hn:0<n):(sg b m).fdiv (sg b n)=(m / n:Nat)/\(sg b m).fmod (sg b n)=sg b (m%n):=by
 have e:(m:Int)=n*(m / n:Nat)+(m%n:Nat):=by exact_mod_cast (Nat.div_add_mod m n).symm
 have hl:m%n<n:=wu _ hn
 refine yK ?_ ?_ ?_ ?_<;>cases b<;>simp only[sg,Ce,if_false,yu]<;>first|omega|(rw[Int.neg_mul];omega)
theorem NZ (b d:Bool) (m n:Nat) (hn:0<n) (hbd:(b != d)=true) (h:m%n=0):(sg b m).fdiv (sg d n)=sg true (m / n:Nat)/\(sg b m).fmod (sg d n)=0:=by
 have e:(m:Int)=n*(m / n:Nat)+(m%n:Nat):=by exact_mod_cast (Nat.div_add_mod m n).symm
 rw[h] at e
 generalize m / n=q at *
 refine yK ?_ ?_ ?_ ?_<;>cases b<;>cases d<;>simp only[sg,Ce,if_false,yu,Int.neg_mul,Int.mul_neg]<;>first|(simp at hbd;done)|omega
theorem TQ (b d:Bool) (m n:Nat) (hn:0<n) (hbd:(b != d)=true) (h:m%n≠0):(sg b m).fdiv (sg d n)=sg true (m / n+1:Nat)/\(sg b m).fmod (sg d n)=sg d (n-m%n):=by
 have e:(m:Int)=n*(m / n:Nat)+(m%n:Nat):=by exact_mod_cast (Nat.div_add_mod m n).symm
 have hl:m%n<n:=wu _ hn
 generalize m / n=q at *
 generalize m%n=r at *
 have e2:(n:Int)*((q+1:Nat):Int)=n*q+n:=by rw[Int.natCast_add,Int.mul_add];simp
 refine yK ?_ ?_ ?_ ?_<;>cases b<;>cases d<;>simp only[sg,Ce,if_false,yu,Int.neg_mul,Int.mul_neg]<;>first|(simp at hbd;done)|omega
theorem nJ {n d:Int} (hd:0<d):(Rat.divInt n d).num=n / (Int.gcd n d:Nat):=by
 rw[Rat.num_divInt,vg hd,Int.one_mul,Int.gcd_comm]
theorem nI {n d:Int} (hd:0<d):(((Rat.divInt n d).den:Nat):Int)=d / (Int.gcd n d:Nat):=by
 rw[Rat.den_divInt,jk (by omega),Int.gcd_comm]
 obtain⟨k,rfl⟩:=uf (Int.le_of_lt hd)
 simp
theorem rO (n d:Int):Rat.divInt (-n) (-d)=Rat.divInt n d:=by
 rw[Rat.divInt_eq_div,Rat.divInt_eq_div]
 grind
theorem NV {n d:Int} (hd:d<0):(Rat.divInt n d).num=n / (-(Int.gcd n d:Nat)):=by
 rw[<-rO,nJ (by omega),Int.ediv_neg,Int.gcd_neg,Int.neg_gcd]
 exact Int.neg_ediv_of_dvd (Int.gcd_dvd_left _ _)
theorem NT {n d:Int} (hd:d<0):(((Rat.divInt n d).den:Nat):Int)=d / (-(Int.gcd n d:Nat)):=by
 rw[<-rO,nI (by omega),Int.ediv_neg,Int.gcd_neg,Int.neg_gcd]
 exact Int.neg_ediv_of_dvd (Int.gcd_dvd_right _ _)
theorem NW {n d:Int} (hd:0<d) (hg:Int.gcd n d=1):(Rat.divInt n d).num=n:=by rw[nJ hd,hg];simp
theorem NU {n d:Int} (hd:0<d) (hg:Int.gcd n d=1):((Rat.divInt n d).den:Int)=d:=by rw[nI hd,hg];simp
theorem b2a (q:Rat):Int.gcd q.num q.den=1:=q.reduced
theorem kK (q:Rat):0<(q.den:Int):=by have:=q.den_nz;omega
theorem YT (x y:Rat):Rat.divInt (x.num*y.den+y.num*x.den) (x.den*y.den)=x+y:=by
 rw[Rat.add_def,Rat.normalize_eq_mkRat,<-Rat.divInt_ofNat];simp
theorem YU (x y:Rat):Rat.divInt (x.num*y.num) (x.den*y.den)=x*y:=by
 rw[Rat.mul_def,Rat.normalize_eq_mkRat,<-Rat.divInt_ofNat];simp
theorem MN (x y:Rat):Rat.divInt (x.num*y.den) (x.den*y.num)=x / y:=by
 have hx:=Rat.num_divInt_den x
 have hy:=Rat.num_divInt_den y
 conv=>rhs;rw[<-hx,<-hy]
 simp only[Rat.divInt_eq_div,xw]
 have h1:((x.den:Int):Rat)≠0:=by have:=x.den_nz;simp;exact this
 have h2:((y.den:Int):Rat)≠0:=by have:=y.den_nz;simp;exact this
 by_cases h3:(y.num:Rat)=0
 ·rw[h3];grind
 ·grind
theorem a2E (x y:Rat):x.num*y.den<y.num*x.den↔x<y:=(Rat.lt_iff x y).symm
theorem qR (x:Rat):x.num=0↔x=0:=Rat.num_eq_zero
theorem YE (n:Int):((n:Rat)).num=n:=by simp
theorem YD (n:Int):((n:Rat)).den=1:=by simp
theorem KP (x:Rat):(-x).num=-x.num:=Rat.neg_num x
theorem KO (x:Rat):(-x).den=x.den:=Rat.neg_den x
theorem SC (n d:Int):(Rat.divInt n d).num.natAbs<=n.natAbs/\((Rat.divInt n d).den<=d.natAbs\/d=0):=by
 constructor
 ·rw[Rat.num_divInt,Int.natAbs_ediv_of_dvd]
  ·rw[Int.natAbs_mul]
   refine iq (Ad _ _) ?_
   rcases zi d 0 with h|h|h
   ·simp[uo h]
   ·subst h;simp
   ·simp[vg h]
  ·exact Int.dvd_mul_of_dvd_right (Int.gcd_dvd_right _ _)
 ·by_cases h:d=0
  ·exact .inr h
  ·left;rw[Rat.den_divInt,jk h];exact Ad _ _
def rsz (q:Rat):Nat:=max (isz q.num) (nsz q.den)
theorem wV (n d:Int) (hd:d≠0) {k:Nat} (h1:isz n<=k) (h2:isz d<=k):rsz (Rat.divInt n d)<=k:=by
 have ⟨a,b⟩:=SC n d
 rcases b with b|b
 ·exact Nat.max_le.2 ⟨iq (OW a) h1,iq (FD b) h2⟩
 ·exact absurd b hd
theorem dO (q:Rat):isz q.num<=rsz q:=Nat.le_max_left _ _
theorem dI (q:Rat):isz q.den<=rsz q:=by
 have:isz (q.den:Int)=nsz q.den:=by simp[isz]
 rw[this];exact Nat.le_max_right _ _
theorem nT (x y:Rat):rsz (x*y)<=rsz x+rsz y:=by
 rw[<-YU]
 refine wV _ _ ?_ ?_ ?_
 ·have:=kK x;have:=kK y
  exact Int.ne_of_gt (Int.mul_pos (by assumption) (by assumption))
 ·have:=dK x.num y.num;have:=dO x;have:=dO y;omega
 ·have:=dK x.den y.den;have:=dI x;have:=dI y;omega
theorem a4A (x y:Rat):rsz (x+y)<=rsz x+rsz y+1:=by
 rw[<-YT]
 refine wV _ _ ?_ ?_ ?_
 ·have:=kK x;have:=kK y
  exact Int.ne_of_gt (Int.mul_pos (by assumption) (by assumption))
 ·have h1:=wM (x.num*y.den) (y.num*x.den)
  have h2:=dK x.num y.den
  have h3:=dK y.num x.den
  have:=dO x;have:=dO y
  have:=dI x;have:=dI y
  omega
 ·have:=dK x.den y.den;have:=dI x;have:=dI y;omega
theorem ZB (x:Rat):rsz (-x)=rsz x:=by simp[rsz,lS]
theorem b2q (x y:Rat):rsz (x-y)<=rsz x+rsz y+1:=by
 rw[Rat.sub_eq_add_neg];have:=a4A x (-y);rwa [ZB] at this
theorem b2p (x y:Rat) (hy:y≠0):rsz (x / y)<=rsz x+rsz y:=by
 rw[<-MN]
 refine wV _ _ ?_ ?_ ?_
 ·have h1:=kK x
  have h2:y.num≠0:=fun h=>hy ((qR y).1 h)
  exact fun h=>by rcases Int.mul_eq_zero.1 h with h|h<;>omega
 ·have:=dK x.num y.den;have:=dO x;have:=dI y;omega
 ·have:=dK x.den y.num;have:=dI x;have:=dO y;omega
theorem a4B (n:Int):rsz (n:Rat)<=isz n+1:=by
 unfold rsz
 rw[YE,YD]
 have:nsz 1<=1:=dV (by rw[bI];omega)
 omega
theorem Below.al {w w':World} (h:Below w.heap.size w w') (o:Obj):Below w.heap.size w (w'.alloc o):=h.alloc h.size o
theorem Below.tr {w w' w'':World} (h:Below w.heap.size w w') (k:Below w'.heap.size w' w''):Below w.heap.size w w'':=h.trans (k.mono h.size)
theorem Below.oD {m:Nat} {w w':World} (h:Below m w w') (k:Nat):Below m w (w'.drewN k):=by
 induction k with
 | zero=>exact h
 | succ k ih=>exact ih.drew
theorem Bx.drewN {w:World} {b:Nat} {cs:List Value} (h:Bx w b cs) (k:Nat):Bx (w.drewN k) b cs:=h.to (Below.oD (bg _ _) k)
theorem Rd.aG {w:World} {s:Value} {l:List Nat} (h:Rd w s l) {b:Nat} {u0 u1:Value} (q:Bx w b [u0,u1]) (h0:aX u0=true) (h1:aX u1=true) (x0 x1:Value):Rd ((w.setCell ⟨b,0,none⟩ x0).setCell ⟨b,1,none⟩ x1) s l :=
 ((h.gU (a:=⟨b,0,none⟩) (u:=u0) (by exact q.c0) h0 x0).gU (a:=⟨b,1,none⟩) (u:=u1) (by rw[ql _ _ _ _ (by simp)];exact q.c1) h1 x1)
theorem Bx.store2 {w:World} {b:Nat} {u0 u1:Value} (h:Bx w b [u0,u1]) (x0 x1:Value):Bx ((w.setCell ⟨b,0,none⟩ x0).setCell ⟨b,1,none⟩ x1) b [x0,x1]:=by
 refine⟨by simpa [World.setCell] using h.1,fun i u hu=>?_⟩
 match i,hu with
 | 0,hu=>simp at hu;subst hu;simp[go_sem,h.c0,h.f0,h.c1,h.f1]
 | 1,hu=>simp at hu;subst hu;simp[go_sem,h.c0,h.f0,h.c1,h.f1]
 | _+2,hu=>simp at hu
theorem Bx.aI {w:World} {b':Nat} {cs:List Value} (h:Bx w b' cs) {b:Nat} (hne:b'≠b) (x0 x1:Value):Bx ((w.setCell ⟨b,0,none⟩ x0).setCell ⟨b,1,none⟩ x1) b' cs:=by
 refine⟨by simpa [World.setCell] using h.1,fun i u hu=>?_⟩
 have:=h.2 i u hu
 constructor
 ·rw[jd _ _ _ _ (fun e=>hne e.symm)];rw[jd _ _ _ _ (fun e=>hne e.symm)];exact this.1
 ·rw[ru];rw[ru];exact this.2
theorem Below.aG {m:Nat} {w' w:World} (h:Below m w' w) {b:Nat} (hb:m<=b) (x0 x1:Value):Below m w' ((w.setCell ⟨b,0,none⟩ x0).setCell ⟨b,1,none⟩ x1) :=
 ((h.setCell (p:=⟨b,0,none⟩) hb x0).setCell (p:=⟨b,1,none⟩) hb x1)
theorem Raw.aG {w:World} {v:Value} {x:Int} (h:Raw w v x) {b:Nat} {u0 u1:Value} (q:Bx w b [u0,u1]) (h0:aX u0=true) (h1:aX u1=true) (x0 x1:Value):Raw ((w.setCell ⟨b,0,none⟩ x0).setCell ⟨b,1,none⟩ x1) v x:=by
 obtain⟨neg,s,l,k1,k2,k3,k4⟩:=h;exact⟨neg,s,l,k1,k2.aG q h0 h1 x0 x1,k3,k4⟩
theorem bW.aG {w:World} {v:Value} {x:Int} (h:bW w v x) {b:Nat} {u0 u1:Value} (q:Bx w b [u0,u1]) (h0:aX u0=true) (h1:aX u1=true) (x0 x1:Value):bW ((w.setCell ⟨b,0,none⟩ x0).setCell ⟨b,1,none⟩ x1) v x:=by
 obtain⟨s,k1,k2⟩:=h;exact⟨s,k1,k2.aG q h0 h1 x0 x1⟩
theorem Rd.aU {w:World} {s:Value} {l:List Nat} (h:Rd w s l) {b:Nat} {u0 u1 u2 u3:Value} (q:Bx w b [u0,u1,u2,u3]) (h0:aX u0=true) (h1:aX u1=true) (h2:aX u2=true) (h3:aX u3=true) (x0 x1 x2 x3:Value):Rd ((((w.setCell ⟨b,0,none⟩ x0).setCell ⟨b,1,none⟩ x1).setCell ⟨b,2,none⟩ x2).setCell ⟨b,3,none⟩ x3) s l :=
 ((((h.gU (a:=⟨b,0,none⟩) (u:=u0) (by exact q.c0) h0 x0).gU (a:=⟨b,1,none⟩) (u:=u1) (by rw[ql _ _ _ _ (by simp)];exact q.c1) h1 x1).gU (a:=⟨b,2,none⟩) (u:=u2) (by rw[ql _ _ _ _ (by simp)];rw[ql _ _ _ _ (by simp)];exact q.c2) h2 x2).gU (a:=⟨b,3,none⟩) (u:=u3) (by rw[ql _ _ _ _ (by simp)];rw[ql _ _ _ _ (by simp)];rw[ql _ _ _ _ (by simp)];exact q.c3) h3 x3)
theorem Bx.sN {w:World} {b:Nat} {u0 u1 u2 u3:Value} (h:Bx w b [u0,u1,u2,u3]) (x0 x1 x2 x3:Value):Bx ((((w.setCell ⟨b,0,none⟩ x0).setCell ⟨b,1,none⟩ x1).setCell ⟨b,2,none⟩ x2).setCell ⟨b,3,none⟩ x3) b [x0,x1,x2,x3]:=by
 refine⟨by simpa [World.setCell] using h.1,fun i u hu=>?_⟩
 match i,hu with
 | 0,hu=>simp at hu;subst hu;simp[go_sem,h.c0,h.f0,h.c1,h.f1,h.c2,h.f2,h.c3,h.f3]
 | 1,hu=>simp at hu;subst hu;simp[go_sem,h.c0,h.f0,h.c1,h.f1,h.c2,h.f2,h.c3,h.f3]
 | 2,hu=>simp at hu;subst hu;simp[go_sem,h.c0,h.f0,h.c1,h.f1,h.c2,h.f2,h.c3,h.f3]
 | 3,hu=>simp at hu;subst hu;simp[go_sem,h.c0,h.f0,h.c1,h.f1,h.c2,h.f2,h.c3,h.f3]
 | _+4,hu=>simp at hu
theorem Bx.dS {w:World} {b':Nat} {cs:List Value} (h:Bx w b' cs) {b:Nat} (hne:b'≠b) (x0 x1 x2 x3:Value):Bx ((((w.setCell ⟨b,0,none⟩ x0).setCell ⟨b,1,none⟩ x1).setCell ⟨b,2,none⟩ x2).setCell ⟨b,3,none⟩ x3) b' cs:=by
 refine⟨by simpa [World.setCell] using h.1,fun i u hu=>?_⟩
 have:=h.2 i u hu
 constructor
 ·rw[jd _ _ _ _ (fun e=>hne e.symm)];rw[jd _ _ _ _ (fun e=>hne e.symm)];rw[jd _ _ _ _ (fun e=>hne e.symm)];rw[jd _ _ _ _ (fun e=>hne e.symm)];exact this.1
 ·rw[ru];rw[ru];rw[ru];rw[ru];exact this.2
theorem Below.aU {m:Nat} {w' w:World} (h:Below m w' w) {b:Nat} (hb:m<=b) (x0 x1 x2 x3:Value):Below m w' ((((w.setCell ⟨b,0,none⟩ x0).setCell ⟨b,1,none⟩ x1).setCell ⟨b,2,none⟩ x2).setCell ⟨b,3,none⟩ x3) :=
 ((((h.setCell (p:=⟨b,0,none⟩) hb x0).setCell (p:=⟨b,1,none⟩) hb x1).setCell (p:=⟨b,2,none⟩) hb x2).setCell (p:=⟨b,3,none⟩) hb x3)
theorem Raw.aU {w:World} {v:Value} {x:Int} (h:Raw w v x) {b:Nat} {u0 u1 u2 u3:Value} (q:Bx w b [u0,u1,u2,u3]) (h0:aX u0=true) (h1:aX u1=true) (h2:aX u2=true) (h3:aX u3=true) (x0 x1 x2 x3:Value):Raw ((((w.setCell ⟨b,0,none⟩ x0).setCell ⟨b,1,none⟩ x1).setCell ⟨b,2,none⟩ x2).setCell ⟨b,3,none⟩ x3) v x:=by
 obtain⟨neg,s,l,k1,k2,k3,k4⟩:=h;exact⟨neg,s,l,k1,k2.aU q h0 h1 h2 h3 x0 x1 x2 x3,k3,k4⟩
theorem bW.aU {w:World} {v:Value} {x:Int} (h:bW w v x) {b:Nat} {u0 u1 u2 u3:Value} (q:Bx w b [u0,u1,u2,u3]) (h0:aX u0=true) (h1:aX u1=true) (h2:aX u2=true) (h3:aX u3=true) (x0 x1 x2 x3:Value):bW ((((w.setCell ⟨b,0,none⟩ x0).setCell ⟨b,1,none⟩ x1).setCell ⟨b,2,none⟩ x2).setCell ⟨b,3,none⟩ x3) v x:=by
 obtain⟨s,k1,k2⟩:=h;exact⟨s,k1,k2.aU q h0 h1 h2 h3 x0 x1 x2 x3⟩
def fC (w:World) (v:Value) (ok:Bool) (x:Int):Prop :=
 ∃ neg s l,v=.agg #[.bool neg,s]/\Rd w s l/\(∀ g ∈ l,g<4294967296)/\x=cnt neg l/\ok=GU neg l
theorem fC.raw {w:World} {v:Value} {ok:Bool} {x:Int} (h:fC w v ok x):Raw w v x:=by
 obtain⟨neg,s,l,k1,k2,k3,k4,_⟩:=h;exact⟨neg,s,l,k1,k2,k3,k4⟩
theorem fC.below {w w':World} {v:Value} {ok:Bool} {x:Int} (h:fC w v ok x) (hb:Below w.heap.size w w'):fC w' v ok x:=by
 obtain⟨neg,s,l,k1,k2,k3,k4⟩:=h;exact⟨neg,s,l,k1,k2.below hb,k3,k4⟩
theorem fC.zero {w:World} {v:Value} {x:Int} (h:fC w v false x):x=0:=by
 obtain⟨neg,s,l,k1,k2,k3,k4,k5⟩:=h;rw[k4];unfold cnt;rw[<-k5];rfl
theorem fC.int {w:World} {v:Value} {x:Int} (h:fC w v true x):bW w v x:=by
 obtain⟨neg,s,l,k1,k2,k3,k4,k5⟩:=h
 have hd:=XK neg l
 have hc:cgs neg l=l:=by unfold cgs;rw[<-k5];rfl
 rw[hc,<-k4] at hd
 refine⟨s,?_,by rw[hd];exact k2⟩
 rw[k1]
 by_cases hx:x=0
 ·have hl:l=[]:=by rw[<-hd,hx];simp[dL]
  have:=(GV.1 k5.symm).2 hl
  rw[this,hx];simp
 ·have:=a0k (neg:=neg) (l:=l) (by rw[<-k4];exact hx)
  rw[<-k4] at this;rw[<-this]
theorem bW.QG {w:World} {v:Value} {x:Int} (h:bW w v x):fC w v true x:=by
 obtain⟨s,h1,h2⟩:=h
 exact⟨_,s,_,h1,h2,fun g hg=>by have:=bH _ g hg;rw[bI] at this;omega,(a3A x).symm,(a1J x).symm⟩
theorem Raw.len {w:World} {b:Bool} {p:Option Addr} {n c:Nat} {x:Int} (h:Raw w (.agg #[.bool b,.slice p n c]) x):isz x<=n:=by
 obtain⟨neg,s,l,k1,k2,k3,k4⟩:=h
 cases k1
 obtain⟨p',c',e,_⟩:=k2.form
 cases e
 unfold isz nsz
 rw[k4,XK]
 unfold cgs
 split
 ·exact ak _
 ·simp
def RQ (w:World) (v:Value) (q:Rat):Prop:=∃ b s c t,v=.agg #[b,s,c,t]/\bW w (.agg #[b,s]) q.num/\bW w (.agg #[c,t]) (q.den:Int)
theorem RQ.num {w:World} {b s c t:Value} {q:Rat} (h:RQ w (.agg #[b,s,c,t]) q):bW w (.agg #[b,s]) q.num:=by
 obtain⟨_,_,_,_,e,h1,h2⟩:=h;cases e;exact h1
theorem RQ.den {w:World} {b s c t:Value} {q:Rat} (h:RQ w (.agg #[b,s,c,t]) q):bW w (.agg #[c,t]) (q.den:Int):=by
 obtain⟨_,_,_,_,e,h1,h2⟩:=h;cases e;exact h2
theorem RQ.mk' {w:World} {b s c t:Value} {q:Rat} {n d:Int} (h1:bW w (.agg #[b,s]) n) (h2:bW w (.agg #[c,t]) d) (hn:n=q.num) (hd:d=(q.den:Int)):RQ w (.agg #[b,s,c,t]) q :=
 ⟨b,s,c,t,rfl,hn ▸ h1,hd ▸ h2⟩
theorem RQ.below {w w':World} {v:Value} {q:Rat} (h:RQ w v q) (hb:Below w.heap.size w w'):RQ w' v q:=by
 obtain⟨b,s,c,t,e,h1,h2⟩:=h;exact⟨b,s,c,t,e,h1.below hb,h2.below hb⟩
theorem RQ.form {w:World} {v:Value} {q:Rat} (h:RQ w v q):∃ b p n c b' p' n' c',v=.agg #[.bool b,.slice p n c,.bool b',.slice p' n' c']:=by
 obtain⟨b,s,c,t,e,h1,h2⟩:=h
 obtain⟨_,_,_,_,e1⟩:=h1.form
 obtain⟨_,_,_,_,e2⟩:=h2.form
 cases e1;cases e2
 exact⟨_,_,_,_,_,_,_,_,e⟩
def fH (w:World) (v:Value) (ok:Bool) (q:Rat):Prop :=
 ∃ b s c t o1 o2 n d,v=.agg #[b,s,c,t]/\fC w (.agg #[b,s]) o1 n/\fC w (.agg #[c,t]) o2 d/\ok=(o1&&(o2&&(decide (0<d)&&decide (Int.gcd n d=1))))/\q=if ok then Rat.divInt n d else 0
theorem fH.below {w w':World} {v:Value} {ok:Bool} {q:Rat} (h:fH w v ok q) (hb:Below w.heap.size w w'):fH w' v ok q:=by
 obtain⟨b,s,c,t,o1,o2,n,d,e,h1,h2,h3⟩:=h;exact⟨b,s,c,t,o1,o2,n,d,e,h1.below hb,h2.below hb,h3⟩
theorem fH.form {w:World} {v:Value} {ok:Bool} {q:Rat} (h:fH w v ok q):∃ b p n c b' p' n' c',v=.agg #[.bool b,.slice p n c,.bool b',.slice p' n' c']:=by
 obtain⟨b,s,c,t,o1,o2,n,d,e,h1,h2,_⟩:=h
 obtain⟨_,_,_,_,e1⟩:=h1.raw.form
 obtain⟨_,_,_,_,e2⟩:=h2.raw.form
 cases e1;cases e2
 exact⟨_,_,_,_,_,_,_,_,e⟩
theorem fH.rq {w:World} {v:Value} {q:Rat} (h:fH w v true q):RQ w v q:=by
 obtain⟨b,s,c,t,o1,o2,n,d,e,h1,h2,h3,h4⟩:=h
 simp only[Bool.true_eq,aj,ay] at h3
 obtain⟨rfl,rfl,hd,hg⟩:=h3
 rw[jq rfl] at h4
 subst h4
 rw[e]
 exact RQ.mk' h1.int h2.int (NW hd hg).symm (NU hd hg).symm
theorem fH.no {w:World} {v:Value} {q:Rat} (h:fH w v false q):q=0:=by
 obtain⟨b,s,c,t,o1,o2,n,d,e,h1,h2,h3,h4⟩:=h
 simpa using h4
theorem RQ.raw {w:World} {v:Value} {q:Rat} (h:RQ w v q):fH w v true q:=by
 obtain⟨b,s,c,t,e,h1,h2⟩:=h
 refine⟨b,s,c,t,true,true,_,_,e,h1.QG,h2.QG,?_,?_⟩
 ·simp[b2a];exact Nat.pos_of_ne_zero q.den_nz
 ·rw[jq rfl,Rat.num_divInt_den]
theorem fC.aG {w:World} {v:Value} {ok:Bool} {x:Int} (h:fC w v ok x) {b:Nat} {u0 u1:Value} (q:Bx w b [u0,u1]) (h0:aX u0=true) (h1:aX u1=true) (x0 x1:Value):fC ((w.setCell ⟨b,0,none⟩ x0).setCell ⟨b,1,none⟩ x1) v ok x:=by
 obtain⟨neg,s,l,k1,k2,k3,k4⟩:=h;exact⟨neg,s,l,k1,k2.aG q h0 h1 x0 x1,k3,k4⟩
theorem RQ.aG {w:World} {v:Value} {x:Rat} (h:RQ w v x) {b:Nat} {u0 u1:Value} (q:Bx w b [u0,u1]) (h0:aX u0=true) (h1:aX u1=true) (x0 x1:Value):RQ ((w.setCell ⟨b,0,none⟩ x0).setCell ⟨b,1,none⟩ x1) v x:=by
 obtain⟨a,s,c,t,e,k1,k2⟩:=h;exact⟨a,s,c,t,e,k1.aG q h0 h1 x0 x1,k2.aG q h0 h1 x0 x1⟩
theorem fH.aG {w:World} {v:Value} {ok:Bool} {x:Rat} (h:fH w v ok x) {b:Nat} {u0 u1:Value} (q:Bx w b [u0,u1]) (h0:aX u0=true) (h1:aX u1=true) (x0 x1:Value):fH ((w.setCell ⟨b,0,none⟩ x0).setCell ⟨b,1,none⟩ x1) v ok x:=by
 obtain⟨a,s,c,t,o1,o2,m,d,e,k1,k2,k3⟩:=h;exact⟨a,s,c,t,o1,o2,m,d,e,k1.aG q h0 h1 x0 x1,k2.aG q h0 h1 x0 x1,k3⟩
theorem fC.aU {w:World} {v:Value} {ok:Bool} {x:Int} (h:fC w v ok x) {b:Nat} {u0 u1 u2 u3:Value} (q:Bx w b [u0,u1,u2,u3]) (h0:aX u0=true) (h1:aX u1=true) (h2:aX u2=true) (h3:aX u3=true) (x0 x1 x2 x3:Value):fC ((((w.setCell ⟨b,0,none⟩ x0).setCell ⟨b,1,none⟩ x1).setCell ⟨b,2,none⟩ x2).setCell ⟨b,3,none⟩ x3) v ok x:=by
 obtain⟨neg,s,l,k1,k2,k3,k4⟩:=h;exact⟨neg,s,l,k1,k2.aU q h0 h1 h2 h3 x0 x1 x2 x3,k3,k4⟩
theorem RQ.aU {w:World} {v:Value} {x:Rat} (h:RQ w v x) {b:Nat} {u0 u1 u2 u3:Value} (q:Bx w b [u0,u1,u2,u3]) (h0:aX u0=true) (h1:aX u1=true) (h2:aX u2=true) (h3:aX u3=true) (x0 x1 x2 x3:Value):RQ ((((w.setCell ⟨b,0,none⟩ x0).setCell ⟨b,1,none⟩ x1).setCell ⟨b,2,none⟩ x2).setCell ⟨b,3,none⟩ x3) v x:=by
 obtain⟨a,s,c,t,e,k1,k2⟩:=h;exact⟨a,s,c,t,e,k1.aU q h0 h1 h2 h3 x0 x1 x2 x3,k2.aU q h0 h1 h2 h3 x0 x1 x2 x3⟩
theorem fH.aU {w:World} {v:Value} {ok:Bool} {x:Rat} (h:fH w v ok x) {b:Nat} {u0 u1 u2 u3:Value} (q:Bx w b [u0,u1,u2,u3]) (h0:aX u0=true) (h1:aX u1=true) (h2:aX u2=true) (h3:aX u3=true) (x0 x1 x2 x3:Value):fH ((((w.setCell ⟨b,0,none⟩ x0).setCell ⟨b,1,none⟩ x1).setCell ⟨b,2,none⟩ x2).setCell ⟨b,3,none⟩ x3) v ok x:=by
 obtain⟨a,s,c,t,o1,o2,m,d,e,k1,k2,k3⟩:=h;exact⟨a,s,c,t,o1,o2,m,d,e,k1.aU q h0 h1 h2 h3 x0 x1 x2 x3,k2.aU q h0 h1 h2 h3 x0 x1 x2 x3,k3⟩
theorem fC.alloc {w:World} {v:Value} {ok:Bool} {x:Int} (h:fC w v ok x) (o:Obj):fC (w.alloc o) v ok x:=h.below ((bg _ _).alloc (ak _) _)
theorem fC.drew {w:World} {v:Value} {ok:Bool} {x:Int} (h:fC w v ok x):fC w.drew v ok x:=h.below (bg _ _).drew
theorem RQ.alloc {w:World} {v:Value} {x:Rat} (h:RQ w v x) (o:Obj):RQ (w.alloc o) v x:=h.below ((bg _ _).alloc (ak _) _)
theorem RQ.drew {w:World} {v:Value} {x:Rat} (h:RQ w v x):RQ w.drew v x:=h.below (bg _ _).drew
theorem fH.alloc {w:World} {v:Value} {ok:Bool} {x:Rat} (h:fH w v ok x) (o:Obj):fH (w.alloc o) v ok x:=h.below ((bg _ _).alloc (ak _) _)
theorem fH.drew {w:World} {v:Value} {ok:Bool} {x:Rat} (h:fH w v ok x):fH w.drew v ok x:=h.below (bg _ _).drew
def GQ (q:Rat) (w:World) (e:Ending) (w':World):Prop:=∃ v,e=.returned v/\RQ w' v q/\Below w.heap.size w w'
set_option maxRecDepth 20000
theorem Bx.c4 {w:World} {b:Nat} {u0 u1 u2 u3 u4:Value} {cs:List Value} (h:Bx w b (u0::u1::u2::u3::u4::cs)):w.cell? ⟨b,4,none⟩=some u4:=(h.2 4 u4 rfl).1
theorem Bx.c5 {w:World} {b:Nat} {u0 u1 u2 u3 u4 u5:Value} {cs:List Value} (h:Bx w b (u0::u1::u2::u3::u4::u5::cs)):w.cell? ⟨b,5,none⟩=some u5:=(h.2 5 u5 rfl).1
theorem Bx.c6 {w:World} {b:Nat} {u0 u1 u2 u3 u4 u5 u6:Value} {cs:List Value} (h:Bx w b (u0::u1::u2::u3::u4::u5::u6::cs)):w.cell? ⟨b,6,none⟩=some u6:=(h.2 6 u6 rfl).1
theorem Bx.c7 {w:World} {b:Nat} {u0 u1 u2 u3 u4 u5 u6 u7:Value} {cs:List Value} (h:Bx w b (u0::u1::u2::u3::u4::u5::u6::u7::cs)):w.cell? ⟨b,7,none⟩=some u7:=(h.2 7 u7 rfl).1
theorem Bx.f7 {w:World} {b:Nat} {u0 u1 u2 u3 u4 u5 u6 u7:Value} {cs:List Value} (h:Bx w b (u0::u1::u2::u3::u4::u5::u6::u7::cs)):w.frozen? ⟨b,7,none⟩=false:=(h.2 7 u7 rfl).2
theorem Bx.c8 {w:World} {b:Nat} {u0 u1 u2 u3 u4 u5 u6 u7 u8:Value} {cs:List Value} (h:Bx w b (u0::u1::u2::u3::u4::u5::u6::u7::u8::cs)):w.cell? ⟨b,8,none⟩=some u8:=(h.2 8 u8 rfl).1
theorem Bx.c9 {w:World} {b:Nat} {u0 u1 u2 u3 u4 u5 u6 u7 u8 u9:Value} {cs:List Value} (h:Bx w b (u0::u1::u2::u3::u4::u5::u6::u7::u8::u9::cs)):w.cell? ⟨b,9,none⟩=some u9:=(h.2 9 u9 rfl).1
theorem Bx.c10 {w:World} {b:Nat} {u0 u1 u2 u3 u4 u5 u6 u7 u8 u9 u10:Value} {cs:List Value} (h:Bx w b (u0::u1::u2::u3::u4::u5::u6::u7::u8::u9::u10::cs)):w.cell? ⟨b,10,none⟩=some u10:=(h.2 10 u10 rfl).1
theorem RQ.gU {w:World} {v:Value} {x:Rat} (h:RQ w v x) {a:Addr} {u:Value} (hc:w.cell? a=some u) (hu:aX u=true) (u':Value):RQ (w.setCell a u') v x:=by
 obtain⟨b,s,c,t,e,k1,k2⟩:=h;exact⟨b,s,c,t,e,k1.gU hc hu u',k2.gU hc hu u'⟩
theorem fC.gU {w:World} {v:Value} {ok:Bool} {x:Int} (h:fC w v ok x) {a:Addr} {u:Value} (hc:w.cell? a=some u) (hu:aX u=true) (u':Value):fC (w.setCell a u') v ok x:=by
 obtain⟨neg,s,l,k1,k2,k3,k4⟩:=h;exact⟨neg,s,l,k1,k2.gU hc hu u',k3,k4⟩
theorem fH.gU {w:World} {v:Value} {ok:Bool} {x:Rat} (h:fH w v ok x) {a:Addr} {u:Value} (hc:w.cell? a=some u) (hu:aX u=true) (u':Value):fH (w.setCell a u') v ok x:=by
 obtain⟨b,s,c,t,o1,o2,m,d,e,k1,k2,k3⟩:=h;exact⟨b,s,c,t,o1,o2,m,d,e,k1.gU hc hu u',k2.gU hc hu u',k3⟩
end Go.Proofs.YtbkocjmmbkifjaaGreat
