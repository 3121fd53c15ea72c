/-
  Lemmas for the theorem vinliers_holds, part 7 of 32.
-/
import Derived.Deep.MidRow
import Derived.Test.YtbkocjmmbkifjaaGreatQi06
namespace Go.Proofs.YtbkocjmmbkifjaaGreat
open Go Go.RowKit
theorem zn:type_of% @Nat.succ_mul:=@Nat.succ_mul
theorem Bj:type_of% @List.take_left:=@List.take_left
theorem Dh:type_of% @List.drop_drop:=@List.drop_drop
theorem Ac:type_of% @List.drop_left:=@List.drop_left
set_option maxRecDepth 100000
set_option maxHeartbeats 4000000
set_option linter.unusedSimpArgs false
set_option linter.unusedVariables false
theorem gcd_zero {l1:List Nat} {x y:Int} (h:Nat.gcd (val l1) (val ([]:List Nat))=Int.gcd x y):sg false (val l1)=((Int.gcd x y:Nat):Int):=by
 rw[<-h];simp[val,sg]
theorem rV {a b g:Nat} (h:Nat.gcd a b=g):Nat.gcd b (a%b)=g:=by
 rw[<-h,Nat.gcd_comm a b,Nat.gcd_rec b a,Nat.gcd_comm]
theorem TT (x y:Int):Hid (Nat.gcd (val (dig x.natAbs)) (val (dig y.natAbs))=Int.gcd x y):=by unfold Hid;rw[aH,aH];rfl
theorem zZ {l:List Nat} (h:Canon l) (h2:l.length<=2):val l<=999999999999999999:=by
 have h1:=mG h.1
 have h3:BB ^ l.length<=BB ^ 2:=yc gV h2
 rw[bI] at h1 h3
 omega
theorem MB (v u:Value) (x y:Int) (w:World) (hv:Raw w v x) (hu:Raw w u y) (hl:isz x<=1000000000) (hl2:isz y<=1000000000) :
  Calls Tryz.prog 213 #[v,u] w (lU ((Int.gcd x y:Nat):Int) w):=by
 obtain⟨b,p,n,c,rfl⟩:=hv.form
 obtain⟨d,o,m,e,rfl⟩:=hu.form
 have hlx:(dig x.natAbs).length<=1000000000:=hl
 have hly:(dig y.natAbs).length<=1000000000:=hl2
 clear hl hl2
 have aZ:Below w.heap.size w w:=bg _ _
 go_enter Tryz.func213,Tryz.ntmps213
 go_wp2_with fail
 obtain⟨hA1,o0,p0,q0⟩:=bx3 w rfl [.bool b,.slice p n c] 45 [.bool d,.slice o m e] 45 [.bool false,.slice none 0 0] 45
 have vZ:=(aK.mk (o0.drew).bs2 (p0.drew).bs2)
 have tk1:True:=trivial
 have tk2:True:=trivial
 go_region_held3 (aK (BS2 w.heap.size (.bool b) (.slice p n c)) (BS2 (w.heap.size+1) (.bool d) (.slice o m e))) (first|with_reducible exact vZ|with_reducible exact fG.go (aK.hk BS2.hk BS2.hk) (by assumption) (by assumption)|(simp;done))
  (first
   | (((have:=tk1);clear tk1;have a0:=(hv.below hA1).drew;go_at_call 192;(with_reducible refine(dJ _ (x) _ a0).mono ?_);rintro e w1 ⟨s1,rfl,hs1,hb1⟩;obtain⟨p1,c1,rfl,SG,XZ⟩:=hs1.form))
   | (((have:=tk2);clear tk2;have iF:=((hu.below hA1).drew.below hb1);have b0:=iF;go_at_call 192;(with_reducible refine(dJ _ (y) _ b0).mono ?_);rintro e w2 ⟨s2,rfl,hs2,hb2⟩;obtain⟨p2,c2,rfl,b1g,b1j⟩:=hs2.form)))
 have s0:=(hs1.below hb2)
 have jU:=((q0.drew.to hb1).to hb2)
 have n0:=(Below.tr (Below.tr (Below.tr aZ hA1).drew hb1) hb2)
 go_wp2_with fail
 go_loopg [5,6,7,8,9,10,11,12,17,18,19,20,21,22,23,24,25,26,27,28,29,30,31,32,33,34,35,36,37,38,39,40,41,42,43,44,45,46,47,48,49,50] (val (dig y.natAbs)) (fun k a b _ _ _ _ _ _ _ _ _ _ _ _ _ _ _ _ _ _ _ _ _ _ _ _ _ _ _ _ _ _ _ _ _ _ _ _ _ _ _ _ wr=>∃ (l1 l2:List Nat) (pa pb:Option Addr) (ca cb:Nat),a=.slice pa l1.length ca/\b=.slice pb l2.length cb/\Rd wr (.slice pa l1.length ca) l1/\Rd wr (.slice pb l2.length cb) l2/\Canon l1/\Canon l2/\l1.length<=1000000000/\l2.length<=1000000000/\Hid (Nat.gcd (val l1) (val l2)=Int.gcd x y)/\Hid (k=val l2)/\Bx wr (w.heap.size+1+1) [.bool false,.slice none 0 0]/\Below w.heap.size w wr)
 case atStart=>exact⟨_,_,_,_,_,_,rfl,rfl,s0,hs2,aY _,aY _,hlx,hly,TT x y,rfl,jU,n0⟩
 case round =>
  obtain⟨l1,l2,pa,pb,ca,cb,rfl,rfl,ha,hb,ca1,cb1,la,lb,hg,hk,hq,hB⟩:=hrel
  have hzB:=hB.size
  have cl1:Low l1:=ca1.1
  have cl2:Low l2:=cb1.1
  by_cases hne:l2=[]
  ·subst hne
   have HX:Hid (sg false (val l1)=((Int.gcd x y:Nat):Int)):=gcd_zero hg.out
   go_wp2_with fail
   have a0:=ha
   (with_reducible refine(clone_any _ _ _ a0 (by simpa using la)).mono ?_)
   rintro e w1 ⟨s1,rfl,ho1,hb1⟩
   have hs1:=Rd.bU ho1
   obtain⟨p1,c1,rfl,SG,XZ⟩:=hs1.form
   go_wp2_with fail
   have e0:=hs1
   (with_reducible refine(gI _ _ _ _ e0 cl1).mono ?_)
   rintro e w2 ⟨v2,rfl,hi2,hb2⟩
   obtain⟨g2,p2,n2,c2,rfl⟩:=hi2.form
   have b1Y:=((hq.to hb1).to hb2)
   obtain⟨f0,h0,g0,i0⟩:=b1Y.cf2
   have vJ:=(Below.tr (Below.tr hB hb1) hb2)
   go_wp2_with fail
   exact iw (v:=.agg #[.bool g2,.slice p2 n2 c2]) (by simp[results,Tryz.results213,go_sem,f0,h0,g0,i0]) rfl ⟨_,rfl,dG (hi2.aG b1Y rfl rfl (.bool g2) (.slice p2 n2 c2)) HX.out,(Below.aG vJ (b:=w.heap.size+1+1) (by omega) (.bool g2) (.slice p2 n2 c2))⟩
  ·have hl0:0<l2.length:=oq.2 hne
   have HLE:Hid ((dig (val l1%val l2)).length<=1000000000):=by
    unfold Hid
    have:=aJ (Dy (wu (val l1) (cb1.pos hne)))
    rw[dN cb1] at this
    omega
   by_cases h1:2<l1.length
   ·by_cases h2:2<l2.length
    ·skip
     go_wp2_with fail
     have a0:=ha
     (with_reducible refine(xH _ _ _ a0 (by omega)).mono ?_)
     rintro e w1 ⟨rfl,hb1⟩
     go_wp2_with fail
     have ER:=(hb.below hb1)
     have b0:=ER
     (with_reducible refine(xH _ _ _ b0 (by omega)).mono ?_)
     rintro e w2 ⟨rfl,hb2⟩
     go_wp2_with fail
     have a7K:=((ha.below hb1).below hb2)
     have c0:=a7K
     have a0G:=(ER.below hb2)
     have d0:=a0G
     (with_reducible refine(pX _ _ _ _ _ c0 d0 ca1 cb1 la hne).mono ?_)
     rintro e w3 ⟨s3,t3,rfl,hs3,ht3,hb3⟩
     obtain⟨p3,c3,rfl,SH,SI⟩:=hs3.form
     obtain⟨o3,d3,rfl,hlo3,XY⟩:=ht3.form
     have a7L:=(a0G.below hb3)
     have a9p:=(((hq.to hb1).to hb2).to hb3)
     have xW:=(Below.tr (Below.tr (Below.tr hB hb1) hb2) hb3)
     go_wp2_with fail
     go_roundg (val (dig (val l1%val l2)))
     case measure=>rw[hk.out,aH];exact wu _ (cb1.pos hne)
     case rel=>exact⟨_,_,_,_,_,_,rfl,rfl,a7L,ht3,cb1,aY _,lb,HLE.out,by unfold Hid;rw[aH];exact rV hg.out,rfl,a9p,xW⟩
    ·skip
     go_wp2_with fail
     have a0:=ha
     (with_reducible refine(xH _ _ _ a0 (by omega)).mono ?_)
     rintro e w1 ⟨rfl,hb1⟩
     go_wp2_with fail
     have ER:=(hb.below hb1)
     have b0:=ER
     (with_reducible refine(qF _ _ _ b0 cl2 (by omega)).mono ?_)
     rintro e w2 ⟨rfl,hb2⟩
     go_wp2_with fail
     have a7K:=((ha.below hb1).below hb2)
     have c0:=a7K
     have a0G:=(ER.below hb2)
     have d0:=a0G
     (with_reducible refine(pX _ _ _ _ _ c0 d0 ca1 cb1 la hne).mono ?_)
     rintro e w3 ⟨s3,t3,rfl,hs3,ht3,hb3⟩
     obtain⟨p3,c3,rfl,SH,SI⟩:=hs3.form
     obtain⟨o3,d3,rfl,hlo3,XY⟩:=ht3.form
     have a7L:=(a0G.below hb3)
     have a9p:=(((hq.to hb1).to hb2).to hb3)
     have xW:=(Below.tr (Below.tr (Below.tr hB hb1) hb2) hb3)
     go_wp2_with fail
     go_roundg (val (dig (val l1%val l2)))
     case measure=>rw[hk.out,aH];exact wu _ (cb1.pos hne)
     case rel=>exact⟨_,_,_,_,_,_,rfl,rfl,a7L,ht3,cb1,aY _,lb,HLE.out,by unfold Hid;rw[aH];exact rV hg.out,rfl,a9p,xW⟩
   ·by_cases h2:2<l2.length
    ·skip
     go_wp2_with fail
     have a0:=ha
     (with_reducible refine(qF _ _ _ a0 cl1 (by omega)).mono ?_)
     rintro e w1 ⟨rfl,hb1⟩
     go_wp2_with fail
     have ER:=(hb.below hb1)
     have b0:=ER
     (with_reducible refine(xH _ _ _ b0 (by omega)).mono ?_)
     rintro e w2 ⟨rfl,hb2⟩
     go_wp2_with fail
     have a7K:=((ha.below hb1).below hb2)
     have c0:=a7K
     have a0G:=(ER.below hb2)
     have d0:=a0G
     (with_reducible refine(pX _ _ _ _ _ c0 d0 ca1 cb1 la hne).mono ?_)
     rintro e w3 ⟨s3,t3,rfl,hs3,ht3,hb3⟩
     obtain⟨p3,c3,rfl,SH,SI⟩:=hs3.form
     obtain⟨o3,d3,rfl,hlo3,XY⟩:=ht3.form
     have a7L:=(a0G.below hb3)
     have a9p:=(((hq.to hb1).to hb2).to hb3)
     have xW:=(Below.tr (Below.tr (Below.tr hB hb1) hb2) hb3)
     go_wp2_with fail
     go_roundg (val (dig (val l1%val l2)))
     case measure=>rw[hk.out,aH];exact wu _ (cb1.pos hne)
     case rel=>exact⟨_,_,_,_,_,_,rfl,rfl,a7L,ht3,cb1,aY _,lb,HLE.out,by unfold Hid;rw[aH];exact rV hg.out,rfl,a9p,xW⟩
    ·skip
     go_wp2_with fail
     have a0:=ha
     (with_reducible refine(qF _ _ _ a0 cl1 (by omega)).mono ?_)
     rintro e w1 ⟨rfl,hb1⟩
     go_wp2_with fail
     have ER:=(hb.below hb1)
     have b0:=ER
     (with_reducible refine(qF _ _ _ b0 cl2 (by omega)).mono ?_)
     rintro e w2 ⟨rfl,hb2⟩
     have b1Y:=((hq.to hb1).to hb2)
     have vJ:=(Below.tr (Below.tr hB hb1) hb2)
     go_wp2_with fail
     have hM:=zZ ca1 (by omega)
     have hK:=zZ cb1 (by omega)
     clear ha hb
     go_loopw [7,9,34,35,36,37,38,39] (fun m n _ _ _ _ _ _ wr=>∃ M K:Nat,m=.int .u64 (M:Nat)/\n=.int .u64 (K:Nat)/\M<=999999999999999999/\K<=999999999999999999/\Hid (Nat.gcd M K=Int.gcd x y)/\Bx wr (w.heap.size+1+1) [.bool false,.slice none 0 0]/\Below w.heap.size w wr) (fun _ n _ _ _ _ _ _ _=>(intOf n).toNat)
     case atStart=>exact⟨_,_,rfl,rfl,hM,hK,hg,b1Y,vJ⟩
     case round =>
      obtain⟨M,K,rfl,rfl,hM,hK,hg2,hq2,hB2⟩:=hrel
      by_cases hk0:0<K
      ·obtain⟨R,hR⟩:∃ R,M%K=R:=⟨_,rfl⟩
       have b3U:R<K:=by rw[<-hR];exact wu _ hk0
       have i2:(M:Int)%K=R:=by rw[<-hR];simp
       have i3:(M:Int).tmod K=R:=by rw[Bg (by omega)];exact i2
       have w2':IntKind.u64.wrap (R:Int)=R:=wrap_u64 (by omega)
       have hdz:((K:Int)==0)=false:=by simp;omega
       have hdn:¬ K=0:=by omega
       have HG:Hid (Nat.gcd K R=Int.gcd x y):=by unfold Hid;rw[<-hR];exact rV hg2.out
       have a7U:=fun w=>FP (n:=M) (d:=K) (v:=R) (by omega) hM i2 w2' w
       clear hR
       go_wp2_with fail
       go_quiet (fail)
       go_wp2_with fail
       go_roundw
       case rel=>exact⟨K,R,rfl,rfl,hK,by omega,HG,hq2.drewN _,Below.oD hB2 _⟩
       case measure=>simp[intOf];omega
      ·obtain rfl:K=0:=by omega
       have HX:Hid (sg false (val (dig M))=((Int.gcd x y:Nat):Int)):=by have:=hg2.out;unfold Hid;rw[aH,<-this];simp[sg]
       have c0Y:=hB2.size
       go_wp2_with fail
       (with_reducible refine(rF M _ (by omega)).mono ?_)
       rintro e w1 ⟨s1,rfl,ho1,hb1⟩
       have hs1:=Rd.bU ho1
       obtain⟨p1,c1,rfl,SG,XZ⟩:=hs1.form
       go_wp2_with fail
       have e0:=hs1
       (with_reducible refine(gI _ _ _ _ e0 (bH _)).mono ?_)
       rintro e w2 ⟨v2,rfl,hi2,hb2⟩
       obtain⟨g2,p2,n2,c2,rfl⟩:=hi2.form
       have b9C:=((hq2.to hb1).to hb2)
       obtain⟨j0,l0,k0,m0⟩:=b9C.cf2
       have r0:=(Below.tr (Below.tr hB2 hb1) hb2)
       go_wp2_with fail
       exact iw (v:=.agg #[.bool g2,.slice p2 n2 c2]) (by simp[results,Tryz.results213,go_sem,j0,l0,k0,m0]) rfl ⟨_,rfl,dG (hi2.aG b9C rfl rfl (.bool g2) (.slice p2 n2 c2)) HX.out,(Below.aG r0 (b:=w.heap.size+1+1) (by omega) (.bool g2) (.slice p2 n2 c2))⟩
theorem jE (v:Value) (ok:Bool) (x:Int) (w:World) (h:fC w v ok x) :
  Calls Tryz.prog 212 #[v] w fun e w'=>e=.returned (.bool ok)/\Below w.heap.size w w':=by
 obtain⟨neg,s,l,rfl,k2,k3,k4,k5⟩:=h
 have:=JV neg s l w k2
 rw[<-k5] at this
 exact this
def sgn (x:Int):Int:=x.sign
theorem kW (v:Value) (x:Int) (w:World) (hv:Raw w v x) :
 Calls Tryz.prog 179 #[v] w fun e w'=>e=.returned (.int .i64 (sgn x))/\Below w.heap.size w w':=vT v x w hv
theorem wX {x:Int} (h:0<x):sgn x=1:=vg h
theorem FW {x:Int} (h:x<0):sgn x=-1:=uo h
theorem a9P {x:Int} (h:¬ 0<x):sgn x<=0:=Int.sign_nonpos_iff.2 (by omega)
theorem QU {x:Int} (h:x≠0):sgn x≠0:=fun e=>h (Du.1 e)
def Qn (v:Value) (k:Nat):Prop:=∃ b p n c b' p' n' c',v=.agg #[.bool b,.slice p n c,.bool b',.slice p' n' c']/\n<=k/\n'<=k
theorem bW.len {w:World} {b:Bool} {p:Option Addr} {n c:Nat} {x:Int} (h:bW w (.agg #[.bool b,.slice p n c]) x):n=isz x:=by
 obtain⟨s,k1,k2⟩:=h
 cases k1
 obtain⟨p',c',e,_⟩:=k2.form
 cases e
 rfl
theorem RQ.qn {w:World} {v:Value} {q:Rat} {k:Nat} (h:RQ w v q) (hk:rsz q<=k):Qn v k:=by
 obtain⟨b,s,c,t,e,h1,h2⟩:=h
 obtain⟨b1,p1,n1,c1,e1⟩:=h1.form
 obtain⟨b2,p2,n2,c2,e2⟩:=h2.form
 cases e1;cases e2
 refine⟨_,_,_,_,_,_,_,_,e,?_,?_⟩
 ·rw[h1.len];have:=dO q;omega
 ·rw[h2.len];have:=dI q;omega
theorem RQ.jK {w:World} {v:Value} {q:Rat} {k:Nat} (h:RQ w v q) (hn:Qn v k):rsz q<=k:=by
 obtain⟨b,s,c,t,e,h1,h2⟩:=h
 obtain⟨b1,p1,n1,c1,b2,p2,n2,c2,e1,l1,l2⟩:=hn
 rw[e1] at e
 cases e
 rw[h1.len] at l1
 rw[h2.len] at l2
 have:isz (q.den:Int)=nsz q.den:=by simp[isz]
 rw[this] at l2
 exact Nat.max_le.2 ⟨l1,l2⟩
theorem a9M:rsz 0=1:=by decide +kernel
theorem fH.jK {w:World} {v:Value} {ok:Bool} {q:Rat} {k:Nat} (h:fH w v ok q) (hn:Qn v k) (hk:1<=k):rsz q<=k:=by
 cases ok
 ·rw[h.no,a9M];exact hk
 ·exact h.rq.jK hn
theorem KA (x y:Int):(dF x y==0)=decide (x=y):=by
 unfold dF
 by_cases h1:x<y
 ·rw[jq h1];simp;omega
 ·rw[jk h1]
  by_cases h2:y<x
  ·rw[jq h2];simp;omega
  ·rw[jk h2];simp;omega
theorem a3c (x y:Int) (w:World) (b d:Bool) (p o:Option Addr) (n c m e:Nat) (k1:fC w (.agg #[.bool b,.slice p n c]) false x) (k2:fC w (.agg #[.bool d,.slice o m e]) false y) (hl:isz x<=1000000000) (hl2:isz y<=1000000000) :
  Calls Tryz.prog 126 #[.agg #[.bool b,.slice p n c,.bool d,.slice o m e]] w fun e w'=>e=.returned (.bool (false&&(false&&(decide (0<y)&&decide (Int.gcd x y=1)))))/\Below w.heap.size w w':=by
 have HX:Hid (false=(false&&(false&&(decide (0<y)&&decide (Int.gcd x y=1))))):=by unfold Hid;simp
 have aZ:Below w.heap.size w w:=bg _ _
 go_enter Tryz.func126,Tryz.ntmps126
 go_wp2_with fail
 obtain⟨hA1,c0⟩:=bx1 w rfl [.bool b,.slice p n c,.bool d,.slice o m e] 47
 have b0:=(k1.below hA1)
 (with_reducible refine(jE _ _ _ _ b0).mono ?_)
 rintro e w1 ⟨rfl,hb1⟩
 have a0:=(Below.tr (Below.tr aZ hA1) hb1)
 go_wp2_with fail
 go_ret
 exact⟨gJ HX.out,a0⟩
theorem a3d (x y:Int) (w:World) (b d:Bool) (p o:Option Addr) (n c m e:Nat) (k1:fC w (.agg #[.bool b,.slice p n c]) false x) (k2:fC w (.agg #[.bool d,.slice o m e]) true y) (hl:isz x<=1000000000) (hl2:isz y<=1000000000) :
  Calls Tryz.prog 126 #[.agg #[.bool b,.slice p n c,.bool d,.slice o m e]] w fun e w'=>e=.returned (.bool (false&&(true&&(decide (0<y)&&decide (Int.gcd x y=1)))))/\Below w.heap.size w w':=by
 have HX:Hid (false=(false&&(true&&(decide (0<y)&&decide (Int.gcd x y=1))))):=by unfold Hid;simp
 have aZ:Below w.heap.size w w:=bg _ _
 go_enter Tryz.func126,Tryz.ntmps126
 go_wp2_with fail
 obtain⟨hA1,c0⟩:=bx1 w rfl [.bool b,.slice p n c,.bool d,.slice o m e] 47
 have b0:=(k1.below hA1)
 (with_reducible refine(jE _ _ _ _ b0).mono ?_)
 rintro e w1 ⟨rfl,hb1⟩
 have a0:=(Below.tr (Below.tr aZ hA1) hb1)
 go_wp2_with fail
 go_ret
 exact⟨gJ HX.out,a0⟩
theorem a3e (x y:Int) (w:World) (b d:Bool) (p o:Option Addr) (n c m e:Nat) (k1:fC w (.agg #[.bool b,.slice p n c]) true x) (k2:fC w (.agg #[.bool d,.slice o m e]) false y) (hl:isz x<=1000000000) (hl2:isz y<=1000000000) :
  Calls Tryz.prog 126 #[.agg #[.bool b,.slice p n c,.bool d,.slice o m e]] w fun e w'=>e=.returned (.bool (true&&(false&&(decide (0<y)&&decide (Int.gcd x y=1)))))/\Below w.heap.size w w':=by
 have HX:Hid (false=(true&&(false&&(decide (0<y)&&decide (Int.gcd x y=1))))):=by unfold Hid;simp
 have aZ:Below w.heap.size w w:=bg _ _
 go_enter Tryz.func126,Tryz.ntmps126
 go_wp2_with fail
 obtain⟨hA1,b0⟩:=bx1 w rfl [.bool b,.slice p n c,.bool d,.slice o m e] 47
 have c0:=(k1.below hA1)
 (with_reducible refine(jE _ _ _ _ c0).mono ?_)
 rintro e w1 ⟨rfl,hb1⟩
 have bT:=(b0.to hb1)
 obtain⟨e0,f0,g0,h0⟩:=bT.cs4
 go_wp2_with fail
 have DF:=((k2.below hA1).below hb1)
 have d0:=DF
 (with_reducible refine(jE _ _ _ _ d0).mono ?_)
 rintro e w2 ⟨rfl,hb2⟩
 have a0:=(Below.tr (Below.tr (Below.tr aZ hA1) hb1) hb2)
 go_wp2_with fail
 go_ret
 exact⟨gJ HX.out,a0⟩
theorem a3f (x y:Int) (w:World) (b d:Bool) (p o:Option Addr) (n c m e:Nat) (k1:fC w (.agg #[.bool b,.slice p n c]) true x) (k2:fC w (.agg #[.bool d,.slice o m e]) true y) (hl:isz x<=1000000000) (hl2:isz y<=1000000000) (hd:¬ 0<y) :
  Calls Tryz.prog 126 #[.agg #[.bool b,.slice p n c,.bool d,.slice o m e]] w fun e w'=>e=.returned (.bool (true&&(true&&(decide (0<y)&&decide (Int.gcd x y=1)))))/\Below w.heap.size w w':=by
 have HX:Hid (false=(true&&(true&&(decide (0<y)&&decide (Int.gcd x y=1))))):=by unfold Hid;simp[hd]
 have hsg:decide (sgn y<=0)=true:=by have:=a9P hd;simpa using this
 clear hd
 have aZ:Below w.heap.size w w:=bg _ _
 go_enter Tryz.func126,Tryz.ntmps126
 go_wp2_with fail
 obtain⟨hA1,b0⟩:=bx1 w rfl [.bool b,.slice p n c,.bool d,.slice o m e] 47
 have c0:=(k1.below hA1)
 (with_reducible refine(jE _ _ _ _ c0).mono ?_)
 rintro e w1 ⟨rfl,hb1⟩
 have bT:=(b0.to hb1)
 obtain⟨f0,h0,j0,l0⟩:=bT.cs4
 go_wp2_with fail
 have DF:=((k2.below hA1).below hb1)
 have d0:=DF
 (with_reducible refine(jE _ _ _ _ d0).mono ?_)
 rintro e w2 ⟨rfl,hb2⟩
 have bM:=(bT.to hb2)
 obtain⟨g0,i0,k0,m0⟩:=bM.cs4
 go_wp2_with fail
 have YH:=(DF.below hb2)
 have e0:=YH.raw
 (with_reducible refine(kW _ (y) _ e0).mono ?_)
 rintro e w3 ⟨rfl,hb3⟩
 have a0:=(Below.tr (Below.tr (Below.tr (Below.tr aZ hA1) hb1) hb2) hb3)
 go_wp2_with fail
 go_ret
 exact⟨gJ HX.out,a0⟩
theorem a3g (x y:Int) (w:World) (b d:Bool) (p o:Option Addr) (n c m e:Nat) (k1:fC w (.agg #[.bool b,.slice p n c]) true x) (k2:fC w (.agg #[.bool d,.slice o m e]) true y) (hl:isz x<=1000000000) (hl2:isz y<=1000000000) (hd:0<y) :
  Calls Tryz.prog 126 #[.agg #[.bool b,.slice p n c,.bool d,.slice o m e]] w fun e w'=>e=.returned (.bool (true&&(true&&(decide (0<y)&&decide (Int.gcd x y=1)))))/\Below w.heap.size w w':=by
 have HX:Hid ((dF ((Int.gcd x y:Nat):Int) 1==0)=(true&&(true&&(decide (0<y)&&decide (Int.gcd x y=1))))):=by unfold Hid;rw[KA];simp[hd];omega
 have hsg:decide (sgn y<=0)=false:=by rw[wX hd];rfl
 clear hd
 have aZ:Below w.heap.size w w:=bg _ _
 go_enter Tryz.func126,Tryz.ntmps126
 go_wp2_with fail
 obtain⟨hA1,b0⟩:=bx1 w rfl [.bool b,.slice p n c,.bool d,.slice o m e] 47
 have c0:=(k1.below hA1)
 (with_reducible refine(jE _ _ _ _ c0).mono ?_)
 rintro e w1 ⟨rfl,hb1⟩
 have bT:=(b0.to hb1)
 obtain⟨k0,n0,q0,t0⟩:=bT.cs4
 go_wp2_with fail
 have DF:=((k2.below hA1).below hb1)
 have d0:=DF
 (with_reducible refine(jE _ _ _ _ d0).mono ?_)
 rintro e w2 ⟨rfl,hb2⟩
 have bM:=(bT.to hb2)
 obtain⟨l0,o0,r0,u0⟩:=bM.cs4
 go_wp2_with fail
 have YH:=(DF.below hb2)
 have e0:=YH.raw
 (with_reducible refine(kW _ (y) _ e0).mono ?_)
 rintro e w3 ⟨rfl,hb3⟩
 have iY:=(bM.to hb3)
 obtain⟨m0,p0,s0,v0⟩:=iY.cs4
 go_wp2_with fail
 have b4r:=((((k1.below hA1).below hb1).below hb2).below hb3)
 have f0:=b4r.raw
 have b4s:=(YH.below hb3)
 have g0:=b4s.raw
 (with_reducible refine(MB _ _ (x) (y) _ f0 g0 (by omega) (by omega)).mono ?_)
 rintro e w4 ⟨v4,rfl,hi4,hb4⟩
 obtain⟨g4,p4,n4,c4,rfl⟩:=hi4.form
 go_wp2_with fail
 (with_reducible refine(DK _ _ (by omega) (by omega)).mono ?_)
 rintro e w5 ⟨v5,rfl,hi5,hb5⟩
 obtain⟨g5,p5,n5,c5,rfl⟩:=hi5.form
 go_wp2_with fail
 have j0:=(hi4.below hb5)
 have h0:=j0.raw
 have i0:=hi5.raw
 (with_reducible refine(wF _ _ ((Int.gcd (x) (y):Int)) (1) _ h0 i0).mono ?_)
 rintro e w6 ⟨rfl,hb6⟩
 have a0:=(Below.tr (Below.tr (Below.tr (Below.tr (Below.tr (Below.tr (Below.tr aZ hA1) hb1) hb2) hb3) hb4) hb5) hb6)
 go_wp2_with fail
 go_ret
 exact⟨gJ HX.out,a0⟩
theorem xG (v:Value) (ok:Bool) (q:Rat) (w:World) (h:fH w v ok q) (hn:Qn v 1000000000) :
  Calls Tryz.prog 126 #[v] w fun e w'=>e=.returned (.bool ok)/\Below w.heap.size w w':=by
 obtain⟨b,s,c,t,o1,o2,x,y,e,h1,h2,rfl,_⟩:=h
 obtain⟨b1,p1,n1,c1,b2,p2,n2,c2,e1,l1,l2⟩:=hn
 rw[e1] at e
 cases e
 subst e1
 have l3:=h1.raw.len
 have l4:=h2.raw.len
 cases o1
 ·cases o2
  ·exact a3c x y w _ _ _ _ _ _ _ _ h1 h2 (by omega) (by omega)
  ·exact a3d x y w _ _ _ _ _ _ _ _ h1 h2 (by omega) (by omega)
 ·cases o2
  ·exact a3e x y w _ _ _ _ _ _ _ _ h1 h2 (by omega) (by omega)
  ·by_cases hd:0<y
   ·exact a3g x y w _ _ _ _ _ _ _ _ h1 h2 (by omega) (by omega) hd
   ·exact a3f x y w _ _ _ _ _ _ _ _ h1 h2 (by omega) (by omega) hd
theorem a0l (v:Value) (q:Rat) (w:World) (h:RQ w v q) (hl:rsz q<=1000000000) :
  Calls Tryz.prog 250 #[v] w (GQ q w):=by
 obtain⟨b,p,n,c,d,o,m,e,rfl⟩:=h.form
 have b1:=dO q
 have b2:=dI q
 have b3:isz (-q.num)<=1000000000:=by rw[lS];omega
 have b4:isz (-(q.den:Int))<=1000000000:=by rw[lS];omega
 have aZ:Below w.heap.size w w:=bg _ _
 go_enter Tryz.func250,Tryz.ntmps250
 go_wp2_with fail
 obtain⟨hA1,l0,i0⟩:=bx2 w rfl [.bool b,.slice p n c,.bool d,.slice o m e] 47 [.bool false,.slice none 0 0,.bool false,.slice none 0 0] 47
 have vZ:=(aK.mk (l0.drew).bs4 (BN.of (i0.drew)))
 have j0:dB (w.heap.size+1) (aK (BS4 w.heap.size (.bool b) (.slice p n c) (.bool d) (.slice o m e)) (BN (w.heap.size+1))):=(aK.hc (BS4.hc (by omega)) BN.hc)
 have tk1:True:=trivial
 have tk2:True:=trivial
 have tk3:True:=trivial
 have tk4:True:=trivial
 go_region_held3 (aK (BS4 w.heap.size (.bool b) (.slice p n c) (.bool d) (.slice o m e)) (BN (w.heap.size+1))) (first|with_reducible exact vZ|with_reducible exact fG.go (aK.hk BS4.hk BN.hk) (by assumption) (by assumption)|with_reducible exact dB.go4 j0 (by assumption)|(simp;done))
  (first
   | (((have:=tk1);clear tk1;have m0:=(h.below hA1).drew.num.raw;go_at_call 97;(with_reducible refine(tX _ ((q).num) _ m0 (by omega)).mono ?_);rintro e w1 ⟨v1,rfl,hi1,hb1⟩;obtain⟨g1,p1,n1,c1,rfl⟩:=hi1.form))
   | (((have:=tk2);clear tk2;have n0:=hi1.raw;go_at_call 97;(with_reducible refine(tX _ (-(((q).num))) _ n0 (by omega)).mono ?_);rintro e w2 ⟨v2,rfl,hi2,hb2⟩;obtain⟨g2,p2,n2,c2,rfl⟩:=hi2.form))
   | (((have:=tk3);clear tk3;have h_2:=(((h.below hA1).drew.below hb1).below hb2);have o0:=h_2.den.raw;go_at_call 97;(with_reducible refine(tX _ (((q).den:Int)) _ o0 (by omega)).mono ?_);rintro e w3 ⟨v3,rfl,hi3,hb3⟩;obtain⟨g3,p3,n3,c3,rfl⟩:=hi3.form))
   | (((have:=tk4);clear tk4;have p0:=hi3.raw;go_at_call 97;(with_reducible refine(tX _ (-((((q).den:Int)))) _ p0 (by omega)).mono ?_);rintro e w4 ⟨v4,rfl,hi4,hb4⟩;obtain⟨g4,p4,n4,c4,rfl⟩:=hi4.form;have jJ:=((((i0.drew.to hb1).to hb2).to hb3).to hb4);obtain⟨a0,e0,b0,f0,c0,g0,d0,h0⟩:=jJ.cf4)))
 have q0:=((hi2.below hb3).below hb4)
 have k0:=(Below.tr (Below.tr (Below.tr (Below.tr (Below.tr aZ hA1).drew hb1) hb2) hb3) hb4)
 go_wp2_with fail
 exact iw (v:=.agg #[.bool g2,.slice p2 n2 c2,.bool g4,.slice p4 n4 c4]) (by simp[results,Tryz.results250,go_sem,a0,e0,b0,f0,c0,g0,d0,h0]) rfl ⟨_,rfl,RQ.mk' (q0.aU jJ rfl rfl rfl rfl (.bool g2) (.slice p2 n2 c2) (.bool g4) (.slice p4 n4 c4)) (hi4.aU jJ rfl rfl rfl rfl (.bool g2) (.slice p2 n2 c2) (.bool g4) (.slice p4 n4 c4)) (Int.neg_neg _) (Int.neg_neg _),(Below.aU k0 (b:=w.heap.size+1) (by omega) (.bool g2) (.slice p2 n2 c2) (.bool g4) (.slice p4 n4 c4))⟩
theorem DT (k:Int) (w:World) (h0:-9223372036854775808<=k) (h1:k<=9223372036854775807) :
  Calls Tryz.prog 90 #[.int .i64 k] w (GQ (k:Rat) w):=by
 have aZ:Below w.heap.size w w:=bg _ _
 go_enter Tryz.func90,Tryz.ntmps90
 go_wp2_with fail
 (with_reducible refine(DK _ _ (by omega) (by omega)).mono ?_)
 rintro e w1 ⟨v1,rfl,hi1,hb1⟩
 obtain⟨g1,p1,n1,c1,rfl⟩:=hi1.form
 go_wp2_with fail
 (with_reducible refine(DK _ _ (by omega) (by omega)).mono ?_)
 rintro e w2 ⟨v2,rfl,hi2,hb2⟩
 obtain⟨g2,p2,n2,c2,rfl⟩:=hi2.form
 obtain⟨hA1,k0⟩:=bx1 w rfl [.bool false,.slice none 0 0,.bool false,.slice none 0 0] 47
 have bM:=((k0.to hb1).to hb2)
 obtain⟨a0,e0,b0,f0,c0,g0,d0,i0⟩:=bM.cf4
 have l0:=(hi1.below hb2)
 have j0:=(Below.tr (Below.tr (Below.tr aZ hA1) hb1) hb2)
 go_wp2_with fail
 exact iw (v:=.agg #[.bool g1,.slice p1 n1 c1,.bool g2,.slice p2 n2 c2]) (by simp[results,Tryz.results90,go_sem,a0,e0,b0,f0,c0,g0,d0,i0]) rfl ⟨_,rfl,RQ.mk' (l0.aU bM rfl rfl rfl rfl (.bool g1) (.slice p1 n1 c1) (.bool g2) (.slice p2 n2 c2)) (hi2.aU bM rfl rfl rfl rfl (.bool g1) (.slice p1 n1 c1) (.bool g2) (.slice p2 n2 c2)) (YE k).symm (by rw[YD];rfl),(Below.aU j0 (b:=w.heap.size) (by omega) (.bool g1) (.slice p1 n1 c1) (.bool g2) (.slice p2 n2 c2))⟩
theorem a1E (v:Value) (q:Rat) (w:World) (h:fH w v true q) (hn:Qn v 1000000000) :
  Calls Tryz.prog 178 #[v] w (GQ q w):=by
 obtain⟨b,p,n,c,d,o,m,e,rfl⟩:=h.form
 have hl:=h.jK hn (by omega)
 have aZ:Below w.heap.size w w:=bg _ _
 go_enter Tryz.func178,Tryz.ntmps178
 go_wp2_with fail
 obtain⟨hA1,j0,k0⟩:=bx2 w rfl [.bool b,.slice p n c,.bool d,.slice o m e] 47 [.bool false,.slice none 0 0,.bool false,.slice none 0 0] 47
 have l0:=(h.below hA1)
 (with_reducible refine(xG _ _ _ _ l0 hn).mono ?_)
 rintro e w1 ⟨rfl,hb1⟩
 have bT:=(j0.to hb1)
 obtain⟨n0,o0,p0,q0⟩:=bT.cs4
 go_wp2_with fail
 have h_1:=((h.below hA1).below hb1)
 have m0:=h_1.rq
 (with_reducible refine(a0l _ (q) _ m0 (by omega)).mono ?_)
 rintro e w2 ⟨v2,rfl,hi2,hb2⟩
 obtain⟨g2,p2,n2,c2,h2,o2,m2,e2,rfl⟩:=hi2.form
 have bJ:=((k0.to hb1).to hb2)
 obtain⟨a0,e0,b0,f0,c0,g0,d0,h0⟩:=bJ.cf4
 have i0:=(Below.tr (Below.tr (Below.tr aZ hA1) hb1) hb2)
 go_wp2_with fail
 exact iw (v:=.agg #[.bool g2,.slice p2 n2 c2,.bool h2,.slice o2 m2 e2]) (by simp[results,Tryz.results178,go_sem,a0,e0,b0,f0,c0,g0,d0,h0]) rfl ⟨_,rfl,(hi2.aU bJ rfl rfl rfl rfl (.bool g2) (.slice p2 n2 c2) (.bool h2) (.slice o2 m2 e2)),(Below.aU i0 (b:=w.heap.size+1) (by omega) (.bool g2) (.slice p2 n2 c2) (.bool h2) (.slice o2 m2 e2))⟩
theorem ZP (v:Value) (q:Rat) (w:World) (h:fH w v false q) (hn:Qn v 1000000000) :
  Calls Tryz.prog 178 #[v] w (GQ q w):=by
 obtain⟨b,p,n,c,d,o,m,e,rfl⟩:=h.form
 have hl:=h.jK hn (by omega)
 have HX:Hid (q=((0:Int):Rat)):=by unfold Hid;rw[h.no];rfl
 have aZ:Below w.heap.size w w:=bg _ _
 go_enter Tryz.func178,Tryz.ntmps178
 go_wp2_with fail
 obtain⟨hA1,l0,j0⟩:=bx2 w rfl [.bool b,.slice p n c,.bool d,.slice o m e] 47 [.bool false,.slice none 0 0,.bool false,.slice none 0 0] 47
 have k0:=(h.below hA1)
 (with_reducible refine(xG _ _ _ _ k0 hn).mono ?_)
 rintro e w1 ⟨rfl,hb1⟩
 go_wp2_with fail
 (with_reducible refine(DT _ _ (by omega) (by omega)).mono ?_)
 rintro e w2 ⟨v2,rfl,hi2,hb2⟩
 obtain⟨g2,p2,n2,c2,h2,o2,m2,e2,rfl⟩:=hi2.form
 have bJ:=((j0.to hb1).to hb2)
 obtain⟨a0,e0,b0,f0,c0,g0,d0,h0⟩:=bJ.cf4
 have i0:=(Below.tr (Below.tr (Below.tr aZ hA1) hb1) hb2)
 go_wp2_with fail
 exact iw (v:=.agg #[.bool g2,.slice p2 n2 c2,.bool h2,.slice o2 m2 e2]) (by simp[results,Tryz.results178,go_sem,a0,e0,b0,f0,c0,g0,d0,h0]) rfl ⟨_,rfl,by rw[HX.out];exact(hi2.aU bJ rfl rfl rfl rfl (.bool g2) (.slice p2 n2 c2) (.bool h2) (.slice o2 m2 e2)),(Below.aU i0 (b:=w.heap.size+1) (by omega) (.bool g2) (.slice p2 n2 c2) (.bool h2) (.slice o2 m2 e2))⟩
theorem gY (v:Value) (ok:Bool) (q:Rat) (w:World) (h:fH w v ok q) (hn:Qn v 1000000000) :
  Calls Tryz.prog 178 #[v] w (GQ q w):=by
 cases ok
 ·exact ZP v q w h hn
 ·exact a1E v q w h hn
structure iT (F:Nat->Prop) (w w':World):Prop where
 blk:∀ b,F b->w'.heap[b]?=w.heap[b]?
 dig:∀ b o n,w.cell? ⟨b,o,none⟩=some (.int .u32 n)->w'.cell? ⟨b,o,none⟩=some (.int .u32 n)
 size:w.heap.size<=w'.heap.size
theorem iT.refl (F:Nat->Prop) (w:World):iT F w w:=⟨fun _ _=>rfl,fun _ _ _ h=>h,ak _⟩
theorem iT.trans {F:Nat->Prop} {a b c:World} (h:iT F a b) (k:iT F b c):iT F a c :=
 ⟨fun q hq=>(k.blk q hq).trans (h.blk q hq),fun q o n hc=>k.dig q o n (h.dig q o n hc),iq h.size k.size⟩
theorem iT.less {F F':Nat->Prop} {a b:World} (h:iT F' a b) (hF:∀ q,F q->F' q):iT F a b:=⟨fun q hq=>h.blk q (hF q hq),h.dig,h.size⟩
theorem cell_lt {w:World} {b o:Nat} {v:Value} (h:w.cell? ⟨b,o,none⟩=some v):b<w.heap.size:=by
 simp only[World.cell?] at h
 by_cases hb:b<w.heap.size
 ·exact hb
 ·grind
theorem iT.below {F:Nat->Prop} {w w':World} (h:Below w.heap.size w w') (hF:∀ q,F q->q<w.heap.size):iT F w w' :=
 ⟨fun q hq=>h.block q (hF q hq),fun b o n hc=>(h.cell (p:=⟨b,o,none⟩) (cell_lt hc)).trans hc,h.size⟩
theorem Rd.stay {F:Nat->Prop} {w w':World} {s:Value} {l:List Nat} (h:Rd w s l) (hs:iT F w w'):Rd w' s l:=by
 rcases h with h|⟨b,o,c,h1,h2,h3,h4,h5⟩
 ·exact .inl h
 ·exact .inr ⟨b,o,c,h1,h2,h3,ni h4 hs.size,fun i hi=>hs.dig _ _ _ (h5 i hi)⟩
theorem bW.stay {F:Nat->Prop} {w w':World} {v:Value} {x:Int} (h:bW w v x) (hs:iT F w w'):bW w' v x:=by
 obtain⟨s,h1,h2⟩:=h
 exact⟨s,h1,h2.stay hs⟩
theorem RQ.stay {F:Nat->Prop} {w w':World} {v:Value} {x:Rat} (h:RQ w v x) (hs:iT F w w'):RQ w' v x:=by
 obtain⟨b,s,c,t,h1,h2,h3⟩:=h
 exact⟨b,s,c,t,h1,h2.stay hs,h3.stay hs⟩
theorem fC.stay {F:Nat->Prop} {w w':World} {v:Value} {ok:Bool} {x:Int} (h:fC w v ok x) (hs:iT F w w'):fC w' v ok x:=by
 obtain⟨neg,s,l,h1,h2,h3⟩:=h
 exact⟨neg,s,l,h1,h2.stay hs,h3⟩
theorem fH.stay {F:Nat->Prop} {w w':World} {v:Value} {ok:Bool} {x:Rat} (h:fH w v ok x) (hs:iT F w w'):fH w' v ok x:=by
 obtain⟨b,s,c,t,o1,x1,o2,x2,h1,h2,h3,h4⟩:=h
 exact⟨b,s,c,t,o1,x1,o2,x2,h1,h2.stay hs,h3.stay hs,h4⟩
structure WM where
 ok:Bool
 x:Int
 g:List Nat
structure aF where
 ok:Bool
 x:Rat
 g:List Nat
 h:List Nat
abbrev WM.n (x:WM):Nat:=x.g.length
abbrev aF.n (x:aF):Nat:=x.g.length
abbrev aF.m (x:aF):Nat:=x.h.length
inductive Lf where
 | rat
 | big
 | iZ
 | FN
 | str
 | grp
 | gsl
 | LC
 | esl
 deriving DecidableEq
def Lf.den:Lf->Type
 | .rat=>Rat
 | .big=>Int
 | .iZ=>aF
 | .FN=>WM
 | .str=>ByteArray
 | .grp=>List Nat
 | .gsl=>List Nat
 | .LC=>Nat
 | .esl=>Unit
def Lf.n:Lf->Nat
 | .rat=>4
 | .big=>2
 | .iZ=>4
 | .FN=>2
 | .str=>1
 | .grp=>2
 | .gsl=>1
 | .LC=>1
 | .esl=>1
def Lf.agg:Lf->Bool
 | .str=>false
 | .gsl=>false
 | .LC=>false
 | .esl=>false
 | _=>true
def Lf.zero:(l:Lf)->l.den
 | .rat=>(0:Rat)
 | .big=>(0:Int)
 | .iZ=>⟨false,0,[],[]⟩
 | .FN=>⟨true,0,[]⟩
 | .str=>ByteArray.empty
 | .grp=>[]
 | .gsl=>[]
 | .LC=>(0:Nat)
 | .esl=>()
def Lf.rep (w:World) (cs:List Value):(l:Lf)->l.den->Prop
 | .rat,x=>RQ w (.agg cs.toArray) x
 | .big,x=>bW w (.agg cs.toArray) x
 | .iZ,x=>∃ b p c b' p' c',cs=[.bool b,.slice p x.n c,.bool b',.slice p' x.m c']/\fH w (.agg cs.toArray) x.ok x.x/\Rd w (.slice p x.n c) x.g/\Rd w (.slice p' x.m c') x.h
 | .FN,x=>∃ b p c,cs=[.bool b,.slice p x.n c]/\fC w (.agg cs.toArray) x.ok x.x/\Rd w (.slice p x.n c) x.g
 | .str,x=>cs=[.string x]
 | .grp,x=>∃ b s,cs=[.bool b,s]/\Rd w s x
 | .gsl,x=>∃ s,cs=[s]/\Rd w s x
 | .LC,x=>∃ b o,cs=[.pointer (some ⟨b,o,none⟩)]/\w.cell? ⟨b,o,none⟩=some (.int .u32 (Nat.cast (R:=Int) x))
 | .esl,_=>∃ b,cs=[.slice (some ⟨b,0,none⟩) 0 0]
inductive Ty where
 | bool
 | int (k:IntKind)
 | lf (l:Lf)
 | list (t:Ty)
 | arr (n:Nat) (t:Ty)
 | pair (a b:Ty)
 | unit
 | ref (t:Ty)
 | clo (f:Nat) (t:Ty)
 | nls (t:Ty)
 deriving DecidableEq
def Ty.den:Ty->Type
 | .bool=>Bool
 | .int _=>Int
 | .lf l=>l.den
 | .list t=>List t.den
 | .arr _ t=>List t.den
 | .pair a b=>a.den × b.den
 | .unit=>Unit
 | .ref t=>t.den
 | .clo _ t=>t.den
 | .nls t=>Option (List t.den)
def Ty.n:Ty->Nat
 | .lf l=>l.n
 | .arr n t=>n*t.n
 | .pair a b=>a.n+b.n
 | .unit=>0
 | _=>1
def Ty.agg:Ty->Bool
 | .lf l=>l.agg
 | .arr _ _=>true
 | .pair _ _=>true
 | .unit=>true
 | _=>false
def chunks {α:Type} (R:List Value->α->Prop):List Value->List α->Prop
 | cs,[]=>cs=[]
 | cs,y::ys=>∃ c1 c2,cs=c1++c2/\R c1 y/\chunks R c2 ys
def rep (F:Nat->Prop) (w:World):(t:Ty)->List Value->t.den->Prop
 | .bool,cs,x=>cs=[.bool x]
 | .int k,cs,x=>cs=[.int k x]
 | .lf l,cs,x=>Lf.rep w cs l x
 | .list t,cs,x=>∃ p c,cs=[.slice p (List.length (α:=t.den) x) c]/\List.length (α:=t.den) x<=c/\c<=9223372036854775807/\((x:List t.den)=[]\/∃ b o ds,p=some ⟨b,o,none⟩/\F b/\w.rangeAt b o ds/\chunks (rep F w t) ds x)
 | .arr n t,cs,x=>List.length (α:=t.den) x=n/\chunks (rep F w t) cs x
 | .pair a b,cs,x=>∃ c1 c2,cs=c1++c2/\rep F w a c1 x.1/\rep F w b c2 x.2
 | .unit,cs,_=>cs=[]
 | .ref t,cs,x=>∃ b o ds,cs=[.pointer (some ⟨b,o,none⟩)]/\F b/\w.rangeAt b o ds/\rep F w t ds x
 | .clo f t,cs,x=>∃ ds,cs=[.func (.func f) #[] ds.toArray]/\rep F w t ds x
 | .nls t,cs,x=>(x=(none:Option (List t.den))/\cs=[.slice none 0 0])\/∃ (ys:List t.den) (b o c:Nat) (ds:List Value),x=some ys/\cs=[.slice (some ⟨b,o,none⟩) ys.length c]/\ys.length<=c/\c<=9223372036854775807/\(ys=[]\/F b/\w.rangeAt b o ds/\chunks (rep F w t) ds ys)
theorem aS {α:Type} {R R':List Value->α->Prop} (h:∀ c y,R c y->R' c y):∀ (xs:List α) (cs:List Value),chunks R cs xs->chunks R' cs xs
 | [],_,hc=>hc
 | _::xs,_,⟨c1,c2,h1,h2,h3⟩=>⟨c1,c2,h1,h _ _ h2,aS h xs c2 h3⟩
theorem wQ {F:Nat->Prop} {w w':World} (hs:iT F w w') {b o:Nat} {ds:List Value} (hF:F b) (h:w.rangeAt b o ds):w'.rangeAt b o ds:=fun j v hv=>(Bv (w:=w) (hs.blk b hF)).trans (h j v hv)
theorem Lf.stay {F:Nat->Prop} {w w':World} (hs:iT F w w') {cs:List Value}:{l:Lf}->{x:l.den}->Lf.rep w cs l x->Lf.rep w' cs l x
 | .rat,_,h=>RQ.stay h hs
 | .big,_,h=>bW.stay h hs
 | .iZ,_,⟨b,p,c,b',p',c',h1,h2,h3,h4⟩=>⟨b,p,c,b',p',c',h1,h2.stay hs,h3.stay hs,h4.stay hs⟩
 | .FN,_,⟨b,p,c,h1,h2,h3⟩=>⟨b,p,c,h1,h2.stay hs,h3.stay hs⟩
 | .str,_,h=>h
 | .grp,_,⟨b,s,h1,h2⟩=>⟨b,s,h1,h2.stay hs⟩
 | .gsl,_,⟨s,h1,h2⟩=>⟨s,h1,h2.stay hs⟩
 | .LC,_,⟨b,o,h1,h2⟩=>⟨b,o,h1,hs.dig _ _ _ h2⟩
 | .esl,_,h=>h
theorem bK {F F':Nat->Prop} {w w':World} (hF:∀ b,F b->F' b) (hs:iT F w w'):(t:Ty)->(cs:List Value)->(x:t.den)->rep F w t cs x->rep F' w' t cs x
 | .bool,_,_,h=>h
 | .int _,_,_,h=>h
 | .lf _,_,_,h=>Lf.stay hs h
 | .list t,_,x,⟨p,c,h1,h2,h3,h4⟩=>⟨p,c,h1,h2,h3,h4.imp id fun⟨b,o,ds,k1,k2,k3,k4⟩=>⟨b,o,ds,k1,hF b k2,wQ hs k2 k3,aS (fun c y=>bK hF hs t c y) _ _ k4⟩⟩
 | .arr n t,_,_,⟨h1,h2⟩=>⟨h1,aS (fun c y=>bK hF hs t c y) _ _ h2⟩
 | .pair a b,_,_,⟨c1,c2,h1,h2,h3⟩=>⟨c1,c2,h1,bK hF hs a _ _ h2,bK hF hs b _ _ h3⟩
 | .unit,_,_,h=>h
 | .ref t,_,_,⟨b,o,ds,h1,h2,h3,h4⟩=>⟨b,o,ds,h1,hF b h2,wQ hs h2 h3,bK hF hs t _ _ h4⟩
 | .clo _ t,_,_,⟨ds,h1,h2⟩=>⟨ds,h1,bK hF hs t _ _ h2⟩
 | .nls t,_,_,h=>h.imp id fun⟨ys,b,o,c,ds,h1,h2,h3,h4,h5⟩=>⟨ys,b,o,c,ds,h1,h2,h3,h4,h5.imp id fun⟨k2,k3,k4⟩=>⟨hF b k2,wQ hs k2 k3,aS (fun c y=>bK hF hs t c y) _ _ k4⟩⟩
theorem Lf.len {w:World} {cs:List Value}:{l:Lf}->{x:l.den}->Lf.rep w cs l x->cs.length=l.n
 | .rat,_,h=>by
  obtain⟨_,_,_,_,h1,_⟩:=h
  rw[Value.agg.injEq] at h1
  have:=zl Array.size h1
  simpa [Lf.n] using this
 | .big,_,h=>by
  obtain⟨_,h1,_⟩:=h
  rw[Value.agg.injEq] at h1
  have:=zl Array.size h1
  simpa [Lf.n] using this
 | .iZ,_,⟨_,_,_,_,_,_,h1,_⟩=>by rw[h1];rfl
 | .FN,_,⟨_,_,_,h1,_⟩=>by rw[h1];rfl
 | .str,_,h=>by rw[show cs=_ from h];rfl
 | .grp,_,⟨_,_,h1,_⟩=>by rw[h1];rfl
 | .gsl,_,⟨_,h1,_⟩=>by rw[h1];rfl
 | .LC,_,⟨_,_,h1,_⟩=>by rw[h1];rfl
 | .esl,_,⟨_,h1⟩=>by rw[h1];rfl
theorem lX {α:Type} {R:List Value->α->Prop} {n:Nat} (h:∀ c y,R c y->c.length=n):∀ (xs:List α) (cs:List Value),chunks R cs xs->cs.length=xs.length*n
 | [],cs,hc=>by rw[show cs=[] from hc];simp
 | _::xs,_,⟨c1,c2,h1,h2,h3⟩=>by rw[h1,dw,h _ _ h2,lX h xs c2 h3,List.length_cons,zn,Dx]
theorem dH {F:Nat->Prop} {w:World}:(t:Ty)->(cs:List Value)->(x:t.den)->rep F w t cs x->cs.length=t.n
 | .bool,_,_,h=>by rw[show _=_ from h];rfl
 | .int _,_,_,h=>by rw[show _=_ from h];rfl
 | .lf _,_,_,h=>Lf.len h
 | .list t,_,x,⟨p,c,h1,_⟩=>by rw[h1];rfl
 | .arr n t,_,_,⟨h1,h2⟩=>by rw[lX (fun c y=>dH t c y) _ _ h2,h1];rfl
 | .pair a b,_,_,⟨c1,c2,h1,h2,h3⟩=>by rw[h1,dw,dH a _ _ h2,dH b _ _ h3];rfl
 | .unit,_,_,h=>by rw[show _=_ from h];rfl
 | .ref t,_,_,⟨b,o,ds,h1,_⟩=>by rw[h1];rfl
 | .clo _ t,_,_,⟨ds,h1,_⟩=>by rw[h1];rfl
 | .nls t,_,_,h=>by rcases h with⟨_,rfl⟩|⟨ys,b,o,c,ds,_,rfl,_⟩<;>rfl
def bV (v:Value):Bool:=v.oneCell'&&aX v
def Ty.still:Ty->Bool
 | .int .u32=>false
 | .arr _ t=>t.still
 | .pair a b=>a.still&&b.still
 | _=>true
theorem Lf.ok {w:World} {cs:List Value}:{l:Lf}->{x:l.den}->Lf.rep w cs l x->∀ v ∈ cs,bV v=true
 | .rat,_,h=>by
  obtain⟨b,p,n,c,b',p',n',c',h1⟩:=RQ.form h
  rw[Value.agg.injEq] at h1
  rw[show cs=[.bool b,.slice p n c,.bool b',.slice p' n' c'] by simpa using zl Array.toList h1]
  simp[bV,aX,Value.oneCell']
 | .big,_,h=>by
  obtain⟨b,p,n,c,h1⟩:=bW.form h
  rw[Value.agg.injEq] at h1
  rw[show cs=[.bool b,.slice p n c] by simpa using zl Array.toList h1]
  simp[bV,aX,Value.oneCell']
 | .iZ,_,⟨_,_,_,_,_,_,h1,_⟩=>by rw[h1];simp[bV,aX,Value.oneCell']
 | .FN,_,⟨_,_,_,h1,_⟩=>by rw[h1];simp[bV,aX,Value.oneCell']
 | .str,_,h=>by rw[show cs=_ from h];simp[bV,aX,Value.oneCell']
 | .grp,_,⟨_,s,h1,h2⟩=>by
  obtain⟨p,c,rfl,_⟩:=h2.form
  rw[h1];simp[bV,aX,Value.oneCell']
 | .gsl,_,⟨s,h1,h2⟩=>by
  obtain⟨p,c,rfl,_⟩:=h2.form
  rw[h1];simp[bV,aX,Value.oneCell']
 | .LC,_,⟨_,_,h1,_⟩=>by rw[h1];simp[bV,aX,Value.oneCell']
 | .esl,_,⟨_,h1⟩=>by rw[h1];simp[bV,aX,Value.oneCell']
theorem zU {α:Type} {R:List Value->α->Prop} {p:Value->Bool} (h:∀ c y,R c y->∀ v ∈ c,p v=true):∀ (xs:List α) (cs:List Value),chunks R cs xs->∀ v ∈ cs,p v=true
 | [],cs,hc=>by rw[show cs=[] from hc];simp
 | _::xs,_,⟨c1,c2,h1,h2,h3⟩=>by
  rw[h1]
  intro v hv
  rcases tu.1 hv with hv|hv
  ·grind
  ·exact zU h xs c2 h3 v hv
theorem wS {F:Nat->Prop} {w:World}:(t:Ty)->t.still=true->(cs:List Value)->(x:t.den)->rep F w t cs x->∀ v ∈ cs,bV v=true
 | .bool,_,_,_,h=>by rw[show _=_ from h];simp[bV,aX,Value.oneCell']
 | .int k,hk,_,_,h=>by
  rw[show _=_ from h]
  cases k<;>simp_all [bV,aX,Value.oneCell',Ty.still]
 | .lf _,_,_,_,h=>Lf.ok h
 | .list t,_,_,x,⟨p,c,h1,_⟩=>by rw[h1];simp[bV,aX,Value.oneCell']
 | .arr n t,hk,_,_,⟨h1,h2⟩=>zU (fun c y=>wS t hk c y) _ _ h2
 | .pair a b,hk,_,_,⟨c1,c2,h1,h2,h3⟩=>by
  simp only[Ty.still,aj] at hk
  rw[h1]
  intro v hv
  rcases tu.1 hv with hv|hv
  ·exact wS a hk.1 _ _ h2 v hv
  ·exact wS b hk.2 _ _ h3 v hv
 | .unit,_,_,_,h=>by rw[show _=_ from h];simp
 | .ref t,_,_,_,⟨b,o,ds,h1,_⟩=>by rw[h1];simp[bV,aX,Value.oneCell']
 | .clo _ t,_,_,_,⟨ds,h1,_⟩=>by rw[h1];simp[bV,aX,Value.oneCell']
 | .nls t,_,_,_,h=>by rcases h with⟨_,rfl⟩|⟨ys,b,o,c,ds,_,rfl,_⟩<;>simp[bV,aX,Value.oneCell']
def Ty.zero:(t:Ty)->t.den
 | .bool=>false
 | .int _=>(0:Int)
 | .lf l=>l.zero
 | .list _=>[]
 | .arr n t=>List.replicate n t.zero
 | .pair a b=>(a.zero,b.zero)
 | .unit=>()
 | .ref t=>t.zero
 | .clo _ t=>t.zero
 | .nls _=>none
theorem TL {α:Type} {R:List Value->α->Prop} {n:Nat} (h:∀ c y,R c y->c.length=n):∀ (xs:List α) (cs:List Value),chunks R cs xs->∀ (i:Nat) (d:α),i<xs.length->∃ c,(cs.drop (i*n)).take n=c/\R c (xs.getD i d)
 | x::xs,_,⟨c1,c2,h1,h2,h3⟩,0,d,_=>⟨c1,by rw[h1,Nat.zero_mul,List.drop_zero,<-h _ _ h2,Bj],h2⟩
 | x::xs,_,⟨c1,c2,h1,h2,h3⟩,i+1,d,hi=>by
  obtain⟨c,k1,k2⟩:=TL h xs c2 h3 i d (by simpa using hi)
  refine⟨c,?_,k2⟩
  rw[h1,zn,Dx,<-Dh,<-h _ _ h2,Ac,h _ _ h2]
  exact k1
theorem wP {w:World} {b o:Nat} {ds:List Value} (h:w.rangeAt b o ds) (k n:Nat):w.rangeAt b (o+k) ((ds.drop k).take n):=fun j v hv=>by
 have h1:ds[k+j]?=some v:=by
  rw[List.getElem?_take] at hv
  split at hv
  ·grind
  ·cases hv
 have:=h (k+j) v h1
 grind
end Go.Proofs.YtbkocjmmbkifjaaGreat
