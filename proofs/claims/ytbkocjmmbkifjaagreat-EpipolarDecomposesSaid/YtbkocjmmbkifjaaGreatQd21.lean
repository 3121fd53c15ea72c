/-
  Lemmas for the theorem vdecomposes28_holds, part 21 of 34.
-/
import Derived.Test.YtbkocjmmbkifjaaGreatQd20
namespace Go.Proofs.YtbkocjmmbkifjaaGreat
open Go Go.RowKit
set_option maxRecDepth 100000
set_option maxHeartbeats 4000000
set_option linter.unusedSimpArgs false
set_option linter.unusedVariables false
theorem b1s (n:Int) (w:World) (h0:-9223372036854775808<=n) (h1:n<=9223372036854775807) (h:n<0) :
  Calls Tryz.prog 33 #[.int .i64 n] w (vH n w):=by
 obtain⟨i0,hi,hz0,hz1,hz2⟩:=zl gJ
 obtain⟨j,rfl⟩:∃ j:Nat,n=-((j:Int)+1):=⟨(-n-1).toNat,by omega⟩
 have hj:j<=9223372036854775807:=by omega
 have e1:-((j:Int)+1)+1=-(j:Int):=by omega
 have hlt:decide (-((j:Int)+1)<0)=true:=jf (by omega)
 obtain⟨k0,hk0⟩:∃ k0,j+1=k0:=⟨_,rfl⟩
 have HX:Hid (sg true (val (dig k0))=-((j:Int)+1)):=by unfold Hid;rw[aT,<-hk0];simp[sg]
 have hk1:k0<=9223372036854775808:=by omega
 have hk2:(j:Int)+1=k0:=by omega
 obtain⟨z,hz⟩:∃ z:Int,-((j:Int)+1)=z:=⟨_,rfl⟩
 rw[hz] at e1 hlt HX h0 h1 ⊢
 clear hk0 hz h
 have hlen:Hid ((dig k0).length<=3):=dU (by rw[bM];omega)
 have hO:=wS w [.bool false,.slice none 0 0] 45
 have hB0:Below (w.heap.size+1) (w.alloc (.cells #[.bool false,.slice none 0 0] 45)) ((w.alloc (.cells #[.bool false,.slice none 0 0] 45)).alloc (.cells #[] 148)):=(dh _ _).alloc (by simp) _
 go_enter Tryz.func33,Tryz.ntmps33
 go_wp2_with fail
 go_loopw [3,4,15,16,17,18,19,20,21,22,23,24] (fun m v _ _ _ _ _ _ _ _ _ _ wr=>∃ (k:Nat) (l:List Nat),k<=9223372036854775808/\m=.int .u64 (k:Nat)/\Hid (l++dig k=dig k0)/\wr.ownsRow (w.heap.size+1) 148 1 v l.length (cells32 l)/\Below (w.heap.size+1) (w.alloc (.cells #[.bool false,.slice none 0 0] 45)) wr) (fun m _ _ _ _ _ _ _ _ _ _ _ _=>(intOf m).toNat)
 case atStart=>exact⟨k0,[],hk1,by first|rfl|rw[hk2]|simp[hk2],by simp[Hid],hO,hB0⟩
 case round =>
  obtain⟨k,l,hk,rfl,hl,hown,hB⟩:=hrel
  have hsz:w.heap.size+1<=wr.heap.size:=by have:=hB.size;simpa using this
  by_cases hk0':0<k
  ·have HS:=bg (wI hk0' hl.out)
   have hll:l.length<=2:=by
    have h1:=ql List.length hl.out
    have h2:=hlen.out
    rw[dn,oJ (by omega:k≠0),List.length_cons] at h1
    omega
   go_wp2_with (at_builtin;refine xw _ rfl _ _ 43 rfl (w.heap.size+1) 148 i0 (.int .u32 0) 1 4 jg hi hz0 hz1 hz2 rfl (by decide) _ _ _ rfl (hown.alloc _) ⟨wr.heap.size,0,none⟩ 1 1 [.int .u32 ((k%1000000000:Nat):Int)] rfl rfl (cell_one_new _ _ _) (by simp[Value.oneCell']) (by unfold maxLen;omega) (by omega) (by simp;omega) ?_)
   intro v' w1 hown' hgrow _
   have hown2:w1.ownsRow (w.heap.size+1) 148 1 v' (l++[k%1000000000]).length (cells32 (l++[k%1000000000])):=by
    rw[dn,List.length_singleton]
    have:cells32 (l++[k%1000000000])=cells32 l++[.int .u32 ((k%1000000000:Nat):Int)]:=by simp[cells32]
    rw[this];exact hown'
   have hB1:Below (w.heap.size+1) (w.alloc (.cells #[.bool false,.slice none 0 0] 45)) w1:=(hB.alloc hsz _).grown hgrow (by simp;omega) (fun j e=>(hown.lt j e).1)
   clear hown' hgrow
   go_wp2_with fail
   go_roundw
   case rel=>exact⟨k / 1000000000,l++[k%1000000000],by omega,by go_num,HS,hown2,hB1⟩
   case measure=>simp[intOf];omega
  ·obtain rfl:k=0:=by omega
   have e:l=dig k0:=by rw[<-hl.out,eH,Ai]
   have hR:=Rd.dO hown
   rw[e] at hR
   have hll:(dig k0).length<=2000000001:=by have:=hlen.out;omega
   have q0:=(Bx.new w [.bool false,.slice none 0 0] 45).below hB (by omega)
   have hBw:Below w.heap.size w wr:=((dh _ _).alloc (aj _) _).trans (hB.mono (by omega))
   have HE:=bg e
   rw[e] at hown
   clear hk0' hl e
   obtain rfl:=HE.out
   go_wp2_with fail
   refine(iD true _ _ _ hR (bC _) hll).mono ?_
   rw[HX.out]
   rintro e2 w2 ⟨v2,rfl,hi2,hb2⟩
   obtain⟨g2,p2,n2,c2,rfl⟩:=hi2.form
   have q2:=q0.to hb2
   have r0:=q2.c0
   have r1:=q2.c1
   have f0:=q2.f0
   have f1:=q2.f1
   go_wp2_with fail
   exact uj (v:=.agg #[.bool g2,.slice p2 n2 c2]) (by simp[results,Tryz.results33,go_sem,r0,r1]) rfl ⟨_,rfl,dS.bW hi2 q2 rfl rfl _ _,Below.bW (Below.tr hBw hb2) (aj _) _ _⟩
theorem a7D (n:Int) (w:World) (h0:-9223372036854775808<=n) (h1:n<=9223372036854775807) (h:¬ n<0) :
  Calls Tryz.prog 33 #[.int .i64 n] w (vH n w):=by
 obtain⟨i0,hi,hz0,hz1,hz2⟩:=zl gJ
 obtain⟨k0,rfl⟩:=jv (Int.not_lt.1 h)
 have hk1:k0<=9223372036854775808:=by omega
 have hlt:decide ((k0:Int)<0)=false:=by simp
 have HX:Hid (sg false (val (dig k0))=(k0:Int)):=by unfold Hid;rw[aT];rfl
 clear h
 have hlen:Hid ((dig k0).length<=3):=dU (by rw[bM];omega)
 have hO:=wS w [.bool false,.slice none 0 0] 45
 have hB0:Below (w.heap.size+1) (w.alloc (.cells #[.bool false,.slice none 0 0] 45)) ((w.alloc (.cells #[.bool false,.slice none 0 0] 45)).alloc (.cells #[] 148)):=(dh _ _).alloc (by simp) _
 go_enter Tryz.func33,Tryz.ntmps33
 go_wp2_with fail
 go_loopw [3,4,15,16,17,18,19,20,21,22,23,24] (fun m v _ _ _ _ _ _ _ _ _ _ wr=>∃ (k:Nat) (l:List Nat),k<=9223372036854775808/\m=.int .u64 (k:Nat)/\Hid (l++dig k=dig k0)/\wr.ownsRow (w.heap.size+1) 148 1 v l.length (cells32 l)/\Below (w.heap.size+1) (w.alloc (.cells #[.bool false,.slice none 0 0] 45)) wr) (fun m _ _ _ _ _ _ _ _ _ _ _ _=>(intOf m).toNat)
 case atStart=>exact⟨k0,[],hk1,rfl,by simp[Hid],hO,hB0⟩
 case round =>
  obtain⟨k,l,hk,rfl,hl,hown,hB⟩:=hrel
  have hsz:w.heap.size+1<=wr.heap.size:=by have:=hB.size;simpa using this
  by_cases hk0':0<k
  ·have HS:=bg (wI hk0' hl.out)
   have hll:l.length<=2:=by
    have h1:=ql List.length hl.out
    have h2:=hlen.out
    rw[dn,oJ (by omega:k≠0),List.length_cons] at h1
    omega
   go_wp2_with (at_builtin;refine xw _ rfl _ _ 43 rfl (w.heap.size+1) 148 i0 (.int .u32 0) 1 4 jg hi hz0 hz1 hz2 rfl (by decide) _ _ _ rfl (hown.alloc _) ⟨wr.heap.size,0,none⟩ 1 1 [.int .u32 ((k%1000000000:Nat):Int)] rfl rfl (cell_one_new _ _ _) (by simp[Value.oneCell']) (by unfold maxLen;omega) (by omega) (by simp;omega) ?_)
   intro v' w1 hown' hgrow _
   have hown2:w1.ownsRow (w.heap.size+1) 148 1 v' (l++[k%1000000000]).length (cells32 (l++[k%1000000000])):=by
    rw[dn,List.length_singleton]
    have:cells32 (l++[k%1000000000])=cells32 l++[.int .u32 ((k%1000000000:Nat):Int)]:=by simp[cells32]
    rw[this];exact hown'
   have hB1:Below (w.heap.size+1) (w.alloc (.cells #[.bool false,.slice none 0 0] 45)) w1:=(hB.alloc hsz _).grown hgrow (by simp;omega) (fun j e=>(hown.lt j e).1)
   clear hown' hgrow
   go_wp2_with fail
   go_roundw
   case rel=>exact⟨k / 1000000000,l++[k%1000000000],by omega,by go_num,HS,hown2,hB1⟩
   case measure=>simp[intOf];omega
  ·obtain rfl:k=0:=by omega
   have e:l=dig k0:=by rw[<-hl.out,eH,Ai]
   have hR:=Rd.dO hown
   rw[e] at hR
   have hll:(dig k0).length<=2000000001:=by have:=hlen.out;omega
   have q0:=(Bx.new w [.bool false,.slice none 0 0] 45).below hB (by omega)
   have hBw:Below w.heap.size w wr:=((dh _ _).alloc (aj _) _).trans (hB.mono (by omega))
   have HE:=bg e
   rw[e] at hown
   clear hk0' hl e
   obtain rfl:=HE.out
   go_wp2_with fail
   refine(iD false _ _ _ hR (bC _) hll).mono ?_
   rw[HX.out]
   rintro e2 w2 ⟨v2,rfl,hi2,hb2⟩
   obtain⟨g2,p2,n2,c2,rfl⟩:=hi2.form
   have q2:=q0.to hb2
   have r0:=q2.c0
   have r1:=q2.c1
   have f0:=q2.f0
   have f1:=q2.f1
   go_wp2_with fail
   exact uj (v:=.agg #[.bool g2,.slice p2 n2 c2]) (by simp[results,Tryz.results33,go_sem,r0,r1]) rfl ⟨_,rfl,dS.bW hi2 q2 rfl rfl _ _,Below.bW (Below.tr hBw hb2) (aj _) _ _⟩
theorem yH (n:Int) (w:World) (h0:-9223372036854775808<=n) (h1:n<=9223372036854775807) :
  Calls Tryz.prog 33 #[.int .i64 n] w (vH n w):=by
 by_cases h:n<0
 ·exact b1s n w h0 h1 h
 ·exact a7D n w h0 h1 h
theorem b4T {a b:Int} (h:a=b):Ending.returned (.int .u64 a)=.returned (.int .u64 b):=by rw[h]
theorem b0R {l:List Nat} (h:l.length<=2):gr l 1*1000000000+gr l 0=val l:=by
 match l,h with
 | [],_=>simp[gr,val]
 | [a],_=>simp[gr,bU,val]
 | [a,b],_=>simp[gr,bU,val,bM];omega
theorem YD (s:Value) (l:List Nat) (w:World) (hs:Rd w s l) (hl:Low l) (h2:l.length<=2) :
  Calls Tryz.prog 216 #[s] w fun e w'=>e=.returned (.int .u64 (val l:Nat))/\w=w':=by
 have hv:=b0R h2
 have g1:=fQ hl 1
 have g0:=fQ hl 0
 obtain⟨x1,hx1⟩:∃ x1,gr l 1=x1:=⟨_,rfl⟩
 obtain⟨x0,hx0⟩:∃ x0,gr l 0=x0:=⟨_,rfl⟩
 rw[hx1,hx0] at hv
 rw[hx1] at g1
 rw[hx0] at g0
 have HX:=bg (And.intro hx1 (And.intro hx0 hv))
 clear hx1 hx0 hv
 go_enter Tryz.func216,Tryz.ntmps216
 go_wp2_with fail
 refine(group_any _ l 1 _ hs hl (by omega)).mono ?_
 rw[show (1:Int).toNat=1 from rfl,HX.out.1]
 rintro e w' ⟨rfl,rfl⟩
 go_wp2_with fail
 refine(group_any _ l 0 _ hs hl (by omega)).mono ?_
 rw[show (0:Int).toNat=0 from rfl,HX.out.2.1]
 rintro e w' ⟨rfl,rfl⟩
 go_wp2_with fail
 go_ret
 exact⟨b4T (by rw[<-HX.out.2.2];simp),rfl⟩
theorem wrap_i64 {k:Nat} (h:k<=9223372036854775807):IntKind.i64.wrap (k:Int)=k:=by simp[IntKind.wrap,IntKind.bits,IntKind.signed];omega
theorem b1o {g1 g2:Bool} {x y:Int} (h1:g1=decide (x<0)) (h2:g2=decide (y<0)) {o:List Nat} (ho:val o=val (dig x.natAbs)*val (dig y.natAbs)):sg (g1 != g2) (val o)=x*y:=by
 rw[ho,aT,aT]
 have e1:=a0B x
 have e2:=a0B y
 rw[<-h1] at e1
 rw[<-h2] at e2
 generalize x.natAbs=k at *
 generalize y.natAbs=l at *
 subst e1
 subst e2
 cases g1<;>cases g2<;>simp[sg,Int.neg_mul,Int.mul_neg]
theorem a7A {g1 g2:Bool} {x y:Int} (h1:g1=decide (x<0)) (h2:g2=decide (y<0)) {o:List Nat} (ho:val o=val (dig x.natAbs)*val (dig y.natAbs)):sg (!g1==g2) (val o)=x*y:=by
 exact b1o h1 h2 ho
theorem b1n (v u:Value) (x y:Int) (w:World) (hv:Raw w v x) (hu:Raw w u y) (hl:isz x<=1000000000) (hl2:isz y<=1000000000) :
  Calls Tryz.prog 161 #[v,u] w (vH (x*y) w):=by
 obtain⟨i0,hi,hz0,hz1,hz2⟩:=zl gJ
 obtain⟨b,p,n,c,rfl⟩:=hv.form
 obtain⟨d,o,m,e,rfl⟩:=hu.form
 have hlx:(dig x.natAbs).length<=1000000000:=hl
 have hly:(dig y.natAbs).length<=1000000000:=hl2
 have kU:Below w.heap.size w w:=dh _ _
 go_enter Tryz.func161,Tryz.ntmps161
 go_wp2_with fail
 obtain⟨hA1,a0,b0,g0⟩:=bx3 w rfl [.bool b,.slice p n c] 45 [.bool d,.slice o m e] 45 [.bool false,.slice none 0 0] 45
 obtain⟨l0,t0,p0,w0⟩:=a0.drew.cf2
 obtain⟨a1,l1,i1,q1⟩:=b0.drew.cf2
 have tk1:True:=trivial
 have tk2:True:=trivial
 go_region_with
  (first
   | (((have:=tk1);clear tk1;have h0:=(hv.below hA1).drew;go_at_call 164;(with_reducible refine(gZ _ (x) _ h0 (by omega)).mono ?_);rintro e w1 ⟨v1,rfl,hi1,hb1⟩;obtain⟨g1,p1,n1,c1,rfl⟩:=hi1.form;obtain rfl:n1=(dig x.natAbs).length:=hi1.len;have hf1:=bg (dS.flag hi1);have kV:=(b0.drew.to hb1);obtain⟨d1,m1,j1,s1⟩:=kV.cf2;have iO:=(a0.drew.to hb1);obtain⟨m0,u0,q0,y0⟩:=iO.cf2))
   | (((have:=tk2);clear tk2;have a0h:=((hu.below hA1).drew.below hb1);have j0:=a0h;go_at_call 164;(with_reducible refine(gZ _ (y) _ j0 (by omega)).mono ?_);rintro e w2 ⟨v2,rfl,hi2,hb2⟩;obtain⟨g2,p2,n2,c2,rfl⟩:=hi2.form;obtain rfl:n2=(dig y.natAbs).length:=hi2.len;have hf2:=bg (dS.flag hi2);have rH:=(iO.to hb2);obtain⟨n0,v0,s0,z0⟩:=rH.cf2;have pK:=(kV.to hb2);obtain⟨e1,o1,k1,t1⟩:=pK.cf2)))
 all_goals
  have k0:=(hi1.below hb2)
  have a0t:=((g0.drew.to hb1).to hb2)
  have d0:=(Below.tr (Below.tr (Below.tr kU hA1).drew hb1) hb2)
  have hx:=(((k0.bW rH rfl rfl (.bool g1) (.slice p1 (dig x.natAbs).length c1)).bW (pK.dX (b:=w.heap.size) (by omega) (.bool g1) (.slice p1 (dig x.natAbs).length c1)) rfl rfl (.bool g2) (.slice p2 (dig y.natAbs).length c2))).rd
  have hy:=(((hi2.bW rH rfl rfl (.bool g1) (.slice p1 (dig x.natAbs).length c1)).bW (pK.dX (b:=w.heap.size) (by omega) (.bool g1) (.slice p1 (dig x.natAbs).length c1)) rfl rfl (.bool g2) (.slice p2 (dig y.natAbs).length c2))).rd
  have qx:=((rH.store2 (.bool g1) (.slice p1 (dig x.natAbs).length c1)).dX (b:=w.heap.size+1) (by omega) (.bool g2) (.slice p2 (dig y.natAbs).length c2))
  have qy:=((pK.dX (b:=w.heap.size) (by omega) (.bool g1) (.slice p1 (dig x.natAbs).length c1)).store2 (.bool g2) (.slice p2 (dig y.natAbs).length c2))
  have qr:=((a0t.dX (b:=w.heap.size) (by omega) (.bool g1) (.slice p1 (dig x.natAbs).length c1)).dX (b:=w.heap.size+1) (by omega) (.bool g2) (.slice p2 (dig y.natAbs).length c2))
  have hBB:=(Below.bW (Below.bW d0 (b:=w.heap.size) (by omega) (.bool g1) (.slice p1 (dig x.natAbs).length c1)) (b:=w.heap.size+1) (by omega) (.bool g2) (.slice p2 (dig y.natAbs).length c2))
  generalize ((((w2.setCell ⟨w.heap.size,0,none⟩ (.bool g1)).setCell ⟨w.heap.size,1,none⟩ (.slice p1 (dig x.natAbs).length c1)).setCell ⟨w.heap.size+1,0,none⟩ (.bool g2)).setCell ⟨w.heap.size+1,1,none⟩ (.slice p2 (dig y.natAbs).length c2))=W at *
  have hlow1:=bC x.natAbs
  have hlow2:=bC y.natAbs
  have c4u:=bg (fun(o:List Nat) (h:val o=val (dig x.natAbs)*val (dig y.natAbs))=>a7A hf1.out hf2.out h)
  generalize dig x.natAbs=a at *
  generalize dig y.natAbs=bb at *
  have HA:=bg hlow1
  have HB:=bg hlow2
  clear hlow1 hlow2
  obtain⟨N,hN⟩:∃ N:Nat,(a.length:Int)+bb.length=N:=⟨a.length+bb.length,by omega⟩
  have hN':N=a.length+bb.length:=by omega
  have HN:=bg hN'
  have nn1:N<=2000000000:=by omega
  have nn2:a.length+bb.length<=N:=by omega
  clear hN'
  have qx1:=qx.c1
  have qy1:=qy.c1
  go_wp2_with (at_make;refine Dv _ rfl _ _ 43 rfl W.heap.size 148 i0 (.int .u32 0) 1 jg hi hz0 hz1 _ _ _ _ N rfl rfl (by omega) (by omega) (by rw[hz2];omega) (by unfold maxLen;omega) (aj _) ?_)
  intro w3 hown hgrow
  rw[iM] at hown
  have hB3:Below W.heap.size W w3:=(dh _ _).grown hgrow (aj _) (fun k e=>by cases e)
  clear hgrow hN qx1 qy1
  go_wp2_with fail
  go_loopw [6,7,8,9,22,23,24,25,26,27,28,29,30,31,32,33,34,35,36,37,38,39,40,41,42,43,44,45,46,47,48,49,50,51,52,53,54,55,56,57,58,59,60,61,62,63,64,65,66,67,68,69,70,71,72,73,74,75,76,77] (fun i _ _ _ _ _ _ _ _ _ _ _ _ _ _ _ _ _ _ _ _ _ _ _ _ _ _ _ _ _ _ _ _ _ _ _ _ _ _ _ _ _ _ _ _ _ _ _ _ _ _ _ _ _ _ _ _ _ _ _ wr=>∃ (k:Nat) (o:List Nat),k<=a.length/\i=.int .i64 (k:Nat)/\mO a bb o N k/\wr.ownsRow W.heap.size 148 1 (.slice (some ⟨W.heap.size,0,none⟩) N N) N (cells32 o)/\Below W.heap.size W wr) (fun i _ _ _ _ _ _ _ _ _ _ _ _ _ _ _ _ _ _ _ _ _ _ _ _ _ _ _ _ _ _ _ _ _ _ _ _ _ _ _ _ _ _ _ _ _ _ _ _ _ _ _ _ _ _ _ _ _ _ _ _=>a.length-(intOf i).toNat)
  case atStart=>exact⟨0,_,by omega,rfl,mO.start _ _ _,hown,hB3⟩
  case round =>
   obtain⟨k,o0,hk,rfl,hI,hO,hB⟩:=hrel
   have qx':=qx.to hB
   have qx1:=qx'.c1
   by_cases hlt:k<a.length
   ·have ga:gr a k<=999999999:=fQ HA.out k
    go_wp2_with fail
    obtain⟨wo,rfl⟩:∃ wo:World,wo=wr:=⟨_,rfl⟩
    go_loopw [7,8,9,29,30,31,32,33,34,35,36,37,38,39,40,41,42,43,44,45,46,47,48,49,50,51,52,53,54,55,56,57,58,59,60,61,62,63,64,65,66,67,68] (fun cc i _ _ _ _ _ _ _ _ _ _ _ _ _ _ _ _ _ _ _ _ _ _ _ _ _ _ _ _ _ _ _ _ _ _ _ _ _ _ _ _ _ wr=>∃ (j e:Nat) (o:List Nat),j<=bb.length/\i=.int .i64 (j:Nat)/\cc=.int .u64 (e:Nat)/\lQ o0 bb o N k (gr a k) j e/\wr.ownsRow W.heap.size 148 1 (.slice (some ⟨W.heap.size,0,none⟩) N N) N (cells32 o)/\Below W.heap.size W wr) (fun _ i _ _ _ _ _ _ _ _ _ _ _ _ _ _ _ _ _ _ _ _ _ _ _ _ _ _ _ _ _ _ _ _ _ _ _ _ _ _ _ _ _ _=>bb.length-(intOf i).toNat)
    case atStart=>exact⟨0,0,o0,by omega,rfl,rfl,lQ.start hI.len hI.low,hO,hB⟩
    case round =>
     obtain⟨j,e,o,hj,rfl,rfl,hI2,hO2,hB2⟩:=hrel
     clear qx' qx1
     have qx':=qx.to hB2
     have qy':=qy.to hB2
     have qx1:=qx'.c1
     have qy1:=qy'.c1
     have ge:e<=999999999:=by have:=hI2.car;omega
     by_cases a9C:j<bb.length
     ·have gb:gr bb j<=999999999:=fQ HB.out j
      have go:gr o (k+j)<=999999999:=fQ hI2.low (k+j)
      have hN:=hI2.step (by omega) (by omega) (by omega)
      obtain⟨ba,oa,rfl,hba,hca⟩:=hx.at (by intro e;subst e;simp at hlt)
      have hcell:wr.cell? ⟨ba,oa+k,none⟩=some (.int .u32 (gr a k:Nat)):=(hB2.cell (p:=⟨ba,oa+k,none⟩) hba).trans (hca k hlt)
      obtain⟨bc,ob,rfl,hbb,hcb⟩:=hy.at (by intro e;subst e;simp at a9C)
      have e0:wr.cell? ⟨bc,ob+j,none⟩=some (.int .u32 (gr bb j:Nat)):=(hB2.cell (p:=⟨bc,ob+j,none⟩) hbb).trans (hcb j a9C)
      have hcl:wr.cell? ⟨W.heap.size,k+j,none⟩=some (.int .u32 (gr o (k+j):Nat)):=by
       rw[hO2.cellAt (k+j) (by omega)];exact eY (by rw[hI2.len];omega)
      have hfr:=hO2.frozenAt (k+j)
      have hst:=fun v:Nat=>(fH o (k+j) v) ▸ hO2.stored (k+j) (.int .u32 (v:Nat))
      obtain⟨t,ht⟩:∃ t,k+j=t:=⟨_,rfl⟩
      rw[ht] at hcl hfr hst hN go
      obtain⟨x0,hx0⟩:∃ x0,gr o t=x0:=⟨_,rfl⟩
      obtain⟨pa,hpa⟩:∃ pa,gr a k=pa:=⟨_,rfl⟩
      obtain⟨pb,hpb⟩:∃ pb,gr bb j=pb:=⟨_,rfl⟩
      rw[hx0] at hcl hN go
      rw[hpa] at hcell ga
      rw[hpb] at e0 hN gb
      obtain⟨m,hm⟩:∃ m:Nat,(pa:Int)*pb=m:=⟨pa*pb,by simp⟩
      have hm2:m<=999999998000000001:=by
       have h1:pa*pb<=999999999*999999999:=vw ga gb
       have h2:((pa*pb:Nat):Int)=m:=by rw[<-hm];simp
       omega
      have hm3:pa*pb=m:=by
       have h2:((pa*pb:Nat):Int)=m:=by rw[<-hm];simp
       omega
      rw[hpa,hm3] at hN
      obtain⟨s2,hs2⟩:∃ s2:Nat,(x0:Int)+m+e=s2:=⟨x0+m+e,by simp⟩
      have c3y:x0+m+e=s2:=by omega
      rw[c3y] at hN
      obtain⟨r,hr⟩:∃ r,s2%1000000000=r:=⟨_,rfl⟩
      obtain⟨v,hv'⟩:∃ v,s2 / 1000000000=v:=⟨_,rfl⟩
      rw[hr,hv'] at hN
      have hr2:(s2:Int)%1000000000=r:=by omega
      have hv2:(s2:Int) / 1000000000=v:=by omega
      have hr3:r<=999999999:=by omega
      have hst:=hst r
      have hti:(k:Int)+j=t:=by omega
      have wt:IntKind.i64.wrap ((k:Int)+j)=t:=by rw[hti];exact wrap_i64 (by omega)
      have w1:IntKind.u64.wrap ((pa:Int)*pb)=m:=by rw[hm];exact wrap_u64 (by omega)
      have w2:IntKind.u64.wrap ((x0:Int)+m)=(x0:Int)+m:=by
       have:(x0:Int)+m=((x0+m:Nat):Int):=by simp
       rw[this];exact wrap_u64 (by omega)
      have w4:IntKind.u64.wrap ((x0:Int)+m+e)=s2:=by rw[hs2];exact wrap_u64 (by omega)
      have b1:(0:Int)<=t:=by omega
      have b2:(t:Int)<N:=by omega
      have b3:(k:Int)<a.length:=by omega
      have b4:(j:Int)<bb.length:=by omega
      have b5:(0:Int)<=k:=by omega
      have b6:(0:Int)<=j:=by omega
      have b7:t<N:=by omega
      have HN2:=bg hN
      have HST:=bg hst
      have HPA:=bg hpa
      clear hca hcb hN hst hx0 hpa hpb hm3 c3y hr hv' ht
      go_wp2_with fail
      go_quiet (fail)
      go_wp2_with fail
      go_roundw
      case rel=>exact⟨j+1,v,_,by omega,by go_num,rfl,by rw[HPA.out];exact HN2.out,by first|exact jK HST.out.1 (Below.qZ (dh _ _) _)|(rw[<-fH];exact((jK hO2 (Below.qZ (dh _ _) _)).stored t (.int .u32 (r:Nat))).1),by first|exact(Below.qZ hB2 _).setCell (p:=⟨W.heap.size,t,none⟩) (aj _) _|exact Below.qZ (hB2.setCell (p:=⟨W.heap.size,t,none⟩) (aj _) _) _⟩
      case measure=>simp[intOf];omega
     ·obtain rfl:j=bb.length:=by omega
      have hN:=lQ.done hI hI2 (by omega)
      have hcl:wr.cell? ⟨W.heap.size,k+bb.length,none⟩=some (.int .u32 (gr o (k+bb.length):Nat)):=by
       rw[hO2.cellAt (k+bb.length) (by omega)];exact eY (by rw[hI2.len];omega)
      have hfr:=hO2.frozenAt (k+bb.length)
      go_wp2_with fail
      have hst:=hO2.stored (k+bb.length) (.int .u32 (e:Nat))
      rw[fH] at hst
      go_roundw
      case rel=>exact⟨k+1,_,by omega,by go_num,hN,hst.1,hB2.setCell (p:=⟨W.heap.size,k+bb.length,none⟩) (aj _) _⟩
      case measure=>simp[intOf];omega
   ·obtain rfl:k=a.length:=by omega
    have hvv:=hI.done HN.out
    have HXX:=bg (c4u.out o0 hvv)
    have hlow:=hI.low
    have hlen:=hI.len
    have hR:=Rd.dO (l:=o0) (by rw[hlen];exact hO)
    have HLN:=bg hlen
    have qy':=qy.to hB
    have qr':=qr.to hB
    have qx0:=qx'.c0
    have qy0:=qy'.c0
    clear hvv hlen
    go_wp2_with fail
    refine(iD _ _ o0 _ hR hlow (by rw[HLN.out];omega)).mono ?_
    rintro e2 w4 ⟨v2,rfl,hi4,hb4⟩
    obtain⟨g4,p4,n4,c4,rfl⟩:=hi4.form
    have q4:=qr'.to hb4
    have r0:=q4.c0
    have r1:=q4.c1
    have f0:=q4.f0
    have f1:=q4.f1
    have hB4:=Below.tr (Below.tr hBB hB) hb4
    go_wp2_with fail
    exact uj (v:=.agg #[.bool g4,.slice p4 n4 c4]) (by simp[results,Tryz.results161,go_sem,r0,r1]) rfl ⟨_,rfl,dS.bW (kZ hi4 HXX.out) q4 rfl rfl _ _,Below.bW hB4 (by omega) _ _⟩
theorem a6J (a b:Bool) (x y:Int) (ha:a=decide (x<0)) (hb:b=decide (y<0)) (h:decide (x<0)=decide (y<0)):(a==b)=true:=by subst ha;subst hb;simpa using h
theorem QX (a b:Bool) (x y:Int) (ha:a=decide (x<0)) (hb:b=decide (y<0)) (h:decide (x<0)≠decide (y<0)):(a==b)=false:=by subst ha;subst hb;simpa using h
theorem a3G (v u:Value) (x y:Int) (w:World) (hv:Raw w v x) (hu:Raw w u y) (hl:isz x<=1000000000) (hl2:isz y<=1000000000) (h:decide (x<0)=decide (y<0)) :
  Calls Tryz.prog 163 #[v,u] w (vH (x+y) w):=by
 obtain⟨b,p,n,c,rfl⟩:=hv.form
 obtain⟨d,o,m,e,rfl⟩:=hu.form
 have HX:=bg h
 have hlx:(dig x.natAbs).length<=1000000000:=hl
 have hly:(dig y.natAbs).length<=1000000000:=hl2
 have b3D:(dig x.natAbs).length<=2000000000:=by omega
 have hlp:(dig (val (dig x.natAbs)+val (dig y.natAbs))).length<=2000000001:=by
  have:=a0o x.natAbs y.natAbs
  rw[aT,aT]
  unfold nsz at this
  omega
 clear h
 have kU:Below w.heap.size w w:=dh _ _
 go_enter Tryz.func163,Tryz.ntmps163
 go_wp2_with fail
 obtain⟨hA1,m0,n0,q0⟩:=bx3 w rfl [.bool b,.slice p n c] 45 [.bool d,.slice o m e] 45 [.bool false,.slice none 0 0] 45
 obtain⟨x0,e1,a1,h1⟩:=m0.drew.cf2
 obtain⟨j1,r1,m1,t1⟩:=n0.drew.cf2
 have tk1:True:=trivial
 have tk2:True:=trivial
 go_region_with
  (first
   | (((have:=tk1);clear tk1;have r0:=(hv.below hA1).drew;go_at_call 164;(with_reducible refine(gZ _ (x) _ r0 (by omega)).mono ?_);rintro e w1 ⟨v1,rfl,hi1,hb1⟩;obtain⟨g1,p1,n1,c1,rfl⟩:=hi1.form;have hf1:=bg (dS.flag hi1);have kV:=(n0.drew.to hb1);obtain⟨k1,s1,o1,u1⟩:=kV.cf2;have iO:=(m0.drew.to hb1);obtain⟨y0,f1,b1,i1⟩:=iO.cf2))
   | (((have:=tk2);clear tk2;have a0h:=((hu.below hA1).drew.below hb1);have s0:=a0h;go_at_call 164;(with_reducible refine(gZ _ (y) _ s0 (by omega)).mono ?_);rintro e w2 ⟨v2,rfl,hi2,hb2⟩;obtain⟨g2,p2,n2,c2,rfl⟩:=hi2.form;have hf2:=bg (dS.flag hi2);have hgg:=a6J g1 g2 x y hf1.out hf2.out HX.out;have rH:=(iO.to hb2);obtain⟨a0,c0,b0,d0⟩:=rH.cf2;have pK:=(kV.to hb2);obtain⟨e0,g0,f0,h0⟩:=pK.cf2)))
 all_goals
  obtain⟨z0,d1⟩:=((rH.store2 (.bool g1) (.slice p1 n1 c1)).dX (b:=w.heap.size+1) (by omega) (.bool g2) (.slice p2 n2 c2)).cs2
  obtain⟨l1,q1⟩:=((pK.dX (b:=w.heap.size) (by omega) (.bool g1) (.slice p1 n1 c1)).store2 (.bool g2) (.slice p2 n2 c2)).cs2
  go_wp2_with fail
  have a0t:=((q0.drew.to hb1).to hb2)
  have c4z:=(iI.mk (((rH.store2 (.bool g1) (.slice p1 n1 c1)).dX (b:=w.heap.size+1) (by omega) (.bool g2) (.slice p2 n2 c2)).drew).bs2 (iI.mk (((pK.dX (b:=w.heap.size) (by omega) (.bool g1) (.slice p1 n1 c1)).store2 (.bool g2) (.slice p2 n2 c2)).drew).bs2 (BN.of (((a0t.dX (b:=w.heap.size) (by omega) (.bool g1) (.slice p1 n1 c1)).dX (b:=w.heap.size+1) (by omega) (.bool g2) (.slice p2 n2 c2)).drew))))
  have o0:tX (w.heap.size+1+1) (iI (BS2 w.heap.size (.bool g1) (.slice p1 n1 c1)) (iI (BS2 (w.heap.size+1) (.bool g2) (.slice p2 n2 c2)) (BN (w.heap.size+1+1)))):=(iI.hc (BS2.hc (by omega)) (iI.hc (BS2.hc (by omega)) BN.hc))
  have tk3:True:=trivial
  have tk4:True:=trivial
  go_region_held3 (iI (BS2 w.heap.size (.bool g1) (.slice p1 n1 c1)) (iI (BS2 (w.heap.size+1) (.bool g2) (.slice p2 n2 c2)) (BN (w.heap.size+1+1)))) (first|with_reducible exact c4z|with_reducible exact yT.go (iI.hk BS2.hk (iI.hk BS2.hk BN.hk)) (by assumption) (by assumption)|with_reducible exact tX.go2 o0 (by assumption)|(simp;done))
   (first
    | (((have:=tk3);clear tk3;have w0:=(hi1.below hb2);have t0:=((w0.bW rH rfl rfl (.bool g1) (.slice p1 n1 c1)).bW (pK.dX (b:=w.heap.size) (by omega) (.bool g1) (.slice p1 n1 c1)) rfl rfl (.bool g2) (.slice p2 n2 c2)).drew.rd;have u0:=((hi2.bW rH rfl rfl (.bool g1) (.slice p1 n1 c1)).bW (pK.dX (b:=w.heap.size) (by omega) (.bool g1) (.slice p1 n1 c1)) rfl rfl (.bool g2) (.slice p2 n2 c2)).drew.rd;go_at_call 239;(with_reducible refine(YE _ _ _ _ _ t0 u0 (bC _) (bC _) hlx hly).mono ?_);rintro e w3 ⟨s3,rfl,hs3,hfr3,hb3⟩;obtain⟨p3,c3,rfl,c7e,c7f⟩:=hs3.form))
    | (((have:=tk4);clear tk4;have v0:=hs3;go_at_call 115;(with_reducible refine(iD _ _ _ _ v0 (bC _) hlp).mono ?_);rintro e w4 ⟨v4,rfl,hi4,hb4⟩;obtain⟨g4,p4,n4,c4,rfl⟩:=hi4.form;have c3R:=((((a0t.dX (b:=w.heap.size) (by omega) (.bool g1) (.slice p1 n1 c1)).dX (b:=w.heap.size+1) (by omega) (.bool g2) (.slice p2 n2 c2)).drew.to hb3).to hb4);obtain⟨i0,k0,j0,l0⟩:=c3R.cf2)))
  have p0:=(Below.tr (Below.tr (Below.bW (Below.bW (Below.tr (Below.tr (Below.tr kU hA1).drew hb1) hb2) (b:=w.heap.size) (by omega) (.bool g1) (.slice p1 n1 c1)) (b:=w.heap.size+1) (by omega) (.bool g2) (.slice p2 n2 c2)).drew hb3) hb4)
  go_wp2_with fail
  exact uj (v:=.agg #[.bool g4,.slice p4 n4 c4]) (by simp[results,Tryz.results163,go_sem,a0,c0,b0,d0,e0,g0,f0,h0,i0,k0,j0,l0]) rfl ⟨_,rfl,kZ (hi4.bW c3R rfl rfl (.bool g4) (.slice p4 n4 c4)) (a7u hf1.out hf2.out HX.out),(Below.bW p0 (b:=w.heap.size+1+1) (by omega) (.bool g4) (.slice p4 n4 c4))⟩
theorem a3E (v u:Value) (x y:Int) (w:World) (hv:Raw w v x) (hu:Raw w u y) (hl:isz x<=1000000000) (hl2:isz y<=1000000000) (h:decide (x<0)≠decide (y<0)) (h2:y.natAbs<=x.natAbs) :
  Calls Tryz.prog 163 #[v,u] w (vH (x+y) w):=by
 obtain⟨b,p,n,c,rfl⟩:=hv.form
 obtain⟨d,o,m,e,rfl⟩:=hu.form
 have HX:=bg h
 have hlx:(dig x.natAbs).length<=1000000000:=hl
 have hly:(dig y.natAbs).length<=1000000000:=hl2
 have b3D:(dig x.natAbs).length<=2000000000:=by omega
 have HL:=bg h2
 have hvv:val (dig y.natAbs)<=val (dig x.natAbs):=by rw[aT,aT];omega
 have hll:(dig y.natAbs).length<=(dig x.natAbs).length:=aQ (by omega)
 have hld:(dig (val (dig x.natAbs)-val (dig y.natAbs))).length<=2000000001:=by
  have:=aQ (show val (dig x.natAbs)-val (dig y.natAbs)<=x.natAbs by rw[aT,aT];omega)
  omega
 obtain⟨cv,hcv⟩:∃ cv,bK (val (dig x.natAbs)) (val (dig y.natAbs))=cv:=⟨_,rfl⟩
 have HCV:=bg hcv
 rw[aT,aT] at hcv
 have hdc:decide (0<=cv)=true:=by
  have:0<=cv:=by
   rw[<-hcv];unfold bK
   rw[eu (by omega)];split<;>omega
  simpa using this
 have c3t:(dig x.natAbs).length<=1000000002:=by omega
 have c3u:(dig y.natAbs).length<=1000000002:=by omega
 clear h2 hcv
 clear h
 have kU:Below w.heap.size w w:=dh _ _
 go_enter Tryz.func163,Tryz.ntmps163
 go_wp2_with fail
 obtain⟨hA1,m0,n0,r0⟩:=bx3 w rfl [.bool b,.slice p n c] 45 [.bool d,.slice o m e] 45 [.bool false,.slice none 0 0] 45
 obtain⟨b1,j1,f1,l1⟩:=m0.drew.cf2
 obtain⟨o1,x1,s1,z1⟩:=n0.drew.cf2
 have tk1:True:=trivial
 have tk2:True:=trivial
 go_region_with
  (first
   | (((have:=tk1);clear tk1;have s0:=(hv.below hA1).drew;go_at_call 164;(with_reducible refine(gZ _ (x) _ s0 (by omega)).mono ?_);rintro e w1 ⟨v1,rfl,hi1,hb1⟩;obtain⟨g1,p1,n1,c1,rfl⟩:=hi1.form;have hf1:=bg (dS.flag hi1);have kV:=(n0.drew.to hb1);obtain⟨q1,y1,t1,a2⟩:=kV.cf2;have iO:=(m0.drew.to hb1);obtain⟨d1,k1,h1,m1⟩:=iO.cf2))
   | (((have:=tk2);clear tk2;have a0h:=((hu.below hA1).drew.below hb1);have t0:=a0h;go_at_call 164;(with_reducible refine(gZ _ (y) _ t0 (by omega)).mono ?_);rintro e w2 ⟨v2,rfl,hi2,hb2⟩;obtain⟨g2,p2,n2,c2,rfl⟩:=hi2.form;have hf2:=bg (dS.flag hi2);have hgg:=QX g1 g2 x y hf1.out hf2.out HX.out;have rH:=(iO.to hb2);obtain⟨a0,c0,b0,d0⟩:=rH.cf2;have pK:=(kV.to hb2);obtain⟨e0,g0,f0,h0⟩:=pK.cf2)))
 all_goals
  obtain⟨e1,i1⟩:=((rH.store2 (.bool g1) (.slice p1 n1 c1)).dX (b:=w.heap.size+1) (by omega) (.bool g2) (.slice p2 n2 c2)).cs2
  obtain⟨r1,u1⟩:=((pK.dX (b:=w.heap.size) (by omega) (.bool g1) (.slice p1 n1 c1)).store2 (.bool g2) (.slice p2 n2 c2)).cs2
  go_wp2_with fail
  have o0:=(hi1.below hb2)
  have u0:=((o0.bW rH rfl rfl (.bool g1) (.slice p1 n1 c1)).bW (pK.dX (b:=w.heap.size) (by omega) (.bool g1) (.slice p1 n1 c1)) rfl rfl (.bool g2) (.slice p2 n2 c2)).rd
  have v0:=((hi2.bW rH rfl rfl (.bool g1) (.slice p1 n1 c1)).bW (pK.dX (b:=w.heap.size) (by omega) (.bool g1) (.slice p1 n1 c1)) rfl rfl (.bool g2) (.slice p2 n2 c2)).rd
  (with_reducible refine(qQ _ _ _ _ _ u0 v0 (bY _) (bY _) b3D).mono ?_)
  rw[HCV.out]
  rintro e w3 ⟨rfl,hb3⟩
  go_wp2_with fail
  have BD:=(((rH.store2 (.bool g1) (.slice p1 n1 c1)).dX (b:=w.heap.size+1) (by omega) (.bool g2) (.slice p2 n2 c2)).to hb3)
  have b8a:=(((pK.dX (b:=w.heap.size) (by omega) (.bool g1) (.slice p1 n1 c1)).store2 (.bool g2) (.slice p2 n2 c2)).to hb3)
  have b0Z:=(((((r0.drew.to hb1).to hb2).dX (b:=w.heap.size) (by omega) (.bool g1) (.slice p1 n1 c1)).dX (b:=w.heap.size+1) (by omega) (.bool g2) (.slice p2 n2 c2)).to hb3)
  have c4A:=(iI.mk (BD.drew).bs2 (iI.mk (b8a.drew).bs2 (BN.of (b0Z.drew))))
  have p0:tX (w.heap.size+1+1) (iI (BS2 w.heap.size (.bool g1) (.slice p1 n1 c1)) (iI (BS2 (w.heap.size+1) (.bool g2) (.slice p2 n2 c2)) (BN (w.heap.size+1+1)))):=(iI.hc (BS2.hc (by omega)) (iI.hc (BS2.hc (by omega)) BN.hc))
  have tk3:True:=trivial
  have tk4:True:=trivial
  go_region_held3 (iI (BS2 w.heap.size (.bool g1) (.slice p1 n1 c1)) (iI (BS2 (w.heap.size+1) (.bool g2) (.slice p2 n2 c2)) (BN (w.heap.size+1+1)))) (first|with_reducible exact c4A|with_reducible exact yT.go (iI.hk BS2.hk (iI.hk BS2.hk BN.hk)) (by assumption) (by assumption)|with_reducible exact tX.go2 p0 (by assumption)|(simp;done))
   (first
    | (((have:=tk3);clear tk3;have z0:=(((o0.bW rH rfl rfl (.bool g1) (.slice p1 n1 c1)).bW (pK.dX (b:=w.heap.size) (by omega) (.bool g1) (.slice p1 n1 c1)) rfl rfl (.bool g2) (.slice p2 n2 c2)).below hb3);have w0:=z0.drew.rd;have a1:=(((hi2.bW rH rfl rfl (.bool g1) (.slice p1 n1 c1)).bW (pK.dX (b:=w.heap.size) (by omega) (.bool g1) (.slice p1 n1 c1)) rfl rfl (.bool g2) (.slice p2 n2 c2)).below hb3);have x0:=a1.drew.rd;go_at_call 241;(with_reducible refine(uU _ _ _ _ _ w0 x0 (bC _) (bC _) c3t hll hvv).mono ?_);rintro e w4 ⟨s4,rfl,hs4,c6u,hb4⟩;obtain⟨p4,c4,rfl,c6z,c6B⟩:=hs4.form))
    | (((have:=tk4);clear tk4;have y0:=hs4;go_at_call 115;(with_reducible refine(iD _ _ _ _ y0 (bC _) hld).mono ?_);rintro e w5 ⟨v5,rfl,hi5,hb5⟩;obtain⟨g5,p5,n5,c5,rfl⟩:=hi5.form;have b1a:=((b0Z.drew.to hb4).to hb5);obtain⟨i0,k0,j0,l0⟩:=b1a.cf2)))
  have q0:=(Below.tr (Below.tr (Below.tr (Below.bW (Below.bW (Below.tr (Below.tr (Below.tr kU hA1).drew hb1) hb2) (b:=w.heap.size) (by omega) (.bool g1) (.slice p1 n1 c1)) (b:=w.heap.size+1) (by omega) (.bool g2) (.slice p2 n2 c2)) hb3).drew hb4) hb5)
  go_wp2_with fail
  exact uj (v:=.agg #[.bool g5,.slice p5 n5 c5]) (by simp[results,Tryz.results163,go_sem,a0,c0,b0,d0,e0,g0,f0,h0,i0,k0,j0,l0]) rfl ⟨_,rfl,kZ (hi5.bW b1a rfl rfl (.bool g5) (.slice p5 n5 c5)) (a7t hf1.out hf2.out HX.out HL.out),(Below.bW q0 (b:=w.heap.size+1+1) (by omega) (.bool g5) (.slice p5 n5 c5))⟩
theorem a2k (v u:Value) (x y:Int) (w:World) (hv:Raw w v x) (hu:Raw w u y) (hl:isz x<=1000000000) (hl2:isz y<=1000000000) (h:decide (x<0)≠decide (y<0)) (h2:x.natAbs<y.natAbs) :
  Calls Tryz.prog 163 #[v,u] w (vH (x+y) w):=by
 obtain⟨b,p,n,c,rfl⟩:=hv.form
 obtain⟨d,o,m,e,rfl⟩:=hu.form
 have HX:=bg h
 have hlx:(dig x.natAbs).length<=1000000000:=hl
 have hly:(dig y.natAbs).length<=1000000000:=hl2
 have b3D:(dig x.natAbs).length<=2000000000:=by omega
 have HL:=bg h2
 have hvv:val (dig x.natAbs)<=val (dig y.natAbs):=by rw[aT,aT];omega
 have hll:(dig x.natAbs).length<=(dig y.natAbs).length:=aQ (by omega)
 have hld:(dig (val (dig y.natAbs)-val (dig x.natAbs))).length<=2000000001:=by
  have:=aQ (show val (dig y.natAbs)-val (dig x.natAbs)<=y.natAbs by rw[aT,aT];omega)
  omega
 obtain⟨cv,hcv⟩:∃ cv,bK (val (dig x.natAbs)) (val (dig y.natAbs))=cv:=⟨_,rfl⟩
 have HCV:=bg hcv
 rw[aT,aT] at hcv
 have hdc:decide (0<=cv)=false:=by
  have:¬ 0<=cv:=by
   rw[<-hcv];unfold bK
   rw[iw (by omega)];omega
  simpa using this
 have c3t:(dig x.natAbs).length<=1000000002:=by omega
 have c3u:(dig y.natAbs).length<=1000000002:=by omega
 clear h2 hcv
 clear h
 have kU:Below w.heap.size w w:=dh _ _
 go_enter Tryz.func163,Tryz.ntmps163
 go_wp2_with fail
 obtain⟨hA1,m0,n0,r0⟩:=bx3 w rfl [.bool b,.slice p n c] 45 [.bool d,.slice o m e] 45 [.bool false,.slice none 0 0] 45
 obtain⟨b1,j1,f1,l1⟩:=m0.drew.cf2
 obtain⟨o1,x1,s1,z1⟩:=n0.drew.cf2
 have tk1:True:=trivial
 have tk2:True:=trivial
 go_region_with
  (first
   | (((have:=tk1);clear tk1;have s0:=(hv.below hA1).drew;go_at_call 164;(with_reducible refine(gZ _ (x) _ s0 (by omega)).mono ?_);rintro e w1 ⟨v1,rfl,hi1,hb1⟩;obtain⟨g1,p1,n1,c1,rfl⟩:=hi1.form;have hf1:=bg (dS.flag hi1);have kV:=(n0.drew.to hb1);obtain⟨q1,y1,t1,a2⟩:=kV.cf2;have iO:=(m0.drew.to hb1);obtain⟨d1,k1,h1,m1⟩:=iO.cf2))
   | (((have:=tk2);clear tk2;have a0h:=((hu.below hA1).drew.below hb1);have t0:=a0h;go_at_call 164;(with_reducible refine(gZ _ (y) _ t0 (by omega)).mono ?_);rintro e w2 ⟨v2,rfl,hi2,hb2⟩;obtain⟨g2,p2,n2,c2,rfl⟩:=hi2.form;have hf2:=bg (dS.flag hi2);have hgg:=QX g1 g2 x y hf1.out hf2.out HX.out;have rH:=(iO.to hb2);obtain⟨a0,c0,b0,d0⟩:=rH.cf2;have pK:=(kV.to hb2);obtain⟨e0,g0,f0,h0⟩:=pK.cf2)))
 all_goals
  obtain⟨e1,i1⟩:=((rH.store2 (.bool g1) (.slice p1 n1 c1)).dX (b:=w.heap.size+1) (by omega) (.bool g2) (.slice p2 n2 c2)).cs2
  obtain⟨r1,u1⟩:=((pK.dX (b:=w.heap.size) (by omega) (.bool g1) (.slice p1 n1 c1)).store2 (.bool g2) (.slice p2 n2 c2)).cs2
  go_wp2_with fail
  have o0:=(hi1.below hb2)
  have u0:=((o0.bW rH rfl rfl (.bool g1) (.slice p1 n1 c1)).bW (pK.dX (b:=w.heap.size) (by omega) (.bool g1) (.slice p1 n1 c1)) rfl rfl (.bool g2) (.slice p2 n2 c2)).rd
  have v0:=((hi2.bW rH rfl rfl (.bool g1) (.slice p1 n1 c1)).bW (pK.dX (b:=w.heap.size) (by omega) (.bool g1) (.slice p1 n1 c1)) rfl rfl (.bool g2) (.slice p2 n2 c2)).rd
  (with_reducible refine(qQ _ _ _ _ _ u0 v0 (bY _) (bY _) b3D).mono ?_)
  rw[HCV.out]
  rintro e w3 ⟨rfl,hb3⟩
  go_wp2_with fail
  have b8a:=(((pK.dX (b:=w.heap.size) (by omega) (.bool g1) (.slice p1 n1 c1)).store2 (.bool g2) (.slice p2 n2 c2)).to hb3)
  have BD:=(((rH.store2 (.bool g1) (.slice p1 n1 c1)).dX (b:=w.heap.size+1) (by omega) (.bool g2) (.slice p2 n2 c2)).to hb3)
  have b0Z:=(((((r0.drew.to hb1).to hb2).dX (b:=w.heap.size) (by omega) (.bool g1) (.slice p1 n1 c1)).dX (b:=w.heap.size+1) (by omega) (.bool g2) (.slice p2 n2 c2)).to hb3)
  have c4B:=(iI.mk (b8a.drew).bs2 (iI.mk (BD.drew).bs2 (BN.of (b0Z.drew))))
  have p0:tX (w.heap.size+1+1) (iI (BS2 (w.heap.size+1) (.bool g2) (.slice p2 n2 c2)) (iI (BS2 w.heap.size (.bool g1) (.slice p1 n1 c1)) (BN (w.heap.size+1+1)))):=(iI.hc (BS2.hc (by omega)) (iI.hc (BS2.hc (by omega)) BN.hc))
  have tk3:True:=trivial
  have tk4:True:=trivial
  go_region_held3 (iI (BS2 (w.heap.size+1) (.bool g2) (.slice p2 n2 c2)) (iI (BS2 w.heap.size (.bool g1) (.slice p1 n1 c1)) (BN (w.heap.size+1+1)))) (first|with_reducible exact c4B|with_reducible exact yT.go (iI.hk BS2.hk (iI.hk BS2.hk BN.hk)) (by assumption) (by assumption)|with_reducible exact tX.go2 p0 (by assumption)|(simp;done))
   (first
    | (((have:=tk3);clear tk3;have a1:=(((hi2.bW rH rfl rfl (.bool g1) (.slice p1 n1 c1)).bW (pK.dX (b:=w.heap.size) (by omega) (.bool g1) (.slice p1 n1 c1)) rfl rfl (.bool g2) (.slice p2 n2 c2)).below hb3);have w0:=a1.drew.rd;have z0:=(((o0.bW rH rfl rfl (.bool g1) (.slice p1 n1 c1)).bW (pK.dX (b:=w.heap.size) (by omega) (.bool g1) (.slice p1 n1 c1)) rfl rfl (.bool g2) (.slice p2 n2 c2)).below hb3);have x0:=z0.drew.rd;go_at_call 241;(with_reducible refine(uU _ _ _ _ _ w0 x0 (bC _) (bC _) c3u hll hvv).mono ?_);rintro e w4 ⟨s4,rfl,hs4,c6u,hb4⟩;obtain⟨p4,c4,rfl,c6z,c6B⟩:=hs4.form))
    | (((have:=tk4);clear tk4;have y0:=hs4;go_at_call 115;(with_reducible refine(iD _ _ _ _ y0 (bC _) hld).mono ?_);rintro e w5 ⟨v5,rfl,hi5,hb5⟩;obtain⟨g5,p5,n5,c5,rfl⟩:=hi5.form;have b1a:=((b0Z.drew.to hb4).to hb5);obtain⟨i0,k0,j0,l0⟩:=b1a.cf2)))
  have q0:=(Below.tr (Below.tr (Below.tr (Below.bW (Below.bW (Below.tr (Below.tr (Below.tr kU hA1).drew hb1) hb2) (b:=w.heap.size) (by omega) (.bool g1) (.slice p1 n1 c1)) (b:=w.heap.size+1) (by omega) (.bool g2) (.slice p2 n2 c2)) hb3).drew hb4) hb5)
  go_wp2_with fail
  exact uj (v:=.agg #[.bool g5,.slice p5 n5 c5]) (by simp[results,Tryz.results163,go_sem,a0,c0,b0,d0,e0,g0,f0,h0,i0,k0,j0,l0]) rfl ⟨_,rfl,kZ (hi5.bW b1a rfl rfl (.bool g5) (.slice p5 n5 c5)) (a3F hf1.out hf2.out HX.out HL.out),(Below.bW q0 (b:=w.heap.size+1+1) (by omega) (.bool g5) (.slice p5 n5 c5))⟩
theorem b1f (v u:Value) (x y:Int) (w:World) (hv:Raw w v x) (hu:Raw w u y) (hl:isz x<=1000000000) (hl2:isz y<=1000000000) :
  Calls Tryz.prog 163 #[v,u] w (vH (x+y) w):=by
 by_cases h:decide (x<0)=decide (y<0)
 ·exact a3G v u x y w hv hu hl hl2 h
 ·by_cases h2:y.natAbs<=x.natAbs
  ·exact a3E v u x y w hv hu hl hl2 h h2
  ·exact a2k v u x y w hv hu hl hl2 h (by omega)
theorem b1z (v u:Value) (x y:Int) (w:World) (hv:Raw w v x) (hu:Raw w u y) (hl:isz x<=1000000000) (hl2:isz y<=1000000000) :
  Calls Tryz.prog 214 #[v,u] w (vH (x-y) w):=by
 obtain⟨b,p,n,c,rfl⟩:=hv.form
 obtain⟨d,o,m,e,rfl⟩:=hu.form
 have hn:isz (-y)<=1000000000:=by rw[jJ];omega
 have kU:Below w.heap.size w w:=dh _ _
 go_enter Tryz.func214,Tryz.ntmps214
 go_wp2_with fail
 obtain⟨hA1,h0,i0,e0⟩:=bx3 w rfl [.bool b,.slice p n c] 45 [.bool d,.slice o m e] 45 [.bool false,.slice none 0 0] 45
 have b6O:=(iI.mk (h0.drew).bs2 (iI.mk (i0.drew).bs2 (BN.of (e0.drew))))
 have f0:tX (w.heap.size+1+1) (iI (BS2 w.heap.size (.bool b) (.slice p n c)) (iI (BS2 (w.heap.size+1) (.bool d) (.slice o m e)) (BN (w.heap.size+1+1)))):=(iI.hc (BS2.hc (by omega)) (iI.hc (BS2.hc (by omega)) BN.hc))
 have tk1:True:=trivial
 have tk2:True:=trivial
 go_region_held3 (iI (BS2 w.heap.size (.bool b) (.slice p n c)) (iI (BS2 (w.heap.size+1) (.bool d) (.slice o m e)) (BN (w.heap.size+1+1)))) (first|with_reducible exact b6O|with_reducible exact yT.go (iI.hk BS2.hk (iI.hk BS2.hk BN.hk)) (by assumption) (by assumption)|with_reducible exact tX.go2 f0 (by assumption)|(simp;done))
  (first
   | (((have:=tk1);clear tk1;have j0:=(hu.below hA1).drew;go_at_call 106;(with_reducible refine(b1p _ (y) _ j0 (by omega)).mono ?_);rintro e w1 ⟨v1,rfl,hi1,hb1⟩;obtain⟨g1,p1,n1,c1,rfl⟩:=hi1.form))
   | (((have:=tk2);clear tk2;have c6I:=((hv.below hA1).drew.below hb1);have k0:=c6I;have l0:=hi1.raw;go_at_call 163;(with_reducible refine(b1f _ _ (x) (-((y))) _ k0 l0 hl hn).mono ?_);rintro e w2 ⟨v2,rfl,hi2,hb2⟩;obtain⟨g2,p2,n2,c2,rfl⟩:=hi2.form;have a0t:=((e0.drew.to hb1).to hb2);obtain⟨a0,c0,b0,d0⟩:=a0t.cf2)))
 have g0:=(Below.tr (Below.tr (Below.tr kU hA1).drew hb1) hb2)
 go_wp2_with fail
 exact uj (v:=.agg #[.bool g2,.slice p2 n2 c2]) (by simp[results,Tryz.results214,go_sem,a0,c0,b0,d0]) rfl ⟨_,rfl,kZ (hi2.bW a0t rfl rfl (.bool g2) (.slice p2 n2 c2)) (Int.sub_eq_add_neg).symm,(Below.bW g0 (b:=w.heap.size+1+1) (by omega) (.bool g2) (.slice p2 n2 c2))⟩
theorem b5j (x y:Int):sgn (x-y)=bK x y:=by
 unfold bK
 rcases Ba x y with h|h|h
 ·rw[iw h,a5X (by omega)]
 ·subst h;simp[sgn]
 ·rw[eu (by omega),iw h,a5Y (by omega)]
theorem pR (v u:Value) (x y:Int) (w:World) (hv:Raw w v x) (hu:Raw w u y) (hl:isz x<=999999999) (hl2:isz y<=999999999) :
  Calls Tryz.prog 130 #[v,u] w fun e w'=>e=.returned (.int .i64 (bK x y))/\Below w.heap.size w w':=by
 obtain⟨b,p,n,c,rfl⟩:=hv.form
 obtain⟨d,o,m,e,rfl⟩:=hu.form
 have hl3:isz x<=1000000000:=by omega
 have hl4:isz y<=1000000000:=by omega
 have hsb:isz (x-y)<=1000000000:=by have:=OX x y;omega
 have kU:Below w.heap.size w w:=dh _ _
 go_enter Tryz.func130,Tryz.ntmps130
 go_wp2_with fail
 obtain⟨hA1,e0,f0⟩:=bx2 w rfl [.bool b,.slice p n c] 45 [.bool d,.slice o m e] 45
 have b0:=(hv.below hA1)
 have c0:=(hu.below hA1)
 (with_reducible refine(b1z _ _ (x) (y) _ b0 c0 hl3 hl4).mono ?_)
 rintro e w1 ⟨v1,rfl,hi1,hb1⟩
 obtain⟨g1,p1,n1,c1,rfl⟩:=hi1.form
 go_wp2_with fail
 have d0:=hi1.raw
 (with_reducible refine(a7F _ ((x)-(y)) _ d0 hsb).mono ?_)
 rintro e w2 ⟨rfl,hb2⟩
 have a0:=(Below.tr (Below.tr (Below.tr kU hA1) hb1) hb2)
 go_wp2_with fail
 go_ret
 exact⟨iC (b5j x y),a0⟩
set_option maxHeartbeats 8000000
theorem a4Y (x y:Int) {q:Int} (h:q=x.fdiv y):q=x.fdiv y/\x-q*y=x.fmod y:=by
 refine⟨h,?_⟩
 have:=Int.fmod_add_mul_fdiv x y
 rw[<-h,Int.mul_comm] at this
 omega
theorem a9P {x:Int} {b:Bool} {k:Nat} (h:isz x<=k) (m n:Nat) (hm:m=x.natAbs):isz (sg b (m / n))<=k:=by
 refine ak (rF ?_) h
 rw[a4a,hm];exact Cj _ _
end Go.Proofs.YtbkocjmmbkifjaaGreat
