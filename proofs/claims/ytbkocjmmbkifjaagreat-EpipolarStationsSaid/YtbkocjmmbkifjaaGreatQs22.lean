/-
  Lemmas for the theorem vstations28_holds, part 22 of 34.
-/
import Derived.Test.YtbkocjmmbkifjaaGreatQs21
namespace Go.Proofs.YtbkocjmmbkifjaaGreat
open Go Go.RowKit
set_option maxRecDepth 100000
set_option maxHeartbeats 4000000
set_option linter.unusedSimpArgs false
set_option linter.unusedVariables false
theorem FN (s t:Value) (a b:List Nat) (w:World) (hs:Rd w s a) (ht:Rd w t b) (ha:Canon a) (hb:Canon b) (la:a.length<=1000000000) (hb0:b≠[]) :
  Calls Tryz.prog 215 #[s,t] w (ZO (dig (val a / val b)) (dig (val a%val b)) w):=by
 by_cases h2:2<=b.length
 ·by_cases hlt:val a<val b
  ·exact a7V s t a b w hs ht ha hb la h2 hlt
  ·exact a2Q s t a b w hs ht ha hb la h2 (by omega)
 ·obtain⟨d0,rfl⟩:∃ d0,b=[d0]:=by
   cases b with
   | nil=>exact absurd rfl hb0
   | cons x t=>cases t with
    | nil=>exact⟨x,rfl⟩
    | cons=>simp at h2
  have:=a4o s t a d0 w hs ht ha hb la
  have e:val [d0]=d0:=by simp[bZ]
  rwa [e]
theorem dX.flag {w:World} {g:Bool} {s:Value} {x:Int} (h:dX w (.agg #[.bool g,s]) x):g=decide (x<0):=by
 obtain⟨s',e,_⟩:=h;cases e;rfl
theorem a6u (x:Int):sg (decide (x<0)) x.natAbs=x:=by
 unfold sg
 by_cases h:x<0<;>simp[h]<;>omega
theorem b1X (n:Int) (w:World) (h0:-9223372036854775808<=n) (h1:n<=9223372036854775807) (h:n<0) :
  Calls Tryz.prog 33 #[.int .i64 n] w (DR n w):=by
 obtain⟨i0,hi,hz0,hz1,hz2⟩:=Ah gI
 obtain⟨j,rfl⟩:∃ j:Nat,n=-((j:Int)+1):=⟨(-n-1).toNat,by omega⟩
 have hj:j<=9223372036854775807:=by omega
 have e1:-((j:Int)+1)+1=-(j:Int):=by omega
 have hlt:decide (-((j:Int)+1)<0)=true:=uf (by omega)
 obtain⟨k0,hk0⟩:∃ k0,j+1=k0:=⟨_,rfl⟩
 have HX:Hid (sg true (val (dig k0))=-((j:Int)+1)):=by unfold Hid;rw[bK,<-hk0];simp[sg]
 have hk1:k0<=9223372036854775808:=by omega
 have hk2:(j:Int)+1=k0:=by omega
 obtain⟨z,hz⟩:∃ z:Int,-((j:Int)+1)=z:=⟨_,rfl⟩
 rw[hz] at e1 hlt HX h0 h1 ⊢
 clear hk0 hz h
 have hlen:Hid ((dig k0).length<=3):=dR (by rw[bM];omega)
 have hO:=wE w [.bool false,.slice none 0 0] 45
 have hB0:Below (w.heap.size+1) (w.alloc (.cells #[.bool false,.slice none 0 0] 45)) ((w.alloc (.cells #[.bool false,.slice none 0 0] 45)).alloc (.cells #[] 148)):=(jo _ _).alloc (by simp) _
 go_enter Tryz.func33,Tryz.ntmps33
 go_wp2_with fail
 go_loopw [3,4,15,16,17,18,19,20,21,22,23,24] (fun m v _ _ _ _ _ _ _ _ _ _ wr=>∃ (k:Nat) (l:List Nat),k<=9223372036854775808/\m=.int .u64 (k:Nat)/\Hid (l++dig k=dig k0)/\wr.ownsRow (w.heap.size+1) 148 1 v l.length (cells32 l)/\Below (w.heap.size+1) (w.alloc (.cells #[.bool false,.slice none 0 0] 45)) wr) (fun m _ _ _ _ _ _ _ _ _ _ _ _=>(intOf m).toNat)
 case atStart=>exact⟨k0,[],hk1,by first|rfl|rw[hk2]|simp[hk2],by simp[Hid],hO,hB0⟩
 case round =>
  obtain⟨k,l,hk,rfl,hl,hown,hB⟩:=hrel
  have hsz:w.heap.size+1<=wr.heap.size:=by have:=hB.size;simpa using this
  by_cases hk0':0<k
  ·have HS:=je (vN hk0' hl.out)
   have hll:l.length<=2:=by
    have h1:=vg List.length hl.out
    have h2:=hlen.out
    rw[jl,oD (by omega:k≠0),List.length_cons] at h1
    omega
   go_wp2_with (at_builtin;refine yx _ rfl _ _ 43 rfl (w.heap.size+1) 148 i0 (.int .u32 0) 1 4 og hi hz0 hz1 hz2 rfl (by decide) _ _ _ rfl (hown.alloc _) ⟨wr.heap.size,0,none⟩ 1 1 [.int .u32 ((k%1000000000:Nat):Int)] rfl rfl (cell_one_new _ _ _) (by simp[Value.oneCell']) (by unfold maxLen;omega) (by omega) (by simp;omega) ?_)
   intro v' w1 hown' hgrow _
   have hown2:w1.ownsRow (w.heap.size+1) 148 1 v' (l++[k%1000000000]).length (cells32 (l++[k%1000000000])):=by
    rw[jl,List.length_singleton]
    have:cells32 (l++[k%1000000000])=cells32 l++[.int .u32 ((k%1000000000:Nat):Int)]:=by simp[cells32]
    rw[this];exact hown'
   have hB1:Below (w.heap.size+1) (w.alloc (.cells #[.bool false,.slice none 0 0] 45)) w1:=(hB.alloc hsz _).grown hgrow (by simp;omega) (fun j e=>(hown.lt j e).1)
   clear hown' hgrow
   go_wp2_with fail
   go_roundw
   case rel=>exact⟨k / 1000000000,l++[k%1000000000],by omega,by go_num,HS,hown2,hB1⟩
   case measure=>simp[intOf];omega
  ·obtain rfl:k=0:=by omega
   have e:l=dig k0:=by rw[<-hl.out,dY,Ba]
   have hR:=Rd.dK hown
   rw[e] at hR
   have hll:(dig k0).length<=2000000001:=by have:=hlen.out;omega
   have q0:=(Bx.new w [.bool false,.slice none 0 0] 45).below hB (by omega)
   have hBw:Below w.heap.size w wr:=((jo _ _).alloc (ay _) _).trans (hB.mono (by omega))
   have HE:=je e
   rw[e] at hown
   clear hk0' hl e
   obtain rfl:=HE.out
   go_wp2_with fail
   refine(jY true _ _ _ hR (bY _) hll).mono ?_
   rw[HX.out]
   rintro e2 w2 ⟨v2,rfl,hi2,hb2⟩
   obtain⟨g2,p2,n2,c2,rfl⟩:=hi2.form
   have q2:=q0.to hb2
   have r0:=q2.c0
   have r1:=q2.c1
   have f0:=q2.f0
   have f1:=q2.f1
   go_wp2_with fail
   exact yh (v:=.agg #[.bool g2,.slice p2 n2 c2]) (by simp[results,Tryz.results33,go_sem,r0,r1]) rfl ⟨_,rfl,dX.fP hi2 q2 rfl rfl _ _,Below.fP (Below.tr hBw hb2) (ay _) _ _⟩
theorem a7U (n:Int) (w:World) (h0:-9223372036854775808<=n) (h1:n<=9223372036854775807) (h:¬ n<0) :
  Calls Tryz.prog 33 #[.int .i64 n] w (DR n w):=by
 obtain⟨i0,hi,hz0,hz1,hz2⟩:=Ah gI
 obtain⟨k0,rfl⟩:=uy (Int.not_lt.1 h)
 have hk1:k0<=9223372036854775808:=by omega
 have hlt:decide ((k0:Int)<0)=false:=by simp
 have HX:Hid (sg false (val (dig k0))=(k0:Int)):=by unfold Hid;rw[bK];rfl
 clear h
 have hlen:Hid ((dig k0).length<=3):=dR (by rw[bM];omega)
 have hO:=wE w [.bool false,.slice none 0 0] 45
 have hB0:Below (w.heap.size+1) (w.alloc (.cells #[.bool false,.slice none 0 0] 45)) ((w.alloc (.cells #[.bool false,.slice none 0 0] 45)).alloc (.cells #[] 148)):=(jo _ _).alloc (by simp) _
 go_enter Tryz.func33,Tryz.ntmps33
 go_wp2_with fail
 go_loopw [3,4,15,16,17,18,19,20,21,22,23,24] (fun m v _ _ _ _ _ _ _ _ _ _ wr=>∃ (k:Nat) (l:List Nat),k<=9223372036854775808/\m=.int .u64 (k:Nat)/\Hid (l++dig k=dig k0)/\wr.ownsRow (w.heap.size+1) 148 1 v l.length (cells32 l)/\Below (w.heap.size+1) (w.alloc (.cells #[.bool false,.slice none 0 0] 45)) wr) (fun m _ _ _ _ _ _ _ _ _ _ _ _=>(intOf m).toNat)
 case atStart=>exact⟨k0,[],hk1,rfl,by simp[Hid],hO,hB0⟩
 case round =>
  obtain⟨k,l,hk,rfl,hl,hown,hB⟩:=hrel
  have hsz:w.heap.size+1<=wr.heap.size:=by have:=hB.size;simpa using this
  by_cases hk0':0<k
  ·have HS:=je (vN hk0' hl.out)
   have hll:l.length<=2:=by
    have h1:=vg List.length hl.out
    have h2:=hlen.out
    rw[jl,oD (by omega:k≠0),List.length_cons] at h1
    omega
   go_wp2_with (at_builtin;refine yx _ rfl _ _ 43 rfl (w.heap.size+1) 148 i0 (.int .u32 0) 1 4 og hi hz0 hz1 hz2 rfl (by decide) _ _ _ rfl (hown.alloc _) ⟨wr.heap.size,0,none⟩ 1 1 [.int .u32 ((k%1000000000:Nat):Int)] rfl rfl (cell_one_new _ _ _) (by simp[Value.oneCell']) (by unfold maxLen;omega) (by omega) (by simp;omega) ?_)
   intro v' w1 hown' hgrow _
   have hown2:w1.ownsRow (w.heap.size+1) 148 1 v' (l++[k%1000000000]).length (cells32 (l++[k%1000000000])):=by
    rw[jl,List.length_singleton]
    have:cells32 (l++[k%1000000000])=cells32 l++[.int .u32 ((k%1000000000:Nat):Int)]:=by simp[cells32]
    rw[this];exact hown'
   have hB1:Below (w.heap.size+1) (w.alloc (.cells #[.bool false,.slice none 0 0] 45)) w1:=(hB.alloc hsz _).grown hgrow (by simp;omega) (fun j e=>(hown.lt j e).1)
   clear hown' hgrow
   go_wp2_with fail
   go_roundw
   case rel=>exact⟨k / 1000000000,l++[k%1000000000],by omega,by go_num,HS,hown2,hB1⟩
   case measure=>simp[intOf];omega
  ·obtain rfl:k=0:=by omega
   have e:l=dig k0:=by rw[<-hl.out,dY,Ba]
   have hR:=Rd.dK hown
   rw[e] at hR
   have hll:(dig k0).length<=2000000001:=by have:=hlen.out;omega
   have q0:=(Bx.new w [.bool false,.slice none 0 0] 45).below hB (by omega)
   have hBw:Below w.heap.size w wr:=((jo _ _).alloc (ay _) _).trans (hB.mono (by omega))
   have HE:=je e
   rw[e] at hown
   clear hk0' hl e
   obtain rfl:=HE.out
   go_wp2_with fail
   refine(jY false _ _ _ hR (bY _) hll).mono ?_
   rw[HX.out]
   rintro e2 w2 ⟨v2,rfl,hi2,hb2⟩
   obtain⟨g2,p2,n2,c2,rfl⟩:=hi2.form
   have q2:=q0.to hb2
   have r0:=q2.c0
   have r1:=q2.c1
   have f0:=q2.f0
   have f1:=q2.f1
   go_wp2_with fail
   exact yh (v:=.agg #[.bool g2,.slice p2 n2 c2]) (by simp[results,Tryz.results33,go_sem,r0,r1]) rfl ⟨_,rfl,dX.fP hi2 q2 rfl rfl _ _,Below.fP (Below.tr hBw hb2) (ay _) _ _⟩
theorem b5l (n:Int) (w:World) (h0:-9223372036854775808<=n) (h1:n<=9223372036854775807) :
  Calls Tryz.prog 33 #[.int .i64 n] w (DR n w):=by
 by_cases h:n<0
 ·exact b1X n w h0 h1 h
 ·exact a7U n w h0 h1 h
theorem b5j {a b:Int} (h:a=b):Ending.returned (.int .u64 a)=.returned (.int .u64 b):=by rw[h]
theorem b1v {l:List Nat} (h:l.length<=2):gr l 1*1000000000+gr l 0=val l:=by
 match l,h with
 | [],_=>simp[gr,val]
 | [a],_=>simp[gr,bZ,val]
 | [a,b],_=>simp[gr,bZ,val,bM];omega
theorem YR (s:Value) (l:List Nat) (w:World) (hs:Rd w s l) (hl:Low l) (h2:l.length<=2) :
  Calls Tryz.prog 216 #[s] w fun e w'=>e=.returned (.int .u64 (val l:Nat))/\w=w':=by
 have hv:=b1v h2
 have g1:=fV hl 1
 have g0:=fV hl 0
 obtain⟨x1,hx1⟩:∃ x1,gr l 1=x1:=⟨_,rfl⟩
 obtain⟨x0,hx0⟩:∃ x0,gr l 0=x0:=⟨_,rfl⟩
 rw[hx1,hx0] at hv
 rw[hx1] at g1
 rw[hx0] at g0
 have HX:=je (And.intro hx1 (And.intro hx0 hv))
 clear hx1 hx0 hv
 go_enter Tryz.func216,Tryz.ntmps216
 go_wp2_with fail
 refine(group_any _ l 1 _ hs hl (by omega)).mono ?_
 rw[show (1:Int).toNat=1 from rfl,HX.out.1]
 rintro e w' ⟨rfl,rfl⟩
 go_wp2_with fail
 refine(group_any _ l 0 _ hs hl (by omega)).mono ?_
 rw[show (0:Int).toNat=0 from rfl,HX.out.2.1]
 rintro e w' ⟨rfl,rfl⟩
 go_wp2_with fail
 go_ret
 exact⟨b5j (by rw[<-HX.out.2.2];simp),rfl⟩
theorem wrap_i64 {k:Nat} (h:k<=9223372036854775807):IntKind.i64.wrap (k:Int)=k:=by simp[IntKind.wrap,IntKind.bits,IntKind.signed];omega
theorem b1W {g1 g2:Bool} {x y:Int} (h1:g1=decide (x<0)) (h2:g2=decide (y<0)) {o:List Nat} (ho:val o=val (dig x.natAbs)*val (dig y.natAbs)):sg (g1 != g2) (val o)=x*y:=by
 rw[ho,bK,bK]
 have e1:=a6u x
 have e2:=a6u y
 rw[<-h1] at e1
 rw[<-h2] at e2
 generalize x.natAbs=k at *
 generalize y.natAbs=l at *
 subst e1
 subst e2
 cases g1<;>cases g2<;>simp[sg,Int.neg_mul,Int.mul_neg]
theorem a7T {g1 g2:Bool} {x y:Int} (h1:g1=decide (x<0)) (h2:g2=decide (y<0)) {o:List Nat} (ho:val o=val (dig x.natAbs)*val (dig y.natAbs)):sg (!g1==g2) (val o)=x*y:=by
 exact b1W h1 h2 ho
theorem b1V (v u:Value) (x y:Int) (w:World) (hv:Raw w v x) (hu:Raw w u y) (hl:isz x<=1000000000) (hl2:isz y<=1000000000) :
  Calls Tryz.prog 161 #[v,u] w (DR (x*y) w):=by
 obtain⟨i0,hi,hz0,hz1,hz2⟩:=Ah gI
 obtain⟨b,p,n,c,rfl⟩:=hv.form
 obtain⟨d,o,m,e,rfl⟩:=hu.form
 have hlx:(dig x.natAbs).length<=1000000000:=hl
 have hly:(dig y.natAbs).length<=1000000000:=hl2
 have OB:Below w.heap.size w w:=jo _ _
 go_enter Tryz.func161,Tryz.ntmps161
 go_wp2_with fail
 obtain⟨hA1,a0,b0,g0⟩:=bx3 w rfl [.bool b,.slice p n c] 45 [.bool d,.slice o m e] 45 [.bool false,.slice none 0 0] 45
 obtain⟨l0,t0,p0,w0⟩:=a0.drew.cf2
 obtain⟨a1,l1,i1,q1⟩:=b0.drew.cf2
 have tk1:True:=trivial
 have tk2:True:=trivial
 go_region_with
  (first
   | (((have:=tk1);clear tk1;have h0:=(hv.below hA1).drew;go_at_call 164;(with_reducible refine(JL _ (x) _ h0 (by omega)).mono ?_);rintro e w1 ⟨v1,rfl,hi1,hb1⟩;obtain⟨g1,p1,n1,c1,rfl⟩:=hi1.form;obtain rfl:n1=(dig x.natAbs).length:=hi1.len;have hf1:=je (dX.flag hi1);have qF:=(b0.drew.to hb1);obtain⟨d1,m1,j1,s1⟩:=qF.cf2;have xP:=(a0.drew.to hb1);obtain⟨m0,u0,q0,y0⟩:=xP.cf2))
   | (((have:=tk2);clear tk2;have b7n:=((hu.below hA1).drew.below hb1);have j0:=b7n;go_at_call 164;(with_reducible refine(JL _ (y) _ j0 (by omega)).mono ?_);rintro e w2 ⟨v2,rfl,hi2,hb2⟩;obtain⟨g2,p2,n2,c2,rfl⟩:=hi2.form;obtain rfl:n2=(dig y.natAbs).length:=hi2.len;have hf2:=je (dX.flag hi2);have b4V:=(xP.to hb2);obtain⟨n0,v0,s0,z0⟩:=b4V.cf2;have b4W:=(qF.to hb2);obtain⟨e1,o1,k1,t1⟩:=b4W.cf2)))
 all_goals
  have k0:=(hi1.below hb2)
  have b7Q:=((g0.drew.to hb1).to hb2)
  have d0:=(Below.tr (Below.tr (Below.tr OB hA1).drew hb1) hb2)
  have hx:=(((k0.fP b4V rfl rfl (.bool g1) (.slice p1 (dig x.natAbs).length c1)).fP (b4W.vV (b:=w.heap.size) (by omega) (.bool g1) (.slice p1 (dig x.natAbs).length c1)) rfl rfl (.bool g2) (.slice p2 (dig y.natAbs).length c2))).rd
  have hy:=(((hi2.fP b4V rfl rfl (.bool g1) (.slice p1 (dig x.natAbs).length c1)).fP (b4W.vV (b:=w.heap.size) (by omega) (.bool g1) (.slice p1 (dig x.natAbs).length c1)) rfl rfl (.bool g2) (.slice p2 (dig y.natAbs).length c2))).rd
  have qx:=((b4V.store2 (.bool g1) (.slice p1 (dig x.natAbs).length c1)).vV (b:=w.heap.size+1) (by omega) (.bool g2) (.slice p2 (dig y.natAbs).length c2))
  have qy:=((b4W.vV (b:=w.heap.size) (by omega) (.bool g1) (.slice p1 (dig x.natAbs).length c1)).store2 (.bool g2) (.slice p2 (dig y.natAbs).length c2))
  have qr:=((b7Q.vV (b:=w.heap.size) (by omega) (.bool g1) (.slice p1 (dig x.natAbs).length c1)).vV (b:=w.heap.size+1) (by omega) (.bool g2) (.slice p2 (dig y.natAbs).length c2))
  have hBB:=(Below.fP (Below.fP d0 (b:=w.heap.size) (by omega) (.bool g1) (.slice p1 (dig x.natAbs).length c1)) (b:=w.heap.size+1) (by omega) (.bool g2) (.slice p2 (dig y.natAbs).length c2))
  generalize ((((w2.setCell ⟨w.heap.size,0,none⟩ (.bool g1)).setCell ⟨w.heap.size,1,none⟩ (.slice p1 (dig x.natAbs).length c1)).setCell ⟨w.heap.size+1,0,none⟩ (.bool g2)).setCell ⟨w.heap.size+1,1,none⟩ (.slice p2 (dig y.natAbs).length c2))=W at *
  have hlow1:=bY x.natAbs
  have hlow2:=bY y.natAbs
  have c3I:=je (fun(o:List Nat) (h:val o=val (dig x.natAbs)*val (dig y.natAbs))=>a7T hf1.out hf2.out h)
  generalize dig x.natAbs=a at *
  generalize dig y.natAbs=bb at *
  have HA:=je hlow1
  have HB:=je hlow2
  clear hlow1 hlow2
  obtain⟨N,hN⟩:∃ N:Nat,(a.length:Int)+bb.length=N:=⟨a.length+bb.length,by omega⟩
  have hN':N=a.length+bb.length:=by omega
  have HN:=je hN'
  have nn1:N<=2000000000:=by omega
  have nn2:a.length+bb.length<=N:=by omega
  clear hN'
  have qx1:=qx.c1
  have qy1:=qy.c1
  go_wp2_with (at_make;refine Dx _ rfl _ _ 43 rfl W.heap.size 148 i0 (.int .u32 0) 1 og hi hz0 hz1 _ _ _ _ N rfl rfl (by omega) (by omega) (by rw[hz2];omega) (by unfold maxLen;omega) (ay _) ?_)
  intro w3 hown hgrow
  rw[iD] at hown
  have hB3:Below W.heap.size W w3:=(jo _ _).grown hgrow (ay _) (fun k e=>by cases e)
  clear hgrow hN qx1 qy1
  go_wp2_with fail
  go_loopw [6,7,8,9,22,23,24,25,26,27,28,29,30,31,32,33,34,35,36,37,38,39,40,41,42,43,44,45,46,47,48,49,50,51,52,53,54,55,56,57,58,59,60,61,62,63,64,65,66,67,68,69,70,71,72,73,74,75,76,77] (fun i _ _ _ _ _ _ _ _ _ _ _ _ _ _ _ _ _ _ _ _ _ _ _ _ _ _ _ _ _ _ _ _ _ _ _ _ _ _ _ _ _ _ _ _ _ _ _ _ _ _ _ _ _ _ _ _ _ _ _ wr=>∃ (k:Nat) (o:List Nat),k<=a.length/\i=.int .i64 (k:Nat)/\lV a bb o N k/\wr.ownsRow W.heap.size 148 1 (.slice (some ⟨W.heap.size,0,none⟩) N N) N (cells32 o)/\Below W.heap.size W wr) (fun i _ _ _ _ _ _ _ _ _ _ _ _ _ _ _ _ _ _ _ _ _ _ _ _ _ _ _ _ _ _ _ _ _ _ _ _ _ _ _ _ _ _ _ _ _ _ _ _ _ _ _ _ _ _ _ _ _ _ _ _=>a.length-(intOf i).toNat)
  case atStart=>exact⟨0,_,by omega,rfl,lV.start _ _ _,hown,hB3⟩
  case round =>
   obtain⟨k,o0,hk,rfl,hI,hO,hB⟩:=hrel
   have qx':=qx.to hB
   have qx1:=qx'.c1
   by_cases hlt:k<a.length
   ·have ga:gr a k<=999999999:=fV HA.out k
    go_wp2_with fail
    obtain⟨wo,rfl⟩:∃ wo:World,wo=wr:=⟨_,rfl⟩
    go_loopw [7,8,9,29,30,31,32,33,34,35,36,37,38,39,40,41,42,43,44,45,46,47,48,49,50,51,52,53,54,55,56,57,58,59,60,61,62,63,64,65,66,67,68] (fun cc i _ _ _ _ _ _ _ _ _ _ _ _ _ _ _ _ _ _ _ _ _ _ _ _ _ _ _ _ _ _ _ _ _ _ _ _ _ _ _ _ _ wr=>∃ (j e:Nat) (o:List Nat),j<=bb.length/\i=.int .i64 (j:Nat)/\cc=.int .u64 (e:Nat)/\lI o0 bb o N k (gr a k) j e/\wr.ownsRow W.heap.size 148 1 (.slice (some ⟨W.heap.size,0,none⟩) N N) N (cells32 o)/\Below W.heap.size W wr) (fun _ i _ _ _ _ _ _ _ _ _ _ _ _ _ _ _ _ _ _ _ _ _ _ _ _ _ _ _ _ _ _ _ _ _ _ _ _ _ _ _ _ _ _=>bb.length-(intOf i).toNat)
    case atStart=>exact⟨0,0,o0,by omega,rfl,rfl,lI.start hI.len hI.low,hO,hB⟩
    case round =>
     obtain⟨j,e,o,hj,rfl,rfl,hI2,hO2,hB2⟩:=hrel
     clear qx' qx1
     have qx':=qx.to hB2
     have qy':=qy.to hB2
     have qx1:=qx'.c1
     have qy1:=qy'.c1
     have ge:e<=999999999:=by have:=hI2.car;omega
     by_cases b0d:j<bb.length
     ·have gb:gr bb j<=999999999:=fV HB.out j
      have go:gr o (k+j)<=999999999:=fV hI2.low (k+j)
      have hN:=hI2.step (by omega) (by omega) (by omega)
      obtain⟨ba,oa,rfl,hba,hca⟩:=hx.at (by intro e;subst e;simp at hlt)
      have hcell:wr.cell? ⟨ba,oa+k,none⟩=some (.int .u32 (gr a k:Nat)):=(hB2.cell (p:=⟨ba,oa+k,none⟩) hba).trans (hca k hlt)
      obtain⟨bc,ob,rfl,hbb,hcb⟩:=hy.at (by intro e;subst e;simp at b0d)
      have e0:wr.cell? ⟨bc,ob+j,none⟩=some (.int .u32 (gr bb j:Nat)):=(hB2.cell (p:=⟨bc,ob+j,none⟩) hbb).trans (hcb j b0d)
      have hcl:wr.cell? ⟨W.heap.size,k+j,none⟩=some (.int .u32 (gr o (k+j):Nat)):=by
       rw[hO2.cellAt (k+j) (by omega)];exact eH (by rw[hI2.len];omega)
      have hfr:=hO2.frozenAt (k+j)
      have hst:=fun v:Nat=>(fG o (k+j) v) ▸ hO2.stored (k+j) (.int .u32 (v:Nat))
      obtain⟨t,ht⟩:∃ t,k+j=t:=⟨_,rfl⟩
      rw[ht] at hcl hfr hst hN go
      obtain⟨x0,hx0⟩:∃ x0,gr o t=x0:=⟨_,rfl⟩
      obtain⟨pa,hpa⟩:∃ pa,gr a k=pa:=⟨_,rfl⟩
      obtain⟨pb,hpb⟩:∃ pb,gr bb j=pb:=⟨_,rfl⟩
      rw[hx0] at hcl hN go
      rw[hpa] at hcell ga
      rw[hpb] at e0 hN gb
      obtain⟨m,hm⟩:∃ m:Nat,(pa:Int)*pb=m:=⟨pa*pb,by simp⟩
      have hm2:m<=999999998000000001:=by
       have h1:pa*pb<=999999999*999999999:=xq ga gb
       have h2:((pa*pb:Nat):Int)=m:=by rw[<-hm];simp
       omega
      have hm3:pa*pb=m:=by
       have h2:((pa*pb:Nat):Int)=m:=by rw[<-hm];simp
       omega
      rw[hpa,hm3] at hN
      obtain⟨s2,hs2⟩:∃ s2:Nat,(x0:Int)+m+e=s2:=⟨x0+m+e,by simp⟩
      have c2X:x0+m+e=s2:=by omega
      rw[c2X] at hN
      obtain⟨r,hr⟩:∃ r,s2%1000000000=r:=⟨_,rfl⟩
      obtain⟨v,hv'⟩:∃ v,s2 / 1000000000=v:=⟨_,rfl⟩
      rw[hr,hv'] at hN
      have hr2:(s2:Int)%1000000000=r:=by omega
      have hv2:(s2:Int) / 1000000000=v:=by omega
      have hr3:r<=999999999:=by omega
      have hst:=hst r
      have hti:(k:Int)+j=t:=by omega
      have wt:IntKind.i64.wrap ((k:Int)+j)=t:=by rw[hti];exact wrap_i64 (by omega)
      have w1:IntKind.u64.wrap ((pa:Int)*pb)=m:=by rw[hm];exact wrap_u64 (by omega)
      have w2:IntKind.u64.wrap ((x0:Int)+m)=(x0:Int)+m:=by
       have:(x0:Int)+m=((x0+m:Nat):Int):=by simp
       rw[this];exact wrap_u64 (by omega)
      have w4:IntKind.u64.wrap ((x0:Int)+m+e)=s2:=by rw[hs2];exact wrap_u64 (by omega)
      have b1:(0:Int)<=t:=by omega
      have b2:(t:Int)<N:=by omega
      have b3:(k:Int)<a.length:=by omega
      have b4:(j:Int)<bb.length:=by omega
      have b5:(0:Int)<=k:=by omega
      have b6:(0:Int)<=j:=by omega
      have b7:t<N:=by omega
      have HN2:=je hN
      have HST:=je hst
      have HPA:=je hpa
      clear hca hcb hN hst hx0 hpa hpb hm3 c2X hr hv' ht
      go_wp2_with fail
      go_quiet (fail)
      go_wp2_with fail
      go_roundw
      case rel=>exact⟨j+1,v,_,by omega,by go_num,rfl,by rw[HPA.out];exact HN2.out,by first|exact jF HST.out.1 (Below.qU (jo _ _) _)|(rw[<-fG];exact((jF hO2 (Below.qU (jo _ _) _)).stored t (.int .u32 (r:Nat))).1),by first|exact(Below.qU hB2 _).setCell (p:=⟨W.heap.size,t,none⟩) (ay _) _|exact Below.qU (hB2.setCell (p:=⟨W.heap.size,t,none⟩) (ay _) _) _⟩
      case measure=>simp[intOf];omega
     ·obtain rfl:j=bb.length:=by omega
      have hN:=lI.done hI hI2 (by omega)
      have hcl:wr.cell? ⟨W.heap.size,k+bb.length,none⟩=some (.int .u32 (gr o (k+bb.length):Nat)):=by
       rw[hO2.cellAt (k+bb.length) (by omega)];exact eH (by rw[hI2.len];omega)
      have hfr:=hO2.frozenAt (k+bb.length)
      go_wp2_with fail
      have hst:=hO2.stored (k+bb.length) (.int .u32 (e:Nat))
      rw[fG] at hst
      go_roundw
      case rel=>exact⟨k+1,_,by omega,by go_num,hN,hst.1,hB2.setCell (p:=⟨W.heap.size,k+bb.length,none⟩) (ay _) _⟩
      case measure=>simp[intOf];omega
   ·obtain rfl:k=a.length:=by omega
    have hvv:=hI.done HN.out
    have HXX:=je (c3I.out o0 hvv)
    have hlow:=hI.low
    have hlen:=hI.len
    have hR:=Rd.dK (l:=o0) (by rw[hlen];exact hO)
    have HLN:=je hlen
    have qy':=qy.to hB
    have qr':=qr.to hB
    have qx0:=qx'.c0
    have qy0:=qy'.c0
    clear hvv hlen
    go_wp2_with fail
    refine(jY _ _ o0 _ hR hlow (by rw[HLN.out];omega)).mono ?_
    rintro e2 w4 ⟨v2,rfl,hi4,hb4⟩
    obtain⟨g4,p4,n4,c4,rfl⟩:=hi4.form
    have q4:=qr'.to hb4
    have r0:=q4.c0
    have r1:=q4.c1
    have f0:=q4.f0
    have f1:=q4.f1
    have hB4:=Below.tr (Below.tr hBB hB) hb4
    go_wp2_with fail
    exact yh (v:=.agg #[.bool g4,.slice p4 n4 c4]) (by simp[results,Tryz.results161,go_sem,r0,r1]) rfl ⟨_,rfl,dX.fP (ES hi4 HXX.out) q4 rfl rfl _ _,Below.fP hB4 (by omega) _ _⟩
set_option maxHeartbeats 8000000
theorem a5l (x y:Int) {q:Int} (h:q=x.fdiv y):q=x.fdiv y/\x-q*y=x.fmod y:=by
 refine⟨h,?_⟩
 have:=Int.fmod_add_mul_fdiv x y
 rw[<-h,Int.mul_comm] at this
 omega
theorem b0x {x:Int} {b:Bool} {k:Nat} (h:isz x<=k) (m n:Nat) (hm:m=x.natAbs):isz (sg b (m / n))<=k:=by
 refine iq (SG ?_) h
 rw[a4u,hm];exact Nat.div_le_self _ _
set_option maxHeartbeats 1000000
theorem a8G {f:FuncId} {pre:LN->LN->Prop} [∀ x y,Dc (pre x y)] {g:LN->LN->LN} (h:∀ (s t:Value) (a b:LN) (w:World),Rd w s a->Rd w t b->pre a b->Calls Tryz.prog f #[s,t] w (a8x (g a b) w)):aI Tryz.prog f (cGG pre g):=by
 intro F w vs x hF hvs hp
 obtain⟨v,vs',rfl,h1,u,vs'',rfl,h2,h3⟩:=hvs
 have h3:vs''=[]:=h3
 subst h3
 refine(h v u x.1 x.2.1 w (qX h1) (qX h2) hp).mono ?_
 rintro e w' ⟨r,rfl,hr,_,hb⟩
 exact⟨r,rfl,KA hr,hb⟩
noncomputable def c4i:Ctr:=⟨[tB,tG],[tZ],fun x=>Low x.2.1/\(show LN from x.2.1).length<=2000000001,fun x=>(sg x.1 (val x.2.1),())⟩
theorem MG:aI Tryz.prog 115 c4i:=by
 intro F w vs x hF hvs hp
 obtain⟨v,vs',rfl,h1,u,vs'',rfl,h2,h3⟩:=hvs
 have h3:vs''=[]:=h3
 subst h3
 rw[a3q h1]
 refine(jY x.1 u x.2.1 w (qX h2) hp.1 hp.2).mono ?_
 rintro e w' ⟨r,rfl,hr,hb⟩
 exact⟨r,rfl,ZF hr,hb⟩
theorem xX:aI Tryz.prog 164 (cZ1 fun x=>x):=by
 intro F w vs x hF hvs hp
 obtain⟨v,vs',rfl,h1,h3⟩:=hvs
 have h3:vs'=[]:=h3
 subst h3
 refine(a4q v x.1 w (WE h1) hp).mono ?_
 rintro e w' ⟨r,rfl,hr,hb⟩
 exact⟨r,rfl,ZF hr,hb⟩
noncomputable def c4q:Ctr:=⟨[tG,tG],[tG,tG],fun x=>Canon x.1/\Canon x.2.1/\(show LN from x.1).length<=1000000000/\(show LN from x.2.1)≠[],fun x=>(dig (val x.1 / val x.2.1),dig (val x.1%val x.2.1),())⟩
theorem a4n:aI Tryz.prog 215 c4q:=by
 intro F w vs x hF hvs hp
 obtain⟨v,vs',rfl,h1,u,vs'',rfl,h2,h3⟩:=hvs
 have h3:vs''=[]:=h3
 subst h3
 refine(FN v u x.1 x.2.1 w (qX h1) (qX h2) hp.1 hp.2.1 hp.2.2.1 hp.2.2.2).mono ?_
 rintro e w' ⟨r,s,rfl,hr,hs,hb⟩
 exact⟨_,rfl,⟨[_,_],rfl,_,_,rfl,KA hr,_,_,rfl,KA hs,rfl⟩,hb⟩
noncomputable def c4z:Ctr:=⟨[tG,tG],[tI],fun x=>Canon x.1/\Canon x.2.1/\(show LN from x.1).length<=2000000000,fun x=>(dF (val x.1) (val x.2.1),())⟩
theorem a7X:aI Tryz.prog 240 c4z:=by
 intro F w vs x hF hvs hp
 obtain⟨v,vs',rfl,h1,u,vs'',rfl,h2,h3⟩:=hvs
 have h3:vs''=[]:=h3
 subst h3
 refine(wO v u x.1 x.2.1 w (qX h1) (qX h2) hp.1 hp.2.1 hp.2.2).mono ?_
 rintro e w' ⟨rfl,hb⟩
 exact⟨_,rfl,VB _,hb⟩
theorem c3C:aI Tryz.prog 239 (cGG (fun a b=>Low a/\Low b/\a.length<=1000000000/\b.length<=1000000000) (fun a b=>dig (val a+val b))):=(a8G fun s t a b w hs ht h=>a7W s t a b w hs ht h.1 h.2.1 h.2.2.1 h.2.2.2)
theorem c3E:aI Tryz.prog 241 (cGG (fun a b=>Low a/\Low b/\a.length<=1000000002/\b.length<=a.length/\val b<=val a) (fun a b=>dig (val a-val b))):=(a8G fun s t a b w hs ht h=>FK s t a b w hs ht h.1 h.2.1 h.2.2.1 h.2.2.2.1 h.2.2.2.2)
theorem a6K:aI Tryz.prog 33 cIZ:=(a3u fun x w h0 h1=>b5l x w h0 h1)
theorem QA:aI Tryz.prog 106 (cZ1 fun x=>-x):=by
 refine aK ((nil0.ad xX).ad MG) ⟨[2,1],[],[]⟩ Tryz.func106 rfl (by decide) (fun x=>[]) (fun x hp=>?_)
 obtain⟨x,u⟩:=x
 change Int at x
 refine aU ((isz x<=1000000000/\True)/\((Low (dig (Int.natAbs x))/\List.length (dig (Int.natAbs x))<=2000000001)/\True)/\True/\sg (!decide (x<0)) (val (dig (Int.natAbs x)))=-x/\True) (by kernel_rfl) ?_
 have hZ:(⟨false,0,[],[]⟩:aH)=bF:=rfl
 try simp only[aC,aj,ah]
 try dsimp only[aB,asT,aA,aF,Ty.den,Lf.den] at *
 try simp only[hZ,Int.toNat_natCast,aC,aj,ah,jh,jg,gy,bf]
 try simp only[bT,bP,List.all_cons,List.all_nil,jk,dw,ig,jf,jy,ne_eq,au,bg,dn,eu,jd,oq,jr,ou,jh,jg,iw,bn,List.length_cons,List.length_nil]
 have hp:isz x<=1000000000:=hp
 refine⟨hp,⟨bY _,by rw[c2z];omega⟩,?_⟩
 rw[bK]
 unfold sg
 by_cases h:x<0<;>simp[h]<;>omega
theorem DN:aI Tryz.prog 77 (c4B 1000000000 sgn):=by
 refine aK (nil0.ad xX) ⟨[1],[],[]⟩ Tryz.func77 rfl (by decide) (fun x=>[]) (fun x hp=>?_)
 obtain⟨x,u⟩:=x
 change Int at x
 refine aU ((isz x<=1000000000/\True)/\ifB (aB (dig (Int.natAbs x)).length==0) (True/\0=sgn x/\True) (ifB (decide (x<0)) (True/\-1=sgn x/\True) (True/\1=sgn x/\True))) (by kernel_rfl) ?_
 have hZ:(⟨false,0,[],[]⟩:aH)=bF:=rfl
 try simp only[aC,aj,ah]
 try dsimp only[aB,asT,aA,aF,Ty.den,Lf.den] at *
 try simp only[hZ,Int.toNat_natCast,aC,aj,ah,jh,jg,gy,bf]
 try simp only[bT,bP,List.all_cons,List.all_nil,jk,dw,ig,jf,jy,ne_eq,au,bg,dn,eu,jd,oq,jr,ou,jh,jg,iw,bn,List.length_cons,List.length_nil]
 rw[a1E]
 refine⟨hp,fun h=>?_,fun h=>⟨fun h1=>(uj h1).symm,fun h1=>?_⟩⟩
 ·rw[show x=0 by have:=qw h;omega];rfl
 ·have:=ug h
  exact(wu (by omega)).symm
theorem a6J:aI Tryz.prog 163 (cZ2 fun x y=>x+y):=by
 refine aK (((((nil0.ad xX).ad MG).ad c3C).ad c3E).ad a7X) ⟨[4,2,3],[],[]⟩ Tryz.func163 rfl (by decide) (fun x=>[]) (fun x hp=>?_)
 obtain⟨x,y,u⟩:=x
 change Int at x
 change Int at y
 refine aU (let A₀:=(dig (val (dig (Int.natAbs x))+val (dig (Int.natAbs y))));let A₁:=(dig (val (dig (Int.natAbs x))-val (dig (Int.natAbs y))));let A₂:=(dig (val (dig (Int.natAbs y))-val (dig (Int.natAbs x))));(isz x<=1000000000/\isz y<=1000000000/\True)/\ifB (decide (x<0)==decide (y<0)) (((Low (dig (Int.natAbs x))/\Low (dig (Int.natAbs y))/\List.length (dig (Int.natAbs x))<=1000000000/\List.length (dig (Int.natAbs y))<=1000000000)/\(Low A₀/\List.length A₀<=2000000001)/\True)/\True/\sg (decide (x<0)) (val A₀)=x+y/\True) (((Canon (dig (Int.natAbs x))/\Canon (dig (Int.natAbs y))/\List.length (dig (Int.natAbs x))<=2000000000)/\True)/\ifB (decide (dF (aB (val (dig (Int.natAbs x)))) (aB (val (dig (Int.natAbs y)))) ≥ 0)) (((Low (dig (Int.natAbs x))/\Low (dig (Int.natAbs y))/\List.length (dig (Int.natAbs x))<=1000000002/\List.length (dig (Int.natAbs y))<=List.length (dig (Int.natAbs x))/\val (dig (Int.natAbs y))<=val (dig (Int.natAbs x)))/\(Low A₁/\List.length A₁<=2000000001)/\True)/\True/\sg (decide (x<0)) (val A₁)=x+y/\True) (((Low (dig (Int.natAbs y))/\Low (dig (Int.natAbs x))/\List.length (dig (Int.natAbs y))<=1000000002/\List.length (dig (Int.natAbs x))<=List.length (dig (Int.natAbs y))/\val (dig (Int.natAbs x))<=val (dig (Int.natAbs y)))/\(Low A₂/\List.length A₂<=2000000001)/\True)/\True/\sg (decide (y<0)) (val A₂)=x+y/\True))) (by kernel_rfl) ?_
 have hZ:(⟨false,0,[],[]⟩:aH)=bF:=rfl
 try simp only[aC,aj,ah]
 try dsimp only[aB,asT,aA,aF,Ty.den,Lf.den] at *
 try simp only[hZ,Int.toNat_natCast,aC,aj,ah,jh,jg,gy,bf]
 try simp only[bT,bP,List.all_cons,List.all_nil,jk,dw,ig,jf,jy,ne_eq,au,bg,dn,eu,jd,oq,jr,ou,jh,jg,iw,bn,List.length_cons,List.length_nil]
 obtain⟨l1,l2⟩:isz x<=1000000000/\isz y<=1000000000:=hp
 have d1:(dig x.natAbs).length<=1000000000:=l1
 have d2:(dig y.natAbs).length<=1000000000:=l2
 have d3:=a5Q x.natAbs y.natAbs
 unfold nsz at d3
 have d4:=aV (Nat.sub_le x.natAbs y.natAbs)
 have d5:=aV (Nat.sub_le y.natAbs x.natAbs)
 have e:x+y=sg (decide (x<0)) x.natAbs+sg (decide (y<0)) y.natAbs:=by rw[sgf,sgf]
 simp only[bK]
 rw[e]
 refine⟨⟨l1,l2⟩,fun h=>⟨⟨⟨bY _,bY _,l1,l2⟩,bY _,by omega⟩,c3t h⟩,fun h=>⟨⟨dG _,dG _,by omega⟩,fun h3=>?_,fun h3=>?_⟩⟩
 ·have h4:=a4Y h3
  have:=aV h4
  exact⟨⟨⟨bY _,bY _,by omega,this,h4⟩,bY _,by omega⟩,c3u h h4⟩
 ·have h4:=a4Z h3
  have:=aV h4
  exact⟨⟨⟨bY _,bY _,by omega,this,h4⟩,bY _,by omega⟩,c3v h h4⟩
theorem a6M:aI Tryz.prog 214 (cZ2 fun x y=>x-y):=by
 refine aK ((nil0.ad a6J).ad QA) ⟨[4],[],[]⟩ Tryz.func214 rfl (by decide) (fun x=>[]) (fun x hp=>?_)
 obtain⟨x,y,u⟩:=x
 change Int at x
 change Int at y
 refine aU ((isz y<=1000000000/\(isz x<=1000000000/\isz (-y)<=1000000000)/\True)/\True/\x+-y=x-y/\True) (by kernel_rfl) ?_
 have hZ:(⟨false,0,[],[]⟩:aH)=bF:=rfl
 try simp only[aC,aj,ah]
 try dsimp only[aB,asT,aA,aF,Ty.den,Lf.den] at *
 try simp only[hZ,Int.toNat_natCast,aC,aj,ah,jh,jg,gy,bf]
 try simp only[bT,bP,List.all_cons,List.all_nil,jk,dw,ig,jf,jy,ne_eq,au,bg,dn,eu,jd,oq,jr,ou,jh,jg,iw,bn,List.length_cons,List.length_nil]
 obtain⟨l1,l2⟩:isz x<=1000000000/\isz y<=1000000000:=hp
 exact⟨⟨l2,l1,by rw[kH];exact l2⟩,Int.sub_eq_add_neg.symm⟩
theorem a3h:aI Tryz.prog 161 (cZ2 fun x y=>x*y):=(a8K fun v u x y w h1 h2 l1 l2=>b1V v u x y w h1 h2 l1 l2)
theorem a6L:aI Tryz.prog 200 (c1K 400000000):=by
 refine aK ((((((nil0.ad xX).ad MG).ad a4n).ad a6K).ad a6M).ad a3h) ⟨[4,5,9,2,3],[],[]⟩ Tryz.func200 rfl (by decide) (fun x=>[]) (fun x hp=>?_)
 obtain⟨x,y,u⟩:=x
 change Int at x
 change Int at y
 refine aU (let A₀:=(dig (val (dig (Int.natAbs x)) / val (dig (Int.natAbs y))));let A₁:=(decide (x<0) != decide (y<0));let A₂:=((A₁==true)=true->(A₁==true)=true/\True);(isz x<=1000000000/\isz y<=1000000000/\True)/\ifB (aB (dig (Int.natAbs y)).length==0) (True/\0=Int.fdiv x y/\True/\0=Int.fmod x y/\True/\asT Int 14=0/\True) (((Canon (dig (Int.natAbs x))/\Canon (dig (Int.natAbs y))/\List.length (dig (Int.natAbs x))<=1000000000/\dig (Int.natAbs y)≠aF Nat)/\True)/\((Low A₀/\List.length A₀<=2000000001)/\True)/\(A₂/\A₂/\(A₁=true->(A₁==true)=true)/\True)/\ifB (bif decide (x<0) != decide (y<0) then decide (aB (dig (val (dig (Int.natAbs x))%val (dig (Int.natAbs y)))).length > 0) else false) ((aX 1/\(isz (sg A₁ (val A₀))<=1000000000/\isz 1<=1000000000)/\True)/\((isz (sg A₁ (val A₀)-1)<=1000000000/\isz y<=1000000000)/\(isz x<=1000000000/\isz ((sg A₁ (val A₀)-1)*y)<=1000000000)/\True)/\True/\sg A₁ (val A₀)-1=Int.fdiv x y/\True/\x-(sg A₁ (val A₀)-1)*y=Int.fmod x y/\True/\asT Int 0=0/\True) (((isz (sg A₁ (val A₀))<=1000000000/\isz y<=1000000000)/\(isz x<=1000000000/\isz (sg A₁ (val A₀)*y)<=1000000000)/\True)/\True/\sg A₁ (val A₀)=Int.fdiv x y/\True/\x-sg A₁ (val A₀)*y=Int.fmod x y/\True/\asT Int 0=0/\True))) (by kernel_rfl) ?_
 have hZ:(⟨false,0,[],[]⟩:aH)=bF:=rfl
 try simp only[aC,aj,ah]
 try dsimp only[aB,asT,aA,aF,Ty.den,Lf.den] at *
 try simp only[hZ,Int.toNat_natCast,aC,aj,ah,jh,jg,gy,bf]
 try simp only[bT,bP,List.all_cons,List.all_nil,jk,dw,ig,jf,jy,ne_eq,au,bg,dn,eu,jd,oq,jr,ou,jh,jg,iw,bn,List.length_cons,List.length_nil]
 obtain⟨l1,l2,hy⟩:isz x<=400000000/\isz y<=400000000/\y≠0:=hp
 have n0:0<y.natAbs:=by omega
 simp only[bK,a9p,a1E]
 have sz:∀ b,isz (sg b (x.natAbs / y.natAbs:Nat))<=400000000:=fun b=>b0x l1 _ _ rfl
 have lq:(dig (x.natAbs / y.natAbs)).length<=400000000:=iq (aV (Nat.div_le_self _ _)) l1
 have sz1:∀ b,isz (sg b (x.natAbs / y.natAbs:Nat)-1)<=400000001:=fun b=>iq (a0B _ _) (by rw[show isz 1=1 by decide +kernel];have:=sz b;omega)
 refine⟨⟨by omega,by omega⟩,fun h=>absurd (qw h) (by omega),fun _=>⟨⟨dG _,dG _,by rw[c2z];omega,fun e=>by have:=iH.1 e;omega⟩,⟨bY _,by omega⟩,⟨fun h=>h,fun h=>h,fun h=>by rw[h];rfl⟩,fun h=>?_,fun h=>?_⟩⟩
 ·cases hs:decide (x<0) != decide (y<0)
  ·rw[hs] at h;cases h
  ·rw[hs] at h
   have hr:x.natAbs%y.natAbs≠0:=qw h
   obtain⟨a,b⟩:=WZ (decide (x<0)) (decide (y<0)) x.natAbs y.natAbs n0 hs hr
   rw[sgf,sgf] at a b
   have e:sg true (x.natAbs / y.natAbs:Nat)-1=x.fdiv y:=by rw[a];unfold sg;simp;omega
   have f:=a5l x y e
   have s1:=sz true
   have s2:=sz1 true
   have s3:=gJ (sg true (x.natAbs / y.natAbs:Nat)-1) y
   exact⟨⟨⟨by omega,by omega⟩,by omega,by decide +kernel⟩,⟨⟨by omega,by omega⟩,by omega,by omega⟩,f⟩
 ·have key:∀ q:Int,isz q<=400000000->q=x.fdiv y->((isz q<=1000000000/\isz y<=1000000000)/\isz x<=1000000000/\isz (q*y)<=1000000000)/\q=x.fdiv y/\x-q*y=x.fmod y:=fun q hq e=>by
   have:=gJ q y
   exact⟨⟨⟨by omega,by omega⟩,by omega,by omega⟩,a5l x y e⟩
  cases hs:decide (x<0) != decide (y<0)
  ·have hs:decide (x<0)=decide (y<0):=by simpa using hs
   obtain⟨a,b⟩:=XA (decide (y<0)) x.natAbs y.natAbs n0
   rw[sgf,<-hs,sgf] at a
   exact key _ (sz false) a.symm
  ·have hr:x.natAbs%y.natAbs=0:=Decidable.byContradiction fun e=>by rw[hs,uf e] at h;cases h
   obtain⟨a,b⟩:=QY (decide (x<0)) (decide (y<0)) x.natAbs y.natAbs n0 hs hr
   rw[sgf,sgf] at a
   exact key _ (sz true) a.symm
set_option maxHeartbeats 4000000
theorem c1h (w:World) (r q:Nat):Rd (w.alloc (.cells #[.int .u32 (r:Nat),.int .u32 (q:Nat)] 148)) (.slice (some ⟨w.heap.size,0,none⟩) 2 2) [r,q] :=
 Rd.dK (l:=[r,q]) (World.ownsRow_lit (size:=1) w #[.int .u32 (r:Nat),.int .u32 (q:Nat)] 2 (ay _) (by simp[maxLen]) (by simp))
theorem b1T (v u:Value) (x y:Int) (w:World) (hv:Raw w v x) (hu:Raw w u y) (hl:isz x<=1000000000) (hl2:isz y<=1000000000) :
  Calls Tryz.prog 131 #[v,u] w (DR ((Int.gcd x y:Nat):Int) w):=by
 obtain⟨b,p,n,c,rfl⟩:=hv.form
 obtain⟨d,o,m,e,rfl⟩:=hu.form
 have hlx:(dig x.natAbs).length<=1000000000:=hl
 have hly:(dig y.natAbs).length<=1000000000:=hl2
 have hfi:=iU
 have k0:=iU
 have OB:Below w.heap.size w w:=jo _ _
 go_enter Tryz.func131,Tryz.ntmps131
 go_wp2_with fail
 obtain⟨hA1,l0,m0,n0⟩:=bx3 w rfl [.bool b,.slice p n c] 45 [.bool d,.slice o m e] 45 [.bool false,.slice none 0 0] 45
 have c3N:=(ZN.mk (l0.drew).bs2 (m0.drew).bs2)
 have tk1:True:=trivial
 have tk2:True:=trivial
 go_region_held3 (ZN (BS2 w.heap.size (.bool b) (.slice p n c)) (BS2 (w.heap.size+1) (.bool d) (.slice o m e))) (first|with_reducible exact c3N|with_reducible exact vY.go (ZN.hk BS2.hk BS2.hk) (by assumption) (by assumption)|(simp;done))
  (first
   | (((have:=tk1);clear tk1;have a0:=(hv.below hA1).drew;go_at_call 164;(with_reducible refine(JL _ (x) _ a0 (by omega)).mono ?_);rintro e w1 ⟨v1,rfl,hi1,hb1⟩;obtain⟨g1,p1,n1,c1,rfl⟩:=hi1.form;obtain rfl:n1=(dig x.natAbs).length:=hi1.len))
   | (((have:=tk2);clear tk2;have b7n:=((hu.below hA1).drew.below hb1);have d0:=b7n;go_at_call 164;(with_reducible refine(JL _ (y) _ d0 (by omega)).mono ?_);rintro e w2 ⟨v2,rfl,hi2,hb2⟩;obtain⟨g2,p2,n2,c2,rfl⟩:=hi2.form;obtain rfl:n2=(dig y.natAbs).length:=hi2.len)))
 have o0:=(hi1.below hb2)
 have b7Q:=((n0.drew.to hb1).to hb2)
 have j0:=(Below.tr (Below.tr (Below.tr OB hA1).drew hb1) hb2)
 go_wp2_with fail
 clear hl hl2
 go_loopg [5,6,7,8,17,18,19,20,21,22,23,24,25,26,27,28,29,30,31,32,33,34,35,36,37] (val (dig y.natAbs)) (fun k a b _ _ _ _ _ _ _ _ _ _ _ _ _ _ _ _ _ _ _ _ _ _ _ wr=>∃ (l1 l2:List Nat) (pa pb:Option Addr) (ca cb:Nat),a=.slice pa l1.length ca/\b=.slice pb l2.length cb/\Rd wr (.slice pa l1.length ca) l1/\Rd wr (.slice pb l2.length cb) l2/\Canon l1/\Canon l2/\l1.length<=1000000000/\l2.length<=1000000000/\Hid (Nat.gcd (val l1) (val l2)=Int.gcd x y)/\Hid (k=val l2)/\Bx wr (w.heap.size+1+1) [.bool false,.slice none 0 0]/\Below w.heap.size w wr)
 case atStart=>exact⟨_,_,_,_,_,_,rfl,rfl,o0.rd,hi2.rd,dG _,dG _,hlx,hly,a7j x y,rfl,b7Q,j0⟩
 case round =>
  obtain⟨l1,l2,pa,pb,ca,cb,rfl,rfl,ha,hb,ca1,cb1,la,lb,hg,hk,hq,hB⟩:=hrel
  have hzB:=hB.size
  have cl1:Low l1:=ca1.1
  have cl2:Low l2:=cb1.1
  by_cases hne:l2=[]
  ·subst hne
   have HX:Hid (sg false (val l1)=((Int.gcd x y:Nat):Int)):=gcd_zero hg.out
   go_wp2_with fail
   have b0:=ha
   (with_reducible refine(jY _ _ _ _ b0 cl1 (by omega)).mono ?_)
   rintro e w1 ⟨v1,rfl,hi1,hb1⟩
   obtain⟨g1,p1,n1,c1,rfl⟩:=hi1.form
   have a7N:=(hq.to hb1)
   obtain⟨e0,h0,g0,i0⟩:=a7N.cf2
   have a9X:=(Below.tr hB hb1)
   go_wp2_with fail
   exact yh (v:=.agg #[.bool g1,.slice p1 n1 c1]) (by simp[results,Tryz.results131,go_sem,e0,h0,g0,i0]) rfl ⟨_,rfl,ES (hi1.fP a7N rfl rfl (.bool g1) (.slice p1 n1 c1)) HX.out,(Below.fP a9X (b:=w.heap.size+1+1) (by omega) (.bool g1) (.slice p1 n1 c1))⟩
  ·have hl0:0<l2.length:=yj.2 hne
   have hlz:((l2.length:Int)==0)=false:=by simp;omega
   have HLE:Hid ((dig (val l1%val l2)).length<=1000000000):=by
    unfold Hid
    have:=aV (Nat.le_of_lt (Aw (val l1) (cb1.pos hne)))
    rw[dM cb1] at this
    omega
   by_cases h1:2<l1.length
   ·skip
    go_wp2_with fail
    have a0:=ha
    have b0:=hb
    (with_reducible refine(FN _ _ _ _ _ a0 b0 ca1 cb1 la hne).mono ?_)
    rintro e w1 ⟨s1,t1,rfl,hs1,ht1,hb1⟩
    obtain⟨p1,c1,rfl,b7i,c2T⟩:=hs1.form
    obtain⟨o1,d1,rfl,hlo1,c4R⟩:=ht1.form
    have b7c:=(hb.below hb1)
    have a7N:=(hq.to hb1)
    have a9X:=(Below.tr hB hb1)
    go_wp2_with fail
    go_roundg (val (dig (val l1%val l2)))
    case measure=>rw[hk.out,bK];exact Aw _ (cb1.pos hne)
    case rel=>exact⟨_,_,_,_,_,_,rfl,rfl,b7c,ht1,cb1,dG _,lb,HLE.out,by unfold Hid;rw[bK];exact RN hg.out,rfl,a7N,a9X⟩
   ·by_cases h2:2<l2.length
    ·skip
     go_wp2_with fail
     have a0:=ha
     have b0:=hb
     (with_reducible refine(FN _ _ _ _ _ a0 b0 ca1 cb1 la hne).mono ?_)
     rintro e w1 ⟨s1,t1,rfl,hs1,ht1,hb1⟩
     obtain⟨p1,c1,rfl,b7i,c2T⟩:=hs1.form
     obtain⟨o1,d1,rfl,hlo1,c4R⟩:=ht1.form
     have b7c:=(hb.below hb1)
     have a7N:=(hq.to hb1)
     have a9X:=(Below.tr hB hb1)
     go_wp2_with fail
     go_roundg (val (dig (val l1%val l2)))
     case measure=>rw[hk.out,bK];exact Aw _ (cb1.pos hne)
     case rel=>exact⟨_,_,_,_,_,_,rfl,rfl,b7c,ht1,cb1,dG _,lb,HLE.out,by unfold Hid;rw[bK];exact RN hg.out,rfl,a7N,a9X⟩
    ·skip
     go_wp2_with fail
     have a0:=ha
     (with_reducible refine(YR _ _ _ a0 cl1 (by omega)).mono ?_)
     rintro e w' ⟨rfl,rfl⟩
     go_wp2_with fail
     have d0:=hb
     (with_reducible refine(YR _ _ _ d0 cl2 (by omega)).mono ?_)
     rintro e w' ⟨rfl,rfl⟩
     go_wp2_with fail
     have hM:=XE ca1 (by omega)
     have hK:=XE cb1 (by omega)
     clear ha hb
     go_loopw [9,10,47,48,49,50,51,52] (fun m n _ _ _ _ _ _ wr=>∃ M K:Nat,m=.int .u64 (M:Nat)/\n=.int .u64 (K:Nat)/\M<=999999999999999999/\K<=999999999999999999/\Hid (Nat.gcd M K=Int.gcd x y)/\Bx wr (w.heap.size+1+1) [.bool false,.slice none 0 0]/\Below w.heap.size w wr) (fun _ n _ _ _ _ _ _ _=>(intOf n).toNat)
     case atStart=>exact⟨_,_,rfl,rfl,hM,hK,hg,hq,hB⟩
     case round =>
      obtain⟨M,K,rfl,rfl,hM,hK,hg2,hq2,hB2⟩:=hrel
      by_cases hk0:0<K
      ·obtain⟨R,hR⟩:∃ R,M%K=R:=⟨_,rfl⟩
       have c2H:R<K:=by rw[<-hR];exact Aw _ hk0
       have i2:(M:Int)%K=R:=by rw[<-hR];simp
       have i3:(M:Int).tmod K=R:=by rw[Ef (by omega)];exact i2
       have w2':IntKind.u64.wrap (R:Int)=R:=wrap_u64 (by omega)
       have hdz:((K:Int)==0)=false:=by simp;omega
       have hdn:¬ K=0:=by omega
       have HG:Hid (Nat.gcd K R=Int.gcd x y):=by unfold Hid;rw[<-hR];exact RN hg2.out
       have b3J:=fun w=>UE (n:=M) (d:=K) (v:=R) (by omega) hM i2 w2' w
       clear hR
       go_wp2_with fail
       go_quiet (fail)
       go_wp2_with fail
       go_roundw
       case rel=>exact⟨K,R,rfl,rfl,hK,by omega,HG,hq2.drewN _,Below.qU hB2 _⟩
       case measure=>simp[intOf];omega
      ·obtain rfl:K=0:=by omega
       obtain⟨r,hr⟩:∃ r,M%1000000000=r:=⟨_,rfl⟩
       obtain⟨q,hq'⟩:∃ q,M / 1000000000=q:=⟨_,rfl⟩
       have HX:Hid (sg false (val [r,q])=((Int.gcd x y:Nat):Int)):=by
        have:=hg2.out
        unfold Hid
        rw[<-this,Nat.gcd_zero_right]
        have e:val [r,q]=M:=by simp[bZ,val,bM];omega
        rw[e];rfl
       have i1:(M:Int)%1000000000=r:=by omega
       have i2:(M:Int) / 1000000000=q:=by omega
       have hr9:r<=999999999:=by omega
       have hq9:q<=999999999:=by omega
       have hlow:Low [r,q]:=Low.cons.2 ⟨by rw[bM];omega,Low.cons.2 ⟨by rw[bM];omega,Low.nil⟩⟩
       have hR:=c1h wr r q
       have c5B:=hB2.size
       clear hr hq'
       go_wp2_with fail
       refine(jY false _ _ _ hR hlow (by simp)).mono ?_
       rw[HX.out]
       rintro e2 w7 ⟨v2,rfl,hi2,hb7⟩
       obtain⟨g2,p2,n2,c2,rfl⟩:=hi2.form
       have q7:=(hq2.alloc (.cells #[.int .u32 (r:Nat),.int .u32 (q:Nat)] 148)).to hb7
       have r0:=q7.c0
       have r1:=q7.c1
       have f0:=q7.f0
       have f1:=q7.f1
       have hB7:=Below.tr (Below.al hB2 (.cells #[.int .u32 (r:Nat),.int .u32 (q:Nat)] 148)) hb7
       go_wp2_with fail
       exact yh (v:=.agg #[.bool g2,.slice p2 n2 c2]) (by simp[results,Tryz.results131,go_sem,r0,r1]) rfl ⟨_,rfl,dX.fP hi2 q7 rfl rfl _ _,Below.fP hB7 (by omega) _ _⟩
theorem uX {x y:Int} (h:y ∣ x):x.fdiv y=x / y:=by
 rw[Int.fdiv_eq_ediv,jm (.inr h),Int.sub_zero]
theorem a7S {n d:Int} (hd:0<d):n.fdiv ((Int.gcd n d:Nat):Int)=(Rat.divInt n d).num/\d.fdiv ((Int.gcd n d:Nat):Int)=(Rat.divInt n d).den:=by
 rw[oH hd,oG hd]
 exact⟨uX (Int.gcd_dvd_left _ _),uX (Int.gcd_dvd_right _ _)⟩
theorem a7R {n d:Int} (hd:d<0):n.fdiv (-((Int.gcd n d:Nat):Int))=(Rat.divInt n d).num/\d.fdiv (-((Int.gcd n d:Nat):Int))=(Rat.divInt n d).den:=by
 rw[QT hd,QO hd]
 exact⟨uX (Int.neg_dvd.2 (Int.gcd_dvd_left _ _)),uX (Int.neg_dvd.2 (Int.gcd_dvd_right _ _))⟩
end Go.Proofs.YtbkocjmmbkifjaaGreat
