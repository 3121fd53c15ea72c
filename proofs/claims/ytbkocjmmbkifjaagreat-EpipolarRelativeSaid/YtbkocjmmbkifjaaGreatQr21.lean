/-
  Lemmas for the theorem vrelative28_holds, part 21 of 35.
-/
import Derived.Test.YtbkocjmmbkifjaaGreatQr20
namespace Go.Proofs.YtbkocjmmbkifjaaGreat
open Go Go.RowKit
theorem Ea:type_of% @Bool.or_eq_false_iff:=@Bool.or_eq_false_iff
set_option maxRecDepth 100000
set_option maxHeartbeats 4000000
set_option linter.unusedSimpArgs false
set_option linter.unusedVariables false
theorem wrap_i64 {k:Nat} (h:k<=9223372036854775807):IntKind.i64.wrap (k:Int)=k:=by simp[IntKind.wrap,IntKind.bits,IntKind.signed];omega
theorem b3s {g1 g2:Bool} {x y:Int} (h1:g1=decide (x<0)) (h2:g2=decide (y<0)) {o:List Nat} (ho:val o=val (dig x.natAbs)*val (dig y.natAbs)):sg (g1 != g2) (val o)=x*y:=by
 rw[ho,bM,bM];have e1:=a7C x;have e2:=a7C y;rw[<-h1] at e1;rw[<-h2] at e2;generalize x.natAbs=k at *
 generalize y.natAbs=l at *
 subst e1;subst e2;cases g1<;>cases g2<;>simp[sg,Int.neg_mul,Int.mul_neg]
theorem a9h {g1 g2:Bool} {x y:Int} (h1:g1=decide (x<0)) (h2:g2=decide (y<0)) {o:List Nat} (ho:val o=val (dig x.natAbs)*val (dig y.natAbs)):sg (!g1==g2) (val o)=x*y:=by exact b3s h1 h2 ho
theorem b3r (v u:Value) (x y:Int) (w:World) (hv:Raw w v x) (hu:Raw w u y) (hl:isz x<=1000000000) (hl2:isz y<=1000000000) :
  Calls Tryz.prog 161 #[v,u] w (FI (x*y) w):=by
 obtain⟨i0,hi,hz0,hz1,hz2⟩:=Ag gX;obtain⟨b,p,n,c,rfl⟩:=hv.form;obtain⟨d,o,m,e,rfl⟩:=hu.form;have hlx:(dig x.natAbs).length<=1000000000:=hl;have hly:(dig y.natAbs).length<=1000000000:=hl2;have QB:Below w.heap.size w w:=gy _ _
 go_enter Tryz.func161,Tryz.ntmps161
 go_wp2_with fail
 obtain⟨hA1,a0,b0,g0⟩:=bx3 w rfl [.bool b,.slice p n c] 45 [.bool d,.slice o m e] 45 [.bool false,.slice none 0 0] 45;obtain⟨l0,t0,p0,w0⟩:=a0.drew.cf2;obtain⟨a1,l1,i1,q1⟩:=b0.drew.cf2;have tk1:True:=trivial;have tk2:True:=trivial
 go_region_with
  (first
   | (((have:=tk1);clear tk1;have h0:=(hv.below hA1).drew;go_at_call 164;(with_reducible refine(LC _ (x) _ h0 (by omega)).mono ?_);rintro e w1 ⟨v1,rfl,hi1,hb1⟩;obtain⟨g1,p1,n1,c1,rfl⟩:=hi1.form;obtain rfl:n1=(dig x.natAbs).length:=hi1.len;have hf1:=bf (eY.flag hi1);have rD:=(b0.drew.to hb1);obtain⟨d1,m1,j1,s1⟩:=rD.cf2;have yS:=(a0.drew.to hb1);obtain⟨m0,u0,q0,y0⟩:=yS.cf2))
   | (((have:=tk2);clear tk2;have b9V:=((hu.below hA1).drew.below hb1);have j0:=b9V;go_at_call 164;(with_reducible refine(LC _ (y) _ j0 (by omega)).mono ?_);rintro e w2 ⟨v2,rfl,hi2,hb2⟩;obtain⟨g2,p2,n2,c2,rfl⟩:=hi2.form;obtain rfl:n2=(dig y.natAbs).length:=hi2.len;have hf2:=bf (eY.flag hi2);have b6S:=(yS.to hb2);obtain⟨n0,v0,s0,z0⟩:=b6S.cf2;have b6T:=(rD.to hb2);obtain⟨e1,o1,k1,t1⟩:=b6T.cf2)))
 all_goals
  have k0:=(hi1.below hb2);have c0D:=((g0.drew.to hb1).to hb2);have d0:=(Below.tr (Below.tr (Below.tr QB hA1).drew hb1) hb2);have hx:=(((k0.iM b6S rfl rfl (.bool g1) (.slice p1 (dig x.natAbs).length c1)).iM (b6T.xA (b:=w.heap.size) (by omega) (.bool g1) (.slice p1 (dig x.natAbs).length c1)) rfl rfl (.bool g2) (.slice p2 (dig y.natAbs).length c2))).rd;have hy:=(((hi2.iM b6S rfl rfl (.bool g1) (.slice p1 (dig x.natAbs).length c1)).iM (b6T.xA (b:=w.heap.size) (by omega) (.bool g1) (.slice p1 (dig x.natAbs).length c1)) rfl rfl (.bool g2) (.slice p2 (dig y.natAbs).length c2))).rd;have qx:=((b6S.store2 (.bool g1) (.slice p1 (dig x.natAbs).length c1)).xA (b:=w.heap.size+1) (by omega) (.bool g2) (.slice p2 (dig y.natAbs).length c2));have qy:=((b6T.xA (b:=w.heap.size) (by omega) (.bool g1) (.slice p1 (dig x.natAbs).length c1)).store2 (.bool g2) (.slice p2 (dig y.natAbs).length c2));have qr:=((c0D.xA (b:=w.heap.size) (by omega) (.bool g1) (.slice p1 (dig x.natAbs).length c1)).xA (b:=w.heap.size+1) (by omega) (.bool g2) (.slice p2 (dig y.natAbs).length c2));have hBB:=(Below.iM (Below.iM d0 (b:=w.heap.size) (by omega) (.bool g1) (.slice p1 (dig x.natAbs).length c1)) (b:=w.heap.size+1) (by omega) (.bool g2) (.slice p2 (dig y.natAbs).length c2));generalize ((((w2.setCell ⟨w.heap.size,0,none⟩ (.bool g1)).setCell ⟨w.heap.size,1,none⟩ (.slice p1 (dig x.natAbs).length c1)).setCell ⟨w.heap.size+1,0,none⟩ (.bool g2)).setCell ⟨w.heap.size+1,1,none⟩ (.slice p2 (dig y.natAbs).length c2))=W at *
  have hlow1:=bZ x.natAbs;have hlow2:=bZ y.natAbs;have c6X:=bf (fun(o:List Nat) (h:val o=val (dig x.natAbs)*val (dig y.natAbs))=>a9h hf1.out hf2.out h);generalize dig x.natAbs=a at *
  generalize dig y.natAbs=bb at *
  have HA:=bf hlow1;have HB:=bf hlow2;clear hlow1 hlow2;obtain⟨N,hN⟩:∃ N:Nat,(a.length:Int)+bb.length=N:=⟨a.length+bb.length,by omega⟩;have hN':N=a.length+bb.length:=by omega
  have HN:=bf hN';have nn1:N<=2000000000:=by omega
  have nn2:a.length+bb.length<=N:=by omega
  clear hN';have qx1:=qx.c1;have qy1:=qy.c1
  go_wp2_with (at_make;refine Eh _ rfl _ _ 43 rfl W.heap.size 148 i0 (.int .u32 0) 1 ji hi hz0 hz1 _ _ _ _ N rfl rfl (by omega) (by omega) (by rw[hz2];omega) (by unfold maxLen;omega) (aj _) ?_)
  intro w3 hown hgrow;rw[iR] at hown;have hB3:Below W.heap.size W w3:=(gy _ _).grown hgrow (aj _) (fun k e=>by cases e);clear hgrow hN qx1 qy1
  go_wp2_with fail
  go_loopw [6,7,8,9,22,23,24,25,26,27,28,29,30,31,32,33,34,35,36,37,38,39,40,41,42,43,44,45,46,47,48,49,50,51,52,53,54,55,56,57,58,59,60,61,62,63,64,65,66,67,68,69,70,71,72,73,74,75,76,77] (fun i _ _ _ _ _ _ _ _ _ _ _ _ _ _ _ _ _ _ _ _ _ _ _ _ _ _ _ _ _ _ _ _ _ _ _ _ _ _ _ _ _ _ _ _ _ _ _ _ _ _ _ _ _ _ _ _ _ _ _ wr=>∃ (k:Nat) (o:List Nat),k<=a.length/\i=.int .i64 (k:Nat)/\nM a bb o N k/\wr.ownsRow W.heap.size 148 1 (.slice (some ⟨W.heap.size,0,none⟩) N N) N (cells32 o)/\Below W.heap.size W wr) (fun i _ _ _ _ _ _ _ _ _ _ _ _ _ _ _ _ _ _ _ _ _ _ _ _ _ _ _ _ _ _ _ _ _ _ _ _ _ _ _ _ _ _ _ _ _ _ _ _ _ _ _ _ _ _ _ _ _ _ _ _=>a.length-(intOf i).toNat)
  case atStart=>exact⟨0,_,by omega,rfl,nM.start _ _ _,hown,hB3⟩
  case round =>
   obtain⟨k,o0,hk,rfl,hI,hO,hB⟩:=hrel;have qx':=qx.to hB;have qx1:=qx'.c1;by_cases hlt:k<a.length
   ·have ga:gr a k<=999999999:=gJ HA.out k
    go_wp2_with fail
    obtain⟨wo,rfl⟩:∃ wo:World,wo=wr:=⟨_,rfl⟩
    go_loopw [7,8,9,29,30,31,32,33,34,35,36,37,38,39,40,41,42,43,44,45,46,47,48,49,50,51,52,53,54,55,56,57,58,59,60,61,62,63,64,65,66,67,68] (fun cc i _ _ _ _ _ _ _ _ _ _ _ _ _ _ _ _ _ _ _ _ _ _ _ _ _ _ _ _ _ _ _ _ _ _ _ _ _ _ _ _ _ wr=>∃ (j e:Nat) (o:List Nat),j<=bb.length/\i=.int .i64 (j:Nat)/\cc=.int .u64 (e:Nat)/\mJ o0 bb o N k (gr a k) j e/\wr.ownsRow W.heap.size 148 1 (.slice (some ⟨W.heap.size,0,none⟩) N N) N (cells32 o)/\Below W.heap.size W wr) (fun _ i _ _ _ _ _ _ _ _ _ _ _ _ _ _ _ _ _ _ _ _ _ _ _ _ _ _ _ _ _ _ _ _ _ _ _ _ _ _ _ _ _ _=>bb.length-(intOf i).toNat)
    case atStart=>exact⟨0,0,o0,by omega,rfl,rfl,mJ.start hI.len hI.low,hO,hB⟩
    case round =>
     obtain⟨j,e,o,hj,rfl,rfl,hI2,hO2,hB2⟩:=hrel;clear qx' qx1;have qx':=qx.to hB2;have qy':=qy.to hB2;have qx1:=qx'.c1;have qy1:=qy'.c1;have ge:e<=999999999:=by have:=hI2.car;omega
     by_cases b1A:j<bb.length
     ·have gb:gr bb j<=999999999:=gJ HB.out j;have go:gr o (k+j)<=999999999:=gJ hI2.low (k+j);have hN:=hI2.step (by omega) (by omega) (by omega);obtain⟨ba,oa,rfl,hba,hca⟩:=hx.at (by intro e;subst e;simp at hlt);have hcell:wr.cell? ⟨ba,oa+k,none⟩=some (.int .u32 (gr a k:Nat)):=(hB2.cell (p:=⟨ba,oa+k,none⟩) hba).trans (hca k hlt);obtain⟨bc,ob,rfl,hbb,hcb⟩:=hy.at (by intro e;subst e;simp at b1A);have e0:wr.cell? ⟨bc,ob+j,none⟩=some (.int .u32 (gr bb j:Nat)):=(hB2.cell (p:=⟨bc,ob+j,none⟩) hbb).trans (hcb j b1A);have hcl:wr.cell? ⟨W.heap.size,k+j,none⟩=some (.int .u32 (gr o (k+j):Nat)):=by rw[hO2.cellAt (k+j) (by omega)];exact eX (by rw[hI2.len];omega)
      have hfr:=hO2.frozenAt (k+j);have hst:=fun v:Nat=>(fP o (k+j) v) ▸ hO2.stored (k+j) (.int .u32 (v:Nat));obtain⟨t,ht⟩:∃ t,k+j=t:=⟨_,rfl⟩;rw[ht] at hcl hfr hst hN go;obtain⟨x0,hx0⟩:∃ x0,gr o t=x0:=⟨_,rfl⟩;obtain⟨pa,hpa⟩:∃ pa,gr a k=pa:=⟨_,rfl⟩;obtain⟨pb,hpb⟩:∃ pb,gr bb j=pb:=⟨_,rfl⟩;rw[hx0] at hcl hN go;rw[hpa] at hcell ga;rw[hpb] at e0 hN gb;obtain⟨m,hm⟩:∃ m:Nat,(pa:Int)*pb=m:=⟨pa*pb,by simp⟩;have hm2:m<=999999998000000001:=by
       have h1:pa*pb<=999999999*999999999:=uy ga gb;have h2:((pa*pb:Nat):Int)=m:=by rw[<-hm];simp
       omega
      have hm3:pa*pb=m:=by
       have h2:((pa*pb:Nat):Int)=m:=by rw[<-hm];simp
       omega
      rw[hpa,hm3] at hN;obtain⟨s2,hs2⟩:∃ s2:Nat,(x0:Int)+m+e=s2:=⟨x0+m+e,by simp⟩;have c6h:x0+m+e=s2:=by omega
      rw[c6h] at hN;obtain⟨r,hr⟩:∃ r,s2%1000000000=r:=⟨_,rfl⟩;obtain⟨v,hv'⟩:∃ v,s2 / 1000000000=v:=⟨_,rfl⟩;rw[hr,hv'] at hN;have hr2:(s2:Int)%1000000000=r:=by omega
      have hv2:(s2:Int) / 1000000000=v:=by omega
      have hr3:r<=999999999:=by omega
      have hst:=hst r;have hti:(k:Int)+j=t:=by omega
      have wt:IntKind.i64.wrap ((k:Int)+j)=t:=by rw[hti];exact wrap_i64 (by omega)
      have w1:IntKind.u64.wrap ((pa:Int)*pb)=m:=by rw[hm];exact wrap_u64 (by omega)
      have w2:IntKind.u64.wrap ((x0:Int)+m)=(x0:Int)+m:=by
       have:(x0:Int)+m=((x0+m:Nat):Int):=by simp
       rw[this];exact wrap_u64 (by omega)
      have w4:IntKind.u64.wrap ((x0:Int)+m+e)=s2:=by rw[hs2];exact wrap_u64 (by omega)
      have b1:(0:Int)<=t:=by omega
      have b2:(t:Int)<N:=by omega
      have b3:(k:Int)<a.length:=by omega
      have b4:(j:Int)<bb.length:=by omega
      have b5:(0:Int)<=k:=by omega
      have b6:(0:Int)<=j:=by omega
      have b7:t<N:=by omega
      have HN2:=bf hN;have HST:=bf hst;have HPA:=bf hpa;clear hca hcb hN hst hx0 hpa hpb hm3 c6h hr hv' ht
      go_wp2_with fail
      go_quiet (fail)
      go_wp2_with fail
      go_roundw
      case rel=>exact⟨j+1,v,_,by omega,by go_num,rfl,by rw[HPA.out];exact HN2.out,by first|exact kH HST.out.1 (Below.sG (gy _ _) _)|(rw[<-fP];exact((kH hO2 (Below.sG (gy _ _) _)).stored t (.int .u32 (r:Nat))).1),by first|exact(Below.sG hB2 _).setCell (p:=⟨W.heap.size,t,none⟩) (aj _) _|exact Below.sG (hB2.setCell (p:=⟨W.heap.size,t,none⟩) (aj _) _) _⟩
      case measure=>simp[intOf];omega
     ·obtain rfl:j=bb.length:=by omega
      have hN:=mJ.done hI hI2 (by omega);have hcl:wr.cell? ⟨W.heap.size,k+bb.length,none⟩=some (.int .u32 (gr o (k+bb.length):Nat)):=by rw[hO2.cellAt (k+bb.length) (by omega)];exact eX (by rw[hI2.len];omega)
      have hfr:=hO2.frozenAt (k+bb.length)
      go_wp2_with fail
      have hst:=hO2.stored (k+bb.length) (.int .u32 (e:Nat));rw[fP] at hst
      go_roundw
      case rel=>exact⟨k+1,_,by omega,by go_num,hN,hst.1,hB2.setCell (p:=⟨W.heap.size,k+bb.length,none⟩) (aj _) _⟩
      case measure=>simp[intOf];omega
   ·obtain rfl:k=a.length:=by omega
    have hvv:=hI.done HN.out;have HXX:=bf (c6X.out o0 hvv);have hlow:=hI.low;have hlen:=hI.len;have hR:=Rd.dN (l:=o0) (by rw[hlen];exact hO);have HLN:=bf hlen;have qy':=qy.to hB;have qr':=qr.to hB;have qx0:=qx'.c0;have qy0:=qy'.c0;clear hvv hlen
    go_wp2_with fail
    refine(lF _ _ o0 _ hR hlow (by rw[HLN.out];omega)).mono ?_;rintro e2 w4 ⟨v2,rfl,hi4,hb4⟩;obtain⟨g4,p4,n4,c4,rfl⟩:=hi4.form;have q4:=qr'.to hb4;have r0:=q4.c0;have r1:=q4.c1;have f0:=q4.f0;have f1:=q4.f1;have hB4:=Below.tr (Below.tr hBB hB) hb4
    go_wp2_with fail
    exact xk (v:=.agg #[.bool g4,.slice p4 n4 c4]) (by simp[results,Tryz.results161,go_sem,r0,r1]) rfl ⟨_,rfl,eY.iM (GU hi4 HXX.out) q4 rfl rfl _ _,Below.iM hB4 (by omega) _ _⟩
set_option maxHeartbeats 8000000
theorem a6j (x y:Int) {q:Int} (h:q=x.fdiv y):q=x.fdiv y/\x-q*y=x.fmod y:=by refine⟨h,?_⟩;have:=Int.fmod_add_mul_fdiv x y;rw[<-h,Int.mul_comm] at this;omega
theorem b1P {x:Int} {b:Bool} {k:Nat} (h:isz x<=k) (m n:Nat) (hm:m=x.natAbs):isz (sg b (m / n))<=k:=by refine au (BJ ?_) h;rw[a5j,hm];exact Nat.div_le_self _ _
set_option maxHeartbeats 1000000
theorem a9W {f:FuncId} {pre:LN->LN->Prop} [∀ x y,Dc (pre x y)] {g:LN->LN->LN} (h:∀ (s t:Value) (a b:LN) (w:World),Rd w s a->Rd w t b->pre a b->Calls Tryz.prog f #[s,t] w (a9I (g a b) w)):aJ Tryz.prog f (cGG pre g):=by intro F w vs x hF hvs hp;obtain⟨v,vs',rfl,h1,u,vs'',rfl,h2,h3⟩:=hvs;have h3:vs''=[]:=h3;subst h3;refine(h v u x.1 x.2.1 w (sJ h1) (sJ h2) hp).mono ?_;rintro e w' ⟨r,rfl,hr,_,hb⟩;exact⟨r,rfl,LU hr,hb⟩
noncomputable def c7P:Ctr:=⟨[tB,tG],[tZ],fun x=>Low x.2.1/\(show LN from x.2.1).length<=2000000001,fun x=>(sg x.1 (val x.2.1),())⟩
theorem NU:aJ Tryz.prog 115 c7P:=by intro F w vs x hF hvs hp;obtain⟨v,vs',rfl,h1,u,vs'',rfl,h2,h3⟩:=hvs;have h3:vs''=[]:=h3;subst h3;rw[a4e h1];refine(lF x.1 u x.2.1 w (sJ h2) hp.1 hp.2).mono ?_;rintro e w' ⟨r,rfl,hr,hb⟩;exact⟨r,rfl,a0k hr,hb⟩
theorem vU:aJ Tryz.prog 164 (cZ1 fun x=>x):=by intro F w vs x hF hvs hp;obtain⟨v,vs',rfl,h1,h3⟩:=hvs;have h3:vs'=[]:=h3;subst h3;refine(a5f v x.1 w (XF h1) hp).mono ?_;rintro e w' ⟨r,rfl,hr,hb⟩;exact⟨r,rfl,a0k hr,hb⟩
noncomputable def c7Z:Ctr:=⟨[tG,tG],[tG,tG],fun x=>Canon x.1/\Canon x.2.1/\(show LN from x.1).length<=1000000000/\(show LN from x.2.1)≠[],fun x=>(dig (val x.1 / val x.2.1),dig (val x.1%val x.2.1),())⟩
theorem a5b:aJ Tryz.prog 215 c7Z:=by intro F w vs x hF hvs hp;obtain⟨v,vs',rfl,h1,u,vs'',rfl,h2,h3⟩:=hvs;have h3:vs''=[]:=h3;subst h3;refine(IJ v u x.1 x.2.1 w (sJ h1) (sJ h2) hp.1 hp.2.1 hp.2.2.1 hp.2.2.2).mono ?_;rintro e w' ⟨r,s,rfl,hr,hs,hb⟩;exact⟨_,rfl,⟨[_,_],rfl,_,_,rfl,LU hr,_,_,rfl,LU hs,rfl⟩,hb⟩
noncomputable def c8p:Ctr:=⟨[tG,tG],[tI],fun x=>Canon x.1/\Canon x.2.1/\(show LN from x.1).length<=2000000000,fun x=>(dF (val x.1) (val x.2.1),())⟩
theorem a9n:aJ Tryz.prog 240 c8p:=by intro F w vs x hF hvs hp;obtain⟨v,vs',rfl,h1,u,vs'',rfl,h2,h3⟩:=hvs;have h3:vs''=[]:=h3;subst h3;refine(xY v u x.1 x.2.1 w (sJ h1) (sJ h2) hp.1 hp.2.1 hp.2.2).mono ?_;rintro e w' ⟨rfl,hb⟩;exact⟨_,rfl,WC _,hb⟩
theorem c6S:aJ Tryz.prog 239 (cGG (fun a b=>Low a/\Low b/\a.length<=1000000000/\b.length<=1000000000) (fun a b=>dig (val a+val b))):=(a9W fun s t a b w hs ht h=>a9m s t a b w hs ht h.1 h.2.1 h.2.2.1 h.2.2.2)
theorem c6T:aJ Tryz.prog 241 (cGG (fun a b=>Low a/\Low b/\a.length<=1000000002/\b.length<=a.length/\val b<=val a) (fun a b=>dig (val a-val b))):=(a9W fun s t a b w hs ht h=>II s t a b w hs ht h.1 h.2.1 h.2.2.1 h.2.2.2.1 h.2.2.2.2)
theorem a0p:aJ Tryz.prog 33 cIZ:=(a4h fun x w h0 h1=>b7f x w h0 h1)
theorem RX:aJ Tryz.prog 106 (cZ1 fun x=>-x):=by
 refine aN ((nil0.ad vU).ad NU) ⟨[2,1],[],[]⟩ Tryz.func106 rfl (by decide) (fun x=>[]) (fun x hp=>?_);obtain⟨x,u⟩:=x;change Int at x;refine aP ((isz x<=1000000000/\True)/\((Low (dig (Int.natAbs x))/\List.length (dig (Int.natAbs x))<=2000000001)/\True)/\True/\sg (!decide (x<0)) (val (dig (Int.natAbs x)))=-x/\True) (by kernel_rfl) ?_;try simp only[zP0]
 try dsimp only[aB,asT,aA,aC,Ty.den,Lf.den] at *
 try simp only[zP1]
 have hp:isz x<=1000000000:=hp;refine⟨hp,⟨bZ _,by rw[c5G];omega⟩,?_⟩;rw[bM];unfold sg;by_cases h:x<0<;>simp[h]<;>omega
theorem FH:aJ Tryz.prog 77 (c8u 1000000000 sgn):=by
 refine aN (nil0.ad vU) ⟨[1],[],[]⟩ Tryz.func77 rfl (by decide) (fun x=>[]) (fun x hp=>?_);obtain⟨x,u⟩:=x;change Int at x;refine aP ((isz x<=1000000000/\True)/\ifB (aB (dig (Int.natAbs x)).length==0) (True/\0=sgn x/\True) (ifB (decide (x<0)) (True/\-1=sgn x/\True) (True/\1=sgn x/\True))) (by kernel_rfl) ?_;try simp only[zP0]
 try dsimp only[aB,asT,aA,aC,Ty.den,Lf.den] at *
 try simp only[zP1]
 rw[a2m];refine⟨hp,fun h=>?_,fun h=>⟨fun h1=>(ql h1).symm,fun h1=>?_⟩⟩
 ·rw[show x=0 by have:=qj h;omega];rfl
 ·have:=uj h;exact(uo (by omega)).symm
theorem a7V:aJ Tryz.prog 163 (cZ2 fun x y=>x+y):=by
 refine aN (((((nil0.ad vU).ad NU).ad c6S).ad c6T).ad a9n) ⟨[4,2,3],[],[]⟩ Tryz.func163 rfl (by decide) (fun x=>[]) (fun x hp=>?_);obtain⟨x,y,u⟩:=x;change Int at x;change Int at y;refine aP (let A₀:=(dig (val (dig (Int.natAbs x))+val (dig (Int.natAbs y))));let A₁:=(dig (val (dig (Int.natAbs x))-val (dig (Int.natAbs y))));let A₂:=(dig (val (dig (Int.natAbs y))-val (dig (Int.natAbs x))));(isz x<=1000000000/\isz y<=1000000000/\True)/\ifB (decide (x<0)==decide (y<0)) (((Low (dig (Int.natAbs x))/\Low (dig (Int.natAbs y))/\List.length (dig (Int.natAbs x))<=1000000000/\List.length (dig (Int.natAbs y))<=1000000000)/\(Low A₀/\List.length A₀<=2000000001)/\True)/\True/\sg (decide (x<0)) (val A₀)=x+y/\True) (((Canon (dig (Int.natAbs x))/\Canon (dig (Int.natAbs y))/\List.length (dig (Int.natAbs x))<=2000000000)/\True)/\ifB (decide (dF (aB (val (dig (Int.natAbs x)))) (aB (val (dig (Int.natAbs y)))) ≥ 0)) (((Low (dig (Int.natAbs x))/\Low (dig (Int.natAbs y))/\List.length (dig (Int.natAbs x))<=1000000002/\List.length (dig (Int.natAbs y))<=List.length (dig (Int.natAbs x))/\val (dig (Int.natAbs y))<=val (dig (Int.natAbs x)))/\(Low A₁/\List.length A₁<=2000000001)/\True)/\True/\sg (decide (x<0)) (val A₁)=x+y/\True) (((Low (dig (Int.natAbs y))/\Low (dig (Int.natAbs x))/\List.length (dig (Int.natAbs y))<=1000000002/\List.length (dig (Int.natAbs x))<=List.length (dig (Int.natAbs y))/\val (dig (Int.natAbs x))<=val (dig (Int.natAbs y)))/\(Low A₂/\List.length A₂<=2000000001)/\True)/\True/\sg (decide (y<0)) (val A₂)=x+y/\True))) (by kernel_rfl) ?_;try simp only[zP0]
 try dsimp only[aB,asT,aA,aC,Ty.den,Lf.den] at *
 try simp only[zP1]
 obtain⟨l1,l2⟩:isz x<=1000000000/\isz y<=1000000000:=hp;have d1:(dig x.natAbs).length<=1000000000:=l1;have d2:(dig y.natAbs).length<=1000000000:=l2;have d3:=a6R x.natAbs y.natAbs;unfold nsz at d3;have d4:=aX (Nat.sub_le x.natAbs y.natAbs);have d5:=aX (Nat.sub_le y.natAbs x.natAbs);have e:x+y=sg (decide (x<0)) x.natAbs+sg (decide (y<0)) y.natAbs:=by rw[sgf,sgf]
 simp only[bM];rw[e];refine⟨⟨l1,l2⟩,fun h=>⟨⟨⟨bZ _,bZ _,l1,l2⟩,bZ _,by omega⟩,c6G h⟩,fun h=>⟨⟨dJ _,dJ _,by omega⟩,fun h3=>?_,fun h3=>?_⟩⟩
 ·have h4:=a5R h3;have:=aX h4;exact⟨⟨⟨bZ _,bZ _,by omega,this,h4⟩,bZ _,by omega⟩,c6H h h4⟩
 ·have h4:=a5S h3;have:=aX h4;exact⟨⟨⟨bZ _,bZ _,by omega,this,h4⟩,bZ _,by omega⟩,c6I h h4⟩
theorem a7Y:aJ Tryz.prog 214 (cZ2 fun x y=>x-y):=by
 refine aN ((nil0.ad a7V).ad RX) ⟨[4],[],[]⟩ Tryz.func214 rfl (by decide) (fun x=>[]) (fun x hp=>?_);obtain⟨x,y,u⟩:=x;change Int at x;change Int at y;refine aP ((isz y<=1000000000/\(isz x<=1000000000/\isz (-y)<=1000000000)/\True)/\True/\x+-y=x-y/\True) (by kernel_rfl) ?_;try simp only[zP0]
 try dsimp only[aB,asT,aA,aC,Ty.den,Lf.den] at *
 try simp only[zP1]
 obtain⟨l1,l2⟩:isz x<=1000000000/\isz y<=1000000000:=hp;exact⟨⟨l2,l1,by rw[kR];exact l2⟩,Int.sub_eq_add_neg.symm⟩
theorem b4t:aJ Tryz.prog 161 (cZ2 fun x y=>x*y):=(a9Z fun v u x y w h1 h2 l1 l2=>b3r v u x y w h1 h2 l1 l2)
theorem a7X:aJ Tryz.prog 200 (c5a 400000000):=by
 refine aN ((((((nil0.ad vU).ad NU).ad a5b).ad a0p).ad a7Y).ad b4t) ⟨[4,5,9,2,3],[],[]⟩ Tryz.func200 rfl (by decide) (fun x=>[]) (fun x hp=>?_);obtain⟨x,y,u⟩:=x;change Int at x;change Int at y;refine aP (let A₀:=(dig (val (dig (Int.natAbs x)) / val (dig (Int.natAbs y))));let A₁:=(decide (x<0) != decide (y<0));let A₂:=((A₁==true)=true->(A₁==true)=true/\True);(isz x<=1000000000/\isz y<=1000000000/\True)/\ifB (aB (dig (Int.natAbs y)).length==0) (True/\0=Int.fdiv x y/\True/\0=Int.fmod x y/\True/\asT Int 14=0/\True) (((Canon (dig (Int.natAbs x))/\Canon (dig (Int.natAbs y))/\List.length (dig (Int.natAbs x))<=1000000000/\dig (Int.natAbs y)≠aC Nat)/\True)/\((Low A₀/\List.length A₀<=2000000001)/\True)/\(A₂/\A₂/\(A₁=true->(A₁==true)=true)/\True)/\ifB (bif decide (x<0) != decide (y<0) then decide (aB (dig (val (dig (Int.natAbs x))%val (dig (Int.natAbs y)))).length > 0) else false) ((aV 1/\(isz (sg A₁ (val A₀))<=1000000000/\isz 1<=1000000000)/\True)/\((isz (sg A₁ (val A₀)-1)<=1000000000/\isz y<=1000000000)/\(isz x<=1000000000/\isz ((sg A₁ (val A₀)-1)*y)<=1000000000)/\True)/\True/\sg A₁ (val A₀)-1=Int.fdiv x y/\True/\x-(sg A₁ (val A₀)-1)*y=Int.fmod x y/\True/\asT Int 0=0/\True) (((isz (sg A₁ (val A₀))<=1000000000/\isz y<=1000000000)/\(isz x<=1000000000/\isz (sg A₁ (val A₀)*y)<=1000000000)/\True)/\True/\sg A₁ (val A₀)=Int.fdiv x y/\True/\x-sg A₁ (val A₀)*y=Int.fmod x y/\True/\asT Int 0=0/\True))) (by kernel_rfl) ?_;try simp only[zP0]
 try dsimp only[aB,asT,aA,aC,Ty.den,Lf.den] at *
 try simp only[zP1]
 obtain⟨l1,l2,hy⟩:isz x<=400000000/\isz y<=400000000/\y≠0:=hp;have n0:0<y.natAbs:=by omega
 simp only[bM,b0I,a2m];have sz:∀ b,isz (sg b (x.natAbs / y.natAbs:Nat))<=400000000:=fun b=>b1P l1 _ _ rfl;have lq:(dig (x.natAbs / y.natAbs)).length<=400000000:=au (aX (Nat.div_le_self _ _)) l1;have sz1:∀ b,isz (sg b (x.natAbs / y.natAbs:Nat)-1)<=400000001:=fun b=>au (a1f _ _) (by rw[show isz 1=1 by decide +kernel];have:=sz b;omega);refine⟨⟨by omega,by omega⟩,fun h=>absurd (qj h) (by omega),fun _=>⟨⟨dJ _,dJ _,by rw[c5G];omega,fun e=>by have:=jA.1 e;omega⟩,⟨bZ _,by omega⟩,⟨fun h=>h,fun h=>h,fun h=>by rw[h];rfl⟩,fun h=>?_,fun h=>?_⟩⟩
 ·cases hs:decide (x<0) != decide (y<0)
  ·rw[hs] at h;cases h
  ·rw[hs] at h;have hr:x.natAbs%y.natAbs≠0:=qj h;obtain⟨a,b⟩:=YB (decide (x<0)) (decide (y<0)) x.natAbs y.natAbs n0 hs hr;rw[sgf,sgf] at a b;have e:sg true (x.natAbs / y.natAbs:Nat)-1=x.fdiv y:=by rw[a];unfold sg;simp;omega
   have f:=a6j x y e;have s1:=sz true;have s2:=sz1 true;have s3:=iC (sg true (x.natAbs / y.natAbs:Nat)-1) y;exact⟨⟨⟨by omega,by omega⟩,by omega,by decide +kernel⟩,⟨⟨by omega,by omega⟩,by omega,by omega⟩,f⟩
 ·have key:∀ q:Int,isz q<=400000000->q=x.fdiv y->((isz q<=1000000000/\isz y<=1000000000)/\isz x<=1000000000/\isz (q*y)<=1000000000)/\q=x.fdiv y/\x-q*y=x.fmod y:=fun q hq e=>by have:=iC q y;exact⟨⟨⟨by omega,by omega⟩,by omega,by omega⟩,a6j x y e⟩
  cases hs:decide (x<0) != decide (y<0)
  ·have hs:decide (x<0)=decide (y<0):=by simpa using hs
   obtain⟨a,b⟩:=YC (decide (y<0)) x.natAbs y.natAbs n0;rw[sgf,<-hs,sgf] at a;exact key _ (sz false) a.symm
  ·have hr:x.natAbs%y.natAbs=0:=Decidable.byContradiction fun e=>by rw[hs,jg e] at h;cases h
   obtain⟨a,b⟩:=TI (decide (x<0)) (decide (y<0)) x.natAbs y.natAbs n0 hs hr;rw[sgf,sgf] at a;exact key _ (sz true) a.symm
set_option maxHeartbeats 4000000
theorem c4l (w:World) (r q:Nat):Rd (w.alloc (.cells #[.int .u32 (r:Nat),.int .u32 (q:Nat)] 148)) (.slice (some ⟨w.heap.size,0,none⟩) 2 2) [r,q] :=
 Rd.dN (l:=[r,q]) (World.ownsRow_lit (size:=1) w #[.int .u32 (r:Nat),.int .u32 (q:Nat)] 2 (aj _) (by simp[maxLen]) (by simp))
theorem b3q (v u:Value) (x y:Int) (w:World) (hv:Raw w v x) (hu:Raw w u y) (hl:isz x<=1000000000) (hl2:isz y<=1000000000) :
  Calls Tryz.prog 131 #[v,u] w (FI ((Int.gcd x y:Nat):Int) w):=by
 obtain⟨b,p,n,c,rfl⟩:=hv.form;obtain⟨d,o,m,e,rfl⟩:=hu.form;have hlx:(dig x.natAbs).length<=1000000000:=hl;have hly:(dig y.natAbs).length<=1000000000:=hl2;have hfi:=jO;have k0:=jO;have QB:Below w.heap.size w w:=gy _ _
 go_enter Tryz.func131,Tryz.ntmps131
 go_wp2_with fail
 obtain⟨hA1,l0,m0,n0⟩:=bx3 w rfl [.bool b,.slice p n c] 45 [.bool d,.slice o m e] 45 [.bool false,.slice none 0 0] 45;have c7b:=(a3X.mk (l0.drew).bs2 (m0.drew).bs2);have tk1:True:=trivial;have tk2:True:=trivial
 go_region_held3 (a3X (BS2 w.heap.size (.bool b) (.slice p n c)) (BS2 (w.heap.size+1) (.bool d) (.slice o m e))) (first|with_reducible exact c7b|with_reducible exact RY.go (a3X.hk BS2.hk BS2.hk) (by assumption) (by assumption)|(simp;done))
  (first
   | (((have:=tk1);clear tk1;have a0:=(hv.below hA1).drew;go_at_call 164;(with_reducible refine(LC _ (x) _ a0 (by omega)).mono ?_);rintro e w1 ⟨v1,rfl,hi1,hb1⟩;obtain⟨g1,p1,n1,c1,rfl⟩:=hi1.form;obtain rfl:n1=(dig x.natAbs).length:=hi1.len))
   | (((have:=tk2);clear tk2;have b9V:=((hu.below hA1).drew.below hb1);have d0:=b9V;go_at_call 164;(with_reducible refine(LC _ (y) _ d0 (by omega)).mono ?_);rintro e w2 ⟨v2,rfl,hi2,hb2⟩;obtain⟨g2,p2,n2,c2,rfl⟩:=hi2.form;obtain rfl:n2=(dig y.natAbs).length:=hi2.len)))
 have o0:=(hi1.below hb2);have c0D:=((n0.drew.to hb1).to hb2);have j0:=(Below.tr (Below.tr (Below.tr QB hA1).drew hb1) hb2)
 go_wp2_with fail
 clear hl hl2
 go_loopg [5,6,7,8,17,18,19,20,21,22,23,24,25,26,27,28,29,30,31,32,33,34,35,36,37] (val (dig y.natAbs)) (fun k a b _ _ _ _ _ _ _ _ _ _ _ _ _ _ _ _ _ _ _ _ _ _ _ wr=>∃ (l1 l2:List Nat) (pa pb:Option Addr) (ca cb:Nat),a=.slice pa l1.length ca/\b=.slice pb l2.length cb/\Rd wr (.slice pa l1.length ca) l1/\Rd wr (.slice pb l2.length cb) l2/\Canon l1/\Canon l2/\l1.length<=1000000000/\l2.length<=1000000000/\Hid (Nat.gcd (val l1) (val l2)=Int.gcd x y)/\Hid (k=val l2)/\Bx wr (w.heap.size+1+1) [.bool false,.slice none 0 0]/\Below w.heap.size w wr)
 case atStart=>exact⟨_,_,_,_,_,_,rfl,rfl,o0.rd,hi2.rd,dJ _,dJ _,hlx,hly,a8v x y,rfl,c0D,j0⟩
 case round =>
  obtain⟨l1,l2,pa,pb,ca,cb,rfl,rfl,ha,hb,ca1,cb1,la,lb,hg,hk,hq,hB⟩:=hrel;have hzB:=hB.size;have cl1:Low l1:=ca1.1;have cl2:Low l2:=cb1.1;by_cases hne:l2=[]
  ·subst hne;have HX:Hid (sg false (val l1)=((Int.gcd x y:Nat):Int)):=gcd_zero hg.out
   go_wp2_with fail
   have b0:=ha
   (with_reducible refine(lF _ _ _ _ b0 cl1 (by omega)).mono ?_)
   rintro e w1 ⟨v1,rfl,hi1,hb1⟩;obtain⟨g1,p1,n1,c1,rfl⟩:=hi1.form;have a9b:=(hq.to hb1);obtain⟨e0,h0,g0,i0⟩:=a9b.cf2;have b1s:=(Below.tr hB hb1)
   go_wp2_with fail
   exact xk (v:=.agg #[.bool g1,.slice p1 n1 c1]) (by simp[results,Tryz.results131,go_sem,e0,h0,g0,i0]) rfl ⟨_,rfl,GU (hi1.iM a9b rfl rfl (.bool g1) (.slice p1 n1 c1)) HX.out,(Below.iM b1s (b:=w.heap.size+1+1) (by omega) (.bool g1) (.slice p1 n1 c1))⟩
  ·have hl0:0<l2.length:=yc.2 hne;have hlz:((l2.length:Int)==0)=false:=by simp;omega
   have HLE:Hid ((dig (val l1%val l2)).length<=1000000000):=by unfold Hid;have:=aX (Nat.le_of_lt (xg (val l1) (cb1.pos hne)));rw[dP cb1] at this;omega
   by_cases h1:2<l1.length
   ·skip
    go_wp2_with fail
    have a0:=ha;have b0:=hb
    (with_reducible refine(IJ _ _ _ _ _ a0 b0 ca1 cb1 la hne).mono ?_)
    rintro e w1 ⟨s1,t1,rfl,hs1,ht1,hb1⟩;obtain⟨p1,c1,rfl,b9Q,c6e⟩:=hs1.form;obtain⟨o1,d1,rfl,hlo1,c8L⟩:=ht1.form;have b9K:=(hb.below hb1);have a9b:=(hq.to hb1);have b1s:=(Below.tr hB hb1)
    go_wp2_with fail
    go_roundg (val (dig (val l1%val l2)))
    case measure=>rw[hk.out,bM];exact xg _ (cb1.pos hne)
    case rel=>exact⟨_,_,_,_,_,_,rfl,rfl,b9K,ht1,cb1,dJ _,lb,HLE.out,by unfold Hid;rw[bM];exact TN hg.out,rfl,a9b,b1s⟩
   ·by_cases h2:2<l2.length
    ·skip
     go_wp2_with fail
     have a0:=ha;have b0:=hb
     (with_reducible refine(IJ _ _ _ _ _ a0 b0 ca1 cb1 la hne).mono ?_)
     rintro e w1 ⟨s1,t1,rfl,hs1,ht1,hb1⟩;obtain⟨p1,c1,rfl,b9Q,c6e⟩:=hs1.form;obtain⟨o1,d1,rfl,hlo1,c8L⟩:=ht1.form;have b9K:=(hb.below hb1);have a9b:=(hq.to hb1);have b1s:=(Below.tr hB hb1)
     go_wp2_with fail
     go_roundg (val (dig (val l1%val l2)))
     case measure=>rw[hk.out,bM];exact xg _ (cb1.pos hne)
     case rel=>exact⟨_,_,_,_,_,_,rfl,rfl,b9K,ht1,cb1,dJ _,lb,HLE.out,by unfold Hid;rw[bM];exact TN hg.out,rfl,a9b,b1s⟩
    ·skip
     go_wp2_with fail
     have a0:=ha
     (with_reducible refine(ZV _ _ _ a0 cl1 (by omega)).mono ?_)
     rintro e w' ⟨rfl,rfl⟩
     go_wp2_with fail
     have d0:=hb
     (with_reducible refine(ZV _ _ _ d0 cl2 (by omega)).mono ?_)
     rintro e w' ⟨rfl,rfl⟩
     go_wp2_with fail
     have hM:=YK ca1 (by omega);have hK:=YK cb1 (by omega);clear ha hb
     go_loopw [9,10,47,48,49,50,51,52] (fun m n _ _ _ _ _ _ wr=>∃ M K:Nat,m=.int .u64 (M:Nat)/\n=.int .u64 (K:Nat)/\M<=999999999999999999/\K<=999999999999999999/\Hid (Nat.gcd M K=Int.gcd x y)/\Bx wr (w.heap.size+1+1) [.bool false,.slice none 0 0]/\Below w.heap.size w wr) (fun _ n _ _ _ _ _ _ _=>(intOf n).toNat)
     case atStart=>exact⟨_,_,rfl,rfl,hM,hK,hg,hq,hB⟩
     case round =>
      obtain⟨M,K,rfl,rfl,hM,hK,hg2,hq2,hB2⟩:=hrel;by_cases hk0:0<K
      ·obtain⟨R,hR⟩:∃ R,M%K=R:=⟨_,rfl⟩;have c5S:R<K:=by rw[<-hR];exact xg _ hk0
       have i2:(M:Int)%K=R:=by rw[<-hR];simp
       have i3:(M:Int).tmod K=R:=by rw[Bf (by omega)];exact i2
       have w2':IntKind.u64.wrap (R:Int)=R:=wrap_u64 (by omega);have hdz:((K:Int)==0)=false:=by simp;omega
       have hdn:¬ K=0:=by omega
       have HG:Hid (Nat.gcd K R=Int.gcd x y):=by unfold Hid;rw[<-hR];exact TN hg2.out
       have b5A:=fun w=>VG (n:=M) (d:=K) (v:=R) (by omega) hM i2 w2' w;clear hR
       go_wp2_with fail
       go_quiet (fail)
       go_wp2_with fail
       go_roundw
       case rel=>exact⟨K,R,rfl,rfl,hK,by omega,HG,hq2.drewN _,Below.sG hB2 _⟩
       case measure=>simp[intOf];omega
      ·obtain rfl:K=0:=by omega
       obtain⟨r,hr⟩:∃ r,M%1000000000=r:=⟨_,rfl⟩;obtain⟨q,hq'⟩:∃ q,M / 1000000000=q:=⟨_,rfl⟩;have HX:Hid (sg false (val [r,q])=((Int.gcd x y:Nat):Int)):=by
        have:=hg2.out;unfold Hid;rw[<-this,Nat.gcd_zero_right];have e:val [r,q]=M:=by simp[dA,val,bV];omega
        rw[e];rfl
       have i1:(M:Int)%1000000000=r:=by omega
       have i2:(M:Int) / 1000000000=q:=by omega
       have hr9:r<=999999999:=by omega
       have hq9:q<=999999999:=by omega
       have hlow:Low [r,q]:=Low.cons.2 ⟨by rw[bV];omega,Low.cons.2 ⟨by rw[bV];omega,Low.nil⟩⟩;have hR:=c4l wr r q;have c9A:=hB2.size;clear hr hq'
       go_wp2_with fail
       refine(lF false _ _ _ hR hlow (by simp)).mono ?_;rw[HX.out];rintro e2 w7 ⟨v2,rfl,hi2,hb7⟩;obtain⟨g2,p2,n2,c2,rfl⟩:=hi2.form;have q7:=(hq2.alloc (.cells #[.int .u32 (r:Nat),.int .u32 (q:Nat)] 148)).to hb7;have r0:=q7.c0;have r1:=q7.c1;have f0:=q7.f0;have f1:=q7.f1;have hB7:=Below.tr (Below.al hB2 (.cells #[.int .u32 (r:Nat),.int .u32 (q:Nat)] 148)) hb7
       go_wp2_with fail
       exact xk (v:=.agg #[.bool g2,.slice p2 n2 c2]) (by simp[results,Tryz.results131,go_sem,r0,r1]) rfl ⟨_,rfl,eY.iM hi2 q7 rfl rfl _ _,Below.iM hB7 (by omega) _ _⟩
theorem wC {x y:Int} (h:y ∣ x):x.fdiv y=x / y:=by rw[Int.fdiv_eq_ediv,dn (.inr h),Int.sub_zero]
theorem a9g {n d:Int} (hd:0<d):n.fdiv ((Int.gcd n d:Nat):Int)=(Rat.divInt n d).num/\d.fdiv ((Int.gcd n d:Nat):Int)=(Rat.divInt n d).den:=by rw[pW hd,pV hd];exact⟨wC (Int.gcd_dvd_left _ _),wC (Int.gcd_dvd_right _ _)⟩
theorem a9f {n d:Int} (hd:d<0):n.fdiv (-((Int.gcd n d:Nat):Int))=(Rat.divInt n d).num/\d.fdiv (-((Int.gcd n d:Nat):Int))=(Rat.divInt n d).den:=by rw[SX hd,SS hd];exact⟨wC (Int.neg_dvd.2 (Int.gcd_dvd_left _ _)),wC (Int.neg_dvd.2 (Int.gcd_dvd_right _ _))⟩
set_option maxHeartbeats 1000000
theorem c9e (x y:Int):sgn (x-y)=dF x y:=by
 unfold dF sgn;rcases Dl x y with h|h|h
 ·rw[dn h,ql (by omega)]
 ·rw[bn (by omega),bn (by omega),h,Int.sub_self];rfl
 ·rw[bn (by omega),dn h,uo (by omega)]
theorem c9f (x y:Rat):sgn (x-y).num=zO x y:=by unfold sgn zO;rw[b3f];have a:(x-y<0)=(x<y):=propext ⟨fun h=>by grind,fun h=>by grind⟩;have b:(0<x-y)=(y<x):=propext ⟨fun h=>by grind,fun h=>by grind⟩;simp only[a,b]
theorem c5B (x y:Rat):(zO x y==0)=decide (x=y):=by
 unfold zO;by_cases h1:x<y
 ·rw[dn h1,iy (fun e=>by subst e;exact absurd h1 (by grind))];rfl
 ·by_cases h2:y<x
  ·rw[bn h1,dn h2,iy (fun e=>by subst e;exact absurd h2 (by grind))];rfl
  ·rw[bn h1,bn h2,jg (by grind)];rfl
theorem c6J {x:Int}:(sgn x==0)=decide (x=0):=c4c
theorem b4u:aJ Tryz.prog 131 (cZ2 fun x y=>((Int.gcd x y:Nat):Int)):=(a9Z fun v u x y w h1 h2 l1 l2=>b3q v u x y w h1 h2 l1 l2)
theorem c4r:aJ Tryz.prog 129 cIV:=(a9Y fun v ok x w h=>yX v ok x w h)
def c5z (K:Nat) (g:Int->Int->Int):Ctr:=⟨[tZ,tZ],[tI],fun x=>isz x.1<=K/\isz x.2.1<=K,fun x=>(g x.1 x.2.1,())⟩
theorem a7W:aJ Tryz.prog 130 (c5z 999999999 dF):=by
 refine aN ((nil0.ad FH).ad a7Y) ⟨[],[],[]⟩ Tryz.func130 rfl (by decide) (fun x=>[]) (fun x hp=>?_);obtain⟨x,y,u⟩:=x;change Int at x;change Int at y;refine aP (((isz x<=1000000000/\isz y<=1000000000)/\isz (x-y)<=1000000000/\True)/\True/\sgn (x-y)=dF x y/\True) (by kernel_rfl) ?_;try simp only[zP0]
 try dsimp only[aB,asT,aA,aC,Ty.den,Lf.den] at *
 try simp only[zP1]
 obtain⟨l1,l2⟩:isz x<=999999999/\isz y<=999999999:=hp;have:=a1f x y;exact⟨⟨⟨by omega,by omega⟩,by omega⟩,c9e x y⟩
theorem a1C:aJ Tryz.prog 132 cIZ:=by
 refine aN (nil0.ad a0p) ⟨[2],[],[]⟩ Tryz.func132 rfl (by decide) (fun x=>[]) (fun x hp=>?_);obtain⟨n,u⟩:=x;change Int at n;refine aP ((aV n/\True)/\True/\n=n/\True) (by kernel_rfl) ?_;try simp only[zP0]
 try dsimp only[aB,asT,aA,aC,Ty.den,Lf.den] at *
 try simp only[zP1]
 exact hp
noncomputable def c8h:Ctr:=⟨[tZ,tZ],[tQ],fun x=>isz x.1<=400000000/\isz x.2.1<=400000000/\(show Int from x.2.1)≠0,fun x=>(Rat.divInt x.1 x.2.1,())⟩
theorem a1z:aJ Tryz.prog 162 c8h:=by
 refine aN ((((nil0.ad b4u).ad RX).ad FH).ad a7X) ⟨[4,5,6,7,9,10],[],[]⟩ Tryz.func162 rfl (by decide) (fun x=>[]) (fun x hp=>?_);obtain⟨x,y,u⟩:=x;change Int at x;change Int at y;refine aP (((isz x<=1000000000/\isz y<=1000000000)/\True)/\(isz y<=1000000000/\True)/\ifB (decide (sgn y<0)) ((isz (aB (Int.gcd x y))<=1000000000/\True)/\((isz x<=400000000/\isz (-aB (Int.gcd x y))<=400000000/\-aB (Int.gcd x y)≠0)/\True)/\((isz y<=400000000/\isz (-aB (Int.gcd x y))<=400000000/\-aB (Int.gcd x y)≠0)/\True)/\(0<Int.fdiv y (-aB (Int.gcd x y))/\Int.gcd (Int.fdiv x (-aB (Int.gcd x y))) (Int.fdiv y (-aB (Int.gcd x y)))=1/\True)/\Rat.divInt (Int.fdiv x (-aB (Int.gcd x y))) (Int.fdiv y (-aB (Int.gcd x y)))=Rat.divInt x y/\True) (((isz x<=400000000/\isz (aB (Int.gcd x y))<=400000000/\aB (Int.gcd x y)≠0)/\True)/\((isz y<=400000000/\isz (aB (Int.gcd x y))<=400000000/\aB (Int.gcd x y)≠0)/\True)/\(0<Int.fdiv y (aB (Int.gcd x y))/\Int.gcd (Int.fdiv x (aB (Int.gcd x y))) (Int.fdiv y (aB (Int.gcd x y)))=1/\True)/\Rat.divInt (Int.fdiv x (aB (Int.gcd x y))) (Int.fdiv y (aB (Int.gcd x y)))=Rat.divInt x y/\True)) (by kernel_rfl) ?_;try simp only[zP0]
 try dsimp only[aB,asT,aA,aC,Ty.den,Lf.den] at *
 try simp only[zP1]
 obtain⟨l1,l2,hy⟩:isz x<=400000000/\isz y<=400000000/\y≠0:=hp;have g1:isz ((Int.gcd x y:Nat):Int)<=400000000:=lS hy l2;have g2:((Int.gcd x y:Nat):Int)≠0:=gcd_ne hy;have g3:isz (-((Int.gcd x y:Nat):Int))<=400000000:=by rw[kR];exact g1
 refine⟨⟨by omega,by omega⟩,by omega,fun h=>⟨by omega,⟨l1,g3,by omega⟩,⟨l2,g3,by omega⟩,?_⟩,fun h=>⟨⟨l1,g1,g2⟩,⟨l2,g1,g2⟩,?_⟩⟩
 ·have:=rd8 (a9f (n:=x) (Cm.1 h));exact⟨⟨this.1,this.2.1⟩,this.2.2⟩
 ·have h0:¬ y<0:=fun e=>h (Cm.2 e);have:=rd8 (a9g (n:=x) (show 0<y by omega));exact⟨⟨this.1,this.2.1⟩,this.2.2⟩
theorem RN:aJ Tryz.prog 143 (cIQ aV (fun i=>(i:Rat))):=by
 refine aN (nil0.ad a1C) ⟨[2],[],[]⟩ Tryz.func143 rfl (by decide) (fun x=>[]) (fun x hp=>?_);obtain⟨n,u⟩:=x;change Int at n;refine aP ((aV n/\aV 1/\True)/\(asT Int 0<1/\Int.gcd n 1=1/\True)/\Rat.divInt n 1=aH n/\True) (by kernel_rfl) ?_;try simp only[zP0]
 try dsimp only[aB,asT,aA,aC,Ty.den,Lf.den] at *
 try simp only[zP1]
 exact⟨⟨hp,by omega,by omega⟩,⟨by omega,Int.gcd_one_right _⟩,by rw[show (1:Int)=((1:Nat):Int) from rfl,Rat.divInt_ofNat];exact Rat.mkRat_one n⟩
theorem b7n:aJ Tryz.prog 46 (b9k 999999999):=by
 refine aN (((((nil0.ad b4u).ad FH).ad c4r).ad a7W).ad a1C) ⟨[],[],[]⟩ Tryz.func46 rfl (by decide) (fun x=>[]) (fun x hp=>?_);obtain⟨x,u⟩:=x;change iJ × iJ × Unit at x;refine aP (let A₁:=(asT iJ x.2.1);let A₂:=(asT iJ x.1);let A₀:=(bif !iJ.ok A₂ then true else !iJ.ok A₁);let aK:=((!iJ.ok A₂)==false);let aO:=((A₀==false)=true->(A₀==false)=true/\True);let bC:=(aB (Int.gcd (iJ.x A₂) (iJ.x A₁)));let bI:=(aK=true->aK=true/\True);(True/\bI/\(aK=true->aK=true/\True/\True)/\bI/\((!iJ.ok A₂)=false->aK=true)/\aO/\((A₀==false)=true->(A₀==false)=true/\iJ.ok A₁=true/\isz (iJ.x A₁)<=1000000000/\True)/\aO/\(A₀=false->(A₀==false)=true)/\True)/\ifB (bif bif !iJ.ok A₂ then true else !iJ.ok A₁ then true else decide (sgn (iJ.x A₁)<=0)) (True/\false=a3V A₂ A₁/\True) ((iJ.ok A₂=true/\iJ.ok A₁=true/\(isz (iJ.x A₂)<=1000000000/\isz (iJ.x A₁)<=1000000000)/\aV 1/\(isz bC<=999999999/\isz 1<=999999999)/\True)/\True/\(dF bC 1==0)=a3V A₂ A₁/\True)) (by kernel_rfl) ?_;try simp only[zP0]
 try dsimp only[aB,asT,aA,aC,Ty.den,Lf.den] at *
 try simp only[zP1]
 obtain⟨⟨o1,n,g⟩,⟨o2,d,h⟩,u⟩:=x;obtain⟨l1,l2⟩:isz n<=999999999/\isz d<=999999999:=hp;have e:(sgn d<=0)=¬ 0<d:=propext (by unfold sgn;rw[<-Int.sign_pos_iff];omega);simp only[e,c5A,a3V] at *
 cases o1<;>cases o2<;>simp<;>try omega
 by_cases hd:0<d
 ·have:isz ((Int.gcd n d:Nat):Int)<=999999999:=lS (by omega) l2;simp[hd,c6q];exact⟨by omega,fun h=>absurd hd (by omega),⟨by omega,by omega⟩,⟨by omega,by omega⟩,this⟩
 ·simp[hd];omega
theorem a7z:aJ Tryz.prog 46 (cVal 999999999):=b4o b7n
theorem RJ:aJ Tryz.prog 78 (cQ1 (fun x=>rsz x<=999999999) (fun x=>x)):=by
 refine aN ((nil0.ad RN).ad a7z) ⟨[2],[],[]⟩ Tryz.func78 rfl (by decide) (fun x=>[]) (fun x hp=>?_);obtain⟨x,u⟩:=x;change Rat at x;refine aP (((aI.n (dK x)<=999999999/\aI.m (dK x)<=999999999)/\True)/\True/\x=x/\True) (by kernel_rfl) ?_;try simp only[zP0]
 try dsimp only[aB,asT,aA,aC,Ty.den,Lf.den] at *
 try simp only[zP1]
 exact sz8 (show rsz x<=999999999 from hp)
noncomputable def c5m:Ctr:=⟨[tZ,tZ],[tR,tI],fun x=>isz x.1<=390000000/\isz x.2.1<=390000000,fun x=>newT 14 x.1 x.2.1⟩
theorem a9j:aJ Tryz.prog 160 c5m:=by
 refine aN ((nil0.ad FH).ad a1z) ⟨[4],[],[]⟩ Tryz.func160 rfl (by decide) (fun x=>[]) (fun x hp=>?_);obtain⟨x,y,u⟩:=x;change Int at x;change Int at y;refine aP ((isz y<=1000000000/\True)/\ifB (sgn y==0) (True/\bP=Prod.fst (newT 14 x y)/\True/\14=Prod.fst (newT 14 x y).2/\True) (((isz x<=400000000/\isz y<=400000000/\y≠0)/\True)/\True/\dK (Rat.divInt x y)=Prod.fst (newT 14 x y)/\True/\0=Prod.fst (newT 14 x y).2/\True)) (by kernel_rfl) ?_;try simp only[zP0]
 try dsimp only[aB,asT,aA,aC,Ty.den,Lf.den] at *
 try simp only[zP1]
 obtain⟨l1,l2⟩:isz x<=390000000/\isz y<=390000000:=hp;rw[c6J];refine⟨by omega,fun h=>?_,fun h=>?_⟩
 ·unfold newT;rw[dn (qj h)];exact⟨rfl,rfl⟩
 ·unfold newT;rw[bn (uj h)];exact⟨⟨by omega,by omega,uj h⟩,rfl,rfl⟩
theorem a7y:aJ Tryz.prog 17 (cQI (fun x=>rsz x<=900000000) (fun x=>sgn x.num)):=by
 refine aN ((nil0.ad FH).ad RJ) ⟨[],[],[]⟩ Tryz.func17 rfl (by decide) (fun x=>[]) (fun x hp=>?_);obtain⟨x,u⟩:=x;change Rat at x;refine aP ((rsz x<=999999999/\isz (Rat.num x)<=1000000000/\True)/\True/\sgn (Rat.num x)=sgn (Rat.num x)/\True) (by kernel_rfl) ?_;try simp only[zP0]
 try dsimp only[aB,asT,aA,aC,Ty.den,Lf.den] at *
 try simp only[zP1]
 have hp:rsz x<=900000000:=hp;have:=(sz8 hp).1;exact⟨by omega,by omega⟩
theorem a7w:aJ Tryz.prog 101 (cQ1 (fun x=>rsz x<=190000000) (fun x=>-x)):=by
 refine aN ((nil0.ad RX).ad RJ) ⟨[2,3],[],[]⟩ Tryz.func101 rfl (by decide) (fun x=>[]) (fun x hp=>?_);obtain⟨x,u⟩:=x;change Rat at x;refine aP ((rsz x<=999999999/\True)/\(isz (Rat.num x)<=1000000000/\True)/\(0<aB (Rat.den x)/\Int.gcd (-Rat.num x) (aB (Rat.den x))=1/\True)/\Rat.divInt (-Rat.num x) (aB (Rat.den x))=-x/\True) (by kernel_rfl) ?_;try simp only[zP0]
 try dsimp only[aB,asT,aA,aC,Ty.den,Lf.den] at *
 try simp only[zP1]
 have hp:rsz x<=190000000:=hp;obtain⟨a,b⟩:=sz8 hp;exact⟨by omega,by omega,⟨b5f x,by have:=KX (-x);rwa [CQ,CP] at this⟩,b2F x⟩
theorem a1v:aJ Tryz.prog 76 (cQ2 s19 (·+·)):=by
 refine aN ((((nil0.ad b4t).ad a7V).ad a1z).ad RJ) ⟨[4,5,6],[],[]⟩ Tryz.func76 rfl (by decide) (fun x=>[]) (fun x hp=>?_);obtain⟨x,y,u⟩:=x;change Rat at x;change Rat at y;refine aP ((rsz x<=999999999/\True)/\(rsz y<=999999999/\True)/\((isz (Rat.num x)<=1000000000/\isz (aB (Rat.den y))<=1000000000)/\(isz (Rat.num y)<=1000000000/\isz (aB (Rat.den x))<=1000000000)/\(isz (Rat.num x*aB (Rat.den y))<=1000000000/\isz (Rat.num y*aB (Rat.den x))<=1000000000)/\(isz (aB (Rat.den x))<=1000000000/\isz (aB (Rat.den y))<=1000000000)/\(isz (Rat.num x*aB (Rat.den y)+Rat.num y*aB (Rat.den x))<=400000000/\isz (aB (Rat.den x)*aB (Rat.den y))<=400000000/\aB (Rat.den x)*aB (Rat.den y)≠0)/\True)/\True/\Rat.divInt (Rat.num x*aB (Rat.den y)+Rat.num y*aB (Rat.den x)) (aB (Rat.den x)*aB (Rat.den y))=x+y/\True) (by kernel_rfl) ?_;try simp only[zP0]
 try dsimp only[aB,asT,aA,aC,Ty.den,Lf.den] at *
 try simp only[zP1]
 obtain⟨l1,l2⟩:rsz x<=190000000/\rsz y<=190000000:=hp;obtain⟨a,b⟩:=sz8 l1;obtain⟨c,d⟩:=sz8 l2;have m1:=QD a d;have m2:=QD c b;have m3:=QD b d;have m4:=yP (x.num*y.den) (y.num*x.den);exact⟨by omega,by omega,⟨⟨by omega,by omega⟩,⟨by omega,by omega⟩,⟨by omega,by omega⟩,⟨by omega,by omega⟩,by omega,by omega,Dp (JH x) (JH y)⟩,a1w x y⟩
theorem a7v:aJ Tryz.prog 75 (cQ2 s19 (·*·)):=by
 refine aN (((nil0.ad b4t).ad a1z).ad RJ) ⟨[4,5,6],[],[]⟩ Tryz.func75 rfl (by decide) (fun x=>[]) (fun x hp=>?_);obtain⟨x,y,u⟩:=x;change Rat at x;change Rat at y;refine aP ((rsz x<=999999999/\True)/\(rsz y<=999999999/\True)/\((isz (Rat.num x)<=1000000000/\isz (Rat.num y)<=1000000000)/\(isz (aB (Rat.den x))<=1000000000/\isz (aB (Rat.den y))<=1000000000)/\(isz (Rat.num x*Rat.num y)<=400000000/\isz (aB (Rat.den x)*aB (Rat.den y))<=400000000/\aB (Rat.den x)*aB (Rat.den y)≠0)/\True)/\True/\Rat.divInt (Rat.num x*Rat.num y) (aB (Rat.den x)*aB (Rat.den y))=x*y/\True) (by kernel_rfl) ?_;try simp only[zP0]
 try dsimp only[aB,asT,aA,aC,Ty.den,Lf.den] at *
 try simp only[zP1]
 obtain⟨l1,l2⟩:rsz x<=190000000/\rsz y<=190000000:=hp;obtain⟨a,b⟩:=sz8 l1;obtain⟨c,d⟩:=sz8 l2;have m1:=QD a c;have m3:=QD b d;exact⟨by omega,by omega,⟨⟨by omega,by omega⟩,⟨by omega,by omega⟩,by omega,by omega,Dp (JH x) (JH y)⟩,QX x y⟩
theorem b7g:aJ Tryz.prog 112 a9X:=by
 refine aN ((nil0.ad a1C).ad a9j) ⟨[4],[],[]⟩ Tryz.func112 rfl (by decide) (fun x=>[]) (fun x hp=>?_);obtain⟨x,y,u⟩:=x;change Int at x;change Int at y;refine aP ((aV x/\aV y/\(isz x<=390000000/\isz y<=390000000)/\True)/\(aI.ok (newT 14 x y).1=true/\True)/\aI.x (newT 14 x y).1=Rat.divInt x y/\True/\Prod.fst (newT 14 x y).2=0/\True) (by kernel_rfl) ?_;try simp only[zP0]
 try dsimp only[aB,asT,aA,aC,Ty.den,Lf.den] at *
 try simp only[zP1]
 obtain⟨h1,h2,h3⟩:aV x/\aV y/\y≠0:=hp;rw[show newT 14 x y=(dK (Rat.divInt x y),0,()) from bn h3];exact⟨⟨h1,h2,au (a1g h1) (by omega),au (a1g h2) (by omega)⟩,rfl,rfl,rfl⟩
theorem b7k:aJ Tryz.prog 133 (cQ2 s19 (·-·)):=by
 refine aN ((nil0.ad a7w).ad a1v) ⟨[4],[],[]⟩ Tryz.func133 rfl (by decide) (fun x=>[]) (fun x hp=>?_);obtain⟨x,y,u⟩:=x;change Rat at x;change Rat at y;refine aP ((rsz y<=190000000/\s19 x (-y)/\True)/\True/\x+-y=x-y/\True) (by kernel_rfl) ?_;try simp only[zP0]
 try dsimp only[aB,asT,aA,aC,Ty.den,Lf.den] at *
 try simp only[zP1]
 obtain⟨l1,l2⟩:rsz x<=190000000/\rsz y<=190000000:=hp;obtain⟨a,b⟩:=sz8 l1;obtain⟨c,d⟩:=sz8 l2;exact⟨⟨l2,l1,by rw[rU];exact l2⟩,(Rat.sub_eq_add_neg x y).symm⟩
theorem b6Y:aJ Tryz.prog 47 (b9j s19 zO):=by
 refine aN ((nil0.ad a7y).ad b7k) ⟨[],[],[]⟩ Tryz.func47 rfl (by decide) (fun x=>[]) (fun x hp=>?_);obtain⟨x,y,u⟩:=x;change Rat at x;change Rat at y;refine aP ((s19 x y/\rsz (x-y)<=900000000/\True)/\True/\sgn (Rat.num (x-y))=zO x y/\True) (by kernel_rfl) ?_;try simp only[zP0]
 try dsimp only[aB,asT,aA,aC,Ty.den,Lf.den] at *
 try simp only[zP1]
 obtain⟨l1,l2⟩:rsz x<=190000000/\rsz y<=190000000:=hp;obtain⟨a,b⟩:=sz8 l1;obtain⟨c,d⟩:=sz8 l2;have:=b7l x y;exact⟨⟨⟨l1,l2⟩,by omega⟩,c9f x y⟩
theorem b7j:aJ Tryz.prog 121 (c5p s19 (fun x y=>decide (x=y))):=by
 refine aN ((nil0.ad a7z).ad b6Y) ⟨[],[],[]⟩ Tryz.func121 rfl (by decide) (fun x=>[]) (fun x hp=>?_);obtain⟨x,y,u⟩:=x;change Rat at x;change Rat at y;refine aP (((aI.n (dK x)<=999999999/\aI.m (dK x)<=999999999)/\(asT Bool true=true->asT Bool true=true/\(aI.n (dK y)<=999999999/\aI.m (dK y)<=999999999)/\True)/\(asT Bool true=true->asT Bool true=true)/\(asT Bool true=true->asT Bool true=true/\asT Bool true=true/\s19 x y/\True)/\(asT Bool true=true->asT Bool true=true/\True)/\(asT Bool true=true->asT Bool true=true)/\True)/\True/\(bif bif true then true else false then zO x y==0 else false)=decide (x=y)/\True) (by kernel_rfl) ?_;try simp only[zP0]
 try dsimp only[aB,asT,aA,aC,Ty.den,Lf.den] at *
 try simp only[zP1]
 obtain⟨l1,l2⟩:rsz x<=190000000/\rsz y<=190000000:=hp;obtain⟨a,b⟩:=sz8 l1;obtain⟨c,d⟩:=sz8 l2;have e:∀ b:Bool,(bif bif true then true else false then b else false)=b:=fun b=>by cases b<;>rfl
 refine⟨⟨⟨au a (by omega),au b (by omega)⟩,fun _=>⟨au c (by omega),au d (by omega)⟩,fun h=>h,fun _=>⟨l1,l2⟩,fun h=>h,fun h=>h⟩,(e _).trans (c5B x y)⟩
theorem b5a {P:Program} {f:FuncId} {args res:List Ty} {pre pre':(nest args).den->Prop} {fn:(nest args).den->(nest res).den} {d:∀ x,Dc (pre x)} {d':∀ x,Dc (pre' x)} (h:aJ P f (@Ctr.mk args res pre fn d)) (e:∀ x,pre' x->pre x):aJ P f (@Ctr.mk args res pre' fn d'):=fun F w vs x a b hp=>h F w vs x a b (e x hp)
theorem b3x:aJ Tryz.prog 17 (cQI (fun x=>rsz x<=190000000) (fun x=>sgn x.num)):=b5a a7y fun x h=>au h (by omega)
theorem c4E {a b:Bool}:(bif a then true else b)=(a || b):=by cases a<;>rfl
theorem c4C {a b:Bool}:(bif a then b else false)=(a&&b):=by cases a<;>rfl
theorem zP2:(∀ {a b:Bool},(bif a then true else b)=(a || b))/\(∀ {a b:Bool},(bif a then b else false)=(a&&b))/\(∀ {α:Type} {a:α} {l:List α} {f:α->Bool},(a::l).all f=(f a&&l.all f))/\(∀ {α:Type} {f:α->Bool},[].all f=true)/\(∀ b:Bool,(b&&true)=b)/\(∀ b:Bool,((!b)=true)=(b=false))/\(∀ b:Bool,((!b)=false)=(b=true))/\(∀ {α:Type} [BEq α] [LawfulBEq α] {a b:α},(a==b)=true↔a=b)/\(∀ {α:Type} [BEq α] [LawfulBEq α] {a b:α},(a != b)=true↔a≠b)/\(∀ {α:Type} (a b:α),(a≠b)=¬a=b)/\(∀ a b:Bool,((a&&b)=true)=(a=true/\b=true))/\(∀ {x y:Bool},(x&&y)=false↔x=true->y=false)/\(∀ {α:Type} [BEq α] [LawfulBEq α] {a b:α},(a==b)=false↔a≠b)/\(∀ {α:Type} [BEq α] [LawfulBEq α] {a b:α},(a != b)=false↔a=b)/\(∀ {m n:Nat},(m:Int)=n↔m=n)/\(∀ {a:Prop},a->a↔True)/\(∀ α:Type,(α->True)=True)/\(∀ α:Prop,(α->True)=True)/\(∀ p:Prop,(p/\p)=p)/\(∀ p:Prop,(True/\p)=p)/\(∀ p:Prop,(p/\True)=p)/\(∀ a b:Bool,((a || b)=true)=(a=true\/b=true))/\(∀ {x y:Bool},(x || y)=false↔x=false/\y=false)/\(∀ {α:Type} {a:α} {l:List α},(a::l).length=l.length+1)/\(∀ {α:Type},([]:List α).length=0):=⟨c4E,c4C,List.all_cons,List.all_nil,Bool.and_true,zq,Bool.not_eq_false',jo,Eu,ne_eq,ay,Bool.and_eq_false_imp,Af,bne_eq_false_iff_eq,Int.natCast_inj,imp_self,implies_true,implies_true,and_self,Dt,Cb,Bool.or_eq_true,Ea,List.length_cons,List.length_nil⟩
end Go.Proofs.YtbkocjmmbkifjaaGreat
