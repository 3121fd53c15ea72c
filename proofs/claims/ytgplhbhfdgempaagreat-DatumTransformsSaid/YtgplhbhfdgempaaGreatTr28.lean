/-
  Lemmas for the theorem vtransforms_holds, part 28 of 39.
-/
import Derived.Test.YtgplhbhfdgempaaGreatTr27
namespace Go.Proofs.YtgplhbhfdgempaaGreat
open Go Go.RowKit
set_option maxRecDepth 100000
set_option maxHeartbeats 2000000
set_option linter.unusedSimpArgs false
set_option linter.unusedVariables false
theorem iP:∀ (a b:Value) (w:World),Sem.run Tryz.prog (Instr.field 62 (.agg #[a,b]) 1) w=.ok b w:=fun a b w=>by kernel_rfl
theorem dR.rd {w:World} {b s:Value} {x:Int} (h:dR w (.agg #[b,s]) x):Rd w s (dig x.natAbs):=by
 obtain⟨s',e,h⟩:=h;cases e;exact h
theorem group_any (s:Value) (l:List Nat) (i:Int) (w:World) (hs:Rd w s l) (hl:Low l) (h0:0<=i) :
  Calls Tryz.prog 160 #[s,.int .i64 i] w fun e w'=>e=.returned (.int .u64 (gr l i.toNat:Nat))/\w=w':=by
 obtain⟨n,rfl⟩:=Ad h0
 rw[Int.toNat_natCast]
 clear h0
 have hg:=iJ hl n
 rcases hs with⟨p,rfl,rfl⟩|⟨b,o,c,rfl,h2,h3,h4,h5⟩
 ·have h8:decide ((n:Int)<0)=false:=by simp
  go_enter Tryz.func160,Tryz.ntmps160
  go_wp2_with fail
  go_ret
  exact⟨by simp[gr],rfl⟩
 ·by_cases hn:n<l.length
  ·have h6:=h5 n hn
   clear h5
   go_enter Tryz.func160,Tryz.ntmps160
   go_wp2
   go_ret
   exact⟨rfl,rfl⟩
  ·clear h5
   go_enter Tryz.func160,Tryz.ntmps160
   go_wp2
   go_ret
   exact⟨by rw[wP (by omega)];rfl,rfl⟩
theorem ET (s:Value) (l:List Nat) (k:Nat) (w:World) (hs:Rd w s l) (hl:Low l) :
  Calls Tryz.prog 160 #[s,.int .i64 (k:Nat)] w fun e w'=>e=.returned (.int .u64 (gr l k:Nat))/\w=w':=by
 have:=group_any s l k w hs hl (by omega)
 rwa [Int.toNat_natCast] at this
theorem nU (l:List Nat) (g:Nat):cells32 l++[.int .u32 (g:Nat)]=cells32 (l++[g]):=by simp[cells32]
theorem a7Z (s t:Value) (a b:List Nat) (w:World) (hs:Rd w s a) (ht:Rd w t b) (ha:Low a) (hb:Low b) (la:a.length<=1000000000) (lb:b.length<=1000000000) :
  Calls Tryz.prog 129 #[s,t] w (b2p (dig (val a+val b)) w):=by
 obtain⟨i0,hi,hz0,hz1,hz2⟩:=Aj iZ
 obtain⟨p,c,rfl,_,_⟩:=hs.form
 obtain⟨q,d,rfl,_,_⟩:=ht.form
 have HA:=bn ha
 have HB:=bn hb
 clear ha hb
 have hf1:=iP
 have hO:=EP w
 have hB0:Below w.heap.size w (w.alloc (.cells #[] 133)):=(dn _ _).alloc (aj _) _
 go_enter Tryz.func129,Tryz.ntmps129
 go_wp2_with fail
 go_loopw [5,6,7,8,10,11,12,13,14,15,16,17,18,19,20,21,22,23,24,25,26,27,28,29,30,31,32,33,34,35,36,37,38] (fun v cc i _ _ _ _ _ _ _ _ _ _ _ _ _ _ _ _ _ _ _ _ _ _ _ _ _ _ _ _ _ _ wr=>∃ (k e:Nat) (o:List Nat),k<=max a.length b.length/\i=.int .i64 (k:Nat)/\cc=.int .u64 (e:Nat)/\ZJ a b o k e/\wr.ownsRow w.heap.size 133 1 v k (cells32 o)/\Below w.heap.size w wr) (fun _ _ i _ _ _ _ _ _ _ _ _ _ _ _ _ _ _ _ _ _ _ _ _ _ _ _ _ _ _ _ _ _ _=>max a.length b.length-(intOf i).toNat)
 case atStart=>exact⟨0,0,[],by omega,rfl,rfl,ZJ.zero a b,hO,hB0⟩
 case round =>
  obtain⟨k,e,o,hk,rfl,rfl,hI,hown,hB⟩:=hrel
  have ga:gr a k<=999999999:=iJ HA.out k
  have gb:gr b k<=999999999:=iJ HB.out k
  have ge:e<=1:=hI.car
  have hsz:=hB.size
  by_cases hlt:k<a.length\/k<b.length
  ·have hN:=fun r q=>hI.step (r:=r) (q:=q) ga gb
   obtain⟨r,hr⟩:∃ r,(gr a k+gr b k+e)%1000000000=r:=⟨_,rfl⟩
   obtain⟨m,hm⟩:∃ m,(gr a k+gr b k+e) / 1000000000=m:=⟨_,rfl⟩
   have hN:=hI.step (r:=r) (q:=m) ga gb (by omega) (by omega)
   have hr2:((gr a k:Int)+gr b k+e)%1000000000=r:=by omega
   have hm2:((gr a k:Int)+gr b k+e) / 1000000000=m:=by omega
   have hr3:r<=999999999:=by omega
   have HN:=bn hN
   clear hr hm hN
   have hlt2:k+1<=max a.length b.length:=by omega
   have hd1:decide (k<a.length)=true\/(decide (k<a.length)=false/\decide (k<b.length)=true):=by
    by_cases h:k<a.length
    ·left;simpa using h
    ·right;exact⟨by simpa using h,by simp;omega⟩
   clear hlt
   by_cases hka:k<a.length
   all_goals
    (try have hkb:k<b.length:=by omega)
    clear hd1
    go_wp2_with fail
    refine(ET _ a k _ (hs.below hB) HA.out).mono ?_
    rintro e' w' ⟨rfl,rfl⟩
    go_wp2_with fail
    refine(ET _ b k _ (ht.below hB) HB.out).mono ?_
    rintro e' w' ⟨rfl,rfl⟩
    go_wp2_with (at_builtin;refine yh _ rfl _ _ 60 rfl w.heap.size 133 i0 (.int .u32 0) 1 4 jo hi hz0 hz1 hz2 rfl (by decide) _ _ _ rfl (hown.alloc _) ⟨wr.heap.size,0,none⟩ 1 1 [.int .u32 (r:Nat)] rfl rfl (cell_one_new _ _ _) (by simp[Value.oneCell']) (by unfold maxLen;omega) (by omega) (by simp;omega) ?_)
    intro v' w1 hown' hgrow _
    rw[nU] at hown'
    have hB1:Below w.heap.size w w1:=(hB.alloc hsz _).grown hgrow (by simp;omega) (fun j e=>(hown.lt j e).1)
    clear hgrow
    go_wp2_with fail
    go_roundw
    case rel=>exact⟨k+1,m,o++[r],hlt2,by go_num,by rw[hm2],HN.out,hown',hB1⟩
    case measure=>simp[intOf];omega
  ·have hka:¬ k<a.length:=by omega
   have hkb:¬ k<b.length:=by omega
   have hD:=hI.done (by omega) (by omega)
   have HV:Hid (sg false (val (o++[e]))=((val a+val b:Nat):Int)):=by unfold Hid;rw[hD.2];rfl
   clear hlt
   go_wp2_with (at_builtin;refine yh _ rfl _ _ 60 rfl w.heap.size 133 i0 (.int .u32 0) 1 4 jo hi hz0 hz1 hz2 rfl (by decide) _ _ _ rfl (hown.alloc _) ⟨wr.heap.size,0,none⟩ 1 1 [.int .u32 (e:Nat)] rfl rfl (cell_one_new _ _ _) (by simp[Value.oneCell']) (by unfold maxLen;omega) (by omega) (by simp;omega) ?_)
   intro v' w1 hown' hgrow _
   rw[nU] at hown'
   have hB1:Below w.heap.size w w1:=(hB.alloc hsz _).grown hgrow (by simp;omega) (fun j e=>(hown.lt j e).1)
   clear hgrow
   have hR:=Rd.dO (l:=o++[e]) (by rw[iw,hI.len];exact hown')
   go_wp2_with fail
   refine(rG false _ _ _ hR hD.1 (by rw[iw,hI.len];simp;omega)).mono ?_
   rw[HV.out]
   rintro e2 w2 ⟨g2,p2,n2,c2,rfl,hi2,hfr2,hb2⟩
   have hR2:=hi2.rd
   go_wp2_with fail
   go_ret
   exact⟨_,rfl,hR2,fun k hk=>jg hB1.size (hfr2 k hk),hB1.trans (hb2.mono hB1.size)⟩
theorem DR (s:Value) (a:List Nat) (d:Nat) (w:World) (hs:Rd w s a) (ha:Low a) (la:a.length<=1000000001) (hd:d<=999999999) :
  Calls Tryz.prog 177 #[s,.int .u64 (d:Nat)] w (b2p (dig (val a*d)) w):=by
 obtain⟨i0,hi,hz0,hz1,hz2⟩:=Aj iZ
 obtain⟨p,c,rfl,_,_⟩:=hs.form
 have HA:=bn ha
 clear ha
 have hf1:=iP
 have hO:=EP w
 have hB0:Below w.heap.size w (w.alloc (.cells #[] 133)):=(dn _ _).alloc (aj _) _
 go_enter Tryz.func177,Tryz.ntmps177
 go_wp2_with fail
 go_loopw [5,6,7,8,10,11,12,13,14,15,16,17,18,19,20,21,22,23,24,25,26,27,28,29,30,31,32] (fun v cc i _ _ _ _ _ _ _ _ _ _ _ _ _ _ _ _ _ _ _ _ _ _ _ _ wr=>∃ (k e:Nat) (o:List Nat),k<=a.length/\i=.int .i64 (k:Nat)/\cc=.int .u64 (e:Nat)/\ZM a o d k e/\wr.ownsRow w.heap.size 133 1 v k (cells32 o)/\Below w.heap.size w wr) (fun _ _ i _ _ _ _ _ _ _ _ _ _ _ _ _ _ _ _ _ _ _ _ _ _ _ _ _=>a.length-(intOf i).toNat)
 case atStart=>exact⟨0,0,[],by omega,rfl,rfl,ZM.zero a d,hO,hB0⟩
 case round =>
  obtain⟨k,e,o,hk,rfl,rfl,hI,hown,hB⟩:=hrel
  have ga:gr a k<=999999999:=iJ HA.out k
  have ge:e<=999999999:=hI.car
  have hsz:=hB.size
  by_cases hlt:k<a.length
  ·obtain⟨ba,oa,rfl,hba,hca⟩:=hs.at (by intro e;subst e;simp at hlt)
   have hcell:wr.cell? ⟨ba,oa+k,none⟩=some (.int .u32 (gr a k:Nat)):=(hB.cell (p:=⟨ba,oa+k,none⟩) hba).trans (hca k hlt)
   clear hca
   obtain⟨x,hx⟩:∃ x:Nat,(gr a k:Int)*d=x:=⟨gr a k*d,by simp⟩
   have hx2:gr a k*d=x:=by
    have h2:((gr a k*d:Nat):Int)=x:=by rw[<-hx];simp
    omega
   have hx3:x<=999999998000000001:=by
    have h1:gr a k*d<=999999999*999999999:=uf ga hd
    omega
   obtain⟨r,hr⟩:∃ r,(x+e)%1000000000=r:=⟨_,rfl⟩
   obtain⟨m,hm⟩:∃ m,(x+e) / 1000000000=m:=⟨_,rfl⟩
   have hN:=hI.step (r:=r) (q:=m) (by omega) (by omega) (by omega)
   have hr2:((x:Int)+e)%1000000000=r:=by omega
   have hm2:((x:Int)+e) / 1000000000=m:=by omega
   have hr3:r<=999999999:=by omega
   have HN:=bn hN
   clear hr hm hN hx2
   have hlt2:k+1<=a.length:=by omega
   go_wp2_with (at_builtin;refine yh _ rfl _ _ 60 rfl w.heap.size 133 i0 (.int .u32 0) 1 4 jo hi hz0 hz1 hz2 rfl (by decide) _ _ _ rfl (hown.alloc _) ⟨wr.heap.size,0,none⟩ 1 1 [.int .u32 (r:Nat)] rfl rfl (cell_one_new _ _ _) (by simp[Value.oneCell']) (by unfold maxLen;omega) (by omega) (by simp;omega) ?_)
   intro v' w1 hown' hgrow _
   rw[nU] at hown'
   have hB1:Below w.heap.size w w1:=(hB.alloc hsz _).grown hgrow (by simp;omega) (fun j e=>(hown.lt j e).1)
   clear hgrow
   go_wp2_with fail
   go_roundw
   case rel=>exact⟨k+1,m,o++[r],hlt2,by go_num,by rw[hm2],HN.out,hown',hB1⟩
   case measure=>simp[intOf];omega
  ·obtain rfl:k=a.length:=by omega
   have hD:=hI.done (aj _)
   have HV:Hid (sg false (val (o++[e]))=((val a*d:Nat):Int)):=by unfold Hid;rw[hD.2];rfl
   clear hlt
   go_wp2_with (at_builtin;refine yh _ rfl _ _ 60 rfl w.heap.size 133 i0 (.int .u32 0) 1 4 jo hi hz0 hz1 hz2 rfl (by decide) _ _ _ rfl (hown.alloc _) ⟨wr.heap.size,0,none⟩ 1 1 [.int .u32 (e:Nat)] rfl rfl (cell_one_new _ _ _) (by simp[Value.oneCell']) (by unfold maxLen;omega) (by omega) (by simp;omega) ?_)
   intro v' w1 hown' hgrow _
   rw[nU] at hown'
   have hB1:Below w.heap.size w w1:=(hB.alloc hsz _).grown hgrow (by simp;omega) (fun j e=>(hown.lt j e).1)
   clear hgrow
   have hR:=Rd.dO (l:=o++[e]) (by rw[iw,hI.len];exact hown')
   go_wp2_with fail
   refine(rG false _ _ _ hR hD.1 (by rw[iw,hI.len];simp;omega)).mono ?_
   rw[HV.out]
   rintro e2 w2 ⟨g2,p2,n2,c2,rfl,hi2,hfr2,hb2⟩
   have hR2:=hi2.rd
   go_wp2_with fail
   go_ret
   exact⟨_,rfl,hR2,fun k hk=>jg hB1.size (hfr2 k hk),hB1.trans (hb2.mono hB1.size)⟩
theorem zI (s t:Value) (a b:List Nat) (w:World) (hs:Rd w s a) (ht:Rd w t b) (ha:Low a) (hb:Low b) (la:a.length<=1000000002) (lb:b.length<=a.length) (hle:val b<=val a) :
  Calls Tryz.prog 131 #[s,t] w (b2p (dig (val a-val b)) w):=by
 obtain⟨i0,hi,hz0,hz1,hz2⟩:=Aj iZ
 obtain⟨p,c,rfl,_,_⟩:=hs.form
 obtain⟨q,d,rfl,_,_⟩:=ht.form
 have HA:=bn ha
 have HB:=bn hb
 have HLE:=bn hle
 clear ha hb hle
 have hf1:=iP
 have hO:=EP w
 have hB0:Below w.heap.size w (w.alloc (.cells #[] 133)):=(dn _ _).alloc (aj _) _
 go_enter Tryz.func131,Tryz.ntmps131
 go_wp2_with fail
 go_loopw [5,6,7,8,10,11,12,13,14,15,16,17,18,19,20,21,22,23,24,25,26,27,28,29,30,31,32,33] (fun v cc i _ _ _ _ _ _ _ _ _ _ _ _ _ _ _ _ _ _ _ _ _ _ _ _ _ wr=>∃ (k e:Nat) (o:List Nat),k<=a.length/\i=.int .i64 (k:Nat)/\cc=.int .u64 (e:Nat)/\MInv a b o k e/\wr.ownsRow w.heap.size 133 1 v k (cells32 o)/\Below w.heap.size w wr) (fun _ _ i _ _ _ _ _ _ _ _ _ _ _ _ _ _ _ _ _ _ _ _ _ _ _ _ _ _=>a.length-(intOf i).toNat)
 case atStart=>exact⟨0,0,[],by omega,rfl,rfl,MInv.zero a b,hO,hB0⟩
 case round =>
  obtain⟨k,e,o,hk,rfl,rfl,hI,hown,hB⟩:=hrel
  have ga:gr a k<=999999999:=iJ HA.out k
  have gb:gr b k<=999999999:=iJ HB.out k
  have ge:e<=1:=hI.car
  have hsz:=hB.size
  by_cases hlt:k<a.length
  ·obtain⟨x,hx⟩:∃ x:Nat,x+gr b k+e=1000000000+gr a k:=⟨1000000000+gr a k-gr b k-e,by omega⟩
   obtain⟨r,hr⟩:∃ r,x%1000000000=r:=⟨_,rfl⟩
   obtain⟨m,hm⟩:∃ m,x / 1000000000=m:=⟨_,rfl⟩
   obtain⟨y,hy⟩:∃ y,y+m=1:=⟨1-m,by omega⟩
   have hN:=hI.step (r:=r) (c':=y) (by omega) (by omega) (by omega)
   have hr2:((1000000000:Int)+gr a k-gr b k-e)%1000000000=r:=by omega
   have hm2:((1000000000:Int)+gr a k-gr b k-e) / 1000000000=m:=by omega
   have hy2:(1:Int)-m=y:=by omega
   have hr3:r<=999999999:=by omega
   have hm3:m<=1:=by omega
   have HN:=bn hN
   have HY:=bn hy2
   clear hr hm hN hx hy hy2
   have hlt2:k+1<=a.length:=by omega
   go_wp2_with fail
   refine(ET _ a k _ (hs.below hB) HA.out).mono ?_
   rintro e' w' ⟨rfl,rfl⟩
   go_wp2_with fail
   refine(ET _ b k _ (ht.below hB) HB.out).mono ?_
   rintro e' w' ⟨rfl,rfl⟩
   go_wp2_with (at_builtin;refine yh _ rfl _ _ 60 rfl w.heap.size 133 i0 (.int .u32 0) 1 4 jo hi hz0 hz1 hz2 rfl (by decide) _ _ _ rfl (hown.alloc _) ⟨wr.heap.size,0,none⟩ 1 1 [.int .u32 (r:Nat)] rfl rfl (cell_one_new _ _ _) (by simp[Value.oneCell']) (by unfold maxLen;omega) (by omega) (by simp;omega) ?_)
   intro v' w1 hown' hgrow _
   rw[nU] at hown'
   have hB1:Below w.heap.size w w1:=(hB.alloc hsz _).grown hgrow (by simp;omega) (fun j e=>(hown.lt j e).1)
   clear hgrow
   go_wp2_with fail
   go_roundw
   case rel=>exact⟨k+1,y,o++[r],hlt2,by go_num,by rw[<-HY.out],HN.out,hown',hB1⟩
   case measure=>simp[intOf];omega
  ·obtain rfl:k=a.length:=by omega
   have hD:=hI.done (aj _) lb HLE.out
   have hlow:=hI.low
   have hlen:=hI.len
   have HV:Hid (sg false (val o)=((val a-val b:Nat):Int)):=by unfold Hid;rw[hD];rfl
   have hR:=Rd.dO (l:=o) (by rw[hlen];exact hown)
   clear hlt hD
   go_wp2_with fail
   refine(rG false _ _ _ hR hlow (by rw[hlen];omega)).mono ?_
   rw[HV.out]
   rintro e2 w2 ⟨g2,p2,n2,c2,rfl,hi2,hfr2,hb2⟩
   have hR2:=hi2.rd
   go_wp2_with fail
   go_ret
   exact⟨_,rfl,hR2,fun k hk=>jg hB.size (hfr2 k hk),hB.trans (hb2.mono hB.size)⟩
theorem UR (s:Value) (a:List Nat) (d:Nat) (w:World) (hs:Rd w s a) (ha:Low a) (la:a.length<=2000000000) (hd:1<=d) (hd2:d<=999999999) :
  Calls Tryz.prog 176 #[s,.int .u64 (d:Nat)] w fun e w'=>∃ v,e=.returned (.tuple #[v,.int .u64 (val a%d:Nat)])/\Rd w' v (dig (val a / d))/\Below w.heap.size w w':=by
 obtain⟨i0,hi,hz0,hz1,hz2⟩:=Aj iZ
 obtain⟨p,c,rfl,_,_⟩:=hs.form
 have HA:=bn ha
 clear ha
 have hf1:=iP
 obtain⟨n,hn⟩:∃ n,a.length=n:=⟨_,rfl⟩
 rw[hn] at hs la ⊢
 have HNL:=bn hn
 clear hn
 go_enter Tryz.func176,Tryz.ntmps176
 go_wp2_with (at_make;refine Dx _ rfl _ _ 60 rfl w.heap.size 133 i0 (.int .u32 0) 1 jo hi hz0 hz1 _ _ _ _ n rfl rfl (by omega) (by omega) (by rw[hz2];omega) (by unfold maxLen;omega) (aj _) ?_)
 intro w1 hown hgrow
 rw[kE] at hown
 have hB1:Below w.heap.size w w1:=(dn _ _).grown hgrow (aj _) (fun k e=>by cases e)
 clear hgrow
 go_wp2
 go_loopw [7,8,9,16,17,18,19,20,21,22,23,24,25,26,27,28,29,30,31,32,33,34,35,36,37] (fun rr i _ _ _ _ _ _ _ _ _ _ _ _ _ _ _ _ _ _ _ _ _ _ _ wr=>∃ (k r:Nat) (i':Int) (o:List Nat),i=.int .i64 i'/\Hid (i'=(k:Int)-1)/\k<=n/\rr=.int .u64 (r:Nat)/\Hid (ZK a o d k r)/\wr.ownsRow w.heap.size 133 1 (.slice (some ⟨w.heap.size,0,none⟩) n n) n (cells32 o)/\Below w.heap.size w wr) (fun _ i _ _ _ _ _ _ _ _ _ _ _ _ _ _ _ _ _ _ _ _ _ _ _ _=>(intOf i+1).toNat)
 case atStart=>exact⟨n,0,_,_,rfl,rfl,aj _,rfl,by have:=HNL.out;subst this;exact ZK.start a hd,hown,hB1⟩
 case round =>
  obtain⟨k,r,i',o,rfl,hk',hkn,rfl,hI,hO,hB⟩:=hrel
  cases k with
  | zero =>
   obtain rfl:i'=-1:=by have:=hk'.out;simpa using this
   have hD:=hI.out.done
   have hlen:o.length=n:=by have:=hI.out.len;rw[HNL.out] at this;exact this
   have HV:Hid (sg false (val o)=((val a / d:Nat):Int)):=by unfold Hid;rw[hD.2.1];rfl
   have HR2:=bn hD.2.2
   have hlow:=hD.1
   have hR:=Rd.dO (l:=o) (by rw[hlen];exact hO)
   have HLEN:=bn hlen
   clear hD hlen
   go_wp2_with fail
   refine(iM false _ _ _ hR hlow (by rw[HLEN.out];omega)).mono ?_
   rw[HV.out]
   rintro e2 w2 ⟨v2,rfl,hi2,hb2⟩
   obtain⟨g2,p2,n2,c2,rfl⟩:=hi2.form
   have hR3:=hi2.rd
   go_wp2_with fail
   go_ret2
   exact⟨_,by rw[HR2.out];rfl,hR3,hB.trans (hb2.mono hB.size)⟩
  | succ k =>
   obtain rfl:i'=(k:Int):=by have:=hk'.out;simp at this;omega
   have ga:gr a k<=999999999:=iJ HA.out k
   have hkl:k<a.length:=by have:=HNL.out;omega
   obtain⟨ba,oa,rfl,hba,hca⟩:=hs.at (by intro e;subst e;simp at hkl)
   have hcell:wr.cell? ⟨ba,oa+k,none⟩=some (.int .u32 (gr a k:Nat)):=(hB.cell (p:=⟨ba,oa+k,none⟩) hba).trans (hca k hkl)
   clear hca
   have hr:r<=999999998:=by have:=hI.out.rest;omega
   obtain⟨x,hx⟩:∃ x:Nat,(r:Int)*1000000000+gr a k=x:=⟨r*1000000000+gr a k,by simp⟩
   have hxn:r*1000000000+gr a k=x:=by omega
   have hx3:x<=999999998999999999:=by omega
   obtain⟨q,hq⟩:∃ q,x / d=q:=⟨_,rfl⟩
   obtain⟨m,hm⟩:∃ m,x%d=m:=⟨_,rfl⟩
   have hqm:x=q*d+m:=by rw[<-hq,<-hm,wu];exact(Nat.div_add_mod x d).symm
   have hmd:m<d:=by rw[<-hm];exact yg _ (by omega)
   have hN:=hI.out.step (q:=q) (r':=m) hkl (by omega) hmd ga
   have hq3:q<=999999999:=hN.2
   have HN:=bn hN.1
   have a9O:=fun w=>UE (n:=x) (d:=d) (v:=q) hd (by omega) (by rw[<-hq];simp) (wrap_u64 (by omega)) w
   have a9P:=fun w=>KW (n:=x) (d:=d) (v:=m) hd (by omega) (by rw[<-hm];simp) (wrap_u64 (by omega)) w
   have hdz:((d:Int)==0)=false:=by simp;omega
   have i1:(x:Int) / d=q:=by rw[<-hq];simp
   have i2:(x:Int)%d=m:=by rw[<-hm];simp
   have w1':IntKind.u64.wrap (q:Int)=q:=wrap_u64 (by omega)
   have w2':(q:Int)%4294967296=q:=by omega
   have hlo:o.length=n:=by have:=hI.out.len;rw[HNL.out] at this;exact this
   have hcl:wr.cell? ⟨w.heap.size,k,none⟩=some (.int .u32 (gr o k:Nat)):=by
    rw[hO.cellAt k (by omega)];exact fO (by omega)
   have hfr:=hO.frozenAt k
   have hst:=hO.stored k (.int .u32 (q:Nat))
   rw[gV] at hst
   have HST:=bn hst
   have hkn2:(k:Int)<n:=by omega
   clear hN hq hm hqm hxn hst hlo
   go_wp2_with fail
   go_roundw
   case rel=>exact⟨k,m,_,_,rfl,rfl,by omega,by rw[i2],HN,HST.out.1,hB.setCell (p:=⟨w.heap.size,k,none⟩) (aj _) _⟩
   case measure=>simp[intOf]
theorem b1o (p q:Option Addr) (c d n:Nat) (a b:List Nat) (w:World) (hs:Rd w (.slice p n c) a) (ht:Rd w (.slice q n d) b) (ha:Low a) (hb:Low b) (la:a.length=n) (lb:b.length=n) (hn:n<=2000000000) :
  Calls Tryz.prog 130 #[.slice p n c,.slice q n d] w fun e w'=>e=.returned (.int .i64 (dV (val a) (val b)))/\Below w.heap.size w w':=by
 have HA:=bn ha
 have HB:=bn hb
 have HLA:=bn la
 have HLB:=bn lb
 clear ha hb la lb
 go_enter Tryz.func130,Tryz.ntmps130
 go_wp2_with fail
 go_loopw [5,19,20,21,22,23,24,25,26,27,28,29,30,31,32,33,34,35,36,37,38,39,40] (fun i _ _ _ _ _ _ _ _ _ _ _ _ _ _ _ _ _ _ _ _ _ _ wr=>∃ (k:Nat) (i':Int),i=.int .i64 i'/\Hid (i'=(k:Int)-1)/\k<=n/\Hid (∀ j,k<=j->gr a j=gr b j)/\Below w.heap.size w wr) (fun i _ _ _ _ _ _ _ _ _ _ _ _ _ _ _ _ _ _ _ _ _ _ _=>(intOf i+1).toNat)
 case atStart=>exact⟨n,_,rfl,rfl,aj _,fun j hj=>by have:=HLA.out;have:=HLB.out;rw[wP (by omega),wP (by omega)],dn _ _⟩
 case round =>
  obtain⟨k,i',rfl,hk',hkn,hI,hB⟩:=hrel
  cases k with
  | zero =>
   obtain rfl:i'=-1:=by have:=hk'.out;simpa using this
   have hab:a=b:=by
    have:=wI (i:=0) (a:=a) (b:=b) (by rw[HLA.out,HLB.out]) (fun j _=>hI.out j (by omega))
    simpa using this
   have HV:Hid (dV (val a) (val b)=0):=by unfold Hid;rw[hab];unfold dV;simp
   clear hab
   go_wp2_with fail
   go_ret
   exact⟨iR HV.out.symm,hB⟩
  | succ k =>
   obtain rfl:i'=(k:Int):=by have:=hk'.out;simp at this;omega
   have hka:k<a.length:=by have:=HLA.out;omega
   have hkb:k<b.length:=by have:=HLB.out;omega
   obtain⟨ba,oa,rfl,hba,hca⟩:=hs.at (by intro e;subst e;simp at hka)
   obtain⟨bb,ob,rfl,hbb,hcb⟩:=ht.at (by intro e;subst e;simp at hkb)
   have hc1:wr.cell? ⟨ba,oa+k,none⟩=some (.int .u32 (gr a k:Nat)):=(hB.cell (p:=⟨ba,oa+k,none⟩) hba).trans (hca k hka)
   have hc2:wr.cell? ⟨bb,ob+k,none⟩=some (.int .u32 (gr b k:Nat)):=(hB.cell (p:=⟨bb,ob+k,none⟩) hbb).trans (hcb k hkb)
   have ga:gr a k<=999999999:=iJ HA.out k
   have gb:gr b k<=999999999:=iJ HB.out k
   have hdr:=wI (i:=k+1) (a:=a) (b:=b) (by rw[HLA.out,HLB.out]) (fun j hj=>hI.out j hj)
   have h0:(0:Int)<=k:=by omega
   have h1:(k:Int)<n:=by omega
   clear hca hcb hka hkb
   rcases Nat.lt_trichotomy (gr a k) (gr b k) with h|h|h
   ·have hv:=FK HA.out (by rw[hdr]) h
    have HV:Hid (dV (val a) (val b)=-1):=by unfold Hid dV;rw[gy (by omega)]
    clear hdr hv
    generalize gr a k=x at *
    generalize gr b k=y at *
    have d1:decide (x<y)=true:=by simpa using h
    have d2:decide ((x:Int)<y)=true:=by simpa using h
    go_wp2_with fail
    go_quiet (fail)
    go_wp2_with fail
    go_ret
    exact⟨iR HV.out.symm,by first|exact Below.qN hB _|exact Below.qN (Below.qN hB _) _⟩
   ·have HE:=bn h
    clear hdr
    have d1:decide (gr a k<gr b k)=false:=by simp;omega
    have d3:decide (gr b k<gr a k)=false:=by simp;omega
    generalize hxx:gr a k=x at *
    generalize hyy:gr b k=y at *
    have HXX:=bn hxx
    have HYY:=bn hyy
    clear h hxx hyy
    go_wp2_with fail
    go_quiet (fail)
    go_wp2_with fail
    go_quiet (fail)
    go_wp2_with fail
    go_roundw
    case rel=>exact⟨k,_,rfl,rfl,by omega,fun j hj=>if e:j=k then by rw[e,HXX.out,HYY.out];exact HE.out else hI.out j (by omega),Below.qN hB _⟩
    case measure=>simp[intOf]
   ·have hv:=FK (i:=k) HB.out (by rw[hdr]) h
    have HV:Hid (dV (val a) (val b)=1):=by unfold Hid dV;rw[ig (by omega),gy (by omega)]
    clear hdr hv
    generalize gr a k=x at *
    generalize gr b k=y at *
    have d1:decide (x<y)=false:=by simp;omega
    have d3:decide (y<x)=true:=by simpa using h
    go_wp2_with fail
    go_quiet (fail)
    go_wp2_with fail
    go_quiet (fail)
    go_wp2_with fail
    go_ret
    exact⟨iR HV.out.symm,by first|exact Below.qN hB _|exact Below.qN (Below.qN hB _) _⟩
theorem b1p (s t:Value) (a b:List Nat) (w:World) (hs:Rd w s a) (ht:Rd w t b) (ha:Canon a) (hb:Canon b) (hn:a.length≠b.length) :
  Calls Tryz.prog 130 #[s,t] w fun e w'=>e=.returned (.int .i64 (dV (val a) (val b)))/\Below w.heap.size w w':=by
 obtain⟨p,c,rfl,_,_⟩:=hs.form
 obtain⟨q,d,rfl,_,_⟩:=ht.form
 have hne:((a.length:Int) != b.length)=true:=by simp;omega
 rcases Bl a.length b.length with h|h
 ·have hv:=JH ha hb h
  have HV:Hid (dV (val a) (val b)=-1):=by unfold Hid dV;rw[gy (by omega)]
  have d1:decide (a.length<b.length)=true:=by simpa using h
  have HN:=bn hn
  clear hn h hv
  go_enter Tryz.func130,Tryz.ntmps130
  go_wp2
  go_ret
  exact⟨iR HV.out.symm,dn _ _⟩
 ·have hv:=JH hb ha (by omega)
  have HV:Hid (dV (val a) (val b)=1):=by unfold Hid dV;rw[ig (by omega),gy (by omega)]
  have d1:decide (a.length<b.length)=false:=by simp;omega
  have HN:=bn hn
  have HH:=bn h
  clear hn h hv
  go_enter Tryz.func130,Tryz.ntmps130
  go_wp2
  go_ret
  exact⟨iR HV.out.symm,dn _ _⟩
theorem uH (s t:Value) (a b:List Nat) (w:World) (hs:Rd w s a) (ht:Rd w t b) (ha:Canon a) (hb:Canon b) (la:a.length<=2000000000) :
  Calls Tryz.prog 130 #[s,t] w fun e w'=>e=.returned (.int .i64 (dV (val a) (val b)))/\Below w.heap.size w w':=by
 by_cases h:a.length=b.length
 ·obtain⟨p,c,rfl,_,_⟩:=hs.form
  obtain⟨q,d,rfl,_,_⟩:=ht.form
  rw[<-h] at ht ⊢
  exact b1o p q c d a.length a b w hs ht ha.1 hb.1 rfl h.symm la
 ·exact b1p s t a b w hs ht ha hb h
theorem JD {P:Program} {w:World} {ops:Array Oper} {rest:List Oper} {o:Oper} {a:Act} {Q:Exit->Act->World->Prop} (hgd:o.guard=none) (s x:Operand) (t:TypeId)
  (hop:o.op=Op.call { callee:=Callee.builtin Builtin.append,args:=#[s,x],argTypes:=#[t,t] })
  (e:TypeId) (i:TypeInfo) (h1:P.underlying t=some (.slice e)) (h2:P.info? e=some i)
  (b:Addr) (n c:Nat) (hnc:n<=c) (hs:a.eval s=.slice (some b) n c) {q:Option Addr} (hx:a.eval x=.slice q 0 0)
  (h:wpList P ops Q rest (a.put o.dst (.slice (some b) n c)) w):wpList P ops Q (o::rest) a w :=
 wpList_plain hgd fun _ hK=>by
  have hrun:(Builtin.append_ #[t,t] o.type #[.slice (some b) n c,.slice q 0 0]).run P w=.ok (.slice (some b) n c) w:=by
   cases q<;>simp[Builtin.append_,qj h1,sizeOf,typeInfo,h2,Builtin.lenOf,Builtin.firstCells,loadCells,loadCellsFrom,jc,storeCells,hnc]
  unfold Oper.wp
  simp[execOp,hop,resolve,invoke,builtin,hs,hx,hrun,Result.andThen]
  exact hK _ _ h
theorem a6k (w:World) (d:Nat):(w.alloc (.cells #[.int .u32 (d:Nat)] 133)).ownsRow w.heap.size 133 1 (.slice (some ⟨w.heap.size,0,none⟩) 1 1) 1 (cells32 [d]):=World.ownsRow_lit (size:=1) w #[.int .u32 (d:Nat)] 1 (aj _) (by simp[maxLen]) (by simp)
theorem a0P (s:Value) (a:List Nat) (d:Nat) (w:World) (hs:Rd w s a) (ha:Low a) (la:a.length<=1000000000) (hd:d<=999999999) :
  Calls Tryz.prog 178 #[s,.int .u32 (d:Nat)] w (b2p (dig (d+1000000000*val a)) w):=by
 obtain⟨i0,hi,hz0,hz1,hz2⟩:=Aj iZ
 have hf1:=iP
 have hl:Low (d::a):=Low.cons.2 ⟨by rw[dG];omega,ha⟩
 have HV:Hid (sg false (val (d::a))=((d+1000000000*val a:Nat):Int)):=by unfold Hid;rw[dH,dG];rfl
 have hB0:Below w.heap.size w (w.alloc (.cells #[.int .u32 (d:Nat)] 133)):=(dn _ _).alloc (aj _) _
 have HL:=bn hl
 clear hl ha
 rcases hs with⟨p,rfl,rfl⟩|⟨b,o,c,rfl,h2,h3,h4,h5⟩
 ·have hR:=Rd.dO (a6k w d)
  go_enter Tryz.func178,Tryz.ntmps178
  go_wp2_with (at_builtin;refine JD rfl _ _ 60 rfl 133 i0 jo hi _ 1 1 (aj _) rfl rfl ?_)
  refine(rG false _ _ _ hR HL.out (by simp)).mono ?_
  rw[HV.out]
  rintro e2 w2 ⟨g2,p2,n2,c2,rfl,hi2,hfr2,hb2⟩
  have hR2:=hi2.rd
  go_wp2_with fail
  go_ret
  exact⟨_,rfl,hR2,fun k hk=>jg hB0.size (hfr2 k hk),hB0.trans (hb2.mono hB0.size)⟩
 ·have H5:=bn h5
  clear h5
  go_enter Tryz.func178,Tryz.ntmps178
  go_wp2_with (at_builtin;refine yh _ rfl _ _ 60 rfl w.heap.size 133 i0 (.int .u32 0) 1 4 jo hi hz0 hz1 hz2 rfl (by decide) _ _ _ rfl (a6k w d) ⟨b,o,none⟩ a.length c (cells32 a) rfl (jO a) (oN fun i hi=>(yx _ _ ⟨b,o+i,none⟩ h4).trans (H5.out i hi)) (mF a) (by unfold maxLen;omega) (by omega) (by simp) ?_)
  intro v' w1 hown hgrow _
  have hB1:Below w.heap.size w w1:=((dn _ _).alloc (aj _) _).grown hgrow (by simp) (fun j e=>by simp[Value.ownBlock] at e;omega)
  clear hgrow
  have hR:=Rd.dO (l:=d::a) (by rw[List.length_cons,Eb];exact hown)
  go_wp2_with fail
  refine(rG false _ _ _ hR HL.out (by simp;omega)).mono ?_
  rw[HV.out]
  rintro e2 w2 ⟨g2,p2,n2,c2,rfl,hi2,hfr2,hb2⟩
  have hR2:=hi2.rd
  go_wp2_with fail
  go_ret
  exact⟨_,rfl,hR2,fun k hk=>jg hB1.size (hfr2 k hk),hB1.trans (hb2.mono hB1.size)⟩
structure RInv (a o:List Nat) (M V k R:Nat):Prop where
 len:o.length=M
 low:Low (o.drop k)
 vl:val (a.drop k)=val (o.drop k)*V+R
 rest:R<V
theorem RInv.start {a:List Nat} {M V:Nat} (hV:val (a.drop M)<V):RInv a (List.replicate M 0) M V M (val (a.drop M)):=⟨by simp,by simp[Low.nil],by simp[val],hV⟩
theorem RInv.step {a o:List Nat} {M V k R q R':Nat} (h:RInv a o M V (k+1) R) (hk:k<M) (hM:M<=a.length) (hn:gr a k+1000000000*R=q*V+R') (hr:R'<V) (ha:gr a k<=999999999):RInv a (o.set k q) M V k R'/\q<=999999999:=by
 have hq:q<=999999999:=by
  rcases Bl 999999999 q with h1|h1
  ·exfalso
   have e1:1000000000*V<=q*V:=jq _ h1
   have e2:=h.rest
   have e3:(R+1)*1000000000<=V*1000000000:=jq _ e2
   rw[Aq] at e3
   rw[wu V] at e3
   omega
  ·exact h1
 have hl:k<o.length:=by rw[h.len];exact hk
 have hs:(o.set k q).drop k=q::o.drop (k+1):=by
  rw[Bc (by simpa using hl),List.drop_set_of_lt (by omega)]
  simp
 refine⟨⟨by simp[h.len],?_,?_,hr⟩,hq⟩
 ·rw[hs];exact Low.cons.2 ⟨by rw[dG];omega,h.low⟩
 ·rw[hs,GL (by omega),h.vl,dH,dG]
  grind
theorem RInv.done {a o:List Nat} {M V R:Nat} (h:RInv a o M V 0 R):Low o/\val o=val a / V/\R=val a%V:=by
 have h1:=h.vl
 simp at h1
 have hr:=h.rest
 have hl:=h.low
 simp at hl
 refine⟨hl,?_,?_⟩
 ·rw[h1,wu,Nat.mul_add_div (by omega),Dw hr];simp
 ·rw[h1,wu,Nat.mul_add_mod,Dj hr]
theorem b4w {l:List Nat} {n:Nat} (hn:1<=n):(gr l n*1000000000+gr l (n-1))*BB ^ (n-1)<=val l:=by
 have h1:=yC l (n-1)
 have h2:=yC (l.drop n) 0
 rw[show n-1+1=n by omega] at h1
 simp at h2
 have h3:gr (l.drop n) 0=gr l n:=by unfold gr;simp
 rw[h3] at h2
 rw[h1,h2,dG]
 have e:1000000000 ^ (n-1)*(gr l (n-1)+1000000000*(gr l n+1000000000*val (l.drop (n+1))))=(gr l n*1000000000+gr l (n-1))*1000000000 ^ (n-1)+1000000000 ^ (n-1)*(1000000000*(1000000000*val (l.drop (n+1)))):=by grind
 rw[e]
 omega
theorem a9z {l:List Nat} {n V bt g:Nat} (hn:1<=n) (hV:V<(bt+1)*BB ^ (n-1)) (hg:g*(bt+1)<=gr l n*1000000000+gr l (n-1)):g*V<=val l:=by
 have h1:=b4w (l:=l) hn
 have h2:g*V<=g*((bt+1)*BB ^ (n-1)):=Az _ (Nat.le_of_lt hV)
 have h3:g*(bt+1)*BB ^ (n-1)<=(gr l n*1000000000+gr l (n-1))*BB ^ (n-1):=jq _ hg
 rw[<-Nat.mul_assoc] at h2
 omega
theorem OG {V R x g R':Nat} (hR:R<V) (hx:x<=999999999) (h:g*V+R'=x+1000000000*R):g<=999999999:=by
 rcases Bl 999999999 g with h1|h1
 ·exfalso
  have e1:1000000000*V<=g*V:=jq _ h1
  omega
 ·exact h1
theorem VK {l:List Nat} {n:Nat} (hl:Low l) (hn:l.length=n) (h1:1<=n):val l<(gr l (n-1)+1)*BB ^ (n-1):=by
 have h:=yC l (n-1)
 rw[show n-1+1=n by omega,List.drop_eq_nil_of_le (by omega)] at h
 simp[val] at h
 have h2:val (l.take (n-1))<BB ^ (n-1):=by
  have:=qH (hl.take (n-1))
  rwa [jm,yw (by omega)] at this
 rw[Aq,wu (gr l (n-1))]
 omega
theorem a4M {b:List Nat} {n f:Nat} (hb:Canon b) (hn:b.length=n) (h1:1<=n) (hf1:1<=f) (hf:f*(gr b (n-1)+1)<=1000000000):(dig (val b*f)).length=n:=by
 apply Nat.le_antisymm
 ·refine fM ?_
  have h:=VK hb.1 hn h1
  have h2:val b*f<(gr b (n-1)+1)*BB ^ (n-1)*f:=Nat.mul_lt_mul_of_pos_right h hf1
  have h3:f*(gr b (n-1)+1)*BB ^ (n-1)<=BB*BB ^ (n-1):=jq _ (by rw[dG];exact hf)
  have h4:BB*BB ^ (n-1)=BB ^ n:=by
   rw[wu,<-Nat.pow_succ];congr 1;omega
  have h5:(gr b (n-1)+1)*BB ^ (n-1)*f=f*(gr b (n-1)+1)*BB ^ (n-1):=by grind
  omega
 ·have:=aN (show val b<=val b*f from Nat.le_mul_of_pos_right _ hf1)
  rw[fE hb] at this
  omega
end Go.Proofs.YtgplhbhfdgempaaGreat
