/-
  Lemmas for the theorem vdecomposes28_holds, part 20 of 34.
-/
import Derived.Test.YtbkocjmmbkifjaaGreatQd19
namespace Go.Proofs.YtbkocjmmbkifjaaGreat
open Go Go.RowKit
set_option maxRecDepth 100000
set_option maxHeartbeats 2000000
set_option linter.unusedSimpArgs false
set_option linter.unusedVariables false
theorem FX (s:Value) (a:List Nat) (d:Nat) (w:World) (hs:Rd w s a) (ha:Low a) (la:a.length<=2000000000) (hd:1<=d) (hd2:d<=999999999) :
  Calls Tryz.prog 266 #[s,.int .u64 (d:Nat)] w fun e w'=>∃ v,e=.returned (.tuple #[v,.int .u64 (val a%d:Nat)])/\Rd w' v (dig (val a / d))/\Below w.heap.size w w':=by
 obtain⟨i0,hi,hz0,hz1,hz2⟩:=zl gJ
 obtain⟨p,c,rfl,_,_⟩:=hs.form
 have HA:=bg ha
 clear ha
 have hf1:=jD
 obtain⟨n,hn⟩:∃ n,a.length=n:=⟨_,rfl⟩
 rw[hn] at hs la ⊢
 have HNL:=bg hn
 clear hn
 go_enter Tryz.func266,Tryz.ntmps266
 go_wp2_with (at_make;refine Dv _ rfl _ _ 43 rfl w.heap.size 148 i0 (.int .u32 0) 1 jg hi hz0 hz1 _ _ _ _ n rfl rfl (by omega) (by omega) (by rw[hz2];omega) (by unfold maxLen;omega) (aj _) ?_)
 intro w1 hown hgrow
 rw[iM] at hown
 have hB1:Below w.heap.size w w1:=(dh _ _).grown hgrow (aj _) (fun k e=>by cases e)
 clear hgrow
 go_wp2
 go_loopw [7,8,9,16,17,18,19,20,21,22,23,24,25,26,27,28,29,30,31,32,33,34,35,36,37] (fun rr i _ _ _ _ _ _ _ _ _ _ _ _ _ _ _ _ _ _ _ _ _ _ _ wr=>∃ (k r:Nat) (i':Int) (o:List Nat),i=.int .i64 i'/\Hid (i'=(k:Int)-1)/\k<=n/\rr=.int .u64 (r:Nat)/\Hid (ZE a o d k r)/\wr.ownsRow w.heap.size 148 1 (.slice (some ⟨w.heap.size,0,none⟩) n n) n (cells32 o)/\Below w.heap.size w wr) (fun _ i _ _ _ _ _ _ _ _ _ _ _ _ _ _ _ _ _ _ _ _ _ _ _ _=>(intOf i+1).toNat)
 case atStart=>exact⟨n,0,_,_,rfl,rfl,aj _,rfl,by have:=HNL.out;subst this;exact ZE.start a hd,hown,hB1⟩
 case round =>
  obtain⟨k,r,i',o,rfl,hk',hkn,rfl,hI,hO,hB⟩:=hrel
  cases k with
  | zero =>
   obtain rfl:i'=-1:=by have:=hk'.out;simpa using this
   have hD:=hI.out.done
   have hlen:o.length=n:=by have:=hI.out.len;rw[HNL.out] at this;exact this
   have HV:Hid (sg false (val o)=((val a / d:Nat):Int)):=by unfold Hid;rw[hD.2.1];rfl
   have HR2:=bg hD.2.2
   have hlow:=hD.1
   have hR:=Rd.dO (l:=o) (by rw[hlen];exact hO)
   have HLEN:=bg hlen
   clear hD hlen
   go_wp2_with fail
   refine(iD false _ _ _ hR hlow (by rw[HLEN.out];omega)).mono ?_
   rw[HV.out]
   rintro e2 w2 ⟨v2,rfl,hi2,hb2⟩
   obtain⟨g2,p2,n2,c2,rfl⟩:=hi2.form
   have hR3:=hi2.rd
   go_wp2_with fail
   go_ret2
   exact⟨_,by rw[HR2.out];rfl,hR3,hB.trans (hb2.mono hB.size)⟩
  | succ k =>
   obtain rfl:i'=(k:Int):=by have:=hk'.out;simp at this;omega
   have ga:gr a k<=999999999:=fQ HA.out k
   have hkl:k<a.length:=by have:=HNL.out;omega
   obtain⟨ba,oa,rfl,hba,hca⟩:=hs.at (by intro e;subst e;simp at hkl)
   have hcell:wr.cell? ⟨ba,oa+k,none⟩=some (.int .u32 (gr a k:Nat)):=(hB.cell (p:=⟨ba,oa+k,none⟩) hba).trans (hca k hkl)
   clear hca
   have hr:r<=999999998:=by have:=hI.out.rest;omega
   obtain⟨x,hx⟩:∃ x:Nat,(r:Int)*1000000000+gr a k=x:=⟨r*1000000000+gr a k,by simp⟩
   have hxn:r*1000000000+gr a k=x:=by omega
   have hx3:x<=999999998999999999:=by omega
   obtain⟨q,hq⟩:∃ q,x / d=q:=⟨_,rfl⟩
   obtain⟨m,hm⟩:∃ m,x%d=m:=⟨_,rfl⟩
   have hqm:x=q*d+m:=by rw[<-hq,<-hm,uq];exact(Nat.div_add_mod x d).symm
   have hmd:m<d:=by rw[<-hm];exact Ae _ (by omega)
   have hN:=hI.out.step (q:=q) (r':=m) hkl (by omega) hmd ga
   have hq3:q<=999999999:=hN.2
   have HN:=bg hN.1
   have a9E:=fun w=>UC (n:=x) (d:=d) (v:=q) hd (by omega) (by rw[<-hq];simp) (wrap_u64 (by omega)) w
   have b3F:=fun w=>UF (n:=x) (d:=d) (v:=m) hd (by omega) (by rw[<-hm];simp) (wrap_u64 (by omega)) w
   have hdz:((d:Int)==0)=false:=by simp;omega
   have i1:(x:Int) / d=q:=by rw[<-hq];simp
   have i2:(x:Int)%d=m:=by rw[<-hm];simp
   have w1':IntKind.u64.wrap (q:Int)=q:=wrap_u64 (by omega)
   have w2':(q:Int)%4294967296=q:=by omega
   have hlo:o.length=n:=by have:=hI.out.len;rw[HNL.out] at this;exact this
   have hcl:wr.cell? ⟨w.heap.size,k,none⟩=some (.int .u32 (gr o k:Nat)):=by
    rw[hO.cellAt k (by omega)];exact eY (by omega)
   have hfr:=hO.frozenAt k
   have hst:=hO.stored k (.int .u32 (q:Nat))
   rw[fH] at hst
   have HST:=bg hst
   have hkn2:(k:Int)<n:=by omega
   clear hN hq hm hqm hxn hst hlo
   go_wp2_with fail
   go_roundw
   case rel=>exact⟨k,m,_,_,rfl,rfl,by omega,by rw[i2],HN,HST.out.1,hB.setCell (p:=⟨w.heap.size,k,none⟩) (aj _) _⟩
   case measure=>simp[intOf]
theorem b1x (p q:Option Addr) (c d n:Nat) (a b:List Nat) (w:World) (hs:Rd w (.slice p n c) a) (ht:Rd w (.slice q n d) b) (ha:Low a) (hb:Low b) (la:a.length=n) (lb:b.length=n) (hn:n<=2000000000) :
  Calls Tryz.prog 240 #[.slice p n c,.slice q n d] w fun e w'=>e=.returned (.int .i64 (bK (val a) (val b)))/\Below w.heap.size w w':=by
 have HA:=bg ha
 have HB:=bg hb
 have HLA:=bg la
 have HLB:=bg lb
 clear ha hb la lb
 go_enter Tryz.func240,Tryz.ntmps240
 go_wp2_with fail
 go_loopw [5,19,20,21,22,23,24,25,26,27,28,29,30,31,32,33,34,35,36,37,38,39,40] (fun i _ _ _ _ _ _ _ _ _ _ _ _ _ _ _ _ _ _ _ _ _ _ wr=>∃ (k:Nat) (i':Int),i=.int .i64 i'/\Hid (i'=(k:Int)-1)/\k<=n/\Hid (∀ j,k<=j->gr a j=gr b j)/\Below w.heap.size w wr) (fun i _ _ _ _ _ _ _ _ _ _ _ _ _ _ _ _ _ _ _ _ _ _ _=>(intOf i+1).toNat)
 case atStart=>exact⟨n,_,rfl,rfl,aj _,fun j hj=>by have:=HLA.out;have:=HLB.out;rw[wL (by omega),wL (by omega)],dh _ _⟩
 case round =>
  obtain⟨k,i',rfl,hk',hkn,hI,hB⟩:=hrel
  cases k with
  | zero =>
   obtain rfl:i'=-1:=by have:=hk'.out;simpa using this
   have hab:a=b:=by
    have:=vZ (i:=0) (a:=a) (b:=b) (by rw[HLA.out,HLB.out]) (fun j _=>hI.out j (by omega))
    simpa using this
   have HV:Hid (bK (val a) (val b)=0):=by unfold Hid;rw[hab];unfold bK;simp
   clear hab
   go_wp2_with fail
   go_ret
   exact⟨iC HV.out.symm,hB⟩
  | succ k =>
   obtain rfl:i'=(k:Int):=by have:=hk'.out;simp at this;omega
   have hka:k<a.length:=by have:=HLA.out;omega
   have hkb:k<b.length:=by have:=HLB.out;omega
   obtain⟨ba,oa,rfl,hba,hca⟩:=hs.at (by intro e;subst e;simp at hka)
   obtain⟨bb,ob,rfl,hbb,hcb⟩:=ht.at (by intro e;subst e;simp at hkb)
   have hc1:wr.cell? ⟨ba,oa+k,none⟩=some (.int .u32 (gr a k:Nat)):=(hB.cell (p:=⟨ba,oa+k,none⟩) hba).trans (hca k hka)
   have hc2:wr.cell? ⟨bb,ob+k,none⟩=some (.int .u32 (gr b k:Nat)):=(hB.cell (p:=⟨bb,ob+k,none⟩) hbb).trans (hcb k hkb)
   have ga:gr a k<=999999999:=fQ HA.out k
   have gb:gr b k<=999999999:=fQ HB.out k
   have hdr:=vZ (i:=k+1) (a:=a) (b:=b) (by rw[HLA.out,HLB.out]) (fun j hj=>hI.out j hj)
   have h0:(0:Int)<=k:=by omega
   have h1:(k:Int)<n:=by omega
   clear hca hcb hka hkb
   rcases Nat.lt_trichotomy (gr a k) (gr b k) with h|h|h
   ·have hv:=DW HA.out (by rw[hdr]) h
    have HV:Hid (bK (val a) (val b)=-1):=by unfold Hid bK;rw[iw (by omega)]
    clear hdr hv
    generalize gr a k=x at *
    generalize gr b k=y at *
    have d1:decide (x<y)=true:=by simpa using h
    have d2:decide ((x:Int)<y)=true:=by simpa using h
    go_wp2_with fail
    go_quiet (fail)
    go_wp2_with fail
    go_ret
    exact⟨iC HV.out.symm,by first|exact Below.qZ hB _|exact Below.qZ (Below.qZ hB _) _⟩
   ·have HE:=bg h
    clear hdr
    have d1:decide (gr a k<gr b k)=false:=by simp;omega
    have d3:decide (gr b k<gr a k)=false:=by simp;omega
    generalize hxx:gr a k=x at *
    generalize hyy:gr b k=y at *
    have HXX:=bg hxx
    have HYY:=bg hyy
    clear h hxx hyy
    go_wp2_with fail
    go_quiet (fail)
    go_wp2_with fail
    go_quiet (fail)
    go_wp2_with fail
    go_roundw
    case rel=>exact⟨k,_,rfl,rfl,by omega,fun j hj=>if e:j=k then by rw[e,HXX.out,HYY.out];exact HE.out else hI.out j (by omega),Below.qZ hB _⟩
    case measure=>simp[intOf]
   ·have hv:=DW (i:=k) HB.out (by rw[hdr]) h
    have HV:Hid (bK (val a) (val b)=1):=by unfold Hid bK;rw[eu (by omega),iw (by omega)]
    clear hdr hv
    generalize gr a k=x at *
    generalize gr b k=y at *
    have d1:decide (x<y)=false:=by simp;omega
    have d3:decide (y<x)=true:=by simpa using h
    go_wp2_with fail
    go_quiet (fail)
    go_wp2_with fail
    go_quiet (fail)
    go_wp2_with fail
    go_ret
    exact⟨iC HV.out.symm,by first|exact Below.qZ hB _|exact Below.qZ (Below.qZ hB _) _⟩
theorem b1y (s t:Value) (a b:List Nat) (w:World) (hs:Rd w s a) (ht:Rd w t b) (ha:Canon a) (hb:Canon b) (hn:a.length≠b.length) :
  Calls Tryz.prog 240 #[s,t] w fun e w'=>e=.returned (.int .i64 (bK (val a) (val b)))/\Below w.heap.size w w':=by
 obtain⟨p,c,rfl,_,_⟩:=hs.form
 obtain⟨q,d,rfl,_,_⟩:=ht.form
 have hne:((a.length:Int) != b.length)=true:=by simp;omega
 rcases zi a.length b.length with h|h
 ·have hv:=GR ha hb h
  have HV:Hid (bK (val a) (val b)=-1):=by unfold Hid bK;rw[iw (by omega)]
  have d1:decide (a.length<b.length)=true:=by simpa using h
  have HN:=bg hn
  clear hn h hv
  go_enter Tryz.func240,Tryz.ntmps240
  go_wp2
  go_ret
  exact⟨iC HV.out.symm,dh _ _⟩
 ·have hv:=GR hb ha (by omega)
  have HV:Hid (bK (val a) (val b)=1):=by unfold Hid bK;rw[eu (by omega),iw (by omega)]
  have d1:decide (a.length<b.length)=false:=by simp;omega
  have HN:=bg hn
  have HH:=bg h
  clear hn h hv
  go_enter Tryz.func240,Tryz.ntmps240
  go_wp2
  go_ret
  exact⟨iC HV.out.symm,dh _ _⟩
theorem qQ (s t:Value) (a b:List Nat) (w:World) (hs:Rd w s a) (ht:Rd w t b) (ha:Canon a) (hb:Canon b) (la:a.length<=2000000000) :
  Calls Tryz.prog 240 #[s,t] w fun e w'=>e=.returned (.int .i64 (bK (val a) (val b)))/\Below w.heap.size w w':=by
 by_cases h:a.length=b.length
 ·obtain⟨p,c,rfl,_,_⟩:=hs.form
  obtain⟨q,d,rfl,_,_⟩:=ht.form
  rw[<-h] at ht ⊢
  exact b1x p q c d a.length a b w hs ht ha.1 hb.1 rfl h.symm la
 ·exact b1y s t a b w hs ht ha hb h
theorem GI {P:Program} {w:World} {ops:Array Oper} {rest:List Oper} {o:Oper} {a:Act} {Q:Exit->Act->World->Prop} (hgd:o.guard=none) (s x:Operand) (t:TypeId)
  (hop:o.op=Op.call { callee:=Callee.builtin Builtin.append,args:=#[s,x],argTypes:=#[t,t] })
  (e:TypeId) (i:TypeInfo) (h1:P.underlying t=some (.slice e)) (h2:P.info? e=some i)
  (b:Addr) (n c:Nat) (hnc:n<=c) (hs:a.eval s=.slice (some b) n c) {q:Option Addr} (hx:a.eval x=.slice q 0 0)
  (h:wpList P ops Q rest (a.put o.dst (.slice (some b) n c)) w):wpList P ops Q (o::rest) a w :=
 wpList_plain hgd fun _ hK=>by
  have hrun:(Builtin.append_ #[t,t] o.type #[.slice (some b) n c,.slice q 0 0]).run P w=.ok (.slice (some b) n c) w:=by
   cases q<;>simp[Builtin.append_,jr h1,sizeOf,typeInfo,h2,Builtin.lenOf,Builtin.firstCells,loadCells,loadCellsFrom,dw,storeCells,hnc]
  unfold Oper.wp
  simp[execOp,hop,resolve,invoke,builtin,hs,hx,hrun,Result.andThen]
  exact hK _ _ h
theorem a5F (w:World) (d:Nat):(w.alloc (.cells #[.int .u32 (d:Nat)] 148)).ownsRow w.heap.size 148 1 (.slice (some ⟨w.heap.size,0,none⟩) 1 1) 1 (cells32 [d]):=World.ownsRow_lit (size:=1) w #[.int .u32 (d:Nat)] 1 (aj _) (by simp[maxLen]) (by simp)
theorem a0x (s:Value) (a:List Nat) (d:Nat) (w:World) (hs:Rd w s a) (ha:Low a) (la:a.length<=1000000000) (hd:d<=999999999) :
  Calls Tryz.prog 268 #[s,.int .u32 (d:Nat)] w (a8b (dig (d+1000000000*val a)) w):=by
 obtain⟨i0,hi,hz0,hz1,hz2⟩:=zl gJ
 have hf1:=jD
 have hl:Low (d::a):=Low.cons.2 ⟨by rw[bM];omega,ha⟩
 have HV:Hid (sg false (val (d::a))=((d+1000000000*val a:Nat):Int)):=by unfold Hid;rw[bU,bM];rfl
 have hB0:Below w.heap.size w (w.alloc (.cells #[.int .u32 (d:Nat)] 148)):=(dh _ _).alloc (aj _) _
 have HL:=bg hl
 clear hl ha
 rcases hs with⟨p,rfl,rfl⟩|⟨b,o,c,rfl,h2,h3,h4,h5⟩
 ·have hR:=Rd.dO (a5F w d)
  go_enter Tryz.func268,Tryz.ntmps268
  go_wp2_with (at_builtin;refine GI rfl _ _ 43 rfl 148 i0 jg hi _ 1 1 (aj _) rfl rfl ?_)
  refine(qP false _ _ _ hR HL.out (by simp)).mono ?_
  rw[HV.out]
  rintro e2 w2 ⟨g2,p2,n2,c2,rfl,hi2,hfr2,hb2⟩
  have hR2:=hi2.rd
  go_wp2_with fail
  go_ret
  exact⟨_,rfl,hR2,fun k hk=>ak hB0.size (hfr2 k hk),hB0.trans (hb2.mono hB0.size)⟩
 ·have H5:=bg h5
  clear h5
  go_enter Tryz.func268,Tryz.ntmps268
  go_wp2_with (at_builtin;refine xw _ rfl _ _ 43 rfl w.heap.size 148 i0 (.int .u32 0) 1 4 jg hi hz0 hz1 hz2 rfl (by decide) _ _ _ rfl (a5F w d) ⟨b,o,none⟩ a.length c (cells32 a) rfl (iV a) (nN fun i hi=>(yx _ _ ⟨b,o+i,none⟩ h4).trans (H5.out i hi)) (kX a) (by unfold maxLen;omega) (by omega) (by simp) ?_)
  intro v' w1 hown hgrow _
  have hB1:Below w.heap.size w w1:=((dh _ _).alloc (aj _) _).grown hgrow (by simp) (fun j e=>by simp[Value.ownBlock] at e;omega)
  clear hgrow
  have hR:=Rd.dO (l:=d::a) (by rw[List.length_cons,En];exact hown)
  go_wp2_with fail
  refine(qP false _ _ _ hR HL.out (by simp;omega)).mono ?_
  rw[HV.out]
  rintro e2 w2 ⟨g2,p2,n2,c2,rfl,hi2,hfr2,hb2⟩
  have hR2:=hi2.rd
  go_wp2_with fail
  go_ret
  exact⟨_,rfl,hR2,fun k hk=>ak hB1.size (hfr2 k hk),hB1.trans (hb2.mono hB1.size)⟩
structure RInv (a o:List Nat) (M V k R:Nat):Prop where
 len:o.length=M
 low:Low (o.drop k)
 vl:val (a.drop k)=val (o.drop k)*V+R
 rest:R<V
theorem RInv.start {a:List Nat} {M V:Nat} (hV:val (a.drop M)<V):RInv a (List.replicate M 0) M V M (val (a.drop M)):=⟨by simp,by simp[Low.nil],by simp[val],hV⟩
theorem RInv.step {a o:List Nat} {M V k R q R':Nat} (h:RInv a o M V (k+1) R) (hk:k<M) (hM:M<=a.length) (hn:gr a k+1000000000*R=q*V+R') (hr:R'<V) (ha:gr a k<=999999999):RInv a (o.set k q) M V k R'/\q<=999999999:=by
 have hq:q<=999999999:=by
  rcases zi 999999999 q with h1|h1
  ·exfalso
   have e1:1000000000*V<=q*V:=jh _ h1
   have e2:=h.rest
   have e3:(R+1)*1000000000<=V*1000000000:=jh _ e2
   rw[Ad] at e3
   rw[uq V] at e3
   omega
  ·exact h1
 have hl:k<o.length:=by rw[h.len];exact hk
 have hs:(o.set k q).drop k=q::o.drop (k+1):=by
  rw[Bd (by simpa using hl),List.drop_set_of_lt (by omega)]
  simp
 refine⟨⟨by simp[h.len],?_,?_,hr⟩,hq⟩
 ·rw[hs];exact Low.cons.2 ⟨by rw[bM];omega,h.low⟩
 ·rw[hs,kH (by omega),h.vl,bU,bM]
  grind
theorem RInv.done {a o:List Nat} {M V R:Nat} (h:RInv a o M V 0 R):Low o/\val o=val a / V/\R=val a%V:=by
 have h1:=h.vl
 simp at h1
 have hr:=h.rest
 have hl:=h.low
 simp at hl
 refine⟨hl,?_,?_⟩
 ·rw[h1,uq,Nat.mul_add_div (by omega),Du hr];simp
 ·rw[h1,uq,Nat.mul_add_mod,Dt hr]
theorem b5v {l:List Nat} {n:Nat} (hn:1<=n):(gr l n*1000000000+gr l (n-1))*BB ^ (n-1)<=val l:=by
 have h1:=xG l (n-1)
 have h2:=xG (l.drop n) 0
 rw[show n-1+1=n by omega] at h1
 simp at h2
 have h3:gr (l.drop n) 0=gr l n:=by unfold gr;simp
 rw[h3] at h2
 rw[h1,h2,bM]
 have e:1000000000 ^ (n-1)*(gr l (n-1)+1000000000*(gr l n+1000000000*val (l.drop (n+1))))=(gr l n*1000000000+gr l (n-1))*1000000000 ^ (n-1)+1000000000 ^ (n-1)*(1000000000*(1000000000*val (l.drop (n+1)))):=by grind
 rw[e]
 omega
theorem a9t {l:List Nat} {n V bt g:Nat} (hn:1<=n) (hV:V<(bt+1)*BB ^ (n-1)) (hg:g*(bt+1)<=gr l n*1000000000+gr l (n-1)):g*V<=val l:=by
 have h1:=b5v (l:=l) hn
 have h2:g*V<=g*((bt+1)*BB ^ (n-1)):=vk _ (Nat.le_of_lt hV)
 have h3:g*(bt+1)*BB ^ (n-1)<=(gr l n*1000000000+gr l (n-1))*BB ^ (n-1):=jh _ hg
 rw[<-Nat.mul_assoc] at h2
 omega
theorem NM {V R x g R':Nat} (hR:R<V) (hx:x<=999999999) (h:g*V+R'=x+1000000000*R):g<=999999999:=by
 rcases zi 999999999 g with h1|h1
 ·exfalso
  have e1:1000000000*V<=g*V:=jh _ h1
  omega
 ·exact h1
theorem VF {l:List Nat} {n:Nat} (hl:Low l) (hn:l.length=n) (h1:1<=n):val l<(gr l (n-1)+1)*BB ^ (n-1):=by
 have h:=xG l (n-1)
 rw[show n-1+1=n by omega,List.drop_eq_nil_of_le (by omega)] at h
 simp[val] at h
 have h2:val (l.take (n-1))<BB ^ (n-1):=by
  have:=kK (hl.take (n-1))
  rwa [ji,yj (by omega)] at this
 rw[Ad,uq (gr l (n-1))]
 omega
theorem a3Y {b:List Nat} {n f:Nat} (hb:Canon b) (hn:b.length=n) (h1:1<=n) (hf1:1<=f) (hf:f*(gr b (n-1)+1)<=1000000000):(dig (val b*f)).length=n:=by
 apply Nat.le_antisymm
 ·refine dU ?_
  have h:=VF hb.1 hn h1
  have h2:val b*f<(gr b (n-1)+1)*BB ^ (n-1)*f:=Nat.mul_lt_mul_of_pos_right h hf1
  have h3:f*(gr b (n-1)+1)*BB ^ (n-1)<=BB*BB ^ (n-1):=jh _ (by rw[bM];exact hf)
  have h4:BB*BB ^ (n-1)=BB ^ n:=by
   rw[uq,<-Nat.pow_succ];congr 1;omega
  have h5:(gr b (n-1)+1)*BB ^ (n-1)*f=f*(gr b (n-1)+1)*BB ^ (n-1):=by grind
  omega
 ·have:=aQ (show val b<=val b*f from Nat.le_mul_of_pos_right _ hf1)
  rw[dR hb] at this
  omega
set_option maxRecDepth 1000000
set_option maxHeartbeats 4000000
theorem a7E (s t:Value) (a b:List Nat) (w:World) (hs:Rd w s a) (ht:Rd w t b) (ha:Canon a) (hb:Canon b) (la:a.length<=1000000000) (hb2:2<=b.length) (hlt:val a<val b) :
  Calls Tryz.prog 215 #[s,t] w (ZB (dig (val a / val b)) (dig (val a%val b)) w):=by
 obtain⟨p,c,rfl,hc1,hc2⟩:=hs.form
 obtain⟨q,d,rfl,hd1,hd2⟩:=ht.form
 have HX:Hid (dig (val a / val b)=[]/\dig (val a%val b)=a):=by
  refine⟨by rw[Du hlt,eH],by rw[Dt hlt,dR ha]⟩
 have hcv:bK (val a) (val b)=-1:=by unfold bK;rw[iw (by omega)]
 have HCV:=bg hcv
 have hn1:((b.length:Int)==1)=false:=by simp;omega
 clear hcv hlt
 go_enter Tryz.func215,Tryz.ntmps215
 go_wp2_with fail
 refine(qQ _ _ a b _ hs ht ha hb (by omega)).mono ?_
 rw[HCV.out]
 rintro e w1 ⟨rfl,hb1⟩
 go_wp2_with fail
 go_ret2
 exact⟨_,_,rfl,by rw[HX.out.1];exact .inr ⟨w1.heap.size,0,0,rfl,by simp,by omega,by simp,fun i hi=>by simp at hi⟩,by rw[HX.out.2];exact(hs.below hb1).alloc _,Below.al hb1 _⟩
theorem a3P (s t:Value) (a:List Nat) (d0:Nat) (w:World) (hs:Rd w s a) (ht:Rd w t [d0]) (ha:Canon a) (hb:Canon [d0]) (la:a.length<=1000000000) :
  Calls Tryz.prog 215 #[s,t] w (ZB (dig (val a / d0)) (dig (val a%d0)) w):=by
 obtain⟨p,c,rfl,hc1,hc2⟩:=hs.form
 obtain⟨q,d,rfl,hd1,hd2⟩:=ht.form
 have ht':Rd w (.slice q 1 d) [d0]:=ht
 show Calls Tryz.prog 215 #[.slice p a.length c,.slice q 1 d] w _
 obtain⟨gb,ob,rfl,hgb,hcb⟩:=ht'.at (by simp)
 have hc0:w.cell? ⟨gb,ob,none⟩=some (.int .u32 (d0:Nat)):=by simpa [gr] using hcb 0 (by simp)
 have b7s:d0<=999999999:=by have:=hb.1 d0 (by simp);rw[bM] at this;omega
 have hvd:val [d0]=d0:=by simp[bU]
 have hd0:1<=d0:=by have:=hb.pos (by simp);rw[hvd] at this;exact this
 have hr0:val a%d0<d0:=Ae _ hd0
 have hf1:=jD
 clear hvd hcb
 go_enter Tryz.func215,Tryz.ntmps215
 go_wp2_with fail
 refine(FX _ a d0 _ hs ha.1 (by omega) hd0 b7s).mono ?_
 rintro e w1 ⟨v1,rfl,hv1,hb1⟩
 obtain⟨R,hR⟩:∃ R,val a%d0=R:=⟨_,rfl⟩
 rw[hR] at hr0 ⊢
 have HR:=bg hR
 clear hR
 have hone:=a3x w1 R
 have HV:Hid (sg false (val [R])=(R:Nat)):=by unfold Hid;simp[bU,sg]
 go_wp2_with fail
 refine(iD false _ _ _ hone (Low.cons.2 ⟨by rw[bM];omega,Low.nil⟩) (by simp)).mono ?_
 rw[HV.out]
 rintro e2 w2 ⟨v2,rfl,hi2,hb2⟩
 obtain⟨g2,p2,n2,c2,rfl⟩:=hi2.form
 have hR2:=hi2.rd
 go_wp2_with fail
 go_ret2
 exact⟨_,_,rfl,(hv1.alloc _).below hb2,by rw[HR.out];exact hR2,Below.tr (Below.al hb1 _) hb2⟩
theorem Rd.b0Q {w:World} {s:Value} {l:List Nat} (h:Rd w s l) (hn:l≠[]):∀ k,s.ownBlock=some k->k<w.heap.size:=by
 rcases h with⟨_,_,e⟩|⟨b,o,c,rfl,h2,h3,h4,h5⟩
 ·exact absurd e hn
 ·intro k hk;simp[Value.ownBlock] at hk;omega
theorem Rd.drewN {w:World} {s:Value} {l:List Nat} (h:Rd w s l) (k:Nat):Rd (w.drewN k) s l:=h.below (Below.qZ (dh _ _) k)
theorem Rd.a3Z {w:World} {s:Value} {l:List Nat} (h:Rd w s l) {a:Addr} (hs:∀ k,s.ownBlock=some k->k≠a.block) (u:Value):Rd (w.setCell a u) s l:=by
 rcases h with h|⟨b,o,c,rfl,h2,h3,h4,h5⟩
 ·exact .inl h
 ·refine .inr ⟨b,o,c,rfl,h2,h3,by simpa [World.setCell] using h4,fun i hi=>?_⟩
  rw[qp _ _ _ _ (fun e=>hs b rfl e.symm)]
  exact h5 i hi
theorem a2r (s t:Value) (a b:List Nat) (w:World) (hs:Rd w s a) (ht:Rd w t b) (ha:Canon a) (hb:Canon b) (la:a.length<=1000000000) (hb2:2<=b.length) (hle:val b<=val a) :
  Calls Tryz.prog 215 #[s,t] w (ZB (dig (val a / val b)) (dig (val a%val b)) w):=by
 obtain⟨i0,hi,hz0,hz1,hz2⟩:=zl gJ
 obtain⟨p,c,rfl,_,_⟩:=hs.form
 obtain⟨q,d,rfl,_,_⟩:=ht.form
 have hf1:=jD
 have hbn:b≠[]:=by intro e;subst e;simp at hb2
 obtain⟨gb,ob,rfl,hgb,hcb⟩:=ht.at hbn
 have hlb:b.length<=a.length:=by
  have:=aQ hle
  rwa [dR ha,dR hb] at this
 have htop:gr b (b.length-1)<=999999999:=fQ hb.1 _
 have hct:=hcb (b.length-1) (by omega)
 have htp:1<=gr b (b.length-1):=by
  have:=hb.2
  rw[OY hbn] at this
  have:gr b (b.length-1)≠0:=by simpa using this
  omega
 obtain⟨n,hn⟩:∃ n,b.length=n:=⟨_,rfl⟩
 have b7y:=fun f h1 h2=>a3Y (f:=f) hb hn (by omega) h1 h2
 rw[hn] at hb2 htop hct htp hlb ⊢
 obtain⟨tp,c3B⟩:∃ tp,gr b (n-1)=tp:=⟨_,rfl⟩
 rw[c3B] at htop hct htp b7y
 obtain⟨sc,hsc⟩:∃ sc:Nat,(1000000000:Int) / ((tp:Int)+1)=sc:=⟨1000000000 / (tp+1),by simp⟩
 have hsc2:1000000000 / (tp+1)=sc:=by
  have:((1000000000 / (tp+1):Nat):Int)=sc:=by rw[<-hsc];simp
  omega
 have a1J:1<=sc:=by rw[<-hsc2];exact(Ag (by omega)).2 (by omega)
 have c6F:sc<=500000000:=by rw[<-hsc2];exact ak (Nat.div_le_div_left (c:=2) (by omega) (by omega)) (by omega)
 have c3z:sc*(tp+1)<=1000000000:=by rw[<-hsc2];exact Nat.div_mul_le_self _ _
 have HLB:=bg (b7y sc a1J c3z)
 have HA:=bg ha
 have HB:=bg hb
 have HLE:=bg hle
 have HN:=bg hn
 have hcv:0<=bK (val a) (val b):=by unfold bK;rw[eu (by omega)];split<;>omega
 obtain⟨cv,b7r⟩:∃ cv,bK (val a) (val b)=cv:=⟨_,rfl⟩
 rw[b7r] at hcv
 have hdc:decide (cv<0)=false:=by simpa using hcv
 have HCV:=bg b7r
 have hn1:((n:Int)==1)=false:=by simp;omega
 have hw1:IntKind.u64.wrap (sc:Int)=sc:=wrap_u64 (by omega)
 have hidx:((n:Int)-1).toNat=n-1:=by omega
 clear hsc2 hcb ha hb hle hn b7r hcv b7y c3z c3B hbn
 rw[HN.out] at ht
 go_enter Tryz.func215,Tryz.ntmps215
 go_wp2_with fail
 refine(qQ _ _ a b _ hs ht HA.out HB.out (by omega)).mono ?_
 rw[HCV.out]
 rintro e w1 ⟨rfl,hb1⟩
 have c6s:w1.cell? ⟨gb,ob+(n-1),none⟩=some (.int .u32 (tp:Nat)):=(hb1.cell (p:=⟨gb,ob+(n-1),none⟩) hgb).trans hct
 go_wp2_with fail
 refine(BM _ a sc _ (hs.below hb1) HA.out.1 (by omega) (by omega)).mono ?_
 rintro e w2 ⟨v2,rfl,hv2,_,hb2'⟩
 obtain⟨pa,ca,rfl,_,_⟩:=hv2.form
 go_wp2_with fail
 refine(BM _ b sc _ ((ht.below hb1).below hb2') HB.out.1 (by have:=HN.out;omega) (by omega)).mono ?_
 rintro e w3 ⟨v3,rfl,hv3,_,hb3⟩
 obtain⟨pb,cb,rfl,_,_⟩:=hv3.form
 have U0:a.length<=(dig (val a*sc)).length:=by
  have:=aQ (show val a<=val a*sc from Nat.le_mul_of_pos_right _ a1J)
  rwa [dR HA.out] at this
 have U1:(dig (val a*sc)).length<=1000000001:=by
  have:=a0p (val a) sc
  have h2:nsz sc<=1:=dU (by rw[bM];omega)
  unfold nsz at this h2
  rw[dR HA.out] at this
  omega
 have hB3:Below w.heap.size w w3:=Below.tr (Below.tr hb1 hb2') hb3
 have hU3:=hv2.below hb3
 have HU:=bg (show val (dig (val a*sc))=val a*sc from aT _)
 have HV:=bg (show val (dig (val b*sc))=val b*sc from aT _)
 have HUc:=bg (bY (val a*sc))
 have HVc:=bg (bY (val b*sc))
 have hvl:=HLB.out
 generalize dig (val a*sc)=U at *
 generalize dig (val b*sc)=V at *
 rw[hvl] at hv3 ⊢
 have HVL:=bg hvl
 obtain⟨lu,hlu⟩:∃ lu,U.length=lu:=⟨_,rfl⟩
 rw[hlu] at hU3 U0 U1 ⊢
 have HLU:=bg hlu
 clear hlu hvl hv2 HLB hb1 hb2' hb3 hct c6s hsc hw1
 obtain⟨M,hM⟩:∃ M:Nat,(lu:Int)-n+1=M:=⟨lu-n+1,by omega⟩
 have hM2:M+n=lu+1:=by omega
 obtain⟨ga,oa,rfl,hga,hua⟩:=hU3.at (by intro e;have:=HLU.out;subst e;simp at this;omega)
 have HUA:=bg hua
 have hcap:lu<=ca:=by
  obtain⟨_,_,e,h,_⟩:=hU3.form
  cases e;have:=HLU.out;omega
 have m1:(0:Int)<=M:=by omega
 have m2:(M:Int)<=lu:=by omega
 have m3:M<ca:=by omega
 clear hua
 have hV0:BB ^ (n-1)<=val V:=qK (n:=val V) (k:=n-1) (by rw[dR HVc.out,HVL.out];omega)
 have c3f:Rd w3 (.slice (some ⟨ga,oa+M,none⟩) (lu-M) (ca-M)) (U.drop M):=by
  have e1:=HLU.out
  refine .inr ⟨ga,oa+M,ca-M,by rw[Aa,e1],by rw[Aa,e1];omega,by omega,hga,fun i hi=>?_⟩
  rw[Aa] at hi
  rw[Nat.add_assoc,HUA.out (M+i) (by omega)]
  unfold gr;simp
 have hR0:val (U.drop M)<val V:=by
  have h1:=kK (HUc.out.1.drop M)
  rw[Aa,HLU.out,show lu-M=n-1 by omega] at h1
  omega
 have b6M:=bg (RInv.start (a:=U) hR0)
 have hlenV:(dig (val V)).length=n:=by rw[dR HVc.out,HVL.out]
 have HLV:=bg hlenV
 have b6e:∀ R,R<val V->(dig R).length<=1000000000:=fun R h=>by
  have:=aQ (Nat.le_of_lt h)
  rw[hlenV] at this;omega
 have HLR:=bg b6e
 obtain⟨R0,b7m⟩:∃ R0,val (U.drop M)=R0:=⟨_,rfl⟩
 rw[b7m] at b6M
 have HMV:Hid (sg false (val (U.drop M))=((R0:Nat):Int)):=by unfold Hid;rw[b7m];rfl
 have b6g:=HUc.out.1.drop M
 have b6f:(U.drop M).length<=2000000001:=by rw[Aa,HLU.out];omega
 clear hR0 hlenV b6e b7m hV0
 go_wp2_with fail
 refine(iD false _ _ _ c3f b6g b6f).mono ?_
 rw[HMV.out]
 rintro e w4 ⟨v4,rfl,hi4,hb4⟩
 obtain⟨g4,p4,n4,c4,rfl⟩:=hi4.form
 have hR4:Rd w4 (.slice p4 n4 c4) (dig R0):=by simpa using hi4.rd
 obtain⟨_,_,e4,_,_⟩:=hR4.form
 cases e4
 clear c3f b6g b6f hi4
 have hU4:=hU3.below hb4
 have hV4:=hv3.below hb4
 have hB4:=Below.tr hB3 hb4
 have hz4:=hb4.size
 have hzB:=hB4.size
 have hvo:=hv3.b0Q (fun e=>by have:=HVL.out;rw[e] at this;simp at this;omega)
 go_wp2_with (at_make;refine Dv _ rfl _ _ 43 rfl w.heap.size 148 i0 (.int .u32 0) 1 jg hi hz0 hz1 _ _ _ _ M rfl rfl (by omega) (by omega) (by rw[hz2];omega) (by unfold maxLen;omega) (by omega) ?_)
 intro w5 hq5 hgr5
 rw[iM] at hq5
 have hb5:Below w4.heap.size w4 w5:=(dh _ _).grown hgr5 (aj _) (fun k e=>by cases e)
 have hU5:=hU4.below hb5
 have hV5:=hV4.below hb5
 have hR5:=hR4.below hb5
 have hB5:=Below.tr hB4 hb5
 have hz5:=hgr5.size
 have c3x:w4.heap.size<w5.heap.size:=by
  have:=(hq5.lt w4.heap.size rfl).2
  exact this
 obtain⟨gq,hgq⟩:∃ gq,w4.heap.size=gq:=⟨_,rfl⟩
 rw[hgq] at hq5 c3x hz4 hzB ⊢
 have c3A:ga≠gq:=by omega
 have b6m:∀ k,(Value.slice pb n cb).ownBlock=some k->k≠gq:=fun k hk=>by have:=hvo k hk;omega
 have HSV:=bg b6m
 clear hgr5 hb5 hU4 hV4 hR4 hB4 hb4 hB3 hU3 hv3 hgq hvo b6m hi hz0 hz1 hz2 hz5 HUA hM HMV
 go_wp2_with fail
 go_loopw [10,12,13,74,75,76,77,78,79,80,81,82,83,84,85,86,87,88,89,90,91,92,93,94,95,96,97,98,99,100,101,102,103,104,105,106,107,108,109,110,111,112,113,114,115,116,117,118,119] (fun rest i g _ _ _ _ _ _ _ _ _ _ _ _ _ _ _ _ _ _ _ _ _ _ _ _ _ _ _ _ _ _ _ _ _ _ _ _ _ _ _ _ _ _ _ _ _ _ wr=>∃ (k R:Nat) (i':Int) (o:List Nat) (pr:Option Addr) (cr:Nat),i=.int .i64 i'/\Hid (i'=(k:Int)-1)/\k<=M/\rest=.slice pr (dig R).length cr/\Rd wr (.slice pr (dig R).length cr) (dig R)/\Hid (RInv U o M (val V) k R)/\Rd wr (.slice (some ⟨ga,oa,none⟩) lu ca) U/\Rd wr (.slice pb n cb) V/\wr.ownsRow w.heap.size 148 1 (.slice (some ⟨gq,0,none⟩) M M) M (cells32 o)/\Below w.heap.size w wr) (fun _ i _ _ _ _ _ _ _ _ _ _ _ _ _ _ _ _ _ _ _ _ _ _ _ _ _ _ _ _ _ _ _ _ _ _ _ _ _ _ _ _ _ _ _ _ _ _ _ _=>(intOf i+1).toNat)
 case atStart=>exact⟨M,R0,_,_,p4,c4,rfl,by unfold Hid;omega,aj _,rfl,hR5,b6M,hU5,hV5,hq5,hB5⟩
 case round =>
  obtain⟨k,R,i',o,pr,cr,rfl,hk',hkM,rfl,hrest,hI,hU,hV,hO,hB⟩:=hrel
  clear hR5 hU5 hV5 hq5 hB5 b6M
  cases k with
  | zero =>
   obtain rfl:i'=-1:=by have:=hk'.out;simpa using this
   have hD:=hI.out.done
   have hRV:=hI.out.rest
   have hRl:=HLR.out R hRV
   have hlo:o.length=M:=hI.out.len
   have HX:Hid (sg false (val o)=((val a / val b:Nat):Int)/\dig (val (dig R) / sc)=dig (val a%val b)):=by
    have h1:=hD.2.1
    have h2:=hD.2.2
    rw[HU.out,HV.out] at h1 h2
    rw[Nat.mul_div_mul_right _ _ (by omega)] at h1
    rw[Nat.mul_mod_mul_right] at h2
    refine⟨by rw[h1];rfl,?_⟩
    rw[aT,h2,Nat.mul_div_cancel _ (by omega)]
   have hlow:=hD.1
   have HLO:=bg hlo
   clear hD hRV hlo
   go_wp2_with fail
   refine(FX _ (dig R) sc _ hrest (bC _) (by omega) a1J (by omega)).mono ?_
   rintro e w6 ⟨v6,rfl,hv6,hb6⟩
   rw[HX.out.2] at hv6
   have hR:=Rd.dO (l:=o) (by rw[HLO.out];exact jK hO hb6)
   go_wp2_with fail
   refine(iD false _ _ _ hR hlow (by rw[HLO.out];omega)).mono ?_
   rw[HX.out.1]
   rintro e2 w7 ⟨v2,rfl,hi2,hb7⟩
   obtain⟨g2,p2,n2,c2,rfl⟩:=hi2.form
   have hR2:=hi2.rd
   rw[Int.natAbs_natCast] at hR2
   go_wp2_with fail
   go_ret2
   exact⟨_,_,rfl,hR2,hv6.below hb7,Below.tr (Below.tr hB hb6) hb7⟩
  | succ k =>
   obtain rfl:i'=(k:Int):=by have:=hk'.out;simp at this;omega
   have hLU:=HLU.out
   have gx:gr U k<=999999999:=fQ HUc.out.1 k
   obtain⟨g0',o0',e0',hba,hcu⟩:=hU.at (by intro e;subst e;simp at hLU;omega)
   cases e0'
   have hcell:wr.cell? ⟨ga,oa+k,none⟩=some (.int .u32 (gr U k:Nat)):=hcu k (by omega)
   have hRV:=hI.out.rest
   have hRl:=HLR.out R hRV
   have k1:(0:Int)<=k:=by omega
   have k2:(k:Int)<lu:=by omega
   have c4t:=bg hLU
   have HRV:=bg hRV
   clear hcu hLU hRV
   go_wp2_with fail
   refine(a0x _ (dig R) (gr U k) _ hrest (bC _) hRl gx).mono ?_
   rw[aT]
   obtain⟨T,hT⟩:∃ T,gr U k+1000000000*R=T:=⟨_,rfl⟩
   rw[hT]
   rintro e w6 ⟨v6,rfl,hv6,_,hb6⟩
   obtain⟨p6,c6,rfl,_,_⟩:=hv6.form
   have HT:=bg hT
   clear hT
   have hU6:=hU.below hb6
   have hV6:=hV.below hb6
   have hO6:=jK hO hb6
   have hB6:=Below.tr hB hb6
   have hzw:=hb6.size
   have hqw:=(hO.lt gq rfl).2
   have hVL:=HVL.out
   obtain⟨gv,ov,rfl,hgv,hcv⟩:=hV6.at (by intro e;subst e;simp at hVL;omega)
   have a9z:w6.cell? ⟨gv,ov+(n-1),none⟩=some (.int .u32 (gr V (n-1):Nat)):=hcv (n-1) (by omega)
   clear hcv hVL
   have hbt:gr V (n-1)<=999999999:=fQ HVc.out.1 _
   have hVt:Hid (val V<(gr V (n-1)+1)*BB ^ (n-1)):=VF HVc.out.1 HVL.out (by omega)
   obtain⟨bt,c3j⟩:∃ bt,gr V (n-1)=bt:=⟨_,rfl⟩
   rw[c3j] at a9z hbt hVt
   obtain⟨x1,hx1⟩:∃ x1,gr (dig T) n=x1:=⟨_,rfl⟩
   obtain⟨x0,hx0⟩:∃ x0,gr (dig T) (n-1)=x0:=⟨_,rfl⟩
   have bx1:x1<=999999999:=by rw[<-hx1];exact fQ (bC T) n
   have bx0:x0<=999999999:=by rw[<-hx0];exact fQ (bC T) (n-1)
   obtain⟨S,hS⟩:∃ S:Nat,(x1:Int)*1000000000+x0=S:=⟨x1*1000000000+x0,by simp⟩
   have hSn:x1*1000000000+x0=S:=by omega
   have hSb:S<=999999999999999999:=by omega
   obtain⟨y,hy⟩:∃ y:Nat,(bt:Int)+1=y:=⟨bt+1,by simp⟩
   have hyn:bt+1=y:=by omega
   obtain⟨g0,hg0⟩:∃ g0,S / y=g0:=⟨_,rfl⟩
   have hgm:g0*y<=S:=by rw[<-hg0];exact Nat.div_mul_le_self _ _
   have hgT:g0*val V<=T:=by
    have:=a9t (l:=dig T) (n:=n) (V:=val V) (bt:=bt) (g:=g0) (by omega) hVt.out (by rw[hx1,hx0,hyn];omega)
    rwa [aT] at this
   have c3e:=HRV.out
   have HTo:=HT.out
   obtain⟨R1,hR1⟩:∃ R1,g0*val V+R1=T:=⟨T-g0*val V,by omega⟩
   have c3l:g0<=999999999:=NM (V:=val V) (R:=R) (x:=gr U k) (R':=R1) c3e gx (by omega)
   have i1:(S:Int) / y=g0:=by rw[<-hg0];simp
   have w1':IntKind.u64.wrap (g0:Int)=g0:=wrap_u64 (by omega)
   have hyz:((y:Int)==0)=false:=by simp;omega
   have a9E:=fun w=>UC (n:=S) (d:=y) (v:=g0) (by omega) hSb i1 w1' w
   have HRW:Hid (dig (val (dig T)-val (dig (val V*g0)))=dig R1):=by
    unfold Hid;rw[aT,aT,uq (val V)];congr 1;omega
   have hlT:(dig T).length<=1000000001:=by
    have h1:R<BB ^ (dig R).length:=iP (aj _)
    have h2:T<BB ^ ((dig R).length+1):=by
     rw[Nat.pow_succ]
     generalize BB ^ (dig R).length=z at *
     rw[bM];omega
    have:=dU h2
    omega
   have hls:(dig (val V*g0)).length<=(dig T).length:=aQ (by rw[uq];exact hgT)
   have hlv:val (dig (val V*g0))<=val (dig T):=by rw[aT,aT,uq];exact hgT
   have HGR:=bg (fun(i:Int) (W:World) (h:Rd W (.slice p6 (dig T).length c6) (dig T)) (h0:0<=i)=>group_any _ (dig T) i W h (bC T) h0)
   have HR1:=bg hv6
   have hvd:=hv6.drew
   have HR2:=bg hvd
   have c4v:=bg hR1
   have b2u:=bg (And.intro hlT (And.intro hls hlv))
   have hn1':(0:Int)<=n:=by omega
   have c7g:(0:Int)<=(n:Int)-1:=by omega
   have c7h:(n:Int)-1<n:=by omega
   clear c3j hSn hyn hg0 hgm hgT c3e HTo hR1 hlT hls hlv hvd hVt hrest
   go_wp2_with fail
   go_quiet ((go_at_call 269;exact Calls.quiet_of_same ((HGR.out _ _ (by first|exact HR1.out|exact HR2.out) (by omega)).mono fun e w' h=>⟨h.1,h.2.symm⟩)))
   go_wp2_with fail
   refine(BM _ V g0 _ (Rd.drewN hV6 _) HVc.out.1 (by have:=HVL.out;omega) c3l).mono ?_
   rintro e w7 ⟨v7,rfl,hv7,_,hb7⟩
   obtain⟨p7,c7,rfl,_,_⟩:=hv7.form
   go_wp2_with fail
   refine(uU _ _ (dig T) (dig (val V*g0)) _ ((Rd.drewN HR1.out _).below hb7) hv7 (bC _) (bC _) (by have:=b2u.out.1;omega) b2u.out.2.1 b2u.out.2.2).mono ?_
   rw[HRW.out]
   rintro e w8 ⟨v8,rfl,hv8,c3k,hb8⟩
   obtain⟨p8,c8,rfl,_,_⟩:=hv8.form
   have hU8:=((Rd.drewN hU6 _).below hb7).below hb8
   have hV8:=((Rd.drewN hV6 _).below hb7).below hb8
   have hO8:=jK (jK (jK hO6 (Below.qZ (dh _ _) _)) hb7) hb8
   have hB8:=Below.tr (Below.tr (Below.qZ hB6 _) hb7) hb8
   have hz7:w6.heap.size<=w7.heap.size:=ak (Below.qZ (dh w6.heap.size w6) _).size hb7.size
   have b6l:Hid (∀ z,(Value.slice p8 (dig R1).length c8).ownBlock=some z->gq<z):=fun z hz=>by have:=c3k z hz;omega
   clear c3k hv7 hb7 hb8 HGR HR1 HR2 hU hV hO hB hU6 hV6 hO6 hB6 hv6 a9z hcell a9E
   go_wp2_with fail
   go_loopg [10,13,106,107,108,109,110,111,112,113,114] R1 (fun kk rest g _ _ _ _ _ _ _ _ _ wr=>∃ (Rr gg:Nat) (pr:Option Addr) (cr:Nat),Hid (kk=Rr)/\rest=.slice pr (dig Rr).length cr/\Rd wr (.slice pr (dig Rr).length cr) (dig Rr)/\Hid (∀ z,(Value.slice pr (dig Rr).length cr).ownBlock=some z->gq<z)/\g=.int .u64 (gg:Nat)/\Hid (gg*val V+Rr=T)/\gg<=999999999/\Rd wr (.slice (some ⟨ga,oa,none⟩) lu ca) U/\Rd wr (.slice (some ⟨gv,ov,none⟩) n cb) V/\wr.ownsRow w.heap.size 148 1 (.slice (some ⟨gq,0,none⟩) M M) M (cells32 o)/\Below w.heap.size w wr)
   case atStart=>exact⟨R1,g0,p8,c8,rfl,rfl,hv8,b6l,rfl,c4v,c3l,hU8,hV8,hO8,hB8⟩
   case round =>
    obtain⟨Rr,gg,pr2,cr2,hkk,rfl,hr9,hsep,rfl,hg9,c7a,hU9,hV9,hO9,hB9⟩:=hrel
    clear hU8 hV8 hO8 hB8 hv8 b6l
    have hlr:(dig Rr).length<=1000000001:=by
     have h1:=hg9.out
     have:=aQ (show Rr<=T by omega)
     have:=b2u.out.1
     omega
    obtain⟨cv2,hcv2⟩:∃ cv2,bK (val (dig Rr)) (val V)=cv2:=⟨_,rfl⟩
    have c1G:=bg hcv2
    rw[aT] at hcv2
    by_cases hge:val V<=Rr
    ·have hc0:0<=cv2:=by rw[<-hcv2];unfold bK;rw[eu (by omega)];split<;>omega
     have c6t:decide (0<=cv2)=true:=by simpa using hc0
     obtain⟨R2,hR2⟩:∃ R2,Rr=val V+R2:=⟨Rr-val V,by omega⟩
     have b7t:(gg+1)*val V+R2=T:=by have:=hg9.out;rw[Ad];omega
     have c3n:gg+1<=999999999:=NM (V:=val V) (R:=R) (x:=gr U k) (R':=R2) HRV.out gx (by rw[b7t];exact HT.out.symm)
     have c4w:Hid (dig (val (dig Rr)-val V)=dig R2):=by unfold Hid;rw[aT];congr 1;omega
     have hlv2:V.length<=(dig Rr).length:=by have:=aQ hge;rwa [dR HVc.out] at this
     have hle2:Hid (val V<=val (dig Rr)):=by unfold Hid;rw[aT];exact hge
     have c3g:Hid (R2<Rr):=by have:=HVc.out.pos (by intro e;have:=HVL.out;rw[e] at this;simp at this;omega);unfold Hid;omega
     have c4s:=bg b7t
     clear hcv2 hge hc0 hR2 b7t
     go_wp2_with fail
     refine(qQ _ _ (dig Rr) V _ hr9 hV9 (bY _) HVc.out (by omega)).mono ?_
     rw[c1G.out]
     rintro e w9 ⟨rfl,hb9⟩
     go_wp2_with fail
     refine(uU _ _ (dig Rr) V _ (hr9.below hb9) (hV9.below hb9) (bC _) HVc.out.1 (by omega) hlv2 hle2.out).mono ?_
     rw[c4w.out]
     rintro e w10 ⟨v10,rfl,c3E,b6b,b3A⟩
     obtain⟨p10,c10,rfl,_,_⟩:=c3E.form
     have b7n:=(hU9.below hb9).below b3A
     have b7o:=(hV9.below hb9).below b3A
     have a9x:=jK (jK hO9 hb9) b3A
     have b7l:=Below.tr (Below.tr hB9 hb9) b3A
     have hqz:=(hO9.lt gq rfl).2
     have hz9:=hb9.size
     have a0:Hid (∀ z,(Value.slice p10 (dig R2).length c10).ownBlock=some z->gq<z):=fun z hz=>by have:=b6b z hz;omega
     clear b6b
     go_wp2_with fail
     go_roundg R2
     case measure=>rw[hkk.out];exact c3g.out
     case rel=>exact⟨R2,gg+1,p10,c10,rfl,rfl,c3E,a0,by go_num,c4s,c3n,b7n,b7o,a9x,b7l⟩
    ·have hc0:cv2<0:=by rw[<-hcv2];unfold bK;rw[iw (by omega)];omega
     have c6t:decide (0<=cv2)=false:=by simp;omega
     have hN:=hI.out.step (q:=gg) (R':=Rr) (by omega) (by have:=c4t.out;omega) (by rw[hg9.out];exact HT.out) (by omega) gx
     have HN:=bg hN.1
     have hlo:o.length=M:=hI.out.len
     clear hcv2 hge hc0 hN
     have c7c:k<M:=by omega
     go_wp2_with fail
     refine(qQ _ _ (dig Rr) V _ hr9 hV9 (bY _) HVc.out (by omega)).mono ?_
     rw[c1G.out]
     rintro e w9 ⟨rfl,hb9⟩
     have a9x:=jK hO9 hb9
     have hcl:w9.cell? ⟨gq,k,none⟩=some (.int .u32 (gr o k:Nat)):=by
      rw[a9x.cellAt k (by omega)];exact eY (by omega)
     have hfr:=a9x.frozenAt k
     have hst:=a9x.stored k (.int .u32 (gg:Nat))
     rw[fH] at hst
     have HST:=bg hst
     have b7n:=(hU9.below hb9).a3Z (a:=⟨gq,k,none⟩) (fun z hz=>by simp[Value.ownBlock] at hz;subst hz;exact c3A) (.int .u32 (gg:Nat))
     have b7o:=(hV9.below hb9).a3Z (a:=⟨gq,k,none⟩) HSV.out (.int .u32 (gg:Nat))
     have c6C:=(hr9.below hb9).a3Z (a:=⟨gq,k,none⟩) (fun z hz=>by have:=hsep.out z hz;show z≠gq;omega) (.int .u32 (gg:Nat))
     have b7l:=(Below.tr hB9 hb9).setCell (p:=⟨gq,k,none⟩) hzB (.int .u32 (gg:Nat))
     have c7d:(k:Int)<M:=by omega
     clear hst hlo
     go_wp2_with fail
     go_roundw
     case rel=>exact⟨k,Rr,_,_,pr2,cr2,rfl,rfl,by omega,rfl,c6C,HN,b7n,b7o,HST.out.1,b7l⟩
     case measure=>simp[intOf]
set_option maxRecDepth 100000
theorem FW (s t:Value) (a b:List Nat) (w:World) (hs:Rd w s a) (ht:Rd w t b) (ha:Canon a) (hb:Canon b) (la:a.length<=1000000000) (hb0:b≠[]) :
  Calls Tryz.prog 215 #[s,t] w (ZB (dig (val a / val b)) (dig (val a%val b)) w):=by
 by_cases h2:2<=b.length
 ·by_cases hlt:val a<val b
  ·exact a7E s t a b w hs ht ha hb la h2 hlt
  ·exact a2r s t a b w hs ht ha hb la h2 (by omega)
 ·obtain⟨d0,rfl⟩:∃ d0,b=[d0]:=by
   cases b with
   | nil=>exact absurd rfl hb0
   | cons x t=>cases t with
    | nil=>exact⟨x,rfl⟩
    | cons=>simp at h2
  have:=a3P s t a d0 w hs ht ha hb la
  have e:val [d0]=d0:=by simp[bU]
  rwa [e]
theorem dS.flag {w:World} {g:Bool} {s:Value} {x:Int} (h:dS w (.agg #[.bool g,s]) x):g=decide (x<0):=by
 obtain⟨s',e,_⟩:=h;cases e;rfl
theorem a0B (x:Int):sg (decide (x<0)) x.natAbs=x:=by
 unfold sg
 by_cases h:x<0<;>simp[h]<;>omega
theorem b1q {g:Bool} {x:Int} (h:g=decide (x<0)):sg (!g) (val (dig x.natAbs))=-x:=by
 subst h;rw[aT];unfold sg
 by_cases h:x<0<;>simp[h]<;>omega
theorem a7u {g1 g2:Bool} {x y:Int} (h1:g1=decide (x<0)) (h2:g2=decide (y<0)) (h:decide (x<0)=decide (y<0)):sg g1 (val (dig (val (dig x.natAbs)+val (dig y.natAbs))))=x+y:=by
 subst h1;subst h2
 rw[aT,aT,aT]
 simp only[Ap] at h
 unfold sg
 by_cases hx:x<0<;>simp[hx]<;>omega
theorem a7t {g1 g2:Bool} {x y:Int} (h1:g1=decide (x<0)) (h2:g2=decide (y<0)) (h:decide (x<0)≠decide (y<0)) (hle:y.natAbs<=x.natAbs):sg g1 (val (dig (val (dig x.natAbs)-val (dig y.natAbs))))=x+y:=by
 subst h1;subst h2
 rw[aT,aT,aT]
 simp only[ne_eq,Ap] at h
 unfold sg
 by_cases hx:x<0<;>simp[hx]<;>omega
theorem a3F {g1 g2:Bool} {x y:Int} (h1:g1=decide (x<0)) (h2:g2=decide (y<0)) (h:decide (x<0)≠decide (y<0)) (hlt:x.natAbs<y.natAbs):sg g2 (val (dig (val (dig y.natAbs)-val (dig x.natAbs))))=x+y:=by
 subst h1;subst h2
 rw[aT,aT,aT]
 simp only[ne_eq,Ap] at h
 unfold sg
 by_cases hx:y<0<;>simp[hx]<;>omega
theorem b1p (v:Value) (x:Int) (w:World) (hv:Raw w v x) (hl:isz x<=1000000000) :
  Calls Tryz.prog 106 #[v] w (vH (-x) w):=by
 obtain⟨b,p,n,c,rfl⟩:=hv.form
 have hl2:(dig x.natAbs).length<=2000000001:=by have:(dig x.natAbs).length<=1000000000:=hl;omega
 have kU:Below w.heap.size w w:=dh _ _
 go_enter Tryz.func106,Tryz.ntmps106
 go_wp2_with fail
 obtain⟨hA1,j0,k0⟩:=bx2 w rfl [.bool b,.slice p n c] 45 [.bool false,.slice none 0 0] 45
 have l0:=(hv.below hA1)
 (with_reducible refine(gZ _ (x) _ l0 (by omega)).mono ?_)
 rintro e w1 ⟨v1,rfl,hi1,hb1⟩
 obtain⟨g1,p1,n1,c1,rfl⟩:=hi1.form
 have hf1:=bg (dS.flag hi1)
 have iO:=(j0.to hb1)
 obtain⟨a0,c0,b0,d0⟩:=iO.cf2
 go_wp2_with fail
 have m0:=(hi1.bW iO rfl rfl (.bool g1) (.slice p1 n1 c1)).rd
 (with_reducible refine(iD _ _ _ _ m0 (bC _) hl2).mono ?_)
 rintro e w2 ⟨v2,rfl,hi2,hb2⟩
 obtain⟨g2,p2,n2,c2,rfl⟩:=hi2.form
 have pK:=(((k0.to hb1).dX (b:=w.heap.size) (by omega) (.bool g1) (.slice p1 n1 c1)).to hb2)
 obtain⟨e0,g0,f0,h0⟩:=pK.cf2
 have i0:=(Below.tr (Below.bW (Below.tr (Below.tr kU hA1) hb1) (b:=w.heap.size) (by omega) (.bool g1) (.slice p1 n1 c1)) hb2)
 go_wp2_with fail
 exact uj (v:=.agg #[.bool g2,.slice p2 n2 c2]) (by simp[results,Tryz.results106,go_sem,a0,c0,b0,d0,e0,g0,f0,h0]) rfl ⟨_,rfl,kZ (hi2.bW pK rfl rfl (.bool g2) (.slice p2 n2 c2)) (b1q hf1.out),(Below.bW i0 (b:=w.heap.size+1) (by omega) (.bool g2) (.slice p2 n2 c2))⟩
theorem a5j {x:Int} (h:x≠0):isz x≠0:=fun e=>h (by
 have:=iF.1 (jm (show (dig x.natAbs).length=0 from e))
 omega)
theorem b5a (v:Value) (x:Int) (w:World) (hv:Raw w v x) (hl:isz x<=1000000000) (h:x=0) :
  Calls Tryz.prog 77 #[v] w fun e w'=>e=.returned (.int .i64 (sgn x))/\Below w.heap.size w w':=by
 obtain⟨b,p,n,c,rfl⟩:=hv.form
 have HX:Hid (isz x=0/\(0:Int)=sgn x):=by subst h;exact⟨SK,rfl⟩
 clear h
 have kU:Below w.heap.size w w:=dh _ _
 go_enter Tryz.func77,Tryz.ntmps77
 go_wp2_with fail
 obtain⟨hA1,b0⟩:=bx1 w rfl [.bool b,.slice p n c] 45
 have c0:=(hv.below hA1)
 (with_reducible refine(gZ _ (x) _ c0 (by omega)).mono ?_)
 rintro e w1 ⟨v1,rfl,hi1,hb1⟩
 obtain⟨g1,p1,n1,c1,rfl⟩:=hi1.form
 have hf1:=bg (dS.flag hi1)
 have hz:((n1:Int)==0)=true:=by rw[hi1.len,HX.out.1];rfl
 have iO:=(b0.to hb1)
 obtain⟨d0,f0,e0,g0⟩:=iO.cf2
 have a0:=(Below.tr (Below.tr kU hA1) hb1)
 go_wp2_with fail
 go_ret
 exact⟨iC HX.out.2,(Below.bW a0 (b:=w.heap.size) (by omega) (.bool g1) (.slice p1 n1 c1))⟩
theorem b4Y (v:Value) (x:Int) (w:World) (hv:Raw w v x) (hl:isz x<=1000000000) (h:x<0) :
  Calls Tryz.prog 77 #[v] w fun e w'=>e=.returned (.int .i64 (sgn x))/\Below w.heap.size w w':=by
 obtain⟨b,p,n,c,rfl⟩:=hv.form
 have HX:Hid (isz x≠0/\decide (x<0)=true/\(-1:Int)=sgn x):=⟨a5j (by omega),by simpa using h,(a5X h).symm⟩
 clear h
 have kU:Below w.heap.size w w:=dh _ _
 go_enter Tryz.func77,Tryz.ntmps77
 go_wp2_with fail
 obtain⟨hA1,b0⟩:=bx1 w rfl [.bool b,.slice p n c] 45
 have c0:=(hv.below hA1)
 (with_reducible refine(gZ _ (x) _ c0 (by omega)).mono ?_)
 rintro e w1 ⟨v1,rfl,hi1,hb1⟩
 obtain⟨g1,p1,n1,c1,rfl⟩:=hi1.form
 have hf1:=bg (dS.flag hi1)
 have hz:((n1:Int)==0)=false:=by rw[hi1.len];simpa using HX.out.1
 obtain rfl:g1=true:=by rw[hf1.out];exact HX.out.2.1
 have iO:=(b0.to hb1)
 obtain⟨d0,f0,e0,g0⟩:=iO.cf2
 have a0:=(Below.tr (Below.tr kU hA1) hb1)
 go_wp2_with fail
 go_ret
 exact⟨iC HX.out.2.2,(Below.bW a0 (b:=w.heap.size) (by omega) (.bool true) (.slice p1 n1 c1))⟩
theorem b4Z (v:Value) (x:Int) (w:World) (hv:Raw w v x) (hl:isz x<=1000000000) (h:0<x) :
  Calls Tryz.prog 77 #[v] w fun e w'=>e=.returned (.int .i64 (sgn x))/\Below w.heap.size w w':=by
 obtain⟨b,p,n,c,rfl⟩:=hv.form
 have HX:Hid (isz x≠0/\decide (x<0)=false/\(1:Int)=sgn x):=⟨a5j (by omega),by simp;omega,(a5Y h).symm⟩
 clear h
 have kU:Below w.heap.size w w:=dh _ _
 go_enter Tryz.func77,Tryz.ntmps77
 go_wp2_with fail
 obtain⟨hA1,b0⟩:=bx1 w rfl [.bool b,.slice p n c] 45
 have c0:=(hv.below hA1)
 (with_reducible refine(gZ _ (x) _ c0 (by omega)).mono ?_)
 rintro e w1 ⟨v1,rfl,hi1,hb1⟩
 obtain⟨g1,p1,n1,c1,rfl⟩:=hi1.form
 have hf1:=bg (dS.flag hi1)
 have hz:((n1:Int)==0)=false:=by rw[hi1.len];simpa using HX.out.1
 obtain rfl:g1=false:=by rw[hf1.out];exact HX.out.2.1
 have iO:=(b0.to hb1)
 obtain⟨d0,f0,e0,g0⟩:=iO.cf2
 have a0:=(Below.tr (Below.tr kU hA1) hb1)
 go_wp2_with fail
 go_ret
 exact⟨iC HX.out.2.2,(Below.bW a0 (b:=w.heap.size) (by omega) (.bool false) (.slice p1 n1 c1))⟩
theorem a7F (v:Value) (x:Int) (w:World) (hv:Raw w v x) (hl:isz x<=1000000000) :
  Calls Tryz.prog 77 #[v] w fun e w'=>e=.returned (.int .i64 (sgn x))/\Below w.heap.size w w':=by
 rcases Ba x 0 with h|h|h
 ·exact b4Y v x w hv hl h
 ·exact b5a v x w hv hl h
 ·exact b4Z v x w hv hl h
end Go.Proofs.YtbkocjmmbkifjaaGreat
