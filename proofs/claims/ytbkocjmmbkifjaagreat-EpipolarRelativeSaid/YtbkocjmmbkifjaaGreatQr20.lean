/-
  Lemmas for the theorem vrelative28_holds, part 20 of 35.
-/
import Derived.Test.YtbkocjmmbkifjaaGreatQr18
import Derived.Test.YtbkocjmmbkifjaaGreatQr19
namespace Go.Proofs.YtbkocjmmbkifjaaGreat
open Go Go.RowKit
set_option maxRecDepth 100000
set_option maxHeartbeats 2000000
set_option linter.unusedSimpArgs false
set_option linter.unusedVariables false
theorem VJ (s:Value) (a:List Nat) (d:Nat) (w:World) (hs:Rd w s a) (ha:Low a) (la:a.length<=2000000000) (hd:1<=d) (hd2:d<=999999999) :
  Calls Tryz.prog 266 #[s,.int .u64 (d:Nat)] w fun e w'=>∃ v,e=.returned (.tuple #[v,.int .u64 (val a%d:Nat)])/\Rd w' v (dig (val a / d))/\Below w.heap.size w w':=by
 obtain⟨i0,hi,hz0,hz1,hz2⟩:=Ag gX;obtain⟨p,c,rfl,_,_⟩:=hs.form;have HA:=bf ha;clear ha;have hf1:=jO;obtain⟨n,hn⟩:∃ n,a.length=n:=⟨_,rfl⟩;rw[hn] at hs la ⊢;have HNL:=bf hn;clear hn
 go_enter Tryz.func266,Tryz.ntmps266
 go_wp2_with (at_make;refine Eh _ rfl _ _ 43 rfl w.heap.size 148 i0 (.int .u32 0) 1 ji hi hz0 hz1 _ _ _ _ n rfl rfl (by omega) (by omega) (by rw[hz2];omega) (by unfold maxLen;omega) (aj _) ?_)
 intro w1 hown hgrow;rw[iR] at hown;have hB1:Below w.heap.size w w1:=(gy _ _).grown hgrow (aj _) (fun k e=>by cases e);clear hgrow
 go_wp2
 go_loopw [7,8,9,16,17,18,19,20,21,22,23,24,25,26,27,28,29,30,31,32,33,34,35,36,37] (fun rr i _ _ _ _ _ _ _ _ _ _ _ _ _ _ _ _ _ _ _ _ _ _ _ wr=>∃ (k r:Nat) (i':Int) (o:List Nat),i=.int .i64 i'/\Hid (i'=(k:Int)-1)/\k<=n/\rr=.int .u64 (r:Nat)/\Hid (a0v a o d k r)/\wr.ownsRow w.heap.size 148 1 (.slice (some ⟨w.heap.size,0,none⟩) n n) n (cells32 o)/\Below w.heap.size w wr) (fun _ i _ _ _ _ _ _ _ _ _ _ _ _ _ _ _ _ _ _ _ _ _ _ _ _=>(intOf i+1).toNat)
 case atStart=>exact⟨n,0,_,_,rfl,rfl,aj _,rfl,by have:=HNL.out;subst this;exact a0v.start a hd,hown,hB1⟩
 case round =>
  obtain⟨k,r,i',o,rfl,hk',hkn,rfl,hI,hO,hB⟩:=hrel;cases k with
  | zero =>
   obtain rfl:i'=-1:=by have:=hk'.out;simpa using this
   have hD:=hI.out.done;have hlen:o.length=n:=by have:=hI.out.len;rw[HNL.out] at this;exact this
   have HV:Hid (sg false (val o)=((val a / d:Nat):Int)):=by unfold Hid;rw[hD.2.1];rfl
   have HR2:=bf hD.2.2;have hlow:=hD.1;have hR:=Rd.dN (l:=o) (by rw[hlen];exact hO);have HLEN:=bf hlen;clear hD hlen
   go_wp2_with fail
   refine(lF false _ _ _ hR hlow (by rw[HLEN.out];omega)).mono ?_;rw[HV.out];rintro e2 w2 ⟨v2,rfl,hi2,hb2⟩;obtain⟨g2,p2,n2,c2,rfl⟩:=hi2.form;have hR3:=hi2.rd
   go_wp2_with fail
   go_ret2
   exact⟨_,by rw[HR2.out];rfl,hR3,hB.trans (hb2.mono hB.size)⟩
  | succ k =>
   obtain rfl:i'=(k:Int):=by have:=hk'.out;simp at this;omega
   have ga:gr a k<=999999999:=gJ HA.out k;have hkl:k<a.length:=by have:=HNL.out;omega
   obtain⟨ba,oa,rfl,hba,hca⟩:=hs.at (by intro e;subst e;simp at hkl);have hcell:wr.cell? ⟨ba,oa+k,none⟩=some (.int .u32 (gr a k:Nat)):=(hB.cell (p:=⟨ba,oa+k,none⟩) hba).trans (hca k hkl);clear hca;have hr:r<=999999998:=by have:=hI.out.rest;omega
   obtain⟨x,hx⟩:∃ x:Nat,(r:Int)*1000000000+gr a k=x:=⟨r*1000000000+gr a k,by simp⟩;have hxn:r*1000000000+gr a k=x:=by omega
   have hx3:x<=999999998999999999:=by omega
   obtain⟨q,hq⟩:∃ q,x / d=q:=⟨_,rfl⟩;obtain⟨m,hm⟩:∃ m,x%d=m:=⟨_,rfl⟩;have hqm:x=q*d+m:=by rw[<-hq,<-hm,vw];exact(Nat.div_add_mod x d).symm
   have hmd:m<d:=by rw[<-hm];exact xg _ (by omega)
   have hN:=hI.out.step (q:=q) (r':=m) hkl (by omega) hmd ga;have hq3:q<=999999999:=hN.2;have HN:=bf hN.1;have b1C:=fun w=>VD (n:=x) (d:=d) (v:=q) hd (by omega) (by rw[<-hq];simp) (wrap_u64 (by omega)) w;have b5A:=fun w=>VG (n:=x) (d:=d) (v:=m) hd (by omega) (by rw[<-hm];simp) (wrap_u64 (by omega)) w;have hdz:((d:Int)==0)=false:=by simp;omega
   have i1:(x:Int) / d=q:=by rw[<-hq];simp
   have i2:(x:Int)%d=m:=by rw[<-hm];simp
   have w1':IntKind.u64.wrap (q:Int)=q:=wrap_u64 (by omega);have w2':(q:Int)%4294967296=q:=by omega
   have hlo:o.length=n:=by have:=hI.out.len;rw[HNL.out] at this;exact this
   have hcl:wr.cell? ⟨w.heap.size,k,none⟩=some (.int .u32 (gr o k:Nat)):=by rw[hO.cellAt k (by omega)];exact eX (by omega)
   have hfr:=hO.frozenAt k;have hst:=hO.stored k (.int .u32 (q:Nat));rw[fP] at hst;have HST:=bf hst;have hkn2:(k:Int)<n:=by omega
   clear hN hq hm hqm hxn hst hlo
   go_wp2_with fail
   go_roundw
   case rel=>exact⟨k,m,_,_,rfl,rfl,by omega,by rw[i2],HN,HST.out.1,hB.setCell (p:=⟨w.heap.size,k,none⟩) (aj _) _⟩
   case measure=>simp[intOf]
theorem b3y (p q:Option Addr) (c d n:Nat) (a b:List Nat) (w:World) (hs:Rd w (.slice p n c) a) (ht:Rd w (.slice q n d) b) (ha:Low a) (hb:Low b) (la:a.length=n) (lb:b.length=n) (hn:n<=2000000000) :
  Calls Tryz.prog 240 #[.slice p n c,.slice q n d] w fun e w'=>e=.returned (.int .i64 (dF (val a) (val b)))/\Below w.heap.size w w':=by
 have HA:=bf ha;have HB:=bf hb;have HLA:=bf la;have HLB:=bf lb;clear ha hb la lb
 go_enter Tryz.func240,Tryz.ntmps240
 go_wp2_with fail
 go_loopw [5,19,20,21,22,23,24,25,26,27,28,29,30,31,32,33,34,35,36,37,38,39,40] (fun i _ _ _ _ _ _ _ _ _ _ _ _ _ _ _ _ _ _ _ _ _ _ wr=>∃ (k:Nat) (i':Int),i=.int .i64 i'/\Hid (i'=(k:Int)-1)/\k<=n/\Hid (∀ j,k<=j->gr a j=gr b j)/\Below w.heap.size w wr) (fun i _ _ _ _ _ _ _ _ _ _ _ _ _ _ _ _ _ _ _ _ _ _ _=>(intOf i+1).toNat)
 case atStart=>exact⟨n,_,rfl,rfl,aj _,fun j hj=>by have:=HLA.out;have:=HLB.out;rw[wY (by omega),wY (by omega)],gy _ _⟩
 case round =>
  obtain⟨k,i',rfl,hk',hkn,hI,hB⟩:=hrel;cases k with
  | zero =>
   obtain rfl:i'=-1:=by have:=hk'.out;simpa using this
   have hab:a=b:=by have:=wQ (i:=0) (a:=a) (b:=b) (by rw[HLA.out,HLB.out]) (fun j _=>hI.out j (by omega));simpa using this
   have HV:Hid (dF (val a) (val b)=0):=by unfold Hid;rw[hab];unfold dF;simp
   clear hab
   go_wp2_with fail
   go_ret
   exact⟨kJ HV.out.symm,hB⟩
  | succ k =>
   obtain rfl:i'=(k:Int):=by have:=hk'.out;simp at this;omega
   have hka:k<a.length:=by have:=HLA.out;omega
   have hkb:k<b.length:=by have:=HLB.out;omega
   obtain⟨ba,oa,rfl,hba,hca⟩:=hs.at (by intro e;subst e;simp at hka);obtain⟨bb,ob,rfl,hbb,hcb⟩:=ht.at (by intro e;subst e;simp at hkb);have hc1:wr.cell? ⟨ba,oa+k,none⟩=some (.int .u32 (gr a k:Nat)):=(hB.cell (p:=⟨ba,oa+k,none⟩) hba).trans (hca k hka);have hc2:wr.cell? ⟨bb,ob+k,none⟩=some (.int .u32 (gr b k:Nat)):=(hB.cell (p:=⟨bb,ob+k,none⟩) hbb).trans (hcb k hkb);have ga:gr a k<=999999999:=gJ HA.out k;have gb:gr b k<=999999999:=gJ HB.out k;have hdr:=wQ (i:=k+1) (a:=a) (b:=b) (by rw[HLA.out,HLB.out]) (fun j hj=>hI.out j hj);have h0:(0:Int)<=k:=by omega
   have h1:(k:Int)<n:=by omega
   clear hca hcb hka hkb;rcases Nat.lt_trichotomy (gr a k) (gr b k) with h|h|h
   ·have hv:=EZ HA.out (by rw[hdr]) h;have HV:Hid (dF (val a) (val b)=-1):=by unfold Hid dF;rw[dn (by omega)]
    clear hdr hv;generalize gr a k=x at *
    generalize gr b k=y at *
    have d1:decide (x<y)=true:=by simpa using h
    have d2:decide ((x:Int)<y)=true:=by simpa using h
    go_wp2_with fail
    go_quiet (fail)
    go_wp2_with fail
    go_ret
    exact⟨kJ HV.out.symm,by first|exact Below.sG hB _|exact Below.sG (Below.sG hB _) _⟩
   ·have HE:=bf h;clear hdr;have d1:decide (gr a k<gr b k)=false:=by simp;omega
    have d3:decide (gr b k<gr a k)=false:=by simp;omega
    generalize hxx:gr a k=x at *
    generalize hyy:gr b k=y at *
    have HXX:=bf hxx;have HYY:=bf hyy;clear h hxx hyy
    go_wp2_with fail
    go_quiet (fail)
    go_wp2_with fail
    go_quiet (fail)
    go_wp2_with fail
    go_roundw
    case rel=>exact⟨k,_,rfl,rfl,by omega,fun j hj=>if e:j=k then by rw[e,HXX.out,HYY.out];exact HE.out else hI.out j (by omega),Below.sG hB _⟩
    case measure=>simp[intOf]
   ·have hv:=EZ (i:=k) HB.out (by rw[hdr]) h;have HV:Hid (dF (val a) (val b)=1):=by unfold Hid dF;rw[bn (by omega),dn (by omega)]
    clear hdr hv;generalize gr a k=x at *
    generalize gr b k=y at *
    have d1:decide (x<y)=false:=by simp;omega
    have d3:decide (y<x)=true:=by simpa using h
    go_wp2_with fail
    go_quiet (fail)
    go_wp2_with fail
    go_quiet (fail)
    go_wp2_with fail
    go_ret
    exact⟨kJ HV.out.symm,by first|exact Below.sG hB _|exact Below.sG (Below.sG hB _) _⟩
theorem b3z (s t:Value) (a b:List Nat) (w:World) (hs:Rd w s a) (ht:Rd w t b) (ha:Canon a) (hb:Canon b) (hn:a.length≠b.length) :
  Calls Tryz.prog 240 #[s,t] w fun e w'=>e=.returned (.int .i64 (dF (val a) (val b)))/\Below w.heap.size w w':=by
 obtain⟨p,c,rfl,_,_⟩:=hs.form;obtain⟨q,d,rfl,_,_⟩:=ht.form;have hne:((a.length:Int) != b.length)=true:=by simp;omega
 rcases Ad a.length b.length with h|h
 ·have hv:=IZ ha hb h;have HV:Hid (dF (val a) (val b)=-1):=by unfold Hid dF;rw[dn (by omega)]
  have d1:decide (a.length<b.length)=true:=by simpa using h
  have HN:=bf hn;clear hn h hv
  go_enter Tryz.func240,Tryz.ntmps240
  go_wp2
  go_ret
  exact⟨kJ HV.out.symm,gy _ _⟩
 ·have hv:=IZ hb ha (by omega);have HV:Hid (dF (val a) (val b)=1):=by unfold Hid dF;rw[bn (by omega),dn (by omega)]
  have d1:decide (a.length<b.length)=false:=by simp;omega
  have HN:=bf hn;have HH:=bf h;clear hn h hv
  go_enter Tryz.func240,Tryz.ntmps240
  go_wp2
  go_ret
  exact⟨kJ HV.out.symm,gy _ _⟩
theorem xY (s t:Value) (a b:List Nat) (w:World) (hs:Rd w s a) (ht:Rd w t b) (ha:Canon a) (hb:Canon b) (la:a.length<=2000000000) :
  Calls Tryz.prog 240 #[s,t] w fun e w'=>e=.returned (.int .i64 (dF (val a) (val b)))/\Below w.heap.size w w':=by
 by_cases h:a.length=b.length
 ·obtain⟨p,c,rfl,_,_⟩:=hs.form;obtain⟨q,d,rfl,_,_⟩:=ht.form;rw[<-h] at ht ⊢;exact b3y p q c d a.length a b w hs ht ha.1 hb.1 rfl h.symm la
 ·exact b3z s t a b w hs ht ha hb h
theorem IQ {P:Program} {w:World} {ops:Array Oper} {rest:List Oper} {o:Oper} {a:Act} {Q:Exit->Act->World->Prop} (hgd:o.guard=none) (s x:Operand) (t:TypeId)
  (hop:o.op=Op.call { callee:=Callee.builtin Builtin.append,args:=#[s,x],argTypes:=#[t,t] })
  (e:TypeId) (i:TypeInfo) (h1:P.underlying t=some (.slice e)) (h2:P.info? e=some i)
  (b:Addr) (n c:Nat) (hnc:n<=c) (hs:a.eval s=.slice (some b) n c) {q:Option Addr} (hx:a.eval x=.slice q 0 0)
  (h:wpList P ops Q rest (a.put o.dst (.slice (some b) n c)) w):wpList P ops Q (o::rest) a w :=
 wpList_plain hgd fun _ hK=>by
  have hrun:(Builtin.append_ #[t,t] o.type #[.slice (some b) n c,.slice q 0 0]).run P w=.ok (.slice (some b) n c) w:=by cases q<;>simp[Builtin.append_,ku h1,sizeOf,typeInfo,h2,Builtin.lenOf,Builtin.firstCells,loadCells,loadCellsFrom,eu,storeCells,hnc]
  unfold Oper.wp;simp[execOp,hop,resolve,invoke,builtin,hs,hx,hrun,Result.andThen];exact hK _ _ h
theorem a6X (w:World) (d:Nat):(w.alloc (.cells #[.int .u32 (d:Nat)] 148)).ownsRow w.heap.size 148 1 (.slice (some ⟨w.heap.size,0,none⟩) 1 1) 1 (cells32 [d]):=World.ownsRow_lit (size:=1) w #[.int .u32 (d:Nat)] 1 (aj _) (by simp[maxLen]) (by simp)
theorem a1A (s:Value) (a:List Nat) (d:Nat) (w:World) (hs:Rd w s a) (ha:Low a) (la:a.length<=1000000000) (hd:d<=999999999) :
  Calls Tryz.prog 268 #[s,.int .u32 (d:Nat)] w (a9I (dig (d+1000000000*val a)) w):=by
 obtain⟨i0,hi,hz0,hz1,hz2⟩:=Ag gX;have hf1:=jO;have hl:Low (d::a):=Low.cons.2 ⟨by rw[bV];omega,ha⟩;have HV:Hid (sg false (val (d::a))=((d+1000000000*val a:Nat):Int)):=by unfold Hid;rw[dA,bV];rfl
 have hB0:Below w.heap.size w (w.alloc (.cells #[.int .u32 (d:Nat)] 148)):=(gy _ _).alloc (aj _) _;have HL:=bf hl;clear hl ha;rcases hs with⟨p,rfl,rfl⟩|⟨b,o,c,rfl,h2,h3,h4,h5⟩
 ·have hR:=Rd.dN (a6X w d)
  go_enter Tryz.func268,Tryz.ntmps268
  go_wp2_with (at_builtin;refine IQ rfl _ _ 43 rfl 148 i0 ji hi _ 1 1 (aj _) rfl rfl ?_)
  refine(rG false _ _ _ hR HL.out (by simp)).mono ?_;rw[HV.out];rintro e2 w2 ⟨g2,p2,n2,c2,rfl,hi2,hfr2,hb2⟩;have hR2:=hi2.rd
  go_wp2_with fail
  go_ret
  exact⟨_,rfl,hR2,fun k hk=>au hB0.size (hfr2 k hk),hB0.trans (hb2.mono hB0.size)⟩
 ·have H5:=bf h5;clear h5
  go_enter Tryz.func268,Tryz.ntmps268
  go_wp2_with (at_builtin;refine yh _ rfl _ _ 43 rfl w.heap.size 148 i0 (.int .u32 0) 1 4 ji hi hz0 hz1 hz2 rfl (by decide) _ _ _ rfl (a6X w d) ⟨b,o,none⟩ a.length c (cells32 a) rfl (iZ a) (oK fun i hi=>(zy _ _ ⟨b,o+i,none⟩ h4).trans (H5.out i hi)) (lN a) (by unfold maxLen;omega) (by omega) (by simp) ?_)
  intro v' w1 hown hgrow _;have hB1:Below w.heap.size w w1:=((gy _ _).alloc (aj _) _).grown hgrow (by simp) (fun j e=>by simp[Value.ownBlock] at e;omega);clear hgrow;have hR:=Rd.dN (l:=d::a) (by rw[List.length_cons,Fb];exact hown)
  go_wp2_with fail
  refine(rG false _ _ _ hR HL.out (by simp;omega)).mono ?_;rw[HV.out];rintro e2 w2 ⟨g2,p2,n2,c2,rfl,hi2,hfr2,hb2⟩;have hR2:=hi2.rd
  go_wp2_with fail
  go_ret
  exact⟨_,rfl,hR2,fun k hk=>au hB1.size (hfr2 k hk),hB1.trans (hb2.mono hB1.size)⟩
structure RInv (a o:List Nat) (M V k R:Nat):Prop where
 len:o.length=M
 low:Low (o.drop k)
 vl:val (a.drop k)=val (o.drop k)*V+R
 rest:R<V
theorem RInv.start {a:List Nat} {M V:Nat} (hV:val (a.drop M)<V):RInv a (List.replicate M 0) M V M (val (a.drop M)):=⟨by simp,by simp[Low.nil],by simp[val],hV⟩
theorem RInv.step {a o:List Nat} {M V k R q R':Nat} (h:RInv a o M V (k+1) R) (hk:k<M) (hM:M<=a.length) (hn:gr a k+1000000000*R=q*V+R') (hr:R'<V) (ha:gr a k<=999999999):RInv a (o.set k q) M V k R'/\q<=999999999:=by
 have hq:q<=999999999:=by
  rcases Ad 999999999 q with h1|h1
  ·exfalso;have e1:1000000000*V<=q*V:=jl _ h1;have e2:=h.rest;have e3:(R+1)*1000000000<=V*1000000000:=jl _ e2;rw[Aq] at e3;rw[vw V] at e3;omega
  ·exact h1
 have hl:k<o.length:=by rw[h.len];exact hk
 have hs:(o.set k q).drop k=q::o.drop (k+1):=by rw[Bh (by simpa using hl),List.drop_set_of_lt (by omega)];simp
 refine⟨⟨by simp[h.len],?_,?_,hr⟩,hq⟩
 ·rw[hs];exact Low.cons.2 ⟨by rw[bV];omega,h.low⟩
 ·rw[hs,xB (by omega),h.vl,dA,bV];grind
theorem RInv.done {a o:List Nat} {M V R:Nat} (h:RInv a o M V 0 R):Low o/\val o=val a / V/\R=val a%V:=by
 have h1:=h.vl;simp at h1;have hr:=h.rest;have hl:=h.low;simp at hl;refine⟨hl,?_,?_⟩
 ·rw[h1,vw,Nat.mul_add_div (by omega),Ez hr];simp
 ·rw[h1,vw,Nat.mul_add_mod,Ef hr]
theorem b7x {l:List Nat} {n:Nat} (hn:1<=n):(gr l n*1000000000+gr l (n-1))*BB ^ (n-1)<=val l:=by
 have h1:=yD l (n-1);have h2:=yD (l.drop n) 0;rw[show n-1+1=n by omega] at h1;simp at h2;have h3:gr (l.drop n) 0=gr l n:=by unfold gr;simp
 rw[h3] at h2;rw[h1,h2,bV];have e:1000000000 ^ (n-1)*(gr l (n-1)+1000000000*(gr l n+1000000000*val (l.drop (n+1))))=(gr l n*1000000000+gr l (n-1))*1000000000 ^ (n-1)+1000000000 ^ (n-1)*(1000000000*(1000000000*val (l.drop (n+1)))):=by grind
 rw[e];omega
theorem b1p {l:List Nat} {n V bt g:Nat} (hn:1<=n) (hV:V<(bt+1)*BB ^ (n-1)) (hg:g*(bt+1)<=gr l n*1000000000+gr l (n-1)):g*V<=val l:=by have h1:=b7x (l:=l) hn;have h2:g*V<=g*((bt+1)*BB ^ (n-1)):=xw _ (Nat.le_of_lt hV);have h3:g*(bt+1)*BB ^ (n-1)<=(gr l n*1000000000+gr l (n-1))*BB ^ (n-1):=jl _ hg;rw[<-Nat.mul_assoc] at h2;omega
theorem OX {V R x g R':Nat} (hR:R<V) (hx:x<=999999999) (h:g*V+R'=x+1000000000*R):g<=999999999:=by
 rcases Ad 999999999 g with h1|h1
 ·exfalso;have e1:1000000000*V<=g*V:=jl _ h1;omega
 ·exact h1
theorem WE {l:List Nat} {n:Nat} (hl:Low l) (hn:l.length=n) (h1:1<=n):val l<(gr l (n-1)+1)*BB ^ (n-1):=by
 have h:=yD l (n-1);rw[show n-1+1=n by omega,List.drop_eq_nil_of_le (by omega)] at h;simp[val] at h;have h2:val (l.take (n-1))<BB ^ (n-1):=by have:=mG (hl.take (n-1));rwa [jk,zf (by omega)] at this
 rw[Aq,vw (gr l (n-1))];omega
theorem a5h {b:List Nat} {n f:Nat} (hb:Canon b) (hn:b.length=n) (h1:1<=n) (hf1:1<=f) (hf:f*(gr b (n-1)+1)<=1000000000):(dig (val b*f)).length=n:=by
 apply Nat.le_antisymm
 ·refine dS ?_;have h:=WE hb.1 hn h1;have h2:val b*f<(gr b (n-1)+1)*BB ^ (n-1)*f:=Nat.mul_lt_mul_of_pos_right h hf1;have h3:f*(gr b (n-1)+1)*BB ^ (n-1)<=BB*BB ^ (n-1):=jl _ (by rw[bV];exact hf);have h4:BB*BB ^ (n-1)=BB ^ n:=by rw[vw,<-Nat.pow_succ];congr 1;omega
  have h5:(gr b (n-1)+1)*BB ^ (n-1)*f=f*(gr b (n-1)+1)*BB ^ (n-1):=by grind
  omega
 ·have:=aX (show val b<=val b*f from Ed _ hf1);rw[dP hb] at this;omega
set_option maxRecDepth 1000000
set_option maxHeartbeats 4000000
theorem a9l (s t:Value) (a b:List Nat) (w:World) (hs:Rd w s a) (ht:Rd w t b) (ha:Canon a) (hb:Canon b) (la:a.length<=1000000000) (hb2:2<=b.length) (hlt:val a<val b) :
  Calls Tryz.prog 215 #[s,t] w (a0s (dig (val a / val b)) (dig (val a%val b)) w):=by
 obtain⟨p,c,rfl,hc1,hc2⟩:=hs.form;obtain⟨q,d,rfl,hd1,hd2⟩:=ht.form;have HX:Hid (dig (val a / val b)=[]/\dig (val a%val b)=a):=by refine⟨by rw[Ez hlt,dX],by rw[Ef hlt,dP ha]⟩
 have hcv:dF (val a) (val b)=-1:=by unfold dF;rw[dn (by omega)]
 have HCV:=bf hcv;have hn1:((b.length:Int)==1)=false:=by simp;omega
 clear hcv hlt
 go_enter Tryz.func215,Tryz.ntmps215
 go_wp2_with fail
 refine(xY _ _ a b _ hs ht ha hb (by omega)).mono ?_;rw[HCV.out];rintro e w1 ⟨rfl,hb1⟩
 go_wp2_with fail
 go_ret2
 exact⟨_,_,rfl,by rw[HX.out.1];exact .inr ⟨w1.heap.size,0,0,rfl,by simp,by omega,by simp,fun i hi=>by simp at hi⟩,by rw[HX.out.2];exact(hs.below hb1).alloc _,Below.al hb1 _⟩
theorem a5c (s t:Value) (a:List Nat) (d0:Nat) (w:World) (hs:Rd w s a) (ht:Rd w t [d0]) (ha:Canon a) (hb:Canon [d0]) (la:a.length<=1000000000) :
  Calls Tryz.prog 215 #[s,t] w (a0s (dig (val a / d0)) (dig (val a%d0)) w):=by
 obtain⟨p,c,rfl,hc1,hc2⟩:=hs.form;obtain⟨q,d,rfl,hd1,hd2⟩:=ht.form;have ht':Rd w (.slice q 1 d) [d0]:=ht;show Calls Tryz.prog 215 #[.slice p a.length c,.slice q 1 d] w _;obtain⟨gb,ob,rfl,hgb,hcb⟩:=ht'.at (by simp);have hc0:w.cell? ⟨gb,ob,none⟩=some (.int .u32 (d0:Nat)):=by simpa [gr] using hcb 0 (by simp)
 have b9N:d0<=999999999:=by have:=hb.1 d0 (by simp);rw[bV] at this;omega
 have hvd:val [d0]=d0:=by simp[dA]
 have hd0:1<=d0:=by have:=hb.pos (by simp);rw[hvd] at this;exact this
 have hr0:val a%d0<d0:=xg _ hd0;have hf1:=jO;clear hvd hcb
 go_enter Tryz.func215,Tryz.ntmps215
 go_wp2_with fail
 refine(VJ _ a d0 _ hs ha.1 (by omega) hd0 b9N).mono ?_;rintro e w1 ⟨v1,rfl,hv1,hb1⟩;obtain⟨R,hR⟩:∃ R,val a%d0=R:=⟨_,rfl⟩;rw[hR] at hr0 ⊢;have HR:=bf hR;clear hR;have hone:=a4J w1 R;have HV:Hid (sg false (val [R])=(R:Nat)):=by unfold Hid;simp[dA,sg]
 go_wp2_with fail
 refine(lF false _ _ _ hone (Low.cons.2 ⟨by rw[bV];omega,Low.nil⟩) (by simp)).mono ?_;rw[HV.out];rintro e2 w2 ⟨v2,rfl,hi2,hb2⟩;obtain⟨g2,p2,n2,c2,rfl⟩:=hi2.form;have hR2:=hi2.rd
 go_wp2_with fail
 go_ret2
 exact⟨_,_,rfl,(hv1.alloc _).below hb2,by rw[HR.out];exact hR2,Below.tr (Below.al hb1 _) hb2⟩
theorem Rd.b2O {w:World} {s:Value} {l:List Nat} (h:Rd w s l) (hn:l≠[]):∀ k,s.ownBlock=some k->k<w.heap.size:=by
 rcases h with⟨_,_,e⟩|⟨b,o,c,rfl,h2,h3,h4,h5⟩
 ·exact absurd e hn
 ·intro k hk;simp[Value.ownBlock] at hk;omega
theorem Rd.drewN {w:World} {s:Value} {l:List Nat} (h:Rd w s l) (k:Nat):Rd (w.drewN k) s l:=h.below (Below.sG (gy _ _) k)
theorem Rd.a5i {w:World} {s:Value} {l:List Nat} (h:Rd w s l) {a:Addr} (hs:∀ k,s.ownBlock=some k->k≠a.block) (u:Value):Rd (w.setCell a u) s l:=by
 rcases h with h|⟨b,o,c,rfl,h2,h3,h4,h5⟩
 ·exact .inl h
 ·refine .inr ⟨b,o,c,rfl,h2,h3,by simpa [World.setCell] using h4,fun i hi=>?_⟩;rw[vk _ _ _ _ (fun e=>hs b rfl e.symm)];exact h5 i hi
theorem a3E (s t:Value) (a b:List Nat) (w:World) (hs:Rd w s a) (ht:Rd w t b) (ha:Canon a) (hb:Canon b) (la:a.length<=1000000000) (hb2:2<=b.length) (hle:val b<=val a) :
  Calls Tryz.prog 215 #[s,t] w (a0s (dig (val a / val b)) (dig (val a%val b)) w):=by
 obtain⟨i0,hi,hz0,hz1,hz2⟩:=Ag gX;obtain⟨p,c,rfl,_,_⟩:=hs.form;obtain⟨q,d,rfl,_,_⟩:=ht.form;have hf1:=jO;have hbn:b≠[]:=by intro e;subst e;simp at hb2
 obtain⟨gb,ob,rfl,hgb,hcb⟩:=ht.at hbn;have hlb:b.length<=a.length:=by have:=aX hle;rwa [dP ha,dP hb] at this
 have htop:gr b (b.length-1)<=999999999:=gJ hb.1 _;have hct:=hcb (b.length-1) (by omega);have htp:1<=gr b (b.length-1):=by
  have:=hb.2;rw[QO hbn] at this;have:gr b (b.length-1)≠0:=by simpa using this
  omega
 obtain⟨n,hn⟩:∃ n,b.length=n:=⟨_,rfl⟩;have b9T:=fun f h1 h2=>a5h (f:=f) hb hn (by omega) h1 h2;rw[hn] at hb2 htop hct htp hlb ⊢;obtain⟨tp,c6k⟩:∃ tp,gr b (n-1)=tp:=⟨_,rfl⟩;rw[c6k] at htop hct htp b9T;obtain⟨sc,hsc⟩:∃ sc:Nat,(1000000000:Int) / ((tp:Int)+1)=sc:=⟨1000000000 / (tp+1),by simp⟩;have hsc2:1000000000 / (tp+1)=sc:=by
  have:((1000000000 / (tp+1):Nat):Int)=sc:=by rw[<-hsc];simp
  omega
 have a2O:1<=sc:=by rw[<-hsc2];exact(Nat.le_div_iff_mul_le (by omega)).2 (by omega)
 have c8P:sc<=500000000:=by rw[<-hsc2];exact au (Nat.div_le_div_left (c:=2) (by omega) (by omega)) (by omega)
 have c6i:sc*(tp+1)<=1000000000:=by rw[<-hsc2];exact Nat.div_mul_le_self _ _
 have HLB:=bf (b9T sc a2O c6i);have HA:=bf ha;have HB:=bf hb;have HLE:=bf hle;have HN:=bf hn;have hcv:0<=dF (val a) (val b):=by unfold dF;rw[bn (by omega)];split<;>omega
 obtain⟨cv,b9M⟩:∃ cv,dF (val a) (val b)=cv:=⟨_,rfl⟩;rw[b9M] at hcv;have hdc:decide (cv<0)=false:=by simpa using hcv
 have HCV:=bf b9M;have hn1:((n:Int)==1)=false:=by simp;omega
 have hw1:IntKind.u64.wrap (sc:Int)=sc:=wrap_u64 (by omega);have hidx:((n:Int)-1).toNat=n-1:=by omega
 clear hsc2 hcb ha hb hle hn b9M hcv b9T c6i c6k hbn;rw[HN.out] at ht
 go_enter Tryz.func215,Tryz.ntmps215
 go_wp2_with fail
 refine(xY _ _ a b _ hs ht HA.out HB.out (by omega)).mono ?_;rw[HCV.out];rintro e w1 ⟨rfl,hb1⟩;have c8F:w1.cell? ⟨gb,ob+(n-1),none⟩=some (.int .u32 (tp:Nat)):=(hb1.cell (p:=⟨gb,ob+(n-1),none⟩) hgb).trans hct
 go_wp2_with fail
 refine(CY _ a sc _ (hs.below hb1) HA.out.1 (by omega) (by omega)).mono ?_;rintro e w2 ⟨v2,rfl,hv2,_,hb2'⟩;obtain⟨pa,ca,rfl,_,_⟩:=hv2.form
 go_wp2_with fail
 refine(CY _ b sc _ ((ht.below hb1).below hb2') HB.out.1 (by have:=HN.out;omega) (by omega)).mono ?_;rintro e w3 ⟨v3,rfl,hv3,_,hb3⟩;obtain⟨pb,cb,rfl,_,_⟩:=hv3.form;have U0:a.length<=(dig (val a*sc)).length:=by have:=aX (show val a<=val a*sc from Ed _ a2O);rwa [dP HA.out] at this
 have U1:(dig (val a*sc)).length<=1000000001:=by have:=ER (val a) sc;have h2:nsz sc<=1:=dS (by rw[bV];omega);unfold nsz at this h2;rw[dP HA.out] at this;omega
 have hB3:Below w.heap.size w w3:=Below.tr (Below.tr hb1 hb2') hb3;have hU3:=hv2.below hb3;have HU:=bf (show val (dig (val a*sc))=val a*sc from bM _);have HV:=bf (show val (dig (val b*sc))=val b*sc from bM _);have HUc:=bf (dJ (val a*sc));have HVc:=bf (dJ (val b*sc));have hvl:=HLB.out;generalize dig (val a*sc)=U at *
 generalize dig (val b*sc)=V at *
 rw[hvl] at hv3 ⊢;have HVL:=bf hvl;obtain⟨lu,hlu⟩:∃ lu,U.length=lu:=⟨_,rfl⟩;rw[hlu] at hU3 U0 U1 ⊢;have HLU:=bf hlu;clear hlu hvl hv2 HLB hb1 hb2' hb3 hct c8F hsc hw1;obtain⟨M,hM⟩:∃ M:Nat,(lu:Int)-n+1=M:=⟨lu-n+1,by omega⟩;have hM2:M+n=lu+1:=by omega
 obtain⟨ga,oa,rfl,hga,hua⟩:=hU3.at (by intro e;have:=HLU.out;subst e;simp at this;omega);have HUA:=bf hua;have hcap:lu<=ca:=by obtain⟨_,_,e,h,_⟩:=hU3.form;cases e;have:=HLU.out;omega
 have m1:(0:Int)<=M:=by omega
 have m2:(M:Int)<=lu:=by omega
 have m3:M<ca:=by omega
 clear hua;have hV0:BB ^ (n-1)<=val V:=qW (n:=val V) (k:=n-1) (by rw[dP HVc.out,HVL.out];omega);have c5R:Rd w3 (.slice (some ⟨ga,oa+M,none⟩) (lu-M) (ca-M)) (U.drop M):=by have e1:=HLU.out;refine .inr ⟨ga,oa+M,ca-M,by rw[Bc,e1],by rw[Bc,e1];omega,by omega,hga,fun i hi=>?_⟩;rw[Bc] at hi;rw[Nat.add_assoc,HUA.out (M+i) (by omega)];unfold gr;simp
 have hR0:val (U.drop M)<val V:=by have h1:=mG (HUc.out.1.drop M);rw[Bc,HLU.out,show lu-M=n-1 by omega] at h1;omega
 have b9c:=bf (RInv.start (a:=U) hR0);have hlenV:(dig (val V)).length=n:=by rw[dP HVc.out,HVL.out]
 have HLV:=bf hlenV;have b8j:∀ R,R<val V->(dig R).length<=1000000000:=fun R h=>by have:=aX (Nat.le_of_lt h);rw[hlenV] at this;omega
 have HLR:=bf b8j;obtain⟨R0,b9H⟩:∃ R0,val (U.drop M)=R0:=⟨_,rfl⟩;rw[b9H] at b9c;have HMV:Hid (sg false (val (U.drop M))=((R0:Nat):Int)):=by unfold Hid;rw[b9H];rfl
 have b8l:=HUc.out.1.drop M;have b8k:(U.drop M).length<=2000000001:=by rw[Bc,HLU.out];omega
 clear hR0 hlenV b8j b9H hV0
 go_wp2_with fail
 refine(lF false _ _ _ c5R b8l b8k).mono ?_;rw[HMV.out];rintro e w4 ⟨v4,rfl,hi4,hb4⟩;obtain⟨g4,p4,n4,c4,rfl⟩:=hi4.form;have hR4:Rd w4 (.slice p4 n4 c4) (dig R0):=by simpa using hi4.rd
 obtain⟨_,_,e4,_,_⟩:=hR4.form;cases e4;clear c5R b8l b8k hi4;have hU4:=hU3.below hb4;have hV4:=hv3.below hb4;have hB4:=Below.tr hB3 hb4;have hz4:=hb4.size;have hzB:=hB4.size;have hvo:=hv3.b2O (fun e=>by have:=HVL.out;rw[e] at this;simp at this;omega)
 go_wp2_with (at_make;refine Eh _ rfl _ _ 43 rfl w.heap.size 148 i0 (.int .u32 0) 1 ji hi hz0 hz1 _ _ _ _ M rfl rfl (by omega) (by omega) (by rw[hz2];omega) (by unfold maxLen;omega) (by omega) ?_)
 intro w5 hq5 hgr5;rw[iR] at hq5;have hb5:Below w4.heap.size w4 w5:=(gy _ _).grown hgr5 (aj _) (fun k e=>by cases e);have hU5:=hU4.below hb5;have hV5:=hV4.below hb5;have hR5:=hR4.below hb5;have hB5:=Below.tr hB4 hb5;have hz5:=hgr5.size;have c6g:w4.heap.size<w5.heap.size:=by have:=(hq5.lt w4.heap.size rfl).2;exact this
 obtain⟨gq,hgq⟩:∃ gq,w4.heap.size=gq:=⟨_,rfl⟩;rw[hgq] at hq5 c6g hz4 hzB ⊢;have c6j:ga≠gq:=by omega
 have b8r:∀ k,(Value.slice pb n cb).ownBlock=some k->k≠gq:=fun k hk=>by have:=hvo k hk;omega
 have HSV:=bf b8r;clear hgr5 hb5 hU4 hV4 hR4 hB4 hb4 hB3 hU3 hv3 hgq hvo b8r hi hz0 hz1 hz2 hz5 HUA hM HMV
 go_wp2_with fail
 go_loopw [10,12,13,74,75,76,77,78,79,80,81,82,83,84,85,86,87,88,89,90,91,92,93,94,95,96,97,98,99,100,101,102,103,104,105,106,107,108,109,110,111,112,113,114,115,116,117,118,119] (fun rest i g _ _ _ _ _ _ _ _ _ _ _ _ _ _ _ _ _ _ _ _ _ _ _ _ _ _ _ _ _ _ _ _ _ _ _ _ _ _ _ _ _ _ _ _ _ _ wr=>∃ (k R:Nat) (i':Int) (o:List Nat) (pr:Option Addr) (cr:Nat),i=.int .i64 i'/\Hid (i'=(k:Int)-1)/\k<=M/\rest=.slice pr (dig R).length cr/\Rd wr (.slice pr (dig R).length cr) (dig R)/\Hid (RInv U o M (val V) k R)/\Rd wr (.slice (some ⟨ga,oa,none⟩) lu ca) U/\Rd wr (.slice pb n cb) V/\wr.ownsRow w.heap.size 148 1 (.slice (some ⟨gq,0,none⟩) M M) M (cells32 o)/\Below w.heap.size w wr) (fun _ i _ _ _ _ _ _ _ _ _ _ _ _ _ _ _ _ _ _ _ _ _ _ _ _ _ _ _ _ _ _ _ _ _ _ _ _ _ _ _ _ _ _ _ _ _ _ _ _=>(intOf i+1).toNat)
 case atStart=>exact⟨M,R0,_,_,p4,c4,rfl,by unfold Hid;omega,aj _,rfl,hR5,b9c,hU5,hV5,hq5,hB5⟩
 case round =>
  obtain⟨k,R,i',o,pr,cr,rfl,hk',hkM,rfl,hrest,hI,hU,hV,hO,hB⟩:=hrel;clear hR5 hU5 hV5 hq5 hB5 b9c;cases k with
  | zero =>
   obtain rfl:i'=-1:=by have:=hk'.out;simpa using this
   have hD:=hI.out.done;have hRV:=hI.out.rest;have hRl:=HLR.out R hRV;have hlo:o.length=M:=hI.out.len;have HX:Hid (sg false (val o)=((val a / val b:Nat):Int)/\dig (val (dig R) / sc)=dig (val a%val b)):=by have h1:=hD.2.1;have h2:=hD.2.2;rw[HU.out,HV.out] at h1 h2;rw[Nat.mul_div_mul_right _ _ (by omega)] at h1;rw[Nat.mul_mod_mul_right] at h2;refine⟨by rw[h1];rfl,?_⟩;rw[bM,h2,Nat.mul_div_cancel _ (by omega)]
   have hlow:=hD.1;have HLO:=bf hlo;clear hD hRV hlo
   go_wp2_with fail
   refine(VJ _ (dig R) sc _ hrest (bZ _) (by omega) a2O (by omega)).mono ?_;rintro e w6 ⟨v6,rfl,hv6,hb6⟩;rw[HX.out.2] at hv6;have hR:=Rd.dN (l:=o) (by rw[HLO.out];exact kH hO hb6)
   go_wp2_with fail
   refine(lF false _ _ _ hR hlow (by rw[HLO.out];omega)).mono ?_;rw[HX.out.1];rintro e2 w7 ⟨v2,rfl,hi2,hb7⟩;obtain⟨g2,p2,n2,c2,rfl⟩:=hi2.form;have hR2:=hi2.rd;rw[Int.natAbs_natCast] at hR2
   go_wp2_with fail
   go_ret2
   exact⟨_,_,rfl,hR2,hv6.below hb7,Below.tr (Below.tr hB hb6) hb7⟩
  | succ k =>
   obtain rfl:i'=(k:Int):=by have:=hk'.out;simp at this;omega
   have hLU:=HLU.out;have gx:gr U k<=999999999:=gJ HUc.out.1 k;obtain⟨g0',o0',e0',hba,hcu⟩:=hU.at (by intro e;subst e;simp at hLU;omega);cases e0';have hcell:wr.cell? ⟨ga,oa+k,none⟩=some (.int .u32 (gr U k:Nat)):=hcu k (by omega);have hRV:=hI.out.rest;have hRl:=HLR.out R hRV;have k1:(0:Int)<=k:=by omega
   have k2:(k:Int)<lu:=by omega
   have c6W:=bf hLU;have HRV:=bf hRV;clear hcu hLU hRV
   go_wp2_with fail
   refine(a1A _ (dig R) (gr U k) _ hrest (bZ _) hRl gx).mono ?_;rw[bM];obtain⟨T,hT⟩:∃ T,gr U k+1000000000*R=T:=⟨_,rfl⟩;rw[hT];rintro e w6 ⟨v6,rfl,hv6,_,hb6⟩;obtain⟨p6,c6,rfl,_,_⟩:=hv6.form;have HT:=bf hT;clear hT;have hU6:=hU.below hb6;have hV6:=hV.below hb6;have hO6:=kH hO hb6;have hB6:=Below.tr hB hb6;have hzw:=hb6.size;have hqw:=(hO.lt gq rfl).2;have hVL:=HVL.out;obtain⟨gv,ov,rfl,hgv,hcv⟩:=hV6.at (by intro e;subst e;simp at hVL;omega);have b1w:w6.cell? ⟨gv,ov+(n-1),none⟩=some (.int .u32 (gr V (n-1):Nat)):=hcv (n-1) (by omega);clear hcv hVL;have hbt:gr V (n-1)<=999999999:=gJ HVc.out.1 _;have hVt:Hid (val V<(gr V (n-1)+1)*BB ^ (n-1)):=WE HVc.out.1 HVL.out (by omega);obtain⟨bt,c5W⟩:∃ bt,gr V (n-1)=bt:=⟨_,rfl⟩;rw[c5W] at b1w hbt hVt;obtain⟨x1,hx1⟩:∃ x1,gr (dig T) n=x1:=⟨_,rfl⟩;obtain⟨x0,hx0⟩:∃ x0,gr (dig T) (n-1)=x0:=⟨_,rfl⟩;have bx1:x1<=999999999:=by rw[<-hx1];exact gJ (bZ T) n
   have bx0:x0<=999999999:=by rw[<-hx0];exact gJ (bZ T) (n-1)
   obtain⟨S,hS⟩:∃ S:Nat,(x1:Int)*1000000000+x0=S:=⟨x1*1000000000+x0,by simp⟩;have hSn:x1*1000000000+x0=S:=by omega
   have hSb:S<=999999999999999999:=by omega
   obtain⟨y,hy⟩:∃ y:Nat,(bt:Int)+1=y:=⟨bt+1,by simp⟩;have hyn:bt+1=y:=by omega
   obtain⟨g0,hg0⟩:∃ g0,S / y=g0:=⟨_,rfl⟩;have hgm:g0*y<=S:=by rw[<-hg0];exact Nat.div_mul_le_self _ _
   have hgT:g0*val V<=T:=by have:=b1p (l:=dig T) (n:=n) (V:=val V) (bt:=bt) (g:=g0) (by omega) hVt.out (by rw[hx1,hx0,hyn];omega);rwa [bM] at this
   have c5Q:=HRV.out;have HTo:=HT.out;obtain⟨R1,hR1⟩:∃ R1,g0*val V+R1=T:=⟨T-g0*val V,by omega⟩;have c5Y:g0<=999999999:=OX (V:=val V) (R:=R) (x:=gr U k) (R':=R1) c5Q gx (by omega);have i1:(S:Int) / y=g0:=by rw[<-hg0];simp
   have w1':IntKind.u64.wrap (g0:Int)=g0:=wrap_u64 (by omega);have hyz:((y:Int)==0)=false:=by simp;omega
   have b1C:=fun w=>VD (n:=S) (d:=y) (v:=g0) (by omega) hSb i1 w1' w;have HRW:Hid (dig (val (dig T)-val (dig (val V*g0)))=dig R1):=by unfold Hid;rw[bM,bM,vw (val V)];congr 1;omega
   have hlT:(dig T).length<=1000000001:=by
    have h1:R<BB ^ (dig R).length:=iV (aj _);have h2:T<BB ^ ((dig R).length+1):=by
     rw[Nat.pow_succ];generalize BB ^ (dig R).length=z at *
     rw[bV];omega
    have:=dS h2;omega
   have hls:(dig (val V*g0)).length<=(dig T).length:=aX (by rw[vw];exact hgT);have hlv:val (dig (val V*g0))<=val (dig T):=by rw[bM,bM,vw];exact hgT
   have HGR:=bf (fun(i:Int) (W:World) (h:Rd W (.slice p6 (dig T).length c6) (dig T)) (h0:0<=i)=>group_any _ (dig T) i W h (bZ T) h0);have HR1:=bf hv6;have hvd:=hv6.drew;have HR2:=bf hvd;have c6Y:=bf hR1;have b4w:=bf (And.intro hlT (And.intro hls hlv));have hn1':(0:Int)<=n:=by omega
   have c9w:(0:Int)<=(n:Int)-1:=by omega
   have c9x:(n:Int)-1<n:=by omega
   clear c5W hSn hyn hg0 hgm hgT c5Q HTo hR1 hlT hls hlv hvd hVt hrest
   go_wp2_with fail
   go_quiet ((go_at_call 269;exact Calls.quiet_of_same ((HGR.out _ _ (by first|exact HR1.out|exact HR2.out) (by omega)).mono fun e w' h=>⟨h.1,h.2.symm⟩)))
   go_wp2_with fail
   refine(CY _ V g0 _ (Rd.drewN hV6 _) HVc.out.1 (by have:=HVL.out;omega) c5Y).mono ?_;rintro e w7 ⟨v7,rfl,hv7,_,hb7⟩;obtain⟨p7,c7,rfl,_,_⟩:=hv7.form
   go_wp2_with fail
   refine(II _ _ (dig T) (dig (val V*g0)) _ ((Rd.drewN HR1.out _).below hb7) hv7 (bZ _) (bZ _) (by have:=b4w.out.1;omega) b4w.out.2.1 b4w.out.2.2).mono ?_;rw[HRW.out];rintro e w8 ⟨v8,rfl,hv8,c5X,hb8⟩;obtain⟨p8,c8,rfl,_,_⟩:=hv8.form;have hU8:=((Rd.drewN hU6 _).below hb7).below hb8;have hV8:=((Rd.drewN hV6 _).below hb7).below hb8;have hO8:=kH (kH (kH hO6 (Below.sG (gy _ _) _)) hb7) hb8;have hB8:=Below.tr (Below.tr (Below.sG hB6 _) hb7) hb8;have hz7:w6.heap.size<=w7.heap.size:=au (Below.sG (gy w6.heap.size w6) _).size hb7.size;have b8q:Hid (∀ z,(Value.slice p8 (dig R1).length c8).ownBlock=some z->gq<z):=fun z hz=>by have:=c5X z hz;omega
   clear c5X hv7 hb7 hb8 HGR HR1 HR2 hU hV hO hB hU6 hV6 hO6 hB6 hv6 b1w hcell b1C
   go_wp2_with fail
   go_loopg [10,13,106,107,108,109,110,111,112,113,114] R1 (fun kk rest g _ _ _ _ _ _ _ _ _ wr=>∃ (Rr gg:Nat) (pr:Option Addr) (cr:Nat),Hid (kk=Rr)/\rest=.slice pr (dig Rr).length cr/\Rd wr (.slice pr (dig Rr).length cr) (dig Rr)/\Hid (∀ z,(Value.slice pr (dig Rr).length cr).ownBlock=some z->gq<z)/\g=.int .u64 (gg:Nat)/\Hid (gg*val V+Rr=T)/\gg<=999999999/\Rd wr (.slice (some ⟨ga,oa,none⟩) lu ca) U/\Rd wr (.slice (some ⟨gv,ov,none⟩) n cb) V/\wr.ownsRow w.heap.size 148 1 (.slice (some ⟨gq,0,none⟩) M M) M (cells32 o)/\Below w.heap.size w wr)
   case atStart=>exact⟨R1,g0,p8,c8,rfl,rfl,hv8,b8q,rfl,c6Y,c5Y,hU8,hV8,hO8,hB8⟩
   case round =>
    obtain⟨Rr,gg,pr2,cr2,hkk,rfl,hr9,hsep,rfl,hg9,c9s,hU9,hV9,hO9,hB9⟩:=hrel;clear hU8 hV8 hO8 hB8 hv8 b8q;have hlr:(dig Rr).length<=1000000001:=by have h1:=hg9.out;have:=aX (show Rr<=T by omega);have:=b4w.out.1;omega
    obtain⟨cv2,hcv2⟩:∃ cv2,dF (val (dig Rr)) (val V)=cv2:=⟨_,rfl⟩;have c4v:=bf hcv2;rw[bM] at hcv2;by_cases hge:val V<=Rr
    ·have hc0:0<=cv2:=by rw[<-hcv2];unfold dF;rw[bn (by omega)];split<;>omega
     have c8G:decide (0<=cv2)=true:=by simpa using hc0
     obtain⟨R2,hR2⟩:∃ R2,Rr=val V+R2:=⟨Rr-val V,by omega⟩;have b9O:(gg+1)*val V+R2=T:=by have:=hg9.out;rw[Aq];omega
     have c5Z:gg+1<=999999999:=OX (V:=val V) (R:=R) (x:=gr U k) (R':=R2) HRV.out gx (by rw[b9O];exact HT.out.symm);have c6Z:Hid (dig (val (dig Rr)-val V)=dig R2):=by unfold Hid;rw[bM];congr 1;omega
     have hlv2:V.length<=(dig Rr).length:=by have:=aX hge;rwa [dP HVc.out] at this
     have hle2:Hid (val V<=val (dig Rr)):=by unfold Hid;rw[bM];exact hge
     have c5S:Hid (R2<Rr):=by have:=HVc.out.pos (by intro e;have:=HVL.out;rw[e] at this;simp at this;omega);unfold Hid;omega
     have c6V:=bf b9O;clear hcv2 hge hc0 hR2 b9O
     go_wp2_with fail
     refine(xY _ _ (dig Rr) V _ hr9 hV9 (dJ _) HVc.out (by omega)).mono ?_;rw[c4v.out];rintro e w9 ⟨rfl,hb9⟩
     go_wp2_with fail
     refine(II _ _ (dig Rr) V _ (hr9.below hb9) (hV9.below hb9) (bZ _) HVc.out.1 (by omega) hlv2 hle2.out).mono ?_;rw[c6Z.out];rintro e w10 ⟨v10,rfl,c6m,b8h,b5w⟩;obtain⟨p10,c10,rfl,_,_⟩:=c6m.form;have b9I:=(hU9.below hb9).below b5w;have b9J:=(hV9.below hb9).below b5w;have b1t:=kH (kH hO9 hb9) b5w;have b9G:=Below.tr (Below.tr hB9 hb9) b5w;have hqz:=(hO9.lt gq rfl).2;have hz9:=hb9.size;have a0:Hid (∀ z,(Value.slice p10 (dig R2).length c10).ownBlock=some z->gq<z):=fun z hz=>by have:=b8h z hz;omega
     clear b8h
     go_wp2_with fail
     go_roundg R2
     case measure=>rw[hkk.out];exact c5S.out
     case rel=>exact⟨R2,gg+1,p10,c10,rfl,rfl,c6m,a0,by go_num,c6V,c5Z,b9I,b9J,b1t,b9G⟩
    ·have hc0:cv2<0:=by rw[<-hcv2];unfold dF;rw[dn (by omega)];omega
     have c8G:decide (0<=cv2)=false:=by simp;omega
     have hN:=hI.out.step (q:=gg) (R':=Rr) (by omega) (by have:=c6W.out;omega) (by rw[hg9.out];exact HT.out) (by omega) gx;have HN:=bf hN.1;have hlo:o.length=M:=hI.out.len;clear hcv2 hge hc0 hN;have c9u:k<M:=by omega
     go_wp2_with fail
     refine(xY _ _ (dig Rr) V _ hr9 hV9 (dJ _) HVc.out (by omega)).mono ?_;rw[c4v.out];rintro e w9 ⟨rfl,hb9⟩;have b1t:=kH hO9 hb9;have hcl:w9.cell? ⟨gq,k,none⟩=some (.int .u32 (gr o k:Nat)):=by rw[b1t.cellAt k (by omega)];exact eX (by omega)
     have hfr:=b1t.frozenAt k;have hst:=b1t.stored k (.int .u32 (gg:Nat));rw[fP] at hst;have HST:=bf hst;have b9I:=(hU9.below hb9).a5i (a:=⟨gq,k,none⟩) (fun z hz=>by simp[Value.ownBlock] at hz;subst hz;exact c6j) (.int .u32 (gg:Nat));have b9J:=(hV9.below hb9).a5i (a:=⟨gq,k,none⟩) HSV.out (.int .u32 (gg:Nat));have c8M:=(hr9.below hb9).a5i (a:=⟨gq,k,none⟩) (fun z hz=>by have:=hsep.out z hz;show z≠gq;omega) (.int .u32 (gg:Nat));have b9G:=(Below.tr hB9 hb9).setCell (p:=⟨gq,k,none⟩) hzB (.int .u32 (gg:Nat));have c9v:(k:Int)<M:=by omega
     clear hst hlo
     go_wp2_with fail
     go_roundw
     case rel=>exact⟨k,Rr,_,_,pr2,cr2,rfl,rfl,by omega,rfl,c8M,HN,b9I,b9J,HST.out.1,b9G⟩
     case measure=>simp[intOf]
set_option maxRecDepth 100000
theorem IJ (s t:Value) (a b:List Nat) (w:World) (hs:Rd w s a) (ht:Rd w t b) (ha:Canon a) (hb:Canon b) (la:a.length<=1000000000) (hb0:b≠[]) :
  Calls Tryz.prog 215 #[s,t] w (a0s (dig (val a / val b)) (dig (val a%val b)) w):=by
 by_cases h2:2<=b.length
 ·by_cases hlt:val a<val b
  ·exact a9l s t a b w hs ht ha hb la h2 hlt
  ·exact a3E s t a b w hs ht ha hb la h2 (by omega)
 ·obtain⟨d0,rfl⟩:∃ d0,b=[d0]:=by
   cases b with
   | nil=>exact absurd rfl hb0
   | cons x t=>cases t with
    | nil=>exact⟨x,rfl⟩
    | cons=>simp at h2
  have:=a5c s t a d0 w hs ht ha hb la;have e:val [d0]=d0:=by simp[dA]
  rwa [e]
theorem eY.flag {w:World} {g:Bool} {s:Value} {x:Int} (h:eY w (.agg #[.bool g,s]) x):g=decide (x<0):=by obtain⟨s',e,_⟩:=h;cases e;rfl
theorem a7C (x:Int):sg (decide (x<0)) x.natAbs=x:=by unfold sg;by_cases h:x<0<;>simp[h]<;>omega
theorem b3t (n:Int) (w:World) (h0:-9223372036854775808<=n) (h1:n<=9223372036854775807) (h:n<0) :
  Calls Tryz.prog 33 #[.int .i64 n] w (FI n w):=by
 obtain⟨i0,hi,hz0,hz1,hz2⟩:=Ag gX;obtain⟨j,rfl⟩:∃ j:Nat,n=-((j:Int)+1):=⟨(-n-1).toNat,by omega⟩;have hj:j<=9223372036854775807:=by omega
 have e1:-((j:Int)+1)+1=-(j:Int):=by omega
 have hlt:decide (-((j:Int)+1)<0)=true:=jg (by omega);obtain⟨k0,hk0⟩:∃ k0,j+1=k0:=⟨_,rfl⟩;have HX:Hid (sg true (val (dig k0))=-((j:Int)+1)):=by unfold Hid;rw[bM,<-hk0];simp[sg]
 have hk1:k0<=9223372036854775808:=by omega
 have hk2:(j:Int)+1=k0:=by omega
 obtain⟨z,hz⟩:∃ z:Int,-((j:Int)+1)=z:=⟨_,rfl⟩;rw[hz] at e1 hlt HX h0 h1 ⊢;clear hk0 hz h;have hlen:Hid ((dig k0).length<=3):=dS (by rw[bV];omega);have hO:=xK w [.bool false,.slice none 0 0] 45;have hB0:Below (w.heap.size+1) (w.alloc (.cells #[.bool false,.slice none 0 0] 45)) ((w.alloc (.cells #[.bool false,.slice none 0 0] 45)).alloc (.cells #[] 148)):=(gy _ _).alloc (by simp) _
 go_enter Tryz.func33,Tryz.ntmps33
 go_wp2_with fail
 go_loopw [3,4,15,16,17,18,19,20,21,22,23,24] (fun m v _ _ _ _ _ _ _ _ _ _ wr=>∃ (k:Nat) (l:List Nat),k<=9223372036854775808/\m=.int .u64 (k:Nat)/\Hid (l++dig k=dig k0)/\wr.ownsRow (w.heap.size+1) 148 1 v l.length (cells32 l)/\Below (w.heap.size+1) (w.alloc (.cells #[.bool false,.slice none 0 0] 45)) wr) (fun m _ _ _ _ _ _ _ _ _ _ _ _=>(intOf m).toNat)
 case atStart=>exact⟨k0,[],hk1,by first|rfl|rw[hk2]|simp[hk2],by simp[Hid],hO,hB0⟩
 case round =>
  obtain⟨k,l,hk,rfl,hl,hown,hB⟩:=hrel;have hsz:w.heap.size+1<=wr.heap.size:=by have:=hB.size;simpa using this
  by_cases hk0':0<k
  ·have HS:=bf (wV hk0' hl.out);have hll:l.length<=2:=by have h1:=qw List.length hl.out;have h2:=hlen.out;rw[dh,pU (by omega:k≠0),List.length_cons] at h1;omega
   go_wp2_with (at_builtin;refine yh _ rfl _ _ 43 rfl (w.heap.size+1) 148 i0 (.int .u32 0) 1 4 ji hi hz0 hz1 hz2 rfl (by decide) _ _ _ rfl (hown.alloc _) ⟨wr.heap.size,0,none⟩ 1 1 [.int .u32 ((k%1000000000:Nat):Int)] rfl rfl (cell_one_new _ _ _) (by simp[Value.oneCell']) (by unfold maxLen;omega) (by omega) (by simp;omega) ?_)
   intro v' w1 hown' hgrow _;have hown2:w1.ownsRow (w.heap.size+1) 148 1 v' (l++[k%1000000000]).length (cells32 (l++[k%1000000000])):=by
    rw[dh,List.length_singleton];have:cells32 (l++[k%1000000000])=cells32 l++[.int .u32 ((k%1000000000:Nat):Int)]:=by simp[cells32]
    rw[this];exact hown'
   have hB1:Below (w.heap.size+1) (w.alloc (.cells #[.bool false,.slice none 0 0] 45)) w1:=(hB.alloc hsz _).grown hgrow (by simp;omega) (fun j e=>(hown.lt j e).1);clear hown' hgrow
   go_wp2_with fail
   go_roundw
   case rel=>exact⟨k / 1000000000,l++[k%1000000000],by omega,by go_num,HS,hown2,hB1⟩
   case measure=>simp[intOf];omega
  ·obtain rfl:k=0:=by omega
   have e:l=dig k0:=by rw[<-hl.out,dX,Aj]
   have hR:=Rd.dN hown;rw[e] at hR;have hll:(dig k0).length<=2000000001:=by have:=hlen.out;omega
   have q0:=(Bx.new w [.bool false,.slice none 0 0] 45).below hB (by omega);have hBw:Below w.heap.size w wr:=((gy _ _).alloc (aj _) _).trans (hB.mono (by omega));have HE:=bf e;rw[e] at hown;clear hk0' hl e;obtain rfl:=HE.out
   go_wp2_with fail
   refine(lF true _ _ _ hR (bZ _) hll).mono ?_;rw[HX.out];rintro e2 w2 ⟨v2,rfl,hi2,hb2⟩;obtain⟨g2,p2,n2,c2,rfl⟩:=hi2.form;have q2:=q0.to hb2;have r0:=q2.c0;have r1:=q2.c1;have f0:=q2.f0;have f1:=q2.f1
   go_wp2_with fail
   exact xk (v:=.agg #[.bool g2,.slice p2 n2 c2]) (by simp[results,Tryz.results33,go_sem,r0,r1]) rfl ⟨_,rfl,eY.iM hi2 q2 rfl rfl _ _,Below.iM (Below.tr hBw hb2) (aj _) _ _⟩
theorem a9k (n:Int) (w:World) (h0:-9223372036854775808<=n) (h1:n<=9223372036854775807) (h:¬ n<0) :
  Calls Tryz.prog 33 #[.int .i64 n] w (FI n w):=by
 obtain⟨i0,hi,hz0,hz1,hz2⟩:=Ag gX;obtain⟨k0,rfl⟩:=uf (Int.not_lt.1 h);have hk1:k0<=9223372036854775808:=by omega
 have hlt:decide ((k0:Int)<0)=false:=by simp
 have HX:Hid (sg false (val (dig k0))=(k0:Int)):=by unfold Hid;rw[bM];rfl
 clear h;have hlen:Hid ((dig k0).length<=3):=dS (by rw[bV];omega);have hO:=xK w [.bool false,.slice none 0 0] 45;have hB0:Below (w.heap.size+1) (w.alloc (.cells #[.bool false,.slice none 0 0] 45)) ((w.alloc (.cells #[.bool false,.slice none 0 0] 45)).alloc (.cells #[] 148)):=(gy _ _).alloc (by simp) _
 go_enter Tryz.func33,Tryz.ntmps33
 go_wp2_with fail
 go_loopw [3,4,15,16,17,18,19,20,21,22,23,24] (fun m v _ _ _ _ _ _ _ _ _ _ wr=>∃ (k:Nat) (l:List Nat),k<=9223372036854775808/\m=.int .u64 (k:Nat)/\Hid (l++dig k=dig k0)/\wr.ownsRow (w.heap.size+1) 148 1 v l.length (cells32 l)/\Below (w.heap.size+1) (w.alloc (.cells #[.bool false,.slice none 0 0] 45)) wr) (fun m _ _ _ _ _ _ _ _ _ _ _ _=>(intOf m).toNat)
 case atStart=>exact⟨k0,[],hk1,rfl,by simp[Hid],hO,hB0⟩
 case round =>
  obtain⟨k,l,hk,rfl,hl,hown,hB⟩:=hrel;have hsz:w.heap.size+1<=wr.heap.size:=by have:=hB.size;simpa using this
  by_cases hk0':0<k
  ·have HS:=bf (wV hk0' hl.out);have hll:l.length<=2:=by have h1:=qw List.length hl.out;have h2:=hlen.out;rw[dh,pU (by omega:k≠0),List.length_cons] at h1;omega
   go_wp2_with (at_builtin;refine yh _ rfl _ _ 43 rfl (w.heap.size+1) 148 i0 (.int .u32 0) 1 4 ji hi hz0 hz1 hz2 rfl (by decide) _ _ _ rfl (hown.alloc _) ⟨wr.heap.size,0,none⟩ 1 1 [.int .u32 ((k%1000000000:Nat):Int)] rfl rfl (cell_one_new _ _ _) (by simp[Value.oneCell']) (by unfold maxLen;omega) (by omega) (by simp;omega) ?_)
   intro v' w1 hown' hgrow _;have hown2:w1.ownsRow (w.heap.size+1) 148 1 v' (l++[k%1000000000]).length (cells32 (l++[k%1000000000])):=by
    rw[dh,List.length_singleton];have:cells32 (l++[k%1000000000])=cells32 l++[.int .u32 ((k%1000000000:Nat):Int)]:=by simp[cells32]
    rw[this];exact hown'
   have hB1:Below (w.heap.size+1) (w.alloc (.cells #[.bool false,.slice none 0 0] 45)) w1:=(hB.alloc hsz _).grown hgrow (by simp;omega) (fun j e=>(hown.lt j e).1);clear hown' hgrow
   go_wp2_with fail
   go_roundw
   case rel=>exact⟨k / 1000000000,l++[k%1000000000],by omega,by go_num,HS,hown2,hB1⟩
   case measure=>simp[intOf];omega
  ·obtain rfl:k=0:=by omega
   have e:l=dig k0:=by rw[<-hl.out,dX,Aj]
   have hR:=Rd.dN hown;rw[e] at hR;have hll:(dig k0).length<=2000000001:=by have:=hlen.out;omega
   have q0:=(Bx.new w [.bool false,.slice none 0 0] 45).below hB (by omega);have hBw:Below w.heap.size w wr:=((gy _ _).alloc (aj _) _).trans (hB.mono (by omega));have HE:=bf e;rw[e] at hown;clear hk0' hl e;obtain rfl:=HE.out
   go_wp2_with fail
   refine(lF false _ _ _ hR (bZ _) hll).mono ?_;rw[HX.out];rintro e2 w2 ⟨v2,rfl,hi2,hb2⟩;obtain⟨g2,p2,n2,c2,rfl⟩:=hi2.form;have q2:=q0.to hb2;have r0:=q2.c0;have r1:=q2.c1;have f0:=q2.f0;have f1:=q2.f1
   go_wp2_with fail
   exact xk (v:=.agg #[.bool g2,.slice p2 n2 c2]) (by simp[results,Tryz.results33,go_sem,r0,r1]) rfl ⟨_,rfl,eY.iM hi2 q2 rfl rfl _ _,Below.iM (Below.tr hBw hb2) (aj _) _ _⟩
theorem b7f (n:Int) (w:World) (h0:-9223372036854775808<=n) (h1:n<=9223372036854775807) :
  Calls Tryz.prog 33 #[.int .i64 n] w (FI n w):=by
 by_cases h:n<0
 ·exact b3t n w h0 h1 h
 ·exact a9k n w h0 h1 h
theorem b7e {a b:Int} (h:a=b):Ending.returned (.int .u64 a)=.returned (.int .u64 b):=by rw[h]
theorem b2P {l:List Nat} (h:l.length<=2):gr l 1*1000000000+gr l 0=val l:=by
 match l,h with
 | [],_=>simp[gr,val]
 | [a],_=>simp[gr,dA,val]
 | [a,b],_=>simp[gr,dA,val,bV];omega
theorem ZV (s:Value) (l:List Nat) (w:World) (hs:Rd w s l) (hl:Low l) (h2:l.length<=2) :
  Calls Tryz.prog 216 #[s] w fun e w'=>e=.returned (.int .u64 (val l:Nat))/\w=w':=by
 have hv:=b2P h2;have g1:=gJ hl 1;have g0:=gJ hl 0;obtain⟨x1,hx1⟩:∃ x1,gr l 1=x1:=⟨_,rfl⟩;obtain⟨x0,hx0⟩:∃ x0,gr l 0=x0:=⟨_,rfl⟩;rw[hx1,hx0] at hv;rw[hx1] at g1;rw[hx0] at g0;have HX:=bf (And.intro hx1 (And.intro hx0 hv));clear hx1 hx0 hv
 go_enter Tryz.func216,Tryz.ntmps216
 go_wp2_with fail
 refine(group_any _ l 1 _ hs hl (by omega)).mono ?_;rw[show (1:Int).toNat=1 from rfl,HX.out.1];rintro e w' ⟨rfl,rfl⟩
 go_wp2_with fail
 refine(group_any _ l 0 _ hs hl (by omega)).mono ?_;rw[show (0:Int).toNat=0 from rfl,HX.out.2.1];rintro e w' ⟨rfl,rfl⟩
 go_wp2_with fail
 go_ret
 exact⟨b7e (by rw[<-HX.out.2.2];simp),rfl⟩
end Go.Proofs.YtbkocjmmbkifjaaGreat
