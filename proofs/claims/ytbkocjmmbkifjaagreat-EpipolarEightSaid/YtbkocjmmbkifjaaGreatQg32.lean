/-
  The law EpipolarEight of chapter 28: Eight returns the canonical matrix of the equations of all pairs, or the code; the equations hold.
-/
import Derived.Test.YtbkocjmmbkifjaaGreatQg31
namespace Go.Proofs.YtbkocjmmbkifjaaGreat
open Go Go.RowKit
set_option maxRecDepth 100000
set_option maxHeartbeats 4000000
set_option linter.unusedVariables false
set_option linter.unusedSimpArgs false
def nP (p:aX):Prop:=nI p.1.1/\nI p.1.2.1/\nI p.2.1.1/\nI p.2.1.2.1
theorem nI.cd {n:Int} (h:nI n):cdI n:=⟨by have:=h.1;omega,by have:=h.2;omega⟩
theorem nP.cd {p:aX} (h:nP p):cdP p.1/\cdP p.2.1:=⟨⟨h.1.cd,h.2.1.cd⟩,h.2.2.1.cd,h.2.2.2.cd⟩
theorem b2Q (l:List aX):rqM (l.map jL)=l.map fC:=by unfold rqM;rw[List.map_map];rfl
theorem a9X {l:List aX} (h1:1<=l.length) (h2:l.length<=64) (hn:∀ p ∈ l,nP p):KX (l.map jL):=⟨by rw[ru];omega,by rw[ru];omega,fun r hr=>by obtain⟨p,_,rfl⟩:=qm.1 hr;rfl,fun r hr n h=>by obtain⟨p,hp,rfl⟩:=qm.1 hr;exact a9V (hn p hp) n h⟩
theorem II (l:LQ'):(uM l).flatten=l:=by
 show l.take 3++((l.take 6).drop 3++(l.drop 6++[]))=l
 have e:l.take 3=(l.take 6).take 3:=by rw[List.take_take];rfl
 rw[e,<-uz,Ad,Aw,Ad]
theorem ZQ {l r:LQ'} (hr:r ∈ uM l) {q:Rat} (hq:q ∈ r):q ∈ l:=by
 rw[<-II l];exact List.mem_flatten.2 ⟨r,hr,hq⟩
theorem b1n {l:LQ'} (h9:l.length=9) (hs:∀ q ∈ l,rsz q<=1000000):m33 1000000 (uM l):=by
 have hl:∀ r ∈ uM l,r.length=3:=fun r hr=>by
  simp only[uM,qp,Dt,or_false] at hr
  rcases hr with rfl|rfl|rfl<;>simp[h9]
 have hm:isM (uM l) 3 3:=⟨rfl,hl,by omega,by omega,by omega,by omega⟩
 refine⟨hm,fun i hi j hj=>?_⟩
 rw[hm.wd] at hj
 have hr:=fO (xs:=uM l) (d:=[]) (i:=i) hi
 exact hs _ (ZQ hr (fO (by rw[hl _ hr];exact hj)))
noncomputable def b9v:Ctr:=⟨[.list sZ],[.list (.list tQ)],fun x=>1<=(show List aX from x.1).length/\(show List aX from x.1).length<=64/\∀ p ∈ (show List aX from x.1),nP p,fun x=>(iL x.1,())⟩
theorem a9j:aI Tryz.prog 140 b9v:=by
 refine aO ((nil0.ad a1a).ad b1T) ⟨[5],[],[]⟩ Tryz.func140 rfl (by decide) (fun x=>[.inv {k:Nat // k<=(show List aX from x.1).length} (fun k=>[(8,.val tI (k.1:Int)),(3,.own 15 0),(15,.any)]) (fun k=>[(15,.row 63 (.list tI) (((show List aX from x.1).take k.1).map jL) 0)]) (fun k=>(show List aX from x.1).length-k.1) ⟨0,by omega⟩ (fun _=>[])]) (fun x hp=>?_)
 obtain⟨l,u⟩:=x
 change List aX at l
 refine aY ((asT Int 0=0/\(True/\asT (List (List Int)) (aG (List Int))=aG (List Int))/\(asT (List (List Int)) (aG (List Int))=aG (List Int)/\0=0/\asT Bool true=true)/\True)/\∀ (i:{ k:Nat // k<=List.length l }),let A₀:=(List.getD l (aB (aA i)).toNat gB);let A₂:=A₀.2.1;let aW:=(List.map jL (List.take (aA i) l));let bW:=A₀.1.2;let A₁:=(Prod.fst A₂*Prod.fst A₀.1::Prod.fst A₂*Prod.fst bW::Prod.fst A₂*1::Prod.fst A₂.2*Prod.fst A₀.1::Prod.fst A₂.2*Prod.fst bW::Prod.fst A₂.2*1::1*Prod.fst A₀.1::1*Prod.fst bW::1*1::aG Int);asT Bool true=true/\ifB (decide (aB (aA i)<aB l.length)) ((0<=aB (aA i)/\aB (aA i)<aB l.length/\True)/\((cdP (Prod.fst A₀.1,Prod.fst bW,())/\cdP (Prod.fst A₂,Prod.fst A₂.2,()))/\List.length aW+List.length (A₁::aG (List Int))<=1000000000/\True)/\∃ (i':{ k:Nat // k<=List.length l }),List.length l-aA i'<List.length l-aA i/\IntKind.wrap IntKind.i64 (aB (aA i)+1)=aB (aA i')/\List.map jL (List.take (aA i) l)++A₁::aG (List Int)=List.map jL (List.take (aA i') l)/\True) (((KX aW/\asT Int 9=9)/\True)/\True/\sV (rqM aW)=iL l/\True)) (by kernel_rfl) ?_
 have hZ:(⟨false,0,[],[]⟩:aH)=bF:=rfl
 try simp only[aF,ak,ah]
 try dsimp only[aB,asT,aA,aG,Ty.den,Lf.den] at *
 try simp only[hZ,Int.toNat_natCast,aF,ak,ah,jo,jm,iq,dh]
 try simp only[cZ,cO,List.all_cons,List.all_nil,jr,gy,iw,jf,ni,ne_eq,au,bg,eu,ig,jh,qh,jy,ql,jo,jm,je,dn,List.length_cons,List.length_nil]
 obtain⟨h1,h64,hn⟩:1<=l.length/\l.length<=64/\∀ p ∈ l,nP p:=hp
 refine fun i=>⟨fun g1=>?_,fun g1=>?_⟩
 ·have hi:i.1<l.length:=by omega
  refine⟨⟨by omega,g1⟩,⟨(hn _ (fO (d:=gB) hi)).cd,by rw[ru,mg];omega⟩,⟨i.1+1,by omega⟩,by simp only;omega,by rw[aS (by omega) (by omega)];rfl,?_⟩
  show _=List.map jL (List.take (i.1+1) l)
  rw[Ar,Az,dw hi,bn,dw hi];rfl
 ·rw[jv (by omega),b2Q]
  exact⟨a9X h1 h64 hn,rfl⟩
noncomputable def c1s:Ctr:=⟨[.list sZ],[tM,tI],fun x=>nrP x.1,fun x=>gW x.1⟩
theorem b1t:aI Tryz.prog 51 c1s:=by
 refine aO ((((nil0.ad a9Q).ad a9j).ad a1i).ad a6S) ⟨[],[],[]⟩ Tryz.func51 rfl (by decide) (fun x=>[]) (fun x hp=>?_)
 obtain⟨l,u⟩:=x
 change List aX at l
 refine aY (let aW:=(List.getD (iL l) 0 (aG Rat));let A₀:=(List.take 3 aW::List.drop 3 (List.take 6 aW)::List.drop 6 aW::aG (List Rat));let A₂:=(List.map (fun(n:Int)=>bV n) (nT (List.flatten A₀)));let bW:=(aB l.length<8);let A₁:=(decide bW==false);let eU:=(iL l).length;let gY:=(A₁=true->A₁=true/\True);(gY/\gY/\(decide bW=false->A₁=true)/\True)/\ifB (bif decide bW then true else decide (aB l.length > 64)) (True/\aG (List Rat)=Prod.fst (gW l)/\True/\3=Prod.fst (gW l).2/\True) ((List.length l<=1000000/\True)/\ifB (qH l != 0) (True/\aG (List Rat)=Prod.fst (gW l)/\True/\qH l=Prod.fst (gW l).2/\True) (((1<=List.length l/\List.length l<=64/\∀ (p:aX),p ∈ l->nP p)/\True)/\ifB (aB eU==0) (True/\aG (List Rat)=Prod.fst (gW l)/\True/\6=Prod.fst (gW l).2/\True) (ifB (decide (aB eU > 1)) (True/\aG (List Rat)=Prod.fst (gW l)/\True/\13=Prod.fst (gW l).2/\True) ((asT Int 0<=0/\0<aB eU/\List.length aW=9/\(m33 1000000 A₀/\∃ (q:Rat),q ∈ List.flatten A₀/\q≠0)/\True)/\True/\List.take 3 A₂::List.drop 3 (List.take 6 A₂)::List.drop 6 A₂::aG (List Rat)=Prod.fst (gW l)/\True/\0=Prod.fst (gW l).2/\True))))) (by kernel_rfl) ?_
 have hZ:(⟨false,0,[],[]⟩:aH)=bF:=rfl
 try simp only[aF,ak,ah]
 try dsimp only[aB,asT,aA,aG,Ty.den,Lf.den] at *
 try simp only[hZ,Int.toNat_natCast,aF,ak,ah,jo,jm,iq,dh]
 try simp only[cZ,cO,List.all_cons,List.all_nil,jr,gy,iw,jf,ni,ne_eq,au,bg,eu,ig,jh,qh,jy,ql,jo,jm,je,dn,List.length_cons,List.length_nil]
 obtain⟨h9,hn⟩:nrP l:=hp
 refine⟨fun h=>qo h,fun h=>?_,fun h=>?_⟩
 ·have h:l.length<8\/l.length > 64:=h.elim (fun h=>.inl (by have:=vw h;omega)) (fun h=>.inr (by have:=vw h;omega))
  rw[show gW l=([],3,()) from jl h];exact⟨rfl,rfl⟩
 ·have h8:¬ l.length<8:=by have:=vk h.1;omega
  have h64:¬ l.length > 64:=by have:=vk h.2;omega
  have hh:¬ (l.length<8\/l.length > 64):=fun e=>e.elim h8 h64
  refine⟨by omega,fun hr=>?_,fun hr=>?_⟩
  ·rw[show gW l=([],2,()) from(jd hh).trans (jl hr)]
   refine⟨rfl,?_⟩
   unfold qH at hr ⊢
   cases e:l.any CQ
   ·rw[e] at hr;exact absurd rfl hr
   ·rfl
  ·have e0:gW l=if (iL l).length=0 then ([],6,()) else if (iL l).length=1 then (CJ ((iL l).getD 0 []),0,()) else ([],13,()):=(jd hh).trans (jd (fun e=>e hr))
   refine⟨⟨by omega,by omega,a9d hn hr⟩,fun h3=>?_,fun h3=>⟨fun h4=>?_,fun h4=>?_⟩⟩
   ·have h3:(iL l).length=0:=Int.ofNat.inj h3
    rw[e0,jl h3];exact⟨rfl,rfl⟩
   ·have h3:¬ (iL l).length=0:=fun e=>h3 (xg Int.ofNat e)
    have h4:¬ (iL l).length=1:=by have h4:((iL l).length:Int) > 1:=h4;omega
    rw[e0,jd h3,jd h4];exact⟨rfl,rfl⟩
   ·have h3:¬ (iL l).length=0:=fun e=>h3 (xg Int.ofNat e)
    have h4:(iL l).length=1:=by have h4:¬ ((iL l).length:Int) > 1:=h4;omega
    have hv:=YA (by omega) (by omega) hn hr _ (fO (xs:=iL l) (i:=0) (d:=[]) (by omega))
    rw[e0,jd h3,jl h4]
    have hf:=II ((iL l).getD 0 [])
    refine⟨⟨by omega,by show (0:Int)<((iL l).length:Int);omega,hv.2,b1n hv.2 hv.1.2.1,?_⟩,?_,rfl⟩
    ·obtain⟨q,h5,h6⟩:=hv.1.2.2
     exact⟨q,by show q ∈ (uM ((iL l).getD 0 [])).flatten;rw[hf];exact h5,h6⟩
    ·show CJ (uM ((iL l).getD 0 [])).flatten=CJ ((iL l).getD 0 [])
     rw[hf]
theorem a6R {l:LQ'} (h:BF l) (h9:l.length=9):LD (CJ l):=by
 have hl:((nT l).map fun n=>bV n).length=9:=by rw[ru,yO,h9]
 have hs:∀ q ∈ ((nT l).map fun n=>bV n),rsz q<=100000000:=fun q hq=>by
  obtain⟨n,hn,rfl⟩:=qm.1 hq
  have:=a4o h n hn
  have h2:rsz (bV n)<=isz n+1:=MS n
  omega
 refine⟨by show 3<=1000;omega,fun r hr=>?_⟩
 simp only[CJ,uM,qp,Dt,or_false] at hr
 rcases hr with rfl|rfl|rfl
 ·exact⟨by rw[mg];omega,fun q hq=>hs q (Bc hq)⟩
 ·exact⟨by rw[Ae,mg];omega,fun q hq=>hs q (Bc (List.mem_of_mem_drop hq))⟩
 ·exact⟨by rw[Ae];omega,fun q hq=>hs q (List.mem_of_mem_drop hq)⟩
theorem a7j {K:Nat} {l:LQ'} (h9:l.length=9) (hs:∀ q ∈ l,rsz q<=K):m33 K (uM l):=by
 have hl:∀ r ∈ uM l,r.length=3:=fun r hr=>by
  simp only[uM,qp,Dt,or_false] at hr
  rcases hr with rfl|rfl|rfl<;>simp[h9]
 have hm:isM (uM l) 3 3:=⟨rfl,hl,by omega,by omega,by omega,by omega⟩
 refine⟨hm,fun i hi j hj=>?_⟩
 rw[hm.wd] at hj
 have hr:=fO (xs:=uM l) (d:=[]) (i:=i) hi
 exact hs _ (ZQ hr (fO (by rw[hl _ hr];exact hj)))
theorem c0H (q:Rat):q*bV ((q.den:Nat):Int)=bV q.num:=by
 have h:bV ((q.den:Nat):Int)≠0:=fun e=>by
  have e:(((q.den:Nat):Int):Rat)=((0:Int):Rat):=e
  have:=Rat.intCast_inj.1 e
  have:=q.den_nz
  omega
 have e:q=bV q.num / bV ((q.den:Nat):Int):=by
  show q=((q.num:Int):Rat) / (((q.den:Nat):Int):Rat)
  rw[<-Eb];exact(Rat.num_divInt_den q).symm
 have m:=Bl _ h
 rw[Rat.div_def] at e
 have e2:q*bV ((q.den:Nat):Int)=bV q.num*(bV ((q.den:Nat):Int))⁻¹*bV ((q.den:Nat):Int):=xg (fun r=>r*bV ((q.den:Nat):Int)) e
 rw[e2,Rat.mul_assoc,Rat.mul_comm (bV ((q.den:Nat):Int))⁻¹,m,Rat.mul_one]
theorem b9H {D:Int} {q:Nat->Rat} {j:Nat} (h:((q j).den:Int) ∣ D):bV (NU D q j)=bV D*q j:=by
 unfold NU
 obtain⟨t,rfl⟩:=h
 have hd:((q j).den:Int)≠0:=by have:=(q j).den_nz;omega
 have e:=c0H (q j)
 rw[Bo _ hd,ES,ES,<-e]
 grind
theorem c2y {xs:Nat->Int} {n j:Nat} (hj:j<n) (h0:prG xs n≠0):bV (prG xs n)*bV (prN xs n j)=bV (xs j):=by
 obtain⟨t,e⟩:=a4j (xs:=xs) hj
 unfold prN
 rw[e,Bo _ h0,ES]
theorem b1b {l:LQ'} (h:BF l) (r:Nat->Rat) (hz:sm l.length (fun j=>r j*lv l j)=0):sm l.length (fun j=>r j*bV ((nT l).getD j 0))=0:=by
 obtain⟨hK,j0,hj0,hx0⟩:=h.at
 have hg:prG (lcN l) l.length≠0:=QS hj0 (DX (EY _ _) (nO hj0) hx0)
 have hgq:bV (prG (lcN l) l.length)≠0:=fun e=>by
  have e:((prG (lcN l) l.length:Int):Rat)=((0:Int):Rat):=e
  exact hg (Rat.intCast_inj.1 e)
 have e:∀ j,j<l.length->bV (prG (lcN l) l.length)*(r j*bV ((nT l).getD j 0))=bV (kG (lv l) l.length)*(r j*lv l j):=fun j hj=>by
  have e1:(nT l).getD j 0=prN (lcN l) l.length j:=by unfold nT a9z;exact iR hj
  rw[e1]
  have e2:bV (prG (lcN l) l.length)*bV (prN (lcN l) l.length j)=bV (lcN l j):=c2y hj hg
  have e3:bV (lcN l j)=bV (kG (lv l) l.length)*lv l j:=b9H (nO hj)
  rw[e3] at e2
  generalize bV (prG (lcN l) l.length)=a at *
  generalize bV (prN (lcN l) l.length j)=b at *
  generalize bV (kG (lv l) l.length)=d at *
  generalize lv l j=f at *
  generalize r j=k
  grind
 have e4:=jF l.length e
 rw[DI,DI,hz,Rat.mul_zero] at e4
 exact(Rat.mul_eq_zero.1 e4).resolve_left hgq
theorem b2q {l:List aX} (h1:1<=l.length) (h2:l.length<=64) {v:LQ'} (hv:v ∈ iL l) {i:Nat} (hi:i<l.length):sm 9 (fun j=>lv (fC (l.getD i gB)) j*lv v j)=0:=by
 have hm:=MW h1 h2
 have E:=fH l.length (ent (l.map fC)) 9
 unfold iL sV uZ at hv
 rw[hm.len,hm.wd] at hv
 obtain⟨j,hj,rfl⟩:=qm.1 hv
 obtain⟨hj9,hjp⟩:=qQ.1 hj
 have hz:=E.null hj9 hjp i hi
 unfold mv at hz
 rw[<-hz]
 refine jF 9 fun c hc=>?_
 have e1:lv (fC (l.getD i gB)) c=ent (l.map fC) i c:=by rw[b0g hi hc];exact(YG _ hc).symm
 rw[e1]
 exact xg _ (iR hc)
theorem b5y {l:List aX} (h1:1<=l.length) (h2:l.length<=64) (hn:l.any nZ=false) (hr:qH l=0):∀ v ∈ iL l,∀ q ∈ v,rsz q<=1100:=fun v hv q hq=>by
 have hm:=MW h1 h2
 have hc:=(a2E h1 h2 hn hr).red 9 (ay _)
 have E:=fH l.length (ent (l.map fC)) 9
 unfold iL sV uZ at hv
 rw[hm.len,hm.wd] at hv
 obtain⟨j,hj,rfl⟩:=qm.1 hv
 obtain⟨hj9,hjp⟩:=qQ.1 hj
 obtain⟨c,hc9,rfl⟩:=qm.1 hq
 unfold KZ
 split
 ·decide +kernel
 ·split
  ·rename_i hcp
   have h3:=(FH hcp).1
   rw[FW]
   exact jc (hc.rsz (oq h3 E.le) hj9) (by omega)
  ·decide +kernel
theorem b4v {l:LQ'} (h:BF l) (h9:l.length=9) (hs:∀ q ∈ l,rsz q<=1100):m33 12000 (CJ l):=by
 obtain⟨hK,j0,hj0,hx0⟩:=h.at
 have hg:prG (lcN l) l.length≠0:=QS hj0 (DX (EY _ _) (nO hj0) hx0)
 have hK:∀ j,j<l.length->rsz (lv l j)<=1100:=fun j hj=>dB hs hj
 have hN:∀ j,j<l.length->isz (lcN l j)<=11001:=fun j hj=>jc (DW (jc (EX hK _ (ay _)) (show _<=9901 by omega)) (nO hj) (hK j hj)) (by omega)
 have hP:∀ q ∈ (nT l).map (fun n=>bV n),rsz q<=12000:=fun q hq=>by
  obtain⟨n,hn,rfl⟩:=qm.1 hq
  have h2:rsz (bV n)<=isz n+1:=MS n
  obtain⟨j,hj,rfl⟩:=qm.1 hn
  have hj:=uj.1 hj
  have h3:isz (prN (lcN l) l.length j)<=11001:=a4l hj hg (hN j hj)
  exact jc h2 (jc (Nat.add_le_add_right h3 1) (by omega))
 have hl9:((nT l).map (fun n=>bV n)).length=9:=by rw[ru,yO,h9]
 exact a7j hl9 hP
theorem TJ (l:List aX):((gW l).1=[]/\(gW l).2.1≠0)\/(8<=l.length/\l.length<=64/\qH l=0/\(iL l).length=1/\(gW l).1=CJ ((iL l).getD 0 [])):=by
 unfold gW
 by_cases hh:l.length<8\/l.length > 64
 ·rw[jl hh];exact .inl ⟨rfl,by decide⟩
 ·rw[jd hh]
  by_cases hr:qH l≠0
  ·rw[jl hr];exact .inl ⟨rfl,by decide⟩
  ·rw[jd hr]
   by_cases h3:(iL l).length=0
   ·rw[jl h3];exact .inl ⟨rfl,by decide⟩
   ·rw[jd h3]
    by_cases h4:(iL l).length=1
    ·rw[jl h4];exact .inr ⟨by omega,by omega,Decidable.not_not.1 hr,h4,rfl⟩
    ·rw[jd h4];exact .inl ⟨rfl,by decide⟩
theorem b4y {l:List aX} (hn:l.any nZ=false):LD (gW l).1:=by
 rcases TJ l with⟨h,_⟩|⟨h1,h2,hr,h4,h⟩
 ·rw[h];exact⟨uw _,fun r hr=>nomatch hr⟩
 ·have hv:=YA (by omega) h2 hn hr _ (fO (xs:=iL l) (i:=0) (d:=[]) (by omega))
  rw[h];exact a6R hv.1 hv.2
theorem b5n {P:List Int} {c:Nat} (h:c<P.length):lv (P.map fun n=>bV n) c=bV (P.getD c 0):=by
 show (P.map fun n=>bV n).getD c 0=_
 rw[bn,uf,dw h,bn,dw h];rfl
theorem b1v {l:List aX} (hn:l.any nZ=false) (h0:(gW l).2.1=0) {i:Nat} (hi:i<l.length):m33 12000 (gW l).1/\(cdP (l.getD i gB).1/\cdP (l.getD i gB).2.1)/\b2S (gW l).1 (l.getD i gB)=0:=by
 rcases TJ l with⟨_,h⟩|⟨h1,h2,hr,h4,h⟩
 ·exact absurd h0 h
 ·have hm:=fO (xs:=iL l) (i:=0) (d:=[]) (by omega)
  have hv:=YA (by omega) h2 hn hr _ hm
  have h33:=b4v hv.1 hv.2 (b5y (by omega) h2 hn hr _ hm)
  have hz:=b1b hv.1 (lv (fC (l.getD i gB))) (by rw[hv.2];exact b2q (by omega) h2 hm hi)
  rw[h]
  refine⟨h33,a2u hr _ (fO hi),?_⟩
  rw[<-a1e h33]
  rw[hv.2] at hz
  rw[<-hz]
  unfold b2T qL
  refine jF 9 fun c hc=>xg _ ?_
  unfold CJ
  rw[II]
  exact b5n (by rw[yO,hv.2];exact hc)
noncomputable def c1K:Ctr:=⟨[tM,sZ],[tQ],fun x=>m33 12000 x.1/\cdP x.2.1.1/\cdP x.2.1.2.1,fun x=>(b2S x.1 x.2.1,())⟩
theorem b0a:aI Tryz.prog 43 c1K:=b1m b2U fun x hp=>xg (fun r:Rat=>(r,())) (a1e hp.1 _)
noncomputable def c1q:Ctr:=⟨[.list sZ],[tB],fun x=>(show List aX from x.1).length<=9223372036854775807,fun _=>(true,())⟩
theorem b1s:aI Tryz.prog 8 c1q:=by
 refine aO (((((((nil0.ad b0b).ad a5F).ad a9c).ad b1u).ad b1t).ad a6m).ad b0a) ⟨[8],[],[]⟩ Tryz.func8 rfl (by decide) (fun x=>[.inv {k:Nat // k<=(show List aX from x.1).length} (fun k=>[(45,.val tI (k.1:Int))]) (fun k=>[]) (fun k=>(show List aX from x.1).length-k.1) ⟨0,by omega⟩ (fun _=>[])]) (fun x hp=>?_)
 obtain⟨l,u⟩:=x
 change List aX at l
 refine aY (let A₁:=(Prod.fst (gW l).2 != Prod.fst (gW l).2);let aW:=(aB l.length > 9);let A₀:=(bif decide aW then decide (aB l.length<=64) else false);let bW:=((decide aW==true)=true->(decide aW==true)=true/\True);let eU:=(True/\asT Bool false=true/\True);let gY:=(True/\asT Bool true=true/\True);let dG:=(Prod.fst (gW l).2==0);let A₂:=(dG==true);(True/\True)/\(bW/\bW/\(decide aW=true->(decide aW==true)=true)/\((A₀==false)=true->(A₀==false)=true/\List.length l<=9223372036854775807/\True)/\((A₀==false)=true->(A₀==false)=true/\True)/\(A₀=false->(A₀==false)=true)/\True)/\ifB (bif bif decide aW then decide (aB l.length<=64) else false then true else !!List.any l nZ) gY ((nrP l/\True)/\(nrP l/\True)/\(((A₁==false)=true->(A₁==false)=true/\(A₁==false)=true/\(LD (gW l).1/\LD (gW l).1)/\True)/\((A₁==false)=true->(A₁==false)=true/\True)/\(A₁=false->(A₁==false)=true)/\True)/\ifB (bif Prod.fst (gW l).2 != Prod.fst (gW l).2 then true else !decide (Prod.fst (gW l)=Prod.fst (gW l))) eU ((asT Int 0=0/\True)/\∀ (i:{ k:Nat // k<=List.length l }),let gJ:=(List.getD l (aB (aA i)).toNat gB);let eH:=(Prod.fst gJ.2.1,Prod.fst gJ.2.1.2,());let fZ:=(Prod.fst gJ.1,Prod.fst gJ.1.2,());let fJ:=(b2S (gW l).1 (fZ,eH,()));asT Bool true=true/\ifB (decide (aB (aA i)<aB l.length)) ((0<=aB (aA i)/\aB (aA i)<aB l.length/\True)/\((A₂=true->A₂=true/\A₂=true/\(m33 12000 (gW l).1/\cdP fZ/\cdP eH)/\True)/\(A₂=true->A₂=true/\rsz fJ<=190000000/\True)/\(A₂=true->A₂=true/\True)/\(dG=true->A₂=true)/\True)/\ifB (bif Prod.fst (gW l).2==0 then sgn (Rat.num fJ) != 0 else false) eU (∃ (i':{ k:Nat // k<=List.length l }),List.length l-aA i'<List.length l-aA i/\IntKind.wrap IntKind.i64 (aB (aA i)+1)=aB (aA i')/\True)) gY))) (by kernel_rfl) ?_
 have hZ:(⟨false,0,[],[]⟩:aH)=bF:=rfl
 try simp only[aF,ak,ah]
 try dsimp only[aB,asT,aA,aG,Ty.den,Lf.den] at *
 try simp only[hZ,Int.toNat_natCast,aF,ak,ah,jo,jm,iq,dh]
 try simp only[cZ,cO,List.all_cons,List.all_nil,jr,gy,iw,jf,ni,ne_eq,au,bg,eu,ig,jh,qh,jy,ql,jo,jm,je,dn,List.length_cons,List.length_nil]
 have hp:l.length<=9223372036854775807:=hp
 refine⟨⟨fun h=>xk h,fun h=>⟨h,hp⟩⟩,fun g=>?_⟩
 have hnr:nrP l:=⟨by
  by_cases h:l.length<=9
  ·exact .inl h
  ·have:=vk (g.1 (xk (by omega)))
   exact .inr (by omega),g.2⟩
 refine⟨hnr,hnr,fun _=>b4y g.2,fun h=>by simp at h,fun _ i h1=>?_⟩
 have key:=fun h=>b1v g.2 h (show i.1<l.length by omega)
 refine⟨⟨by omega,h1⟩,⟨fun h=>⟨h,h,(key h).1,(key h).2.1.1,(key h).2.1.2⟩,fun h=>⟨h,jc (Nat.le_of_eq (xg rsz (key h).2.2)) (by decide +kernel)⟩⟩,fun h=>(h.2 (xg (fun r:Rat=>sgn r.num) (key h.1).2.2)).elim,fun _=>⟨⟨i.1+1,by omega⟩,by simp only;omega,by rw[aS (by omega) (by omega)];rfl⟩⟩
section
open Go Go.ChangeShapes Go.WideShapes Go.ChangeAt Go.RowKit Go.Joins
set_option maxRecDepth 100000 in
theorem AX {pre:(nest [(.list (.pair (.pair (.int .i64) (.pair (.int .i64) .unit)) (.pair (.pair (.int .i64) (.pair (.int .i64) .unit)) .unit)))]).den->Prop} (h:aI Tryz.prog 8 ⟨[(.list (.pair (.pair (.int .i64) (.pair (.int .i64) .unit)) (.pair (.pair (.int .i64) (.pair (.int .i64) .unit)) .unit)))],[.bool],pre,fun _=>(true,())⟩) (hp:∀ (x0:Ty.den (.list (.pair (.pair (.int .i64) (.pair (.int .i64) .unit)) (.pair (.pair (.int .i64) (.pair (.int .i64) .unit)) .unit)))),good (.list (.pair (.pair (.int .i64) (.pair (.int .i64) .unit)) (.pair (.pair (.int .i64) (.pair (.int .i64) .unit)) .unit))) x0->pre (x0,())):Rows.EpipolarEightSaid:=by
 have lifted:∀ (os:Os) (started:os.Started) (H:Type) (enc:TypeId × Value->H),ReturnsInHanded {} Tryz.checked os 8 .any (Rows.epipolarEightSpec.pre6 enc Tryz.prog Tryz.f8 Rows.epipolarEightRow.domain false) (Rows.epipolarEightSpec.post enc Tryz.prog Tryz.f8 false true false false):=by
  intro os started H enc
  refine returnsInHanded_of_change (C:=Tryz.checked) own started (by kernel_rfl) Tryz.func8
   (ChangeSpec.witness6 (enc:=enc) (C:=Tryz.checked) false ⟨#[],#[.slice none 0 0],[]⟩ 8 (by kernel_rfl) (by kernel_rfl) (by kernel_rfl) (by kernel_rfl)) ?_
  intro W base args ds gs before hval0 hW hcnd _
  have hval:∀ (j:Nat) t v,Tryz.f8.params[j]?=some t->args[j]?=some v->Value.okWide Tryz.prog W .any base t v:=hval0
  have hW':=hW
  obtain⟨p,q,hA0,hV,rfl,hfz,hnd⟩:=hW
  have hA:DataW.TrodAll enc Tryz.prog W 0 (fun _=>true) true Tryz.f8.params.toList args.toList ds p:=hA0
  rw[Tryz.params8] at hA hval
  obtain⟨v0,vs0,d0,ds0,p0,q0,hargs,rfl,rfl,h0,r0⟩:=trodAll_cons hA
  obtain⟨rfl,rfl,rfl⟩:=trodAll_nil r0
  obtain rfl:args=#[v0]:=by cases args;simp_all
  obtain⟨rfl,rfl⟩:=trodVars_none hV
  obtain⟨x0,k0,g0⟩:=b4q (t:=.list (.pair (.pair (.int .i64) (.pair (.int .i64) .unit)) (.pair (.pair (.int .i64) (.pair (.int .i64) .unit)) .unit))) (by kernel_rfl) (hval 0 82 v0 rfl rfl) h0
  have l0:∀ x ∈ p0,x.block<W.heap.size:=fun x hx=>hW'.lt x (by simp[hx])
  refine(h (a1D W) W [v0] (x0,()) (fun q hq=>hq) ⟨_,_,rfl,k0,rfl⟩ (hp x0 g0)).mono fun e W' ⟨v,he,hr,hg⟩=>?_
  subst he
  have hr:iV _ W' .bool v true:=hr
  rw[a1E hr]
  exact⟨_,rfl,_,_,_,[],_,[],hW',trodAll_cons_mk (shut_bool Tryz.underlying4 _) trodAll_mk0,(trodAll_cons_mk (Below.trod laidOut (by kernel_rfl) (vw (by kernel_rfl)) h0 hg l0) trodAll_mk0),rfl,hg.frame _,fun h=>by cases h⟩
 exact OpenClaim.holds_of_wide 8 Tryz.f8 rfl rfl rfl rfl rfl rfl rfl ⟨rfl,rfl,rfl,rfl,rfl⟩ rfl rfl rfl rfl rfl (by kernel_rfl) Tryz.func8 (by kernel_rfl)
  (vw (by kernel_rfl)) (by unfold Func.isWrapper;first|(rw[jl (by decide +kernel)];kernel_rfl)|(rw[jd (by decide +kernel)];exact⟨rfl,rfl⟩))
  (fun os started H enc _=>lifted os started H enc)
end
theorem veight28_holds:Rows.EpipolarEightSaid:=AX (WZ b1s) (fun _ a=>a.1)
end Go.Proofs.YtbkocjmmbkifjaaGreat
