/-
  Lemmas for the theorem vrelative28_holds, part 32 of 35.
-/
import Derived.Test.YtbkocjmmbkifjaaGreatQr31
namespace Go.Proofs.YtbkocjmmbkifjaaGreat
open Go Go.RowKit
set_option maxRecDepth 100000
set_option maxHeartbeats 4000000
set_option linter.unusedVariables false
set_option linter.unusedSimpArgs false
theorem jI (a b:Int):aH (a*b)=aH a*aH b:=uw a b
theorem xQ (a b:Int):aH (a+b)=aH a+aH b:=Rat.intCast_add a b
theorem rO {a:Int} (h:a≠0):aH a≠0:=fun e=>by have e:((a:Int):Rat)=((0:Int):Rat):=e;exact h (Dq.1 e)
theorem a7k {l:LQ'} (h:vN l):∃ c:Rat,c≠0/\∀ j,j<l.length->lv l j=c*aH ((mY l).getD j 0):=by
 obtain⟨hK,j0,hj0,hx0⟩:=h.at
 have hg:prG (lcN l) l.length≠0:=CG hj0 (DZ (uD _ _) (kY hj0) hx0);have hG:=rO hg;have hD:aH (jX (lv l) l.length)≠0:=rO (uD _ _);have iD:=jw _ hD;refine⟨aH (prG (lcN l) l.length)*(aH (jX (lv l) l.length))⁻¹,fun e=>?_,fun j hj=>?_⟩
 ·rcases yj.1 e with e|e
  ·exact hG e
  ·rw[e,Bv] at iD;exact absurd iD (by decide)
 ·have e1:(mY l).getD j 0=prN (lcN l) l.length j:=by unfold mY a3w;rw[bg,qo,Ae hj];rfl
  have e2:aH (prN (lcN l) l.length j)*aH (prG (lcN l) l.length)=aH (lcN l j):=by rw[<-jI];exact qw aH (Fa (ES (xs:=lcN l) hj))
  have e3:aH (lcN l j)=aH (jX (lv l) l.length)*lv l j:=by
   have hd:aH ((lv l j).den:Int)≠0:=rO (by have:=(lv l j).den_nz;omega);have e4:aH (jX (lv l) l.length)=aH ((jX (lv l) l.length).fdiv ((lv l j).den:Int))*aH ((lv l j).den:Int):=by rw[<-jI];exact qw aH (Fa (kY hj)).symm
   have e5:lv l j*aH ((lv l j).den:Int)=aH (lv l j).num:=by
    have a:=jw _ hd;have b:lv l j=aH (lv l j).num / aH ((lv l j).den:Int):=by rw[<-zu];exact(Bz _).symm
    rw[Rat.div_def] at b;have c:lv l j*aH ((lv l j).den:Int)=aH (lv l j).num*(aH ((lv l j).den:Int))⁻¹*aH ((lv l j).den:Int):=qw (fun r=>r*aH ((lv l j).den:Int)) b;rw[c,Rat.mul_assoc,Rat.mul_comm (aH ((lv l j).den:Int))⁻¹,a,Rat.mul_one]
   show aH ((lv l j).num*(jX (lv l) l.length).fdiv ((lv l j).den:Int))=_;rw[jI,e4,<-e5];grind
  rw[e1];generalize aH (prN (lcN l) l.length j)=b at *
  generalize aH (prG (lcN l) l.length)=g at *
  generalize aH (jX (lv l) l.length)=d at *
  rw[<-e2] at e3;generalize d⁻¹=m at *
  grind
def Rot (R:Mt):Prop:=(∀ i,i<3->∀ j,j<3->R i 0*R j 0+R i 1*R j 1+R i 2*R j 2=qZ i j)/\jV R=1
def esH (e:MQ) (t:Rat) (w:Nat->Rat) (R:Mt):Prop:=m33 100 e/\t≠0/\(∃ i,i<3/\w i≠0)/\Rot R/\∀ i,i<3->∀ j,j<3->ent e i j=t*(crE w i 0*R 0 j+crE w i 1*R 1 j+crE w i 2*R 2 j)
theorem RF {R:Mt} (h:Rot R) (a b:Nat->Rat):(a 0*R 0 0+a 1*R 1 0+a 2*R 2 0)*(b 0*R 0 0+b 1*R 1 0+b 2*R 2 0)+(a 0*R 0 1+a 1*R 1 1+a 2*R 2 1)*(b 0*R 0 1+b 1*R 1 1+b 2*R 2 1)+(a 0*R 0 2+a 1*R 1 2+a 2*R 2 2)*(b 0*R 0 2+b 1*R 1 2+b 2*R 2 2)=a 0*b 0+a 1*b 1+a 2*b 2:=by
 have r:=fun i j (hi:i<3) (hj:j<3)=>h.1 i hi j hj;have r00:R 0 0*R 0 0+R 0 1*R 0 1+R 0 2*R 0 2=1:=r 0 0 (by omega) (by omega);have r11:R 1 0*R 1 0+R 1 1*R 1 1+R 1 2*R 1 2=1:=r 1 1 (by omega) (by omega);have r22:R 2 0*R 2 0+R 2 1*R 2 1+R 2 2*R 2 2=1:=r 2 2 (by omega) (by omega);have r01:R 0 0*R 1 0+R 0 1*R 1 1+R 0 2*R 1 2=0:=r 0 1 (by omega) (by omega);have r02:R 0 0*R 2 0+R 0 1*R 2 1+R 0 2*R 2 2=0:=r 0 2 (by omega) (by omega);have r12:R 1 0*R 2 0+R 1 1*R 2 1+R 1 2*R 2 2=0:=r 1 2 (by omega) (by omega);have key:(a 0*R 0 0+a 1*R 1 0+a 2*R 2 0)*(b 0*R 0 0+b 1*R 1 0+b 2*R 2 0)+(a 0*R 0 1+a 1*R 1 1+a 2*R 2 1)*(b 0*R 0 1+b 1*R 1 1+b 2*R 2 1)+(a 0*R 0 2+a 1*R 1 2+a 2*R 2 2)*(b 0*R 0 2+b 1*R 1 2+b 2*R 2 2)=a 0*b 0*(R 0 0*R 0 0+R 0 1*R 0 1+R 0 2*R 0 2)+a 1*b 1*(R 1 0*R 1 0+R 1 1*R 1 1+R 1 2*R 1 2)+a 2*b 2*(R 2 0*R 2 0+R 2 1*R 2 1+R 2 2*R 2 2)+(a 0*b 1+a 1*b 0)*(R 0 0*R 1 0+R 0 1*R 1 1+R 0 2*R 1 2)+(a 0*b 2+a 2*b 0)*(R 0 0*R 2 0+R 0 1*R 2 1+R 0 2*R 2 2)+(a 1*b 2+a 2*b 1)*(R 1 0*R 2 0+R 1 1*R 2 1+R 1 2*R 2 2):=by clear r00 r11 r22 r01 r02 r12 r h;grind
 rw[key,r00,r11,r22,r01,r02,r12];grind
def wwS (w:Nat->Rat):Rat:=w 0*w 0+w 1*w 1+w 2*w 2
theorem a4q {e:MQ} {t:Rat} {w:Nat->Rat} {R:Mt} (h:esH e t w R) {i j:Nat} (hi:i<3) (hj:j<3):ent (gM e) i j=t*t*((if i=j then wwS w else 0)-w i*w j):=by
 obtain⟨he,ht,_,hR,hE⟩:=h;rw[YJ he hi hj,Rat.zero_add,hE i hi 0 (by omega),hE i hi 1 (by omega),hE i hi 2 (by omega),hE j hj 0 (by omega),hE j hj 1 (by omega),hE j hj 2 (by omega)];have b:=RF hR (crE w i) (crE w j);have c:crE w i 0*crE w j 0+crE w i 1*crE w j 1+crE w i 2*crE w j 2=(if i=j then wwS w else 0)-w i*w j:=by clear b hE hR he;unfold wwS;rcases three hi with rfl|rfl|rfl<;>rcases three hj with rfl|rfl|rfl<;>simp only[crE,dn,bn,Nat.reduceEqDiff,↓reduceIte]<;>grind
 rw[<-c,<-b];generalize crE w i 0*R 0 0+crE w i 1*R 1 0+crE w i 2*R 2 0=p0;generalize crE w i 0*R 0 1+crE w i 1*R 1 1+crE w i 2*R 2 1=p1;generalize crE w i 0*R 0 2+crE w i 1*R 1 2+crE w i 2*R 2 2=p2;generalize crE w j 0*R 0 0+crE w j 1*R 1 0+crE w j 2*R 2 0=q0;generalize crE w j 0*R 0 1+crE w j 1*R 1 1+crE w j 2*R 2 1=q1;generalize crE w j 0*R 0 2+crE w j 1*R 1 2+crE w j 2*R 2 2=q2;clear b c hE hR he;grind
theorem b0W {e:MQ} {t:Rat} {w:Nat->Rat} {R:Mt} (h:esH e t w R):trQ (gM e)=2*(t*t*wwS w):=by unfold trQ;rw[a4q h (by omega) (by omega),a4q h (by omega) (by omega),a4q h (by omega) (by omega)];simp only[dn];unfold wwS;grind
theorem b9B {e:MQ} {t:Rat} {w:Nat->Rat} {R:Mt} (h:esH e t w R) {i j:Nat} (hi:i<3) (hj:j<3):hE e i j=t*t*(w i*w j):=by
 have hf:Rat.divInt 1 2*2=1:=by decide +kernel
 unfold hE hlT;rw[b0W h,a4q h hi hj];generalize Rat.divInt 1 2=c at *
 split<;>grind
theorem c4q {w:Nat->Rat} (h:∃ i,i<3/\w i≠0):0<wwS w:=by obtain⟨i,hi,hz⟩:=h;have p:=sq_pos hz;have n0:=a3J (w 0);have n1:=a3J (w 1);have n2:=a3J (w 2);unfold wwS;rcases three hi with rfl|rfl|rfl<;>grind
theorem a6e {e:MQ} {t:Rat} {w:Nat->Rat} {R:Mt} (h:esH e t w R):axP e:=by refine⟨h.1,?_⟩;obtain⟨i,hi,hz⟩:=h.2.2.1;refine⟨i,hi,yx.2 ⟨hE e i i,jq.2 ⟨i,oq.2 hi,rfl⟩,jg ?_⟩⟩;rw[b9B h hi hi];have a:=sq_pos h.2.1;have b:=sq_pos hz;have:=Rat.mul_pos a b;grind
theorem c8C {e:MQ} {t:Rat} {w:Nat->Rat} {R:Mt} (h:esH e t w R):∃ s:Rat,s≠0/\∀ i,i<3->w i=s*aH ((axU e).getD i 0):=by
 obtain⟨h1,h2,_⟩:=(a6e h).at
 obtain⟨c,hc,hp⟩:=a7k (a0B h.1 h1 h2);have wJ:w (axJ e)≠0:=fun z=>by obtain⟨q,hq,hz⟩:=yx.1 h2;obtain⟨i,hi,rfl⟩:=jq.1 hq;have:=qj hz;rw[b9B h (oq.1 hi) h1,z] at this;exact this (by grind)
 have tt:=sq_pos h.2.1;have iw:=jw _ wJ;have it:=jw (t*t) (by grind);refine⟨c*(t*t)⁻¹*(w (axJ e))⁻¹,fun z=>?_,fun i hi=>?_⟩
 ·rcases yj.1 z with z|z
  ·rcases yj.1 z with z|z
   ·exact hc z
   ·rw[z,Bv] at it;exact absurd it (by decide)
  ·rw[z,Bv] at iw;exact absurd iw (by decide)
 ·have e1:lv (axC e (axJ e)) i=hE e i (axJ e):=by unfold lv axC;rw[bg,qo,Ae hi];rfl
  have e2:=hp i (by rw[DW];exact hi);rw[e1,b9B h hi h1] at e2;have e3:aH ((axU e).getD i 0)=aH ((mY (axC e (axJ e))).getD i 0):=rfl;rw[e3];generalize aH ((mY (axC e (axJ e))).getD i 0)=u at *
  generalize (t*t)⁻¹=m at *
  generalize (w (axJ e))⁻¹=n at *
  generalize w (axJ e)=x at *
  generalize w i=y at *
  clear h h1 h2 e1 e3 hp;have:y=(m*(t*t))*(n*x)*y:=by rw[Rat.mul_comm m,it,Rat.mul_comm n,iw];grind
  grind
def uR (e:MQ) (i:Nat):Rat:=aH ((axU e).getD i 0)
theorem a5G (e:MQ):axL e=wwS (uR e):=by
 have z:aH 0=0:=by decide +kernel
 show aH (0+(axU e).getD 0 0*(axU e).getD 0 0+(axU e).getD 1 0*(axU e).getD 1 0+(axU e).getD 2 0*(axU e).getD 2 0)=_;simp only[xQ,jI,z,Rat.zero_add];rfl
theorem b8J {r:Rat} (h:r≠0):rtB (r*r)=true/\rtQ (r*r)=if 0<r then r else -r:=by
 have hd:=r.den_nz;have hn:r.num≠0:=fun e=>h (Bj.1 e);have e:r*r=Rat.divInt (r.num*r.num) ((r.den:Int)*(r.den:Int)):=(QX r r).symm;have g:Int.gcd (r.num*r.num) ((r.den:Int)*(r.den:Int))=1:=by have g2:=r.reduced;show Nat.gcd (Int.natAbs _) (Int.natAbs _)=1;rw[Ei,Ei,Int.natAbs_natCast];exact Nat.Coprime.mul_left (Nat.Coprime.mul_right g2 g2) (Nat.Coprime.mul_right g2 g2)
 obtain⟨p1,p2⟩:=JI (Int.mul_pos (by omega:(0:Int)<r.den) (by omega)) g;rw[<-e] at p1 p2;have sq:∀ n:Nat,n≠0->isq (n*n)=n:=fun n hn=>(b1N (Nat.mul_pos (by omega) (by omega)) (aj _) (by
  have:=Nat.mul_lt_mul_of_lt_of_lt (show n<n+1 by omega) (show n<n+1 by omega);exact this)).symm
 have d1:(r*r).den=r.den*r.den:=by exact_mod_cast p2
 have n1:(r*r).num.natAbs=r.num.natAbs*r.num.natAbs:=by rw[p1,Ei]
 have i1:isq (r*r).num.natAbs=r.num.natAbs:=by rw[n1,sq _ (by omega)]
 have i2:isq (r*r).den=r.den:=by rw[d1,sq _ hd]
 refine⟨?_,?_⟩
 ·unfold rtB;rw[i1,i2,p1,p2,ay,jc,jc];exact⟨by rw[Int.natAbs_mul_self'],rfl⟩
 ·unfold rtQ;rw[i1,i2];split
  ·rename_i hp;have:=BZ hp;rw[show ((r.num.natAbs:Nat):Int)=r.num by omega];exact Bz r
  ·rename_i hp;have:r.num<0:=by
    have:¬ 0<=r.num:=fun c=>hp (by
     have c2:=Rat.num_nonneg.1 c;rcases Rat.le_iff_lt_or_eq.1 c2 with c3|c3
     ·exact c3
     ·exact absurd c3.symm h)
    omega
   rw[show ((r.num.natAbs:Nat):Int)=-r.num by omega,<-Rat.neg_divInt];exact qw Neg.neg (Bz r)
theorem b0V {e:MQ} {t s:Rat} {w:Nat->Rat} {R:Mt} (h:esH e t w R) (hs:s≠0) (hw:∀ i,i<3->w i=s*uR e i):sqD e=t*s*(t*s):=by
 have lp:=tN (a6e h);have l0:aH 2*axL e≠0:=by rw[q2];grind
 have li:=jw _ l0;have ew:wwS w=s*s*axL e:=by rw[a5G];unfold wwS;rw[hw 0 (by omega),hw 1 (by omega),hw 2 (by omega)];grind
 unfold sqD;rw[b0W h,ew,Rat.div_def];rw[q2] at *
 generalize (2*axL e)⁻¹=m at *
 generalize axL e=l at *
 clear ew hw h lp;grind
theorem RG {R:Mt} (h:Rot R) {i j:Nat} (hi:i<3) (hj:j<3):sV R i j=R i j:=by have r:=fun i j (hi:i<3) (hj:j<3)=>h.1 i hi j hj;have r00:R 0 0*R 0 0+R 0 1*R 0 1+R 0 2*R 0 2=1:=r 0 0 (by omega) (by omega);have r11:R 1 0*R 1 0+R 1 1*R 1 1+R 1 2*R 1 2=1:=r 1 1 (by omega) (by omega);have r22:R 2 0*R 2 0+R 2 1*R 2 1+R 2 2*R 2 2=1:=r 2 2 (by omega) (by omega);have r01:R 0 0*R 1 0+R 0 1*R 1 1+R 0 2*R 1 2=0:=r 0 1 (by omega) (by omega);have r02:R 0 0*R 2 0+R 0 1*R 2 1+R 0 2*R 2 2=0:=r 0 2 (by omega) (by omega);have r12:R 1 0*R 2 0+R 1 1*R 2 1+R 1 2*R 2 2=0:=r 1 2 (by omega) (by omega);have dt:=h.2;unfold jV at dt;unfold sV;clear r h;rcases three hi with rfl|rfl|rfl<;>rcases three hj with rfl|rfl|rfl<;>simp only[Nat.reduceAdd,Nat.reduceMod]<;>generalize R 0 0=a at*<;> generalize R 0 1=b at*<;> generalize R 0 2=c at*<;> generalize R 1 0=d at*<;> generalize R 1 1=e at*<;> generalize R 1 2=f at*<;> generalize R 2 0=g at*<;> generalize R 2 1=h at*<;> generalize R 2 2=k at*<;> grind
theorem b0T {e:MQ} {t:Rat} {w:Nat->Rat} {R:Mt} (h:esH e t w R) {i j:Nat} (hi:i<3) (hj:j<3):sV (ent e) i j=t*t*(w i*(w 0*R 0 j+w 1*R 1 j+w 2*R 2 j)):=by have hR:=h.2.2.2.1;have hE:=h.2.2.2.2;rw[<-RG hR (i:=0) (by omega) hj,<-RG hR (i:=1) (by omega) hj,<-RG hR (i:=2) (by omega) hj];unfold sV;rw[hE _ (xg _ (by omega)) _ (xg _ (by omega)),hE _ (xg _ (by omega)) _ (xg _ (by omega)),hE _ (xg _ (by omega)) _ (xg _ (by omega)),hE _ (xg _ (by omega)) _ (xg _ (by omega))];clear hE hR h;rcases three hi with rfl|rfl|rfl<;>rcases three hj with rfl|rfl|rfl<;>simp only[Nat.reduceAdd,Nat.reduceMod,crE]<;>grind
def uP (e:MQ) (R:Mt) (i j:Nat):Rat:=uR e i*(uR e 0*R 0 j+uR e 1*R 1 j+uR e 2*R 2 j)
theorem c6O (e:MQ) (k:Nat):lv ((axU e).map fun n=>aH n) k=uR e k:=by
 unfold lv uR;rw[bg,qo,bg];cases (axU e)[k]?
 ·show (0:Rat)=aH 0;decide +kernel
 ·rfl
theorem a8p {a b:Nat->Rat} (h:∀ k,k<3->a k=b k) {i k:Nat} (hi:i<3) (hk:k<3):crE a i k=crE b i k:=by have h0:=h 0 (by omega);have h1:=h 1 (by omega);have h2:=h 2 (by omega);rcases three hi with rfl|rfl|rfl<;>rcases three hk with rfl|rfl|rfl<;>simp only[crE,h0,h1,h2]
theorem c5K {e:MQ} {t s:Rat} {w:Nat->Rat} {R:Mt} (h:esH e t w R) (hw:∀ i,i<3->w i=s*uR e i) {i j:Nat} (hi:i<3) (hj:j<3):ent (ueM e) i j=t*s*(uP e R i j-axL e*R i j):=by
 have hE:=h.2.2.2.2;have c:∀ i k,i<3->k<3->ent (uC e) i k=crE (uR e) i k:=fun i k hi hk=>by
  have:ent (uC e) i k=crE (lv ((axU e).map fun n=>aH n)) i k:=by unfold uC;rw[EC,eF hi hk]
  rw[this];exact a8p (fun k _=>c6O e k) hi hk
 have w0:=hw 0 (by omega);have w1:=hw 1 (by omega);have w2:=hw 2 (by omega);unfold ueM;have um:isM (uC e) 3 3:=nG _;rw[um.c0n h.1.1 hi hj];show 0+ent (uC e) i 0*ent e 0 j+ent (uC e) i 1*ent e 1 j+ent (uC e) i 2*ent e 2 j=_;rw[c i 0 hi (by omega),c i 1 hi (by omega),c i 2 hi (by omega),hE 0 (by omega) j hj,hE 1 (by omega) j hj,hE 2 (by omega) j hj,a5G];unfold uP wwS;clear hE c h;rcases three hi with rfl|rfl|rfl<;>simp only[crE,w0,w1,w2]<;>generalize uR e 0=a at*<;> generalize uR e 1=b at*<;> generalize uR e 2=c at*<;> generalize R 0 j=x at*<;> generalize R 1 j=y at*<;> generalize R 2 j=z at*<;> clear hw w0 w1 w2<;>grind
def sgT (r:Rat):Rat:=if 0<r then 1 else -1
theorem a6f {e:MQ} {t s:Rat} {w:Nat->Rat} {R:Mt} (h:esH e t w R) (hs:s≠0) (hw:∀ i,i<3->w i=s*uR e i) {i j:Nat} (hi:i<3) (hj:j<3):ent (fiM e) i j=uP e R i j*(axL e)⁻¹:=by
 have ts:t*s≠0:=fun z=>by rcases yj.1 z with z|z;exact h.2.1 z;exact hs z
 have lp:=tN (a6e h);have li:=jw (axL e) (by grind);have e1:ent (fiM e) i j=aD e*sV (ent e) i j:=by unfold fiM nV;rw[(XJ h.1).1.len,(XJ h.1).1.wd,eF hi hj];unfold WM;rw[eF hi hj]
 have nz:t*s*(t*s)*axL e≠0:=fun z=>by
  rcases yj.1 z with z|z
  ·rcases yj.1 z with z|z<;>exact ts z
  ·grind
 have ni:=jw _ nz;have w0:=hw 0 (by omega);have w1:=hw 1 (by omega);have w2:=hw 2 (by omega);rw[e1,b0T h hi hj,hw i hi,w0,w1,w2];unfold aD uP;rw[b0V h hs hw,q1',Rat.div_def,Rat.one_mul];generalize (t*s*(t*s)*axL e)⁻¹=m at *
 generalize (axL e)⁻¹=y at *
 generalize axL e=l at *
 generalize uR e i=v at *
 generalize uR e 0=a at *
 generalize uR e 1=b at *
 generalize uR e 2=c at *
 generalize R 0 j=x0 at *
 generalize R 1 j=x1 at *
 generalize R 2 j=x2 at *
 clear e1 lp h hw w0 w1 w2 nz;have k:t*s*(t*s)*m=y:=by grind
 have e2:m*(t*t*(s*v*(s*a*x0+s*b*x1+s*c*x2)))=t*s*(t*s)*m*(v*(a*x0+b*x1+c*x2)):=by clear k ni li;grind
 rw[e2,k];grind
theorem a6g {e:MQ} {t s:Rat} {w:Nat->Rat} {R:Mt} (h:esH e t w R) (hs:s≠0) (hw:∀ i,i<3->w i=s*uR e i) {i j:Nat} (hi:i<3) (hj:j<3):ent (seM e) i j=sgT (t*s)*(uP e R i j*(axL e)⁻¹-R i j):=by
 have ts:t*s≠0:=fun z=>by rcases yj.1 z with z|z;exact h.2.1 z;exact hs z
 have lp:=tN (a6e h);have li:=jw (axL e) (by grind);have um:isM (ueM e) 3 3:=(nG _).mul h.1.1;have e1:ent (seM e) i j=bD e*ent (ueM e) i j:=by unfold seM nV;rw[um.len,um.wd,eF hi hj]
 have kd:kD e=sgT (t*s)*(t*s):=by unfold kD sgT;rw[b0V h hs hw,(b8J ts).2];split<;>grind
 have ss:sgT (t*s)*sgT (t*s)=1:=by unfold sgT;split<;>decide +kernel
 have sz:sgT (t*s)≠0:=fun z=>by rw[z] at ss;exact absurd ss (by decide +kernel)
 have nz:sgT (t*s)*(t*s)*axL e≠0:=fun z=>by
  rcases yj.1 z with z|z
  ·rcases yj.1 z with z|z
   ·exact sz z
   ·exact ts z
  ·grind
 have ni:=jw _ nz;rw[e1,c5K h hw hi hj];unfold bD;rw[kd,q1',Rat.div_def,Rat.one_mul];generalize (sgT (t*s)*(t*s)*axL e)⁻¹=m at *
 generalize sgT (t*s)=g at *
 generalize (axL e)⁻¹=y at *
 generalize axL e=l at *
 generalize uP e R i j=p at *
 generalize R i j=r at *
 clear e1 lp h hw nz kd um sz;have:t*s*m=g*y:=by grind
 grind
theorem c5J {e:MQ} {t s:Rat} {w:Nat->Rat} {R:Mt} (h:esH e t w R) (hs:s≠0) (hw:∀ i,i<3->w i=s*uR e i):∃ k,k<2/\(∀ i,i<3->∀ j,j<3->ent (dcM e k) i j=R i j)/\∀ i,i<3->∀ j,j<3->ent (dcM e (1-k)) i j=2*(uP e R i j*(axL e)⁻¹)-R i j:=by
 have um:isM (ueM e) 3 3:=(nG _).mul h.1.1;have fm:isM (fiM e) 3 3:=by unfold fiM nV;rw[(XJ h.1).1.len,(XJ h.1).1.wd];exact i33
 have sb:∀ i,i<3->∀ j,j<3->ent (dcM e 0) i j=ent (fiM e) i j-ent (seM e) i j:=fun i hi j hj=>fm.c6M hi hj;have ad:∀ i,i<3->∀ j,j<3->ent (dcM e 1) i j=ent (fiM e) i j+ent (seM e) i j:=fun i hi j hj=>fm.c4x hi hj;by_cases hp:0<t*s
 ·have hg:sgT (t*s)=1:=dn hp;refine⟨0,by omega,fun i hi j hj=>?_,fun i hi j hj=>?_⟩
  ·rw[sb i hi j hj,a6f h hs hw hi hj,a6g h hs hw hi hj,hg];grind
  ·show ent (dcM e 1) i j=_;rw[ad i hi j hj,a6f h hs hw hi hj,a6g h hs hw hi hj,hg];grind
 ·have hg:sgT (t*s)=-1:=bn hp;refine⟨1,by omega,fun i hi j hj=>?_,fun i hi j hj=>?_⟩
  ·rw[ad i hi j hj,a6f h hs hw hi hj,a6g h hs hw hi hj,hg];grind
  ·show ent (dcM e 0) i j=_;rw[sb i hi j hj,a6f h hs hw hi hj,a6g h hs hw hi hj,hg];grind
set_option maxHeartbeats 1000000
def QG (R C:Nat) (f g:Nat->Nat->Rat) (r c:Nat):MQ:=tab R C fun i j=>if i<r\/i=r/\j<c then f i j else g i j
theorem a9x {R C:Nat} {f g:Nat->Nat->Rat}:QG R C f g 0 0=tab R C g:=uS fun i _ j _=>bn (by omega)
theorem b4e {R C:Nat} {f g:Nat->Nat->Rat} {r c:Nat} (hr:r<R):(QG R C f g r c).set r (((QG R C f g r c).getD r []).set c (f r c))=QG R C f g r (c+1):=by
 unfold QG;rw[b4g _ hr];refine uS fun i _ j _=>?_;by_cases e:i=r/\j=c
 ·obtain⟨rfl,rfl⟩:=e;rw[dn ⟨rfl,rfl⟩,dn (by omega)]
 ·rw[bn e];by_cases h:i<r\/i=r/\j<c
  ·rw[dn h,dn (by omega)]
  ·rw[bn h,bn (by omega)]
theorem b4d {R C:Nat} {f g:Nat->Nat->Rat} {r c:Nat} (hc:C<=c):QG R C f g r c=QG R C f g (r+1) 0:=by
 refine uS fun i _ j _=>?_;by_cases h:i<r\/i=r/\j<c
 ·rw[dn h,dn (by omega)]
 ·rw[bn h,bn (by omega)]
theorem b4b {R C:Nat} {f g:Nat->Nat->Rat} {r:Nat} (hr:R<=r):QG R C f g r 0=tab R C f:=uS fun i _ j _=>dn (by omega)
theorem b4c {R C:Nat} {f g:Nat->Nat->Rat} {r c:Nat}:(QG R C f g r c).length=R:=jG
theorem b7w {R C:Nat} {f g:Nat->Nat->Rat} {r c i:Nat} (hi:i<R):((QG R C f g r c).getD i []).length=C:=by unfold QG;rw[LJ hi];simp
def BU (a b:MQ) (r c:Nat):MQ:=QG a.length (wdM b) (mm b.length (ent a) (ent b)) (fun _ _=>0) r c
noncomputable def c5k:Ctr:=⟨[tM,tM],[tM],fun x=>okM x.1/\okM x.2.1/\wdM (show MQ from x.1)=(show MQ from x.2.1).length/\szM x.1 1000000/\szM x.2.1 1000000,fun x=>(mulM x.1 x.2.1,())⟩
theorem a9i:aJ Tryz.prog 80 c5k:=by
 refine aN ((((nil0.ad a1v).ad a7v).ad PE).an b7o) ⟨[8],[],[]⟩ Tryz.func80 rfl (by decide) (fun x=>[.inv {k:Nat // k<=(show MQ from x.1).length} (fun r=>[(6,.val tI (r.1:Int))]) (fun r=>[(16,.mat 39 47 tQ none (BU (show MQ from x.1) (show MQ from x.2.1) r.1 0) 0)]) (fun r=>(show MQ from x.1).length-r.1) ⟨0,by omega⟩ (fun r=>[.inv {k:Nat // k<=wdM (show MQ from x.2.1)} (fun c=>[(7,.val tI (c.1:Int))]) (fun c=>[(16,.mat 39 47 tQ none (BU (show MQ from x.1) (show MQ from x.2.1) r.1 c.1) 0)]) (fun c=>wdM (show MQ from x.2.1)-c.1) ⟨0,by omega⟩ (fun c=>[.inv {k:Nat // k<=(show MQ from x.2.1).length} (fun k=>[(9,.val tI (k.1:Int))]) (fun k=>[(16,.mat 39 47 tQ none (BU (show MQ from x.1) (show MQ from x.2.1) r.1 c.1) 0),(8,.box [⟨tQ,mm k.1 (ent (show MQ from x.1)) (ent (show MQ from x.2.1)) r.1 c.1⟩])]) (fun k=>(show MQ from x.2.1).length-k.1) ⟨0,by omega⟩ (fun _=>[])])])]) (fun x hp=>?_);obtain⟨a,b,u⟩:=x;change List (List Rat) at a;change List (List Rat) at b;refine aP (let A₀:=(List.getD b 0 (aC Rat)).length;(asT Int 0<=0/\0<aB b.length/\(0<=aB a.length/\aB a.length<=1000/\0<=aB A₀/\aB A₀<=1000)/\True)/\(asT Int 0=0/\IV (aB a.length).toNat (aB A₀).toNat=BU a b 0 0/\True)/\∀ (i:{ k:Nat // k<=List.length a }),let A₁:=(aB (aA i)).toNat;let A₂:=(List.getD a A₁ (aC Rat));asT Bool true=true/\ifB (decide (aB (aA i)<aB a.length)) ((asT Int 0=0/\BU a b (aA i) 0=BU a b (aA i) 0/\True)/\∀ (i_1:{ k:Nat // k<=wdM b }),let aK:=(BU a b (aA i) (aA i_1));let aO:=(aB (aA i_1)).toNat;let bC:=(rowAt aK (nameAt none A₁));asT Bool true=true/\(asT Int 0<=0/\0<aB b.length/\True)/\ifB (decide (aB (aA i_1)<aB A₀)) ((aV 0/\True)/\(asT Int 0=0/\BU a b (aA i) (aA i_1)=BU a b (aA i) (aA i_1)/\aH 0=mm 0 (ent a) (ent b) (aA i) (aA i_1)/\True)/\∀ (i_2:{ k:Nat // k<=List.length b }),let bI:=(aB (aA i_2)).toNat;let bH:=(List.getD b bI (aC Rat));let bU:=(mm (aA i_2) (ent a) (ent b) (aA i) (aA i_1));asT Bool true=true/\ifB (decide (aB (aA i_2)<aB b.length)) ((0<=aB (aA i)/\aB (aA i)<aB a.length/\0<=aB (aA i_2)/\aB (aA i_2)<aB A₂.length/\0<=aB (aA i_2)/\aB (aA i_2)<aB b.length/\0<=aB (aA i_1)/\aB (aA i_1)<aB bH.length/\s19 (List.getD A₂ bI 0) (List.getD bH aO 0)/\s19 bU (List.getD A₂ bI 0*List.getD bH aO 0)/\True)/\∃ (i':{ k:Nat // k<=List.length b }),List.length b-aA i'<List.length b-aA i_2/\IntKind.wrap IntKind.i64 (aB (aA i_2)+1)=aB (aA i')/\BU a b (aA i) (aA i_1)=BU a b (aA i) (aA i_1)/\mm (aA i_2) (ent a) (ent b) (aA i) (aA i_1)+List.getD A₂ bI 0*List.getD bH aO 0=mm (aA i') (ent a) (ent b) (aA i) (aA i_1)/\True) ((0<=aB (aA i)/\aB (aA i)<aB (aW none aK)/\Int.toNat (aB (aA i))<aW none aK/\0<=aB (aA i_1)/\aB (aA i_1)<aB bC.length/\Int.toNat (aB (aA i_1))<List.length bC/\True)/\∃ (i':{ k:Nat // k<=wdM b }),wdM b-aA i'<wdM b-aA i_1/\IntKind.wrap IntKind.i64 (aB (aA i_1)+1)=aB (aA i')/\List.set aK (nameAt none A₁) (List.set bC aO bU)=BU a b (aA i) (aA i')/\True)) (∃ (i':{ k:Nat // k<=List.length a }),List.length a-aA i'<List.length a-aA i/\IntKind.wrap IntKind.i64 (aB (aA i)+1)=aB (aA i')/\BU a b (aA i) (aA i_1)=BU a b (aA i') 0/\True)) (True/\BU a b (aA i) 0=mulM a b/\True)) (by kernel_rfl) ?_;have hZ:(⟨false,0,[],[]⟩:aI)=bP:=rfl;dsimp only[aB,asT,aA,aC,Ty.den,Lf.den] at *
 simp only[hZ,Int.toNat_natCast,gZ,jc,jv,Dt,Cb,aW,nameAt,bW,gW,jG,rowAt,qp,jr];have hp:okM a/\okM b/\wdM a=b.length/\szM a 1000000/\szM b 1000000:=hp;obtain⟨ha,hb,hw,sa,sb⟩:=hp;have q1:=ha.r64;have q2:=ha.c64;have q3:=hb.r64;have q4:=hb.c64;have q5:=hb.pos;rw[show (b.getD 0 []).length=wdM b from rfl];refine⟨⟨Aw 0,by omega,by omega,by omega,by omega,by omega⟩,a9x.symm,fun i=>⟨fun h1 c=>⟨⟨Aw 0,by omega⟩,fun h2=>⟨by unfold aV;omega,rfl,fun k=>⟨fun h3=>?_,fun h3=>?_⟩⟩,fun h2=>⟨⟨i.1+1,by omega⟩,by simp only;omega,by rw[aG (by omega) (by omega)];rfl,b4d (by omega)⟩⟩,fun h1=>b4b (by omega)⟩⟩
 ·have hi:i.1<a.length:=by omega
  have hc:c.1<wdM b:=by omega
  have hk:k.1<b.length:=by omega
  rw[ha.row hi,hb.row hk];have z1:rsz ((a.getD i.1 []).getD k.1 0)<=1000000:=sa i.1 hi k.1 (by omega);have z2:rsz ((b.getD k.1 []).getD c.1 0)<=1000000:=sb k.1 hk c.1 hc;have z3:=fC ((a.getD i.1 []).getD k.1 0) ((b.getD k.1 []).getD c.1 0);have z4:rsz (mm k.1 (ent a) (ent b) i.1 c.1)<=140000000:=by
   have:=OA (K:=2000000) (f:=fun d=>ent a i.1 d*ent b d c.1) k.1 (fun d hd=>by
    have y1:=sa i.1 hi d (by omega);have y2:=sb d (by omega) c.1 hc;have y3:=fC (ent a i.1 d) (ent b d c.1);show rsz (ent a i.1 d*ent b d c.1)<=_;omega)
   have y4:k.1*(2000000+1)<=64*2000001:=uy (by omega) (by omega);show rsz (sm k.1 _)<=_;omega
  exact⟨⟨by omega,by omega,by omega,by omega,by omega,by omega,by omega,by omega,⟨by omega,by omega⟩,by omega,by omega⟩,⟨k.1+1,by omega⟩,by simp only;omega,by rw[aG (by omega) (by omega)];rfl,rfl⟩
 ·have hi:i.1<a.length:=by omega
  have hc:c.1<wdM b:=by omega
  have hk:k.1=b.length:=by have:=k.2;omega
  have e1:(BU a b i.1 c.1).length=a.length:=b4c;have e2:((BU a b i.1 c.1).getD i.1 []).length=wdM b:=b7w hi;rw[e1,e2,hk];exact⟨⟨by omega,by omega,hi,by omega,by omega,hc⟩,⟨c.1+1,by omega⟩,by simp only;omega,by rw[aG (by omega) (by omega)];rfl,b4e hi⟩
def uZ (x:LQ'):MQ:=tab x.length 1 fun i _=>lv x i
noncomputable def c4V:Ctr:=⟨[.list tQ],[tM],fun x=>(show LQ' from x.1).length<=1000,fun x=>(uZ x.1,())⟩
noncomputable def b9h:Ctr:=⟨[tM],[.list tQ],fun x=>(show MQ from x.1).length<=1000/\∀ r ∈ (show MQ from x.1),1<=r.length,fun x=>((List.range (show MQ from x.1).length).map (fun i=>ent x.1 i 0),())⟩
theorem b3g:aJ Tryz.prog 81 c4V:=by
 refine aN nil0 ⟨[],[],[]⟩ Tryz.func81 rfl (by decide) (fun x=>[.inv {k:Nat // k<=(show LQ' from x.1).length} (fun k=>[(4,.val tI (k.1:Int)),(3,.own 5 0),(5,.any),(19,.any)]) (fun k=>[(5,.row 39 (.list tQ) ((uZ (show LQ' from x.1)).take k.1) 0)]) (fun k=>(show LQ' from x.1).length-k.1) ⟨0,by omega⟩ (fun _=>[])]) (fun x hp=>?_);obtain⟨x,u⟩:=x;change List Rat at x;refine aP ((asT Int 0=0/\asT (List (List Rat)) (aC (List Rat))=aC (List Rat)/\True)/\∀ (i:{ k:Nat // k<=List.length x }),asT Bool true=true/\ifB (decide (aB (aA i)<aB x.length)) ((0<=aB (aA i)/\aB (aA i)<aB x.length/\List.length (List.take (aA i) (uZ x))+List.length ((List.getD x (aB (aA i)).toNat 0::aC Rat)::aC (List Rat))<=1000000000/\True)/\∃ (i':{ k:Nat // k<=List.length x }),List.length x-aA i'<List.length x-aA i/\IntKind.wrap IntKind.i64 (aB (aA i)+1)=aB (aA i')/\List.take (aA i) (uZ x)++(List.getD x (aB (aA i)).toNat 0::aC Rat)::aC (List Rat)=List.take (aA i') (uZ x)/\True) (True/\List.take (aA i) (uZ x)=uZ x/\True)) (by kernel_rfl) ?_;have hZ:(⟨false,0,[],[]⟩:aI)=bP:=rfl;dsimp only[aB,asT,aA,aC,Ty.den,Lf.den] at *
 simp only[hZ,Int.toNat_natCast,gZ,jc,jv,Dt,Cb,aW,nameAt,bW,gW,jG,rowAt,qp,jr];have hp:x.length<=1000:=hp;have hl:(uZ x).length=x.length:=jG;refine fun i=>⟨fun h1=>?_,fun h1=>jf (by rw[hl];omega)⟩;have hi:i.1<x.length:=by omega
 refine⟨⟨by omega,h1,by rw[jk];simp;omega⟩,⟨i.1+1,by omega⟩,by simp only;omega,by rw[aG (by omega) (by omega)];rfl,?_⟩;rw[Ew];have:(uZ x)[i.1]?=some [x.getD i.1 0]:=by unfold uZ tab;simp[hi]
 rw[this];rfl
theorem a4X:aJ Tryz.prog 79 b9h:=by
 refine aN nil0 ⟨[],[],[]⟩ Tryz.func79 rfl (by decide) (fun x=>[.inv {k:Nat // k<=(show MQ from x.1).length} (fun k=>[(4,.val tI (k.1:Int)),(3,.own 5 0),(5,.any),(20,.any)]) (fun k=>[(5,.row 47 tQ ((List.range k.1).map (fun i=>ent (show MQ from x.1) i 0)) 0)]) (fun k=>(show MQ from x.1).length-k.1) ⟨0,by omega⟩ (fun _=>[])]) (fun x hp=>?_);obtain⟨a,u⟩:=x;change List (List Rat) at a;refine aP ((asT Int 0=0/\asT (List Rat) (aC Rat)=aC Rat/\True)/\∀ (i:{ k:Nat // k<=List.length a }),let A₀:=(fun(i:Nat)=>ent a i 0);let A₁:=(List.getD a (aB (aA i)).toNat (aC Rat));asT Bool true=true/\ifB (decide (aB (aA i)<aB a.length)) ((0<=aB (aA i)/\aB (aA i)<aB a.length/\asT Int 0<=0/\0<aB A₁.length/\List.length (List.map A₀ (List.range (aA i)))+List.length (List.getD A₁ 0 0::aC Rat)<=1000000000/\True)/\∃ (i':{ k:Nat // k<=List.length a }),List.length a-aA i'<List.length a-aA i/\IntKind.wrap IntKind.i64 (aB (aA i)+1)=aB (aA i')/\List.map A₀ (List.range (aA i))++List.getD A₁ 0 0::aC Rat=List.map A₀ (List.range (aA i'))/\True) (True/\List.map A₀ (List.range (aA i))=List.map A₀ (List.range a.length)/\True)) (by kernel_rfl) ?_;have hZ:(⟨false,0,[],[]⟩:aI)=bP:=rfl;dsimp only[aB,asT,aA,aC,Ty.den,Lf.den] at *
 simp only[hZ,Int.toNat_natCast,gZ,jc,jv,Dt,Cb,aW,nameAt,bW,gW,jG,rowAt,qp,jr];have hp:a.length<=1000/\∀ r ∈ a,1<=r.length:=hp;refine fun i=>⟨fun h1=>?_,fun h1=>by rw[show i.1=a.length by have:=i.2;omega]⟩;have hi:i.1<a.length:=by omega
 have hr:1<=(a.getD i.1 []).length:=cO (p:=fun r:List Rat=>1<=r.length) hp.2 hi;refine⟨⟨by omega,h1,Aw 0,by omega,by simp;omega⟩,⟨i.1+1,by omega⟩,by simp only;omega,by rw[aG (by omega) (by omega)];rfl,?_⟩;rw[wz,Az];rfl
noncomputable def c7e:Ctr:=⟨[tM,.list tQ],[.list tQ],fun x=>okM x.1/\szM x.1 1000000/\(show LQ' from x.2.1).length=wdM (show MQ from x.1)/\∀ q ∈ (show LQ' from x.2.1),rsz q<=1000000,fun x=>(mvL x.1 x.2.1,())⟩
theorem a4S:aJ Tryz.prog 19 c7e:=by
 refine aN (((nil0.ad a9i).ad b3g).ad a4X) ⟨[],[],[]⟩ Tryz.func19 rfl (by decide) (fun x=>[]) (fun x hp=>?_);obtain⟨a,x,u⟩:=x;change List (List Rat) at a;change List Rat at x;refine aP ((List.length x<=1000/\(okM a/\okM (uZ x)/\wdM a=List.length (uZ x)/\szM a 1000000/\szM (uZ x) 1000000)/\(List.length (mulM a (uZ x))<=1000/\∀ (r:List Rat),r ∈ mulM a (uZ x)->1<=List.length r)/\True)/\True/\List.map (fun(i:Nat)=>ent (mulM a (uZ x)) i 0) (List.range (mulM a (uZ x)).length)=mvL a x/\True) (by kernel_rfl) ?_;have hZ:(⟨false,0,[],[]⟩:aI)=bP:=rfl;dsimp only[aB,asT,aA,aC,Ty.den,Lf.den] at *
 simp only[hZ,Int.toNat_natCast,gZ,jc,jv,Dt,Cb,aW,nameAt,bW,gW,jG,rowAt,qp,jr];have hp:okM a/\szM a 1000000/\x.length=wdM a/\∀ q ∈ x,rsz q<=1000000:=hp;obtain⟨ha,sa,hx,sx⟩:=hp;have q1:=ha.r64;have q2:=ha.c64;have q3:=ha.c1;have hc:isM (uZ x) x.length 1:=uF (by omega) (by omega) (by omega) (by omega);have ec:∀ k,k<x.length->ent (uZ x) k 0=lv x k:=fun k hk=>eF hk (by omega);have sc:szM (uZ x) 1000000:=fun k hk j hj=>by rw[hc.len] at hk;rw[hc.wd] at hj;rw[show j=0 by omega,ec k hk];exact cO sx hk
 have hc2:isM (uZ x) (wdM a) 1:=by rw[<-hx];exact hc
 have hm:isM (mulM a (uZ x)) a.length 1:=ha.1.mul hc2;refine⟨⟨by omega,⟨ha,⟨hc.self,fun k hk j hj=>au (sc k hk j hj) (by omega)⟩,by rw[hc.len];exact hx.symm,sa,sc⟩,by rw[hm.len];omega,fun r hr=>by rw[hm.2.1 r hr];omega⟩,?_⟩;rw[hm.len];refine og fun k hk=>?_;have hk:=oq.mp hk;show ent (mulM a (uZ x)) k 0=mv (wdM a) (ent a) (lv x) k;unfold mulM;rw[hc.wd,eF hk (by omega),hc.len,hx];exact gV _ fun d hd=>by rw[ec d (by omega)]
set_option maxHeartbeats 4000000
def esL (e:MQ) (i k:Nat):Prop:=aH 2*ent (mulM (gM e) e) i k+-trQ (gM e)*ent e i k=0
theorem b1e {K L:Nat} {x y:MQ} (hx:m33 K x) (hy:m33 L y):x.flatten=y.flatten↔∀ i,i<3->∀ k,k<3->ent x i k=ent y i k:=by
 obtain⟨a,b,c,d,e,f,g,i,j,rfl⟩:=hx.form;obtain⟨a',b',c',d',e',f',g',i',j',rfl⟩:=hy.form;constructor
 ·intro h;have h:[a,b,c,d,e,f,g,i,j]=[a',b',c',d',e',f',g',i',j']:=h;simp only[List.cons.injEq,Cb] at h;obtain⟨rfl,rfl,rfl,rfl,rfl,rfl,rfl,rfl,rfl⟩:=h;exact fun _ _ _ _=>rfl
 ·intro h;have q:∀ r s,r<3->s<3->ent [[a,b,c],[d,e,f],[g,i,j]] r s=ent [[a',b',c'],[d',e',f'],[g',i',j']] r s:=fun r s hr hs=>h r hr s hs;have h0:a=a':=q 0 0 (by omega) (by omega);have h1:b=b':=q 0 1 (by omega) (by omega);have h2:c=c':=q 0 2 (by omega) (by omega);have h3:d=d':=q 1 0 (by omega) (by omega);have h4:e=e':=q 1 1 (by omega) (by omega);have h5:f=f':=q 1 2 (by omega) (by omega);have h6:g=g':=q 2 0 (by omega) (by omega);have h7:i=i':=q 2 1 (by omega) (by omega);have h8:j=j':=q 2 2 (by omega) (by omega);subst h0 h1 h2 h3 h4 h5 h6 h7 h8;rfl
theorem b5u {e:MQ} (he:m33 100 e):TG e=true↔(∀ i,i<3->∀ k,k<3->esL e i k)/\jV (ent e)=0:=by
 have hg:=WT he;have hge:m33 3000 (mulM (gM e) e):=(BR hg he).mono (by omega);have A:=ZX hge (show rsz (aH 2)<=10 by decide +kernel);have B:=ZX he (aj (rsz (trQ (gM e))));unfold TG;rw[ay,jc,jc,b1e A B,and_comm];refine and_congr ⟨fun h i hi k hk=>?_,fun h i hi k hk=>?_⟩ Iff.rfl;all_goals
  have h:=h i hi k hk;have e1:ent (nV (mulM (gM e) e) (aH 2)) i k=aH 2*ent (mulM (gM e) e) i k:=by unfold nV;rw[hge.1.len,hge.1.wd,eF hi hk]
  have e2:ent (nV e (trQ (gM e))) i k=trQ (gM e)*ent e i k:=by unfold nV;rw[he.1.len,he.1.wd,eF hi hk]
  generalize ent (nV (mulM (gM e) e) (aH 2)) i k=u1 at *
  generalize ent (nV e (trQ (gM e))) i k=u2 at *
  unfold esL at *
  generalize ent (mulM (gM e) e) i k=u3 at *
  generalize ent e i k=u4 at *
  generalize trQ (gM e)=u5 at *
  clear A B hge hg he;grind
theorem b9A {e:MQ} {t:Rat} {w:Nat->Rat} {R:Mt} (h:esH e t w R):TG e=true:=by
 have hE:=h.2.2.2.2;refine(b5u h.1).2 ⟨fun i hi k hk=>?_,?_⟩
 ·unfold esL;rw[(WT h.1).1.c0n h.1.1 hi hk,b0W h,q2];show 2*(0+ent (gM e) i 0*ent e 0 k+ent (gM e) i 1*ent e 1 k+ent (gM e) i 2*ent e 2 k)+_=0;rw[a4q h hi (j:=0) (by omega),a4q h hi (j:=1) (by omega),a4q h hi (j:=2) (by omega),hE 0 (by omega) k hk,hE 1 (by omega) k hk,hE 2 (by omega) k hk,hE i hi k hk];unfold wwS;clear hE h;generalize R 0 k=x;generalize R 1 k=y;generalize R 2 k=z;rcases three hi with rfl|rfl|rfl<;>simp only[crE,dn,bn,Nat.reduceEqDiff,↓reduceIte,reduceCtorEq]<;>generalize w 0=a<;>generalize w 1=b<;>generalize w 2=c<;>grind
 ·have hc:=fun j (hj:j<3)=>b0T h (i:=0) (j:=j) (by omega) hj;have b:=RF h.2.2.2.1 (crE w 0) w;have z:crE w 0 0*w 0+crE w 0 1*w 1+crE w 0 2*w 2=0:=by simp only[crE];grind
  have d:jV (ent e)=ent e 0 0*sV (ent e) 0 0+ent e 0 1*sV (ent e) 0 1+ent e 0 2*sV (ent e) 0 2:=by unfold jV sV;simp only[Nat.reduceAdd,Nat.reduceMod];grind
  rw[d,hc 0 (by omega),hc 1 (by omega),hc 2 (by omega),hE 0 (by omega) 0 (by omega),hE 0 (by omega) 1 (by omega),hE 0 (by omega) 2 (by omega)];rw[z] at b;generalize crE w 0 0*R 0 0+crE w 0 1*R 1 0+crE w 0 2*R 2 0=p0 at *
  generalize crE w 0 0*R 0 1+crE w 0 1*R 1 1+crE w 0 2*R 2 1=p1 at *
  generalize crE w 0 0*R 0 2+crE w 0 1*R 1 2+crE w 0 2*R 2 2=p2 at *
  generalize w 0*R 0 0+w 1*R 1 0+w 2*R 2 0=q0 at *
  generalize w 0*R 0 1+w 1*R 1 1+w 2*R 2 1=q1 at *
  generalize w 0*R 0 2+w 1*R 1 2+w 2*R 2 2=q2 at *
  clear hc hE h d z;grind
theorem a3C {K:Nat} {m:MQ} {R:Mt} (hm:m33 K m) (hR:Rot R) (h:∀ i,i<3->∀ j,j<3->ent m i j=R i j):wP m=true:=by
 refine xZ.2 ⟨fun i hi j hj=>?_,?_⟩
 ·unfold tuE;rw[show ent (mulM m (trM m)) i j=ent (gM m) i j from rfl,YJ hm hi hj,Rat.zero_add,h i hi 0 (by omega),h i hi 1 (by omega),h i hi 2 (by omega),h j hj 0 (by omega),h j hj 1 (by omega),h j hj 2 (by omega)];exact hR.1 i hi j hj
 ·have:=hR.2;unfold jV at *
  rw[h 0 (by omega) 0 (by omega),h 0 (by omega) 1 (by omega),h 0 (by omega) 2 (by omega),h 1 (by omega) 0 (by omega),h 1 (by omega) 1 (by omega),h 1 (by omega) 2 (by omega),h 2 (by omega) 0 (by omega),h 2 (by omega) 1 (by omega),h 2 (by omega) 2 (by omega)];exact this
theorem b5g (h R:Mt):jV (fun i j=>h i 0*R 0 j+h i 1*R 1 j+h i 2*R 2 j)=jV h*jV R:=by unfold jV;dsimp only;generalize h 0 0=a;generalize h 0 1=b;generalize h 0 2=c;generalize h 1 0=d;generalize h 1 1=e;generalize h 1 2=f;generalize h 2 0=g;generalize h 2 1=k;generalize h 2 2=l;generalize R 0 0=m;generalize R 0 1=n;generalize R 0 2=o;generalize R 1 0=p;generalize R 1 1=q;generalize R 1 2=r;generalize R 2 0=s;generalize R 2 1=t;generalize R 2 2=u;grind
theorem b1v {R:Mt} (hR:Rot R) {u:Nat->Rat} {y:Rat} (hy:wwS u*y=1):Rot fun i j=>2*(u i*(u 0*R 0 j+u 1*R 1 j+u 2*R 2 j)*y)-R i j:=by
 have hh:∀ i j,i<3->2*(u i*(u 0*R 0 j+u 1*R 1 j+u 2*R 2 j)*y)-R i j=(fun i j=>(2*(u i*u 0*y)-qZ i 0)*R 0 j+(2*(u i*u 1*y)-qZ i 1)*R 1 j+(2*(u i*u 2*y)-qZ i 2)*R 2 j) i j:=fun i j hi=>by rcases three hi with rfl|rfl|rfl<;>simp only[qZ,Nat.reduceEqDiff,↓reduceIte]<;>generalize R 0 j=x<;>generalize R 1 j=z<;>generalize R 2 j=v<;>clear hy<;>grind
 refine⟨fun i hi j hj=>?_,?_⟩
 ·have b:=RF hR (fun l=>2*(u i*u l*y)-qZ i l) (fun l=>2*(u j*u l*y)-qZ j l);dsimp only at b ⊢;rw[hh i 0 hi,hh i 1 hi,hh i 2 hi,hh j 0 hj,hh j 1 hj,hh j 2 hj];rw[b];unfold wwS at hy;clear b hh hR;rcases three hi with rfl|rfl|rfl<;>rcases three hj with rfl|rfl|rfl<;>simp only[qZ,Nat.reduceEqDiff,↓reduceIte]<;>generalize u 0=a at*<;> generalize u 1=b at*<;> generalize u 2=c at*<;> grind
 ·have e:jV (fun i j=>2*(u i*(u 0*R 0 j+u 1*R 1 j+u 2*R 2 j)*y)-R i j)=jV (fun i j=>(fun i l=>2*(u i*u l*y)-qZ i l) i 0*R 0 j+(fun i l=>2*(u i*u l*y)-qZ i l) i 1*R 1 j+(fun i l=>2*(u i*u l*y)-qZ i l) i 2*R 2 j):=by unfold jV;dsimp only;dsimp only at hh;rw[hh 0 0 (by omega),hh 0 1 (by omega),hh 0 2 (by omega),hh 1 0 (by omega),hh 1 1 (by omega),hh 1 2 (by omega),hh 2 0 (by omega),hh 2 1 (by omega),hh 2 2 (by omega)]
  refine e.trans ((b5g (fun i l=>2*(u i*u l*y)-qZ i l) R).trans ?_);rw[hR.2,Rat.mul_one];unfold wwS at hy;unfold jV;dsimp only;clear e hh hR;simp only[qZ,Nat.reduceEqDiff,↓reduceIte];generalize u 0=a at *
  generalize u 1=b at *
  generalize u 2=c at *
  grind
theorem a3m {m:MQ} (hm:m33 150000 m) (hT:wP m=true):∃ k,k<4/\(∀ j,j<k->omR (ent m) j j=0)/\omR (ent m) k k≠0/\omT m=omP (ent m) k:=by
 have c1:((1:Int):Rat)=1:=Rat.intCast_one;have cm:((-1:Int):Rat)=-1:=by decide +kernel
 have s:omR (ent m) 0 0+omR (ent m) 1 1+omR (ent m) 2 2+omR (ent m) 3 3=4:=by show (((1:Int):Rat)+((1:Int):Rat)*ent m 0 0+((1:Int):Rat)*ent m 1 1+((1:Int):Rat)*ent m 2 2)+(((1:Int):Rat)+((1:Int):Rat)*ent m 0 0+((-1:Int):Rat)*ent m 1 1+((-1:Int):Rat)*ent m 2 2)+(((1:Int):Rat)+((-1:Int):Rat)*ent m 0 0+((1:Int):Rat)*ent m 1 1+((-1:Int):Rat)*ent m 2 2)+(((1:Int):Rat)+((-1:Int):Rat)*ent m 0 0+((-1:Int):Rat)*ent m 1 1+((1:Int):Rat)*ent m 2 2)=4;rw[c1,cm];grind
 have fin:∀ k,k<4->(∀ j,j<k->omR (ent m) j j=0)->omR (ent m) k k≠0->∃ k,k<4/\(∀ j,j<k->omR (ent m) j j=0)/\omR (ent m) k k≠0/\omT m=omP (ent m) k:=fun k hk h0 hn=>⟨k,hk,h0,hn,b2K hm hT hk h0 hn⟩;by_cases h0:omR (ent m) 0 0=0
 ·by_cases h1:omR (ent m) 1 1=0
  ·by_cases h2:omR (ent m) 2 2=0
   ·by_cases h3:omR (ent m) 3 3=0
    ·rw[h0,h1,h2,h3] at s;exact absurd s (by decide +kernel)
    ·exact fin 3 (by omega) (fun j hj=>by rcases (show j=0\/j=1\/j=2 by omega) with rfl|rfl|rfl<;>assumption) h3
   ·exact fin 2 (by omega) (fun j hj=>by rcases (show j=0\/j=1 by omega) with rfl|rfl<;>assumption) h2
  ·exact fin 1 (by omega) (fun j hj=>by have e9:j=0:=(by omega);subst e9;exact h0) h1
 ·exact fin 0 (by omega) (fun j hj=>absurd hj (Bl j)) h0
theorem a4P (X:Nat->Int):(dM X).2.1=0\/(dM X).2.1=3:=by
 unfold dM;split
 ·exact .inl rfl
 ·exact .inr rfl
def qrI (b a:aT):Nat->Int
 | 0=>b.1*a.1+b.2.1*a.2.1+b.2.2.1*a.2.2.1+b.2.2.2.1*a.2.2.2.1
 | 1=>b.1*a.2.1-b.2.1*a.1-b.2.2.1*a.2.2.2.1+b.2.2.2.1*a.2.2.1
 | 2=>b.1*a.2.2.1+b.2.1*a.2.2.2.1-b.2.2.1*a.1-b.2.2.2.1*a.2.1
 | _=>b.1*a.2.2.2.1-b.2.1*a.2.2.1+b.2.2.1*a.2.1-b.2.2.2.1*a.1
def qrR (b a:aT):Mt:=qR (qrI b a 0) (qrI b a 1) (qrI b a 2) (qrI b a 3)
theorem c0E (b a:aT):qN (qrI b a 0) (qrI b a 1) (qrI b a 2) (qrI b a 3)=qN b.1 b.2.1 b.2.2.1 b.2.2.2.1*qN a.1 a.2.1 a.2.2.1 a.2.2.2.1:=by unfold qN;simp only[qrI];generalize b.1=p;generalize b.2.1=q;generalize b.2.2.1=r;generalize b.2.2.2.1=s;generalize a.1=t;generalize a.2.1=u;generalize a.2.2.1=v;generalize a.2.2.2.1=w;grind
theorem c8Z (b a:aT) {i j:Nat} (hi:i<3) (hj:j<3):qM b.1 b.2.1 b.2.2.1 b.2.2.2.1 0 i*qM a.1 a.2.1 a.2.2.1 a.2.2.2.1 0 j+qM b.1 b.2.1 b.2.2.1 b.2.2.2.1 1 i*qM a.1 a.2.1 a.2.2.1 a.2.2.2.1 1 j+qM b.1 b.2.1 b.2.2.1 b.2.2.2.1 2 i*qM a.1 a.2.1 a.2.2.1 a.2.2.2.1 2 j=qM (qrI b a 0) (qrI b a 1) (qrI b a 2) (qrI b a 3) i j:=by
 generalize hp:b.1=p;generalize hq:b.2.1=q;generalize hr:b.2.2.1=r;generalize hs:b.2.2.2.1=s;generalize ht:a.1=t;generalize hu:a.2.1=u;generalize hv:a.2.2.1=v;generalize hw:a.2.2.2.1=w;have e0:qrI b a 0=p*t+q*u+r*v+s*w:=by simp only[qrI,hp,hq,hr,hs,ht,hu,hv,hw]
 have e1:qrI b a 1=p*u-q*t-r*w+s*v:=by simp only[qrI,hp,hq,hr,hs,ht,hu,hv,hw]
 have e2:qrI b a 2=p*v+q*w-r*t-s*u:=by simp only[qrI,hp,hq,hr,hs,ht,hu,hv,hw]
 have e3:qrI b a 3=p*w-q*v+r*u-s*t:=by simp only[qrI,hp,hq,hr,hs,ht,hu,hv,hw]
 rw[e0,e1,e2,e3];clear e0 e1 e2 e3 hp hq hr hs ht hu hv hw;rcases three hi with rfl|rfl|rfl<;>rcases three hj with rfl|rfl|rfl<;>simp only[qM]<;>grind
theorem a4R {b a:aT} (hb:qN b.1 b.2.1 b.2.2.1 b.2.2.2.1≠0) (ha:qN a.1 a.2.1 a.2.2.1 a.2.2.2.1≠0) {i j:Nat} (hi:i<3) (hj:j<3):qE b 0 i*qE a 0 j+qE b 1 i*qE a 1 j+qE b 2 i*qE a 2 j=qrR b a i j:=by
 have m:=c8Z b a hi hj;unfold qE qrR qR;rw[c0E,<-m];have nb:=rO hb;have na:=rO ha;have ib:=jw _ nb;have ia:=jw _ na;have iab:=jw (aH (qN b.1 b.2.1 b.2.2.1 b.2.2.2.1)*aH (qN a.1 a.2.1 a.2.2.1 a.2.2.2.1)) (fun z=>by rcases yj.1 z with z|z;exact nb z;exact na z);have dv:∀ x y:Int,Rat.divInt x y=aH x*(aH y)⁻¹:=fun x y=>by rw[zu,Rat.div_def]
 simp only[dv,xQ,jI];generalize (aH (qN b.1 b.2.1 b.2.2.1 b.2.2.2.1)*aH (qN a.1 a.2.1 a.2.2.1 a.2.2.2.1))⁻¹=y at *
 generalize (aH (qN b.1 b.2.1 b.2.2.1 b.2.2.2.1))⁻¹=x at *
 generalize (aH (qN a.1 a.2.1 a.2.2.1 a.2.2.2.1))⁻¹=z at *
 generalize aH (qN b.1 b.2.1 b.2.2.1 b.2.2.2.1)=n at *
 generalize aH (qN a.1 a.2.1 a.2.2.1 a.2.2.2.1)=o at *
 have:y=x*z:=by clear m dv;grind
 rw[this];clear m dv this;grind
theorem a1t {a b c d:Int} (h:qN a b c d≠0):Rot (qR a b c d):=by
 refine⟨fun i hi j hj=>?_,?_⟩
 ·have:=a7n h hi hj;rw[sm3] at this;exact this
 ·have nz:=rO h;have im:=jw _ nz;have dv:∀ x y:Int,Rat.divInt x y=aH x*(aH y)⁻¹:=fun x y=>by rw[zu,Rat.div_def]
  have dt:qM a b c d 0 0*(qM a b c d 1 1*qM a b c d 2 2-qM a b c d 1 2*qM a b c d 2 1)-qM a b c d 0 1*(qM a b c d 1 0*qM a b c d 2 2-qM a b c d 1 2*qM a b c d 2 0)+qM a b c d 0 2*(qM a b c d 1 0*qM a b c d 2 1-qM a b c d 1 1*qM a b c d 2 0)=qN a b c d*qN a b c d*qN a b c d:=by simp only[qM,qN];grind
  have dq:=qw aH dt;have sb:∀ x y:Int,aH (x-y)=aH x-aH y:=fun x y=>Rat.intCast_sub x y;simp only[xQ,jI,sb] at dq;unfold jV qR;simp only[dv];generalize aH (qN a b c d)=n at *
  generalize n⁻¹=y at *
  generalize aH (qM a b c d 0 0)=m0 at *
  generalize aH (qM a b c d 0 1)=m1 at *
  generalize aH (qM a b c d 0 2)=m2 at *
  generalize aH (qM a b c d 1 0)=m3 at *
  generalize aH (qM a b c d 1 1)=m4 at *
  generalize aH (qM a b c d 1 2)=m5 at *
  generalize aH (qM a b c d 2 0)=m6 at *
  generalize aH (qM a b c d 2 1)=m7 at *
  generalize aH (qM a b c d 2 2)=m8 at *
  clear dt dv sb nz h;have e:m0*y*(m4*y*(m8*y)-m5*y*(m7*y))-m1*y*(m3*y*(m8*y)-m5*y*(m6*y))+m2*y*(m3*y*(m7*y)-m4*y*(m6*y))=(m0*(m4*m8-m5*m7)-m1*(m3*m8-m5*m6)+m2*(m3*m7-m4*m6))*(y*y*y):=by clear dq im;grind
  rw[e,dq];grind
def qT (a b c d:Int) (k:Nat):Int:=([a,b,c,d]:List Int).getD k 0
theorem c0x {m:MQ} {a b c d:Int} (h:qN a b c d≠0) (hm:∀ i,i<3->∀ j,j<3->ent m i j=qR a b c d i j) {k j:Nat} (hk:k<4) (hj:j<4):omR (ent m) k j=4*(aH (qN a b c d))⁻¹*aH (qT a b c d k)*aH (qT a b c d j):=by
 have nz:=rO h;have im:=jw _ nz;have dv:∀ x y:Int,Rat.divInt x y=aH x*(aH y)⁻¹:=fun x y=>by rw[zu,Rat.div_def]
 have sb:∀ x y:Int,aH (x-y)=aH x-aH y:=fun x y=>Rat.intCast_sub x y;have c1:((1:Int):Rat)=1:=Rat.intCast_one;have cm:((-1:Int):Rat)=-1:=by decide +kernel
 have t2:aH 2=2:=q2;have eN:aH (qN a b c d)=aH a*aH a+aH b*aH b+aH c*aH c+aH d*aH d:=by unfold qN;simp only[xQ,jI]
 have E:∀ i j,i<3->j<3->ent m i j=aH (qM a b c d i j)*(aH (qN a b c d))⁻¹:=fun i j hi hj=>by rw[hm i hi j hj];exact dv _ _
 have E00:=E 0 0 (by omega) (by omega);have E01:=E 0 1 (by omega) (by omega);have E02:=E 0 2 (by omega) (by omega);have E10:=E 1 0 (by omega) (by omega);have E11:=E 1 1 (by omega) (by omega);have E12:=E 1 2 (by omega) (by omega);have E20:=E 2 0 (by omega) (by omega);have E21:=E 2 1 (by omega) (by omega);have E22:=E 2 2 (by omega) (by omega);generalize (aH (qN a b c d))⁻¹=y at *
 rw[eN] at im;simp only[qM,xQ,jI,sb,t2] at E00 E01 E02 E10 E11 E12 E20 E21 E22;have S:∀ s0 s1 s2:Int,omS [s0,s1,s2] (ent m) 3=((1:Int):Rat)+((s0:Int):Rat)*ent m 0 0+((s1:Int):Rat)*ent m 1 1+((s2:Int):Rat)*ent m 2 2:=fun _ _ _=>rfl;clear E hm dv eN nz h sb
 match k,hk,j,hj with
 | 0,_,0,_=>show omS [1,1,1] (ent m) 3=_*aH a*aH a;rw[S,c1,E00,E11,E22];grind
 | 0,_,1,_=>show ent m 2 1-ent m 1 2=_*aH a*aH b;rw[E21,E12];grind
 | 0,_,2,_=>show ent m 0 2-ent m 2 0=_*aH a*aH c;rw[E02,E20];grind
 | 0,_,3,_=>show ent m 1 0-ent m 0 1=_*aH a*aH d;rw[E10,E01];grind
 | 1,_,0,_=>show ent m 2 1-ent m 1 2=_*aH b*aH a;rw[E21,E12];grind
 | 1,_,1,_=>show omS [1,-1,-1] (ent m) 3=_*aH b*aH b;rw[S,c1,cm,E00,E11,E22];grind
 | 1,_,2,_=>show ent m 0 1+ent m 1 0=_*aH b*aH c;rw[E10,E01];grind
 | 1,_,3,_=>show ent m 0 2+ent m 2 0=_*aH b*aH d;rw[E02,E20];grind
 | 2,_,0,_=>show ent m 0 2-ent m 2 0=_*aH c*aH a;rw[E02,E20];grind
 | 2,_,1,_=>show ent m 0 1+ent m 1 0=_*aH c*aH b;rw[E10,E01];grind
 | 2,_,2,_=>show omS [-1,1,-1] (ent m) 3=_*aH c*aH c;rw[S,c1,cm,E00,E11,E22];grind
 | 2,_,3,_=>show ent m 1 2+ent m 2 1=_*aH c*aH d;rw[E21,E12];grind
 | 3,_,0,_=>show ent m 1 0-ent m 0 1=_*aH d*aH a;rw[E10,E01];grind
 | 3,_,1,_=>show ent m 0 2+ent m 2 0=_*aH d*aH b;rw[E02,E20];grind
 | 3,_,2,_=>show ent m 1 2+ent m 2 1=_*aH d*aH c;rw[E21,E12];grind
 | 3,_,3,_=>show omS [-1,-1,1] (ent m) 3=_*aH d*aH d;rw[S,c1,cm,E00,E11,E22];grind
set_option maxHeartbeats 1000000
def smN (x:Int) (k:Nat):Int:=sg (decide (x<0)) (val ((dig x.natAbs).drop k))
theorem b0q (x y:Int):dF x y<0↔x<y:=by
 unfold dF;split
 ·omega
 ·split<;>omega
theorem b9n (x y:Int):dF x y > 0↔x > y:=by
 unfold dF;split
 ·omega
 ·split<;>omega
theorem b3M (x:Int) (k:Nat):(0<=x->0<=smN x k/\smN x k<=x)/\(x<0->smN x k<=0/\x<=smN x k):=by
 have e:=val_append ((dig x.natAbs).take k) ((dig x.natAbs).drop k);rw[yu,bM] at e;have h1:1<=BB ^ ((dig x.natAbs).take k).length:=Nat.pow_pos gU;have h2:=Nat.le_mul_of_pos_left (val ((dig x.natAbs).drop k)) h1;unfold smN sg;refine⟨fun h=>?_,fun h=>?_⟩
 ·rw[iy (by omega)];simp only[xu,if_false];omega
 ·rw[jg h];simp only[Du];omega
theorem c6K {x:Int} {k:Nat} (h:k<(dig x.natAbs).length):smN x k=if x<0 then smN x (k+1)*1000000000-(gr (dig x.natAbs) k:Int) else smN x (k+1)*1000000000+(gr (dig x.natAbs) k:Int):=by
 unfold smN sg;rw[xB h,bV];by_cases hx:x<0
 ·rw[jg hx,dn hx];simp only[Du];omega
 ·rw[iy hx,bn hx];simp only[xu,if_false];omega
theorem c6L {x:Int} (hx:-9223372036854775808<=x/\x<=9223372036854775807) {k:Nat} (h:k<(dig x.natAbs).length):(x<0->IntKind.wrap .i64 (IntKind.wrap .i64 (smN x (k+1)*1000000000)-IntKind.wrap .i64 (gr (dig x.natAbs) k:Int))=smN x k)/\(¬ x<0->IntKind.wrap .i64 (IntKind.wrap .i64 (smN x (k+1)*1000000000)+IntKind.wrap .i64 (gr (dig x.natAbs) k:Int))=smN x k):=by
 have g:gr (dig x.natAbs) k<=999999999:=gJ (bZ _) k;have s:=c6K h;obtain⟨a0,a1⟩:=b3M x k;obtain⟨b0,b1⟩:=b3M x (k+1);refine⟨fun hn=>?_,fun hn=>?_⟩
 ·rw[dn hn] at s;have a:=a1 hn;have b:=b1 hn;rw[aG (n:=smN x (k+1)*1000000000) (by omega) (by omega),aG (n:=(gr (dig x.natAbs) k:Int)) (by omega) (by omega),<-s,aG (by omega) (by omega)]
 ·rw[bn hn] at s;have a:=a0 (by omega);have b:=b0 (by omega);rw[aG (n:=smN x (k+1)*1000000000) (by omega) (by omega),aG (n:=(gr (dig x.natAbs) k:Int)) (by omega) (by omega),<-s,aG (by omega) (by omega)]
theorem b7I:aJ Tryz.prog 223 (b4D 999999999):=by
 refine aN (((nil0.ad vU).ad a0p).ad a7W) ⟨[4,5,1],[],[]⟩ Tryz.func223 rfl (by decide) (fun x=>[.inv {k:Nat // k<=(dig (show Int from x.1).natAbs).length} (fun k=>[(6,.val tI (smN (show Int from x.1) k.1)),(7,.val tI ((k.1:Int)-1))]) (fun k=>[(1,.box [⟨tZ,(show Int from x.1)⟩])]) (fun k=>k.1) ⟨(dig (show Int from x.1).natAbs).length,aj _⟩ (fun _=>[])]) (fun x hp=>?_);obtain⟨x,u⟩:=x;change Int at x;refine aP (let A₁:=(dig (Int.natAbs x)).length;let A₂:=(-9223372036854775808);let A₀:=(decide (dF x A₂<0)==false);(isz x<=1000000000/\True)/\(aV A₂/\aV 9223372036854775807/\True)/\((isz x<=999999999/\isz A₂<=999999999)/\(A₀=true->A₀=true/\A₀=true/\(isz x<=999999999/\isz 9223372036854775807<=999999999)/\True)/\(A₀=true->A₀=true/\True)/\(decide (dF x A₂<0)=false->A₀=true)/\True)/\ifB (bif decide (dF x A₂<0) then true else decide (dF x 9223372036854775807 > 0)) (True/\0=aQ x/\True/\false=bT x/\True) ((0=smN x A₁/\IntKind.wrap IntKind.i64 (aB A₁-1)=aB A₁-1/\x=x/\True)/\∀ (i:{ k:Nat // k<=List.length (dig (Int.natAbs x)) }),let aK:=(aB (List.getD (dig (Int.natAbs x)) (aB (aA i)-1).toNat 0));let aO:=(0<=aB (aA i)-1/\aB (aA i)-1<aB A₁/\True);let bC:=(smN x (aA i)*1000000000);asT Bool true=true/\ifB (decide (aB (aA i)-1 ≥ 0)) (ifB (decide (x<0)) (aO/\∃ (i':{ k:Nat // k<=List.length (dig (Int.natAbs x)) }),aA i'<aA i/\IntKind.wrap IntKind.i64 (IntKind.wrap IntKind.i64 bC-IntKind.wrap IntKind.i64 aK)=smN x (aA i')/\IntKind.wrap IntKind.i64 (aB (aA i)-1-1)=aB (aA i')-1/\x=x/\True) (aO/\∃ (i':{ k:Nat // k<=List.length (dig (Int.natAbs x)) }),aA i'<aA i/\IntKind.wrap IntKind.i64 (IntKind.wrap IntKind.i64 bC+IntKind.wrap IntKind.i64 aK)=smN x (aA i')/\IntKind.wrap IntKind.i64 (aB (aA i)-1-1)=aB (aA i')-1/\x=x/\True)) (True/\smN x (aA i)=aQ x/\True/\true=bT x/\True))) (by kernel_rfl) ?_;try simp only[zP0]
 try dsimp only[aB,asT,aA,aC,Ty.den,Lf.den] at *
 try simp only[zP1]
 have hs:isz x<=999999999:=hp;have ln:(dig x.natAbs).length<=999999999:=hs;have e1:decide (dF x (-9223372036854775808)<0)=decide (x < -9223372036854775808):=decide_eq_decide.2 (b0q _ _);have e2:decide (dF x 9223372036854775807 > 0)=decide (x > 9223372036854775807):=decide_eq_decide.2 (b9n _ _);have k1:isz (-9223372036854775808)<=999999999:=by decide +kernel
 have k2:isz 9223372036854775807<=999999999:=by decide +kernel
 rw[e1,e2];refine⟨by omega,⟨by decide,by decide⟩,⟨⟨hs,k1⟩,fun h=>⟨h,h,hs,k2⟩,fun h=>h,fun h=>?_⟩,fun h=>?_,fun h=>⟨⟨?_,aG (by omega) (by omega)⟩,fun i=>?_⟩⟩
 ·rw[iy (fun c=>h ((b0q _ _).2 c))];rfl
 ·have hx:¬ (-9223372036854775808<=x/\x<9223372036854775808):=fun c=>by rw[iy (show ¬ x < -9223372036854775808 by omega),iy (show ¬ x > 9223372036854775807 by omega)] at h;cases h
  exact⟨(bn hx).symm,(iy hx).symm⟩
 ·unfold smN sg;rw[List.drop_of_length_le (aj _)];cases decide (x<0)<;>rfl
 ·have hx:-9223372036854775808<=x/\x<=9223372036854775807:=by
   by_cases a:x < -9223372036854775808
   ·rw[jg a] at h;cases h
   ·by_cases b:x > 9223372036854775807
    ·rw[jg b,iy a] at h;cases h
    ·omega
  obtain⟨k,hk⟩:=i;dsimp only;cases k with
  | zero =>
   refine⟨fun h=>absurd h (by omega),fun _=>?_⟩;have e:smN x 0=x:=by
    unfold smN;rw[List.drop_zero,bM];unfold sg;split
    ·rename_i h2;have:=qj h2;omega
    ·rename_i h2;have:¬ x<0:=fun c=>h2 (jg c);omega
   rw[e];exact⟨(dn (by omega)).symm,(jg (by omega)).symm⟩
  | succ k =>
   have t:=c6L hx (k:=k) (by omega);have ek:(((k+1:Nat):Int)-1).toNat=k:=by omega
   rw[ek];exact⟨fun _=>⟨fun hn=>⟨⟨by omega,by omega⟩,⟨k,by omega⟩,by simp only;omega,t.1 hn,(aG (by omega) (by omega)).trans (by simp only;omega)⟩,fun hn=>⟨⟨by omega,by omega⟩,⟨k,by omega⟩,by simp only;omega,t.2 hn,(aG (by omega) (by omega)).trans (by simp only;omega)⟩⟩,fun h=>absurd h (by omega)⟩
end Go.Proofs.YtbkocjmmbkifjaaGreat
