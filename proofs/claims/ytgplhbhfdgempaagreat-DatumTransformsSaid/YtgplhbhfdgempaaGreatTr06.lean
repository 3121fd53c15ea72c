/-
  Lemmas for the theorem vtransforms_holds, part 6 of 39.
-/
import Derived.Test.YtgplhbhfdgempaaGreatTr05
namespace Go.Proofs.YtgplhbhfdgempaaGreat
open Go Go.RowKit
theorem zu:type_of% @Rat.intCast_mul:=@Rat.intCast_mul
theorem Bf:type_of% @Nat.div_le_self:=@Nat.div_le_self
theorem jr:type_of% @World.cell?_setCell_far:=@World.cell?_setCell_far
theorem BQ {x y q r:Int} (hy:y≠0) (h:x=y*q+r) (h1:0<y->0<=r/\r<y) (h2:y<0->y<r/\r<=0):x.fdiv y=q/\x.fmod y=r:=by
 have e:=Int.fmod_add_mul_fdiv x y
 rcases Ae y 0 with h0|h0|h0
 ·have a1:=Int.fmod_nonneg_of_pos (-x) (show 0 < -y by omega)
  have a2:=Int.fmod_lt_of_pos (-x) (show 0 < -y by omega)
  rw[Int.neg_fmod_neg] at a1 a2
  have ⟨b1,b2⟩:=h2 h0
  have:x.fdiv y=q:=by
   generalize x.fdiv y=Q at *
   generalize x.fmod y=R at *
   have h3:y*(Q-q)=r-R:=by rw[Int.mul_sub];omega
   rcases Ae Q q with h|h|h
   ·have:y*(Q-q) ≥ -y:=by
     have:=Int.mul_le_mul_of_nonneg_left (show Q-q<=-1 by omega) (show 0<=-y by omega)
     rw[Int.neg_mul,Int.neg_mul_neg] at this;omega
    omega
   ·exact h
   ·have:y*(Q-q)<=y:=by
     have:=Int.mul_le_mul_of_nonneg_left (show 1<=Q-q by omega) (show 0<=-y by omega)
     rw[Int.neg_mul,Int.neg_mul] at this;omega
    omega
  refine⟨this,?_⟩
  rw[this] at e;omega
 ·exact absurd h0 hy
 ·have a1:=Int.fmod_nonneg_of_pos x h0
  have a2:=Int.fmod_lt_of_pos x h0
  have ⟨b1,b2⟩:=h1 h0
  have:x.fdiv y=q:=by
   generalize x.fdiv y=Q at *
   generalize x.fmod y=R at *
   have h3:y*(Q-q)=r-R:=by rw[Int.mul_sub];omega
   rcases Ae Q q with h|h|h
   ·have:y*(Q-q)<=y*(-1):=Int.mul_le_mul_of_nonneg_left (show Q-q<=-1 by omega) (show 0<=y by omega)
    omega
   ·exact h
   ·have:y*1<=y*(Q-q):=Int.mul_le_mul_of_nonneg_left (show 1<=Q-q by omega) (show 0<=y by omega)
    omega
  refine⟨this,?_⟩
  rw[this] at e;omega
theorem LZ (b:Bool) (m n:Nat) (hn:0<n):(sg b m).fdiv (sg b n)=(m / n:Nat)/\(sg b m).fmod (sg b n)=sg b (m%n):=by
 have e:(m:Int)=n*(m / n:Nat)+(m%n:Nat):=by exact_mod_cast (Nat.div_add_mod m n).symm
 have hl:m%n<n:=yg _ hn
 refine BQ ?_ ?_ ?_ ?_<;>cases b<;>simp only[sg,Dk,if_false,zq]<;>first|omega|(rw[Int.neg_mul];omega)
theorem SA (b d:Bool) (m n:Nat) (hn:0<n) (hbd:(b != d)=true) (h:m%n=0):(sg b m).fdiv (sg d n)=sg true (m / n:Nat)/\(sg b m).fmod (sg d n)=0:=by
 have e:(m:Int)=n*(m / n:Nat)+(m%n:Nat):=by exact_mod_cast (Nat.div_add_mod m n).symm
 rw[h] at e
 generalize m / n=q at *
 refine BQ ?_ ?_ ?_ ?_<;>cases b<;>cases d<;>simp only[sg,Dk,if_false,zq,Int.neg_mul,Int.mul_neg]<;>first|(simp at hbd;done)|omega
theorem XG (b d:Bool) (m n:Nat) (hn:0<n) (hbd:(b != d)=true) (h:m%n≠0):(sg b m).fdiv (sg d n)=sg true (m / n+1:Nat)/\(sg b m).fmod (sg d n)=sg d (n-m%n):=by
 have e:(m:Int)=n*(m / n:Nat)+(m%n:Nat):=by exact_mod_cast (Nat.div_add_mod m n).symm
 have hl:m%n<n:=yg _ hn
 generalize m / n=q at *
 generalize m%n=r at *
 have e2:(n:Int)*((q+1:Nat):Int)=n*q+n:=by rw[Int.natCast_add,Int.mul_add];simp
 refine BQ ?_ ?_ ?_ ?_<;>cases b<;>cases d<;>simp only[sg,Dk,if_false,zq,Int.neg_mul,Int.mul_neg]<;>first|(simp at hbd;done)|omega
theorem pV {n d:Int} (hd:0<d):(Rat.divInt n d).num=n / (Int.gcd n d:Nat):=by
 rw[Rat.num_divInt,vw hd,Int.one_mul,Int.gcd_comm]
theorem pU {n d:Int} (hd:0<d):(((Rat.divInt n d).den:Nat):Int)=d / (Int.gcd n d:Nat):=by
 rw[Rat.den_divInt,ig (by omega),Int.gcd_comm]
 obtain⟨k,rfl⟩:=Ad (Int.le_of_lt hd)
 simp
theorem uM (n d:Int):Rat.divInt (-n) (-d)=Rat.divInt n d:=by
 rw[Rat.divInt_eq_div,Rat.divInt_eq_div]
 grind
theorem RV {n d:Int} (hd:d<0):(Rat.divInt n d).num=n / (-(Int.gcd n d:Nat)):=by
 rw[<-uM,pV (by omega),Int.ediv_neg,Int.gcd_neg,Int.neg_gcd]
 exact Int.neg_ediv_of_dvd (Int.gcd_dvd_left _ _)
theorem RS {n d:Int} (hd:d<0):(((Rat.divInt n d).den:Nat):Int)=d / (-(Int.gcd n d:Nat)):=by
 rw[<-uM,pU (by omega),Int.ediv_neg,Int.gcd_neg,Int.neg_gcd]
 exact Int.neg_ediv_of_dvd (Int.gcd_dvd_right _ _)
theorem RX {n d:Int} (hd:0<d) (hg:Int.gcd n d=1):(Rat.divInt n d).num=n:=by rw[pV hd,hg];simp
theorem RU {n d:Int} (hd:0<d) (hg:Int.gcd n d=1):((Rat.divInt n d).den:Int)=d:=by rw[pU hd,hg];simp
theorem b3U (q:Rat):Int.gcd q.num q.den=1:=q.reduced
theorem mW (q:Rat):0<(q.den:Int):=by have:=q.den_nz;omega
theorem a0I (x y:Rat):Rat.divInt (x.num*y.den+y.num*x.den) (x.den*y.den)=x+y:=by
 rw[Rat.add_def,Rat.normalize_eq_mkRat,<-Rat.divInt_ofNat];simp
theorem a0K (x y:Rat):Rat.divInt (x.num*y.num) (x.den*y.den)=x*y:=by
 rw[Rat.mul_def,Rat.normalize_eq_mkRat,<-Rat.divInt_ofNat];simp
theorem a0J (x y:Rat):Rat.divInt (x.num*y.den) (x.den*y.num)=x / y:=by
 have hx:=Rat.num_divInt_den x
 have hy:=Rat.num_divInt_den y
 conv=>rhs;rw[<-hx,<-hy]
 simp only[Rat.divInt_eq_div,zu]
 have h1:((x.den:Int):Rat)≠0:=by have:=x.den_nz;simp;exact this
 have h2:((y.den:Int):Rat)≠0:=by have:=y.den_nz;simp;exact this
 by_cases h3:(y.num:Rat)=0
 ·rw[h3];grind
 ·grind
theorem a4B (x y:Rat):x.num*y.den<y.num*x.den↔x<y:=(Rat.lt_iff x y).symm
theorem zF (x:Rat):x.num=0↔x=0:=Rat.num_eq_zero
theorem a5J (n:Int):((n:Rat)).num=n:=by simp
theorem a5I (n:Int):((n:Rat)).den=1:=by simp
theorem OM (x:Rat):(-x).num=-x.num:=Rat.neg_num x
theorem OL (x:Rat):(-x).den=x.den:=Rat.neg_den x
theorem VW (n d:Int):(Rat.divInt n d).num.natAbs<=n.natAbs/\((Rat.divInt n d).den<=d.natAbs\/d=0):=by
 constructor
 ·rw[Rat.num_divInt,Int.natAbs_ediv_of_dvd]
  ·rw[Int.natAbs_mul]
   refine jg (Bf _ _) ?_
   rcases Ae d 0 with h|h|h
   ·simp[uz h]
   ·subst h;simp
   ·simp[vw h]
  ·exact Int.dvd_mul_of_dvd_right (Int.gcd_dvd_right _ _)
 ·by_cases h:d=0
  ·exact .inr h
  ·left;rw[Rat.den_divInt,ig h];exact Bf _ _
def rsz (q:Rat):Nat:=max (isz q.num) (nsz q.den)
theorem zJ (n d:Int) (hd:d≠0) {k:Nat} (h1:isz n<=k) (h2:isz d<=k):rsz (Rat.divInt n d)<=k:=by
 have ⟨a,b⟩:=VW n d
 rcases b with b|b
 ·exact Nat.max_le.2 ⟨jg (TI a) h1,jg (KL b) h2⟩
 ·exact absurd b hd
theorem fA (q:Rat):isz q.num<=rsz q:=Nat.le_max_left _ _
theorem eF (q:Rat):isz q.den<=rsz q:=by
 have:isz (q.den:Int)=nsz q.den:=by simp[isz]
 rw[this];exact Nat.le_max_right _ _
theorem tK (x y:Rat):rsz (x*y)<=rsz x+rsz y:=by
 rw[<-a0K]
 refine zJ _ _ ?_ ?_ ?_
 ·have:=mW x;have:=mW y
  exact Int.ne_of_gt (Int.mul_pos (by assumption) (by assumption))
 ·have:=eH x.num y.num;have:=fA x;have:=fA y;omega
 ·have:=eH x.den y.den;have:=eF x;have:=eF y;omega
theorem a6w (x y:Rat):rsz (x+y)<=rsz x+rsz y+1:=by
 rw[<-a0I]
 refine zJ _ _ ?_ ?_ ?_
 ·have:=mW x;have:=mW y
  exact Int.ne_of_gt (Int.mul_pos (by assumption) (by assumption))
 ·have h1:=EW (x.num*y.den) (y.num*x.den)
  have h2:=eH x.num y.den
  have h3:=eH y.num x.den
  have:=fA x;have:=fA y
  have:=eF x;have:=eF y
  omega
 ·have:=eH x.den y.den;have:=eF x;have:=eF y;omega
theorem a0Q (x:Rat):rsz (-x)=rsz x:=by simp[rsz,nJ]
theorem b4g (x y:Rat):rsz (x-y)<=rsz x+rsz y+1:=by
 rw[Rat.sub_eq_add_neg];have:=a6w x (-y);rwa [a0Q] at this
theorem b4f (x y:Rat) (hy:y≠0):rsz (x / y)<=rsz x+rsz y:=by
 rw[<-a0J]
 refine zJ _ _ ?_ ?_ ?_
 ·have h1:=mW x
  have h2:y.num≠0:=fun h=>hy ((zF y).1 h)
  exact fun h=>by rcases Int.mul_eq_zero.1 h with h|h<;>omega
 ·have:=eH x.num y.den;have:=fA x;have:=eF y;omega
 ·have:=eH x.den y.num;have:=eF x;have:=fA y;omega
set_option linter.unusedSimpArgs false
set_option linter.unusedVariables false
theorem Below.al {w w':World} (h:Below w.heap.size w w') (o:Obj):Below w.heap.size w (w'.alloc o):=h.alloc h.size o
theorem Below.tr {w w' w'':World} (h:Below w.heap.size w w') (k:Below w'.heap.size w' w''):Below w.heap.size w w'':=h.trans (k.mono h.size)
theorem Below.qN {m:Nat} {w w':World} (h:Below m w w') (k:Nat):Below m w (w'.drewN k):=by
 induction k with
 | zero=>exact h
 | succ k ih=>exact ih.drew
theorem Bx.drewN {w:World} {b:Nat} {cs:List Value} (h:Bx w b cs) (k:Nat):Bx (w.drewN k) b cs:=h.to (Below.qN (dn _ _) k)
theorem Rd.aI {w:World} {s:Value} {l:List Nat} (h:Rd w s l) {b:Nat} {u0 u1:Value} (q:Bx w b [u0,u1]) (h0:bK u0=true) (h1:bK u1=true) (x0 x1:Value):Rd ((w.setCell ⟨b,0,none⟩ x0).setCell ⟨b,1,none⟩ x1) s l :=
 ((h.iW (a:=⟨b,0,none⟩) (u:=u0) (by exact q.c0) h0 x0).iW (a:=⟨b,1,none⟩) (u:=u1) (by rw[tq _ _ _ _ (by simp)];exact q.c1) h1 x1)
theorem Bx.store2 {w:World} {b:Nat} {u0 u1:Value} (h:Bx w b [u0,u1]) (x0 x1:Value):Bx ((w.setCell ⟨b,0,none⟩ x0).setCell ⟨b,1,none⟩ x1) b [x0,x1]:=by
 refine⟨by simpa [World.setCell] using h.1,fun i u hu=>?_⟩
 match i,hu with
 | 0,hu=>simp at hu;subst hu;simp[go_sem,h.c0,h.f0,h.c1,h.f1]
 | 1,hu=>simp at hu;subst hu;simp[go_sem,h.c0,h.f0,h.c1,h.f1]
 | _+2,hu=>simp at hu
theorem Bx.aO {w:World} {b':Nat} {cs:List Value} (h:Bx w b' cs) {b:Nat} (hne:b'≠b) (x0 x1:Value):Bx ((w.setCell ⟨b,0,none⟩ x0).setCell ⟨b,1,none⟩ x1) b' cs:=by
 refine⟨by simpa [World.setCell] using h.1,fun i u hu=>?_⟩
 have:=h.2 i u hu
 constructor
 ·rw[jr _ _ _ _ (fun e=>hne e.symm)];rw[jr _ _ _ _ (fun e=>hne e.symm)];exact this.1
 ·rw[Cb];rw[Cb];exact this.2
theorem Below.aI {m:Nat} {w' w:World} (h:Below m w' w) {b:Nat} (hb:m<=b) (x0 x1:Value):Below m w' ((w.setCell ⟨b,0,none⟩ x0).setCell ⟨b,1,none⟩ x1) :=
 ((h.setCell (p:=⟨b,0,none⟩) hb x0).setCell (p:=⟨b,1,none⟩) hb x1)
theorem Raw.aI {w:World} {v:Value} {x:Int} (h:Raw w v x) {b:Nat} {u0 u1:Value} (q:Bx w b [u0,u1]) (h0:bK u0=true) (h1:bK u1=true) (x0 x1:Value):Raw ((w.setCell ⟨b,0,none⟩ x0).setCell ⟨b,1,none⟩ x1) v x:=by
 obtain⟨neg,s,l,k1,k2,k3,k4⟩:=h;exact⟨neg,s,l,k1,k2.aI q h0 h1 x0 x1,k3,k4⟩
theorem dR.aI {w:World} {v:Value} {x:Int} (h:dR w v x) {b:Nat} {u0 u1:Value} (q:Bx w b [u0,u1]) (h0:bK u0=true) (h1:bK u1=true) (x0 x1:Value):dR ((w.setCell ⟨b,0,none⟩ x0).setCell ⟨b,1,none⟩ x1) v x:=by
 obtain⟨s,k1,k2⟩:=h;exact⟨s,k1,k2.aI q h0 h1 x0 x1⟩
theorem Rd.bG {w:World} {s:Value} {l:List Nat} (h:Rd w s l) {b:Nat} {u0 u1 u2 u3:Value} (q:Bx w b [u0,u1,u2,u3]) (h0:bK u0=true) (h1:bK u1=true) (h2:bK u2=true) (h3:bK u3=true) (x0 x1 x2 x3:Value):Rd ((((w.setCell ⟨b,0,none⟩ x0).setCell ⟨b,1,none⟩ x1).setCell ⟨b,2,none⟩ x2).setCell ⟨b,3,none⟩ x3) s l :=
 ((((h.iW (a:=⟨b,0,none⟩) (u:=u0) (by exact q.c0) h0 x0).iW (a:=⟨b,1,none⟩) (u:=u1) (by rw[tq _ _ _ _ (by simp)];exact q.c1) h1 x1).iW (a:=⟨b,2,none⟩) (u:=u2) (by rw[tq _ _ _ _ (by simp)];rw[tq _ _ _ _ (by simp)];exact q.c2) h2 x2).iW (a:=⟨b,3,none⟩) (u:=u3) (by rw[tq _ _ _ _ (by simp)];rw[tq _ _ _ _ (by simp)];rw[tq _ _ _ _ (by simp)];exact q.c3) h3 x3)
theorem Bx.vH {w:World} {b:Nat} {u0 u1 u2 u3:Value} (h:Bx w b [u0,u1,u2,u3]) (x0 x1 x2 x3:Value):Bx ((((w.setCell ⟨b,0,none⟩ x0).setCell ⟨b,1,none⟩ x1).setCell ⟨b,2,none⟩ x2).setCell ⟨b,3,none⟩ x3) b [x0,x1,x2,x3]:=by
 refine⟨by simpa [World.setCell] using h.1,fun i u hu=>?_⟩
 match i,hu with
 | 0,hu=>simp at hu;subst hu;simp[go_sem,h.c0,h.f0,h.c1,h.f1,h.c2,h.f2,h.c3,h.f3]
 | 1,hu=>simp at hu;subst hu;simp[go_sem,h.c0,h.f0,h.c1,h.f1,h.c2,h.f2,h.c3,h.f3]
 | 2,hu=>simp at hu;subst hu;simp[go_sem,h.c0,h.f0,h.c1,h.f1,h.c2,h.f2,h.c3,h.f3]
 | 3,hu=>simp at hu;subst hu;simp[go_sem,h.c0,h.f0,h.c1,h.f1,h.c2,h.f2,h.c3,h.f3]
 | _+4,hu=>simp at hu
theorem Bx.fD {w:World} {b':Nat} {cs:List Value} (h:Bx w b' cs) {b:Nat} (hne:b'≠b) (x0 x1 x2 x3:Value):Bx ((((w.setCell ⟨b,0,none⟩ x0).setCell ⟨b,1,none⟩ x1).setCell ⟨b,2,none⟩ x2).setCell ⟨b,3,none⟩ x3) b' cs:=by
 refine⟨by simpa [World.setCell] using h.1,fun i u hu=>?_⟩
 have:=h.2 i u hu
 constructor
 ·rw[jr _ _ _ _ (fun e=>hne e.symm)];rw[jr _ _ _ _ (fun e=>hne e.symm)];rw[jr _ _ _ _ (fun e=>hne e.symm)];rw[jr _ _ _ _ (fun e=>hne e.symm)];exact this.1
 ·rw[Cb];rw[Cb];rw[Cb];rw[Cb];exact this.2
theorem Below.bG {m:Nat} {w' w:World} (h:Below m w' w) {b:Nat} (hb:m<=b) (x0 x1 x2 x3:Value):Below m w' ((((w.setCell ⟨b,0,none⟩ x0).setCell ⟨b,1,none⟩ x1).setCell ⟨b,2,none⟩ x2).setCell ⟨b,3,none⟩ x3) :=
 ((((h.setCell (p:=⟨b,0,none⟩) hb x0).setCell (p:=⟨b,1,none⟩) hb x1).setCell (p:=⟨b,2,none⟩) hb x2).setCell (p:=⟨b,3,none⟩) hb x3)
theorem Raw.bG {w:World} {v:Value} {x:Int} (h:Raw w v x) {b:Nat} {u0 u1 u2 u3:Value} (q:Bx w b [u0,u1,u2,u3]) (h0:bK u0=true) (h1:bK u1=true) (h2:bK u2=true) (h3:bK u3=true) (x0 x1 x2 x3:Value):Raw ((((w.setCell ⟨b,0,none⟩ x0).setCell ⟨b,1,none⟩ x1).setCell ⟨b,2,none⟩ x2).setCell ⟨b,3,none⟩ x3) v x:=by
 obtain⟨neg,s,l,k1,k2,k3,k4⟩:=h;exact⟨neg,s,l,k1,k2.bG q h0 h1 h2 h3 x0 x1 x2 x3,k3,k4⟩
theorem dR.bG {w:World} {v:Value} {x:Int} (h:dR w v x) {b:Nat} {u0 u1 u2 u3:Value} (q:Bx w b [u0,u1,u2,u3]) (h0:bK u0=true) (h1:bK u1=true) (h2:bK u2=true) (h3:bK u3=true) (x0 x1 x2 x3:Value):dR ((((w.setCell ⟨b,0,none⟩ x0).setCell ⟨b,1,none⟩ x1).setCell ⟨b,2,none⟩ x2).setCell ⟨b,3,none⟩ x3) v x:=by
 obtain⟨s,k1,k2⟩:=h;exact⟨s,k1,k2.bG q h0 h1 h2 h3 x0 x1 x2 x3⟩
def iQ (w:World) (v:Value) (ok:Bool) (x:Int):Prop :=
 ∃ neg s l,v=.agg #[.bool neg,s]/\Rd w s l/\(∀ g ∈ l,g<4294967296)/\x=cnt neg l/\ok=LJ neg l
theorem iQ.raw {w:World} {v:Value} {ok:Bool} {x:Int} (h:iQ w v ok x):Raw w v x:=by
 obtain⟨neg,s,l,k1,k2,k3,k4,_⟩:=h;exact⟨neg,s,l,k1,k2,k3,k4⟩
theorem iQ.below {w w':World} {v:Value} {ok:Bool} {x:Int} (h:iQ w v ok x) (hb:Below w.heap.size w w'):iQ w' v ok x:=by
 obtain⟨neg,s,l,k1,k2,k3,k4⟩:=h;exact⟨neg,s,l,k1,k2.below hb,k3,k4⟩
theorem iQ.zero {w:World} {v:Value} {x:Int} (h:iQ w v false x):x=0:=by
 obtain⟨neg,s,l,k1,k2,k3,k4,k5⟩:=h;rw[k4];unfold cnt;rw[<-k5];rfl
theorem iQ.int {w:World} {v:Value} {x:Int} (h:iQ w v true x):dR w v x:=by
 obtain⟨neg,s,l,k1,k2,k3,k4,k5⟩:=h
 have hd:=a0f neg l
 have hc:cgs neg l=l:=by unfold cgs;rw[<-k5];rfl
 rw[hc,<-k4] at hd
 refine⟨s,?_,by rw[hd];exact k2⟩
 rw[k1]
 by_cases hx:x=0
 ·have hl:l=[]:=by rw[<-hd,hx];simp[dY]
  have:=(LM.1 k5.symm).2 hl
  rw[this,hx];simp
 ·have:=a1z (neg:=neg) (l:=l) (by rw[<-k4];exact hx)
  rw[<-k4] at this;rw[<-this]
theorem dR.b0V {w:World} {v:Value} {x:Int} (h:dR w v x):iQ w v true x:=by
 obtain⟨s,h1,h2⟩:=h
 exact⟨_,s,_,h1,h2,fun g hg=>by have:=dB _ g hg;rw[dG] at this;omega,(a5v x).symm,(a3w x).symm⟩
theorem Raw.len {w:World} {b:Bool} {p:Option Addr} {n c:Nat} {x:Int} (h:Raw w (.agg #[.bool b,.slice p n c]) x):isz x<=n:=by
 obtain⟨neg,s,l,k1,k2,k3,k4⟩:=h
 cases k1
 obtain⟨p',c',e,_⟩:=k2.form
 cases e
 unfold isz nsz
 rw[k4,a0f]
 unfold cgs
 split
 ·exact aj _
 ·simp
def RQ (w:World) (v:Value) (q:Rat):Prop:=∃ b s c t,v=.agg #[b,s,c,t]/\dR w (.agg #[b,s]) q.num/\dR w (.agg #[c,t]) (q.den:Int)
theorem RQ.num {w:World} {b s c t:Value} {q:Rat} (h:RQ w (.agg #[b,s,c,t]) q):dR w (.agg #[b,s]) q.num:=by
 obtain⟨_,_,_,_,e,h1,h2⟩:=h;cases e;exact h1
theorem RQ.den {w:World} {b s c t:Value} {q:Rat} (h:RQ w (.agg #[b,s,c,t]) q):dR w (.agg #[c,t]) (q.den:Int):=by
 obtain⟨_,_,_,_,e,h1,h2⟩:=h;cases e;exact h2
theorem RQ.mk' {w:World} {b s c t:Value} {q:Rat} {n d:Int} (h1:dR w (.agg #[b,s]) n) (h2:dR w (.agg #[c,t]) d) (hn:n=q.num) (hd:d=(q.den:Int)):RQ w (.agg #[b,s,c,t]) q :=
 ⟨b,s,c,t,rfl,hn ▸ h1,hd ▸ h2⟩
theorem RQ.below {w w':World} {v:Value} {q:Rat} (h:RQ w v q) (hb:Below w.heap.size w w'):RQ w' v q:=by
 obtain⟨b,s,c,t,e,h1,h2⟩:=h;exact⟨b,s,c,t,e,h1.below hb,h2.below hb⟩
theorem RQ.form {w:World} {v:Value} {q:Rat} (h:RQ w v q):∃ b p n c b' p' n' c',v=.agg #[.bool b,.slice p n c,.bool b',.slice p' n' c']:=by
 obtain⟨b,s,c,t,e,h1,h2⟩:=h
 obtain⟨_,_,_,_,e1⟩:=h1.form
 obtain⟨_,_,_,_,e2⟩:=h2.form
 cases e1;cases e2
 exact⟨_,_,_,_,_,_,_,_,e⟩
def iD (w:World) (v:Value) (ok:Bool) (q:Rat):Prop :=
 ∃ b s c t o1 o2 n d,v=.agg #[b,s,c,t]/\iQ w (.agg #[b,s]) o1 n/\iQ w (.agg #[c,t]) o2 d/\ok=(o1&&(o2&&(decide (0<d)&&decide (Int.gcd n d=1))))/\q=if ok then Rat.divInt n d else 0
theorem iD.below {w w':World} {v:Value} {ok:Bool} {q:Rat} (h:iD w v ok q) (hb:Below w.heap.size w w'):iD w' v ok q:=by
 obtain⟨b,s,c,t,o1,o2,n,d,e,h1,h2,h3⟩:=h;exact⟨b,s,c,t,o1,o2,n,d,e,h1.below hb,h2.below hb,h3⟩
theorem iD.form {w:World} {v:Value} {ok:Bool} {q:Rat} (h:iD w v ok q):∃ b p n c b' p' n' c',v=.agg #[.bool b,.slice p n c,.bool b',.slice p' n' c']:=by
 obtain⟨b,s,c,t,o1,o2,n,d,e,h1,h2,_⟩:=h
 obtain⟨_,_,_,_,e1⟩:=h1.raw.form
 obtain⟨_,_,_,_,e2⟩:=h2.raw.form
 cases e1;cases e2
 exact⟨_,_,_,_,_,_,_,_,e⟩
theorem iD.rq {w:World} {v:Value} {q:Rat} (h:iD w v true q):RQ w v q:=by
 obtain⟨b,s,c,t,o1,o2,n,d,e,h1,h2,h3,h4⟩:=h
 simp only[Bool.true_eq,ak,ay] at h3
 obtain⟨rfl,rfl,hd,hg⟩:=h3
 rw[gy rfl] at h4
 subst h4
 rw[e]
 exact RQ.mk' h1.int h2.int (RX hd hg).symm (RU hd hg).symm
theorem iD.no {w:World} {v:Value} {q:Rat} (h:iD w v false q):q=0:=by
 obtain⟨b,s,c,t,o1,o2,n,d,e,h1,h2,h3,h4⟩:=h
 simpa using h4
theorem RQ.raw {w:World} {v:Value} {q:Rat} (h:RQ w v q):iD w v true q:=by
 obtain⟨b,s,c,t,e,h1,h2⟩:=h
 refine⟨b,s,c,t,true,true,_,_,e,h1.b0V,h2.b0V,?_,?_⟩
 ·simp[b3U];exact Nat.pos_of_ne_zero q.den_nz
 ·rw[gy rfl,Rat.num_divInt_den]
theorem iQ.aI {w:World} {v:Value} {ok:Bool} {x:Int} (h:iQ w v ok x) {b:Nat} {u0 u1:Value} (q:Bx w b [u0,u1]) (h0:bK u0=true) (h1:bK u1=true) (x0 x1:Value):iQ ((w.setCell ⟨b,0,none⟩ x0).setCell ⟨b,1,none⟩ x1) v ok x:=by
 obtain⟨neg,s,l,k1,k2,k3,k4⟩:=h;exact⟨neg,s,l,k1,k2.aI q h0 h1 x0 x1,k3,k4⟩
theorem RQ.aI {w:World} {v:Value} {x:Rat} (h:RQ w v x) {b:Nat} {u0 u1:Value} (q:Bx w b [u0,u1]) (h0:bK u0=true) (h1:bK u1=true) (x0 x1:Value):RQ ((w.setCell ⟨b,0,none⟩ x0).setCell ⟨b,1,none⟩ x1) v x:=by
 obtain⟨a,s,c,t,e,k1,k2⟩:=h;exact⟨a,s,c,t,e,k1.aI q h0 h1 x0 x1,k2.aI q h0 h1 x0 x1⟩
theorem iD.aI {w:World} {v:Value} {ok:Bool} {x:Rat} (h:iD w v ok x) {b:Nat} {u0 u1:Value} (q:Bx w b [u0,u1]) (h0:bK u0=true) (h1:bK u1=true) (x0 x1:Value):iD ((w.setCell ⟨b,0,none⟩ x0).setCell ⟨b,1,none⟩ x1) v ok x:=by
 obtain⟨a,s,c,t,o1,o2,m,d,e,k1,k2,k3⟩:=h;exact⟨a,s,c,t,o1,o2,m,d,e,k1.aI q h0 h1 x0 x1,k2.aI q h0 h1 x0 x1,k3⟩
theorem iQ.bG {w:World} {v:Value} {ok:Bool} {x:Int} (h:iQ w v ok x) {b:Nat} {u0 u1 u2 u3:Value} (q:Bx w b [u0,u1,u2,u3]) (h0:bK u0=true) (h1:bK u1=true) (h2:bK u2=true) (h3:bK u3=true) (x0 x1 x2 x3:Value):iQ ((((w.setCell ⟨b,0,none⟩ x0).setCell ⟨b,1,none⟩ x1).setCell ⟨b,2,none⟩ x2).setCell ⟨b,3,none⟩ x3) v ok x:=by
 obtain⟨neg,s,l,k1,k2,k3,k4⟩:=h;exact⟨neg,s,l,k1,k2.bG q h0 h1 h2 h3 x0 x1 x2 x3,k3,k4⟩
theorem RQ.bG {w:World} {v:Value} {x:Rat} (h:RQ w v x) {b:Nat} {u0 u1 u2 u3:Value} (q:Bx w b [u0,u1,u2,u3]) (h0:bK u0=true) (h1:bK u1=true) (h2:bK u2=true) (h3:bK u3=true) (x0 x1 x2 x3:Value):RQ ((((w.setCell ⟨b,0,none⟩ x0).setCell ⟨b,1,none⟩ x1).setCell ⟨b,2,none⟩ x2).setCell ⟨b,3,none⟩ x3) v x:=by
 obtain⟨a,s,c,t,e,k1,k2⟩:=h;exact⟨a,s,c,t,e,k1.bG q h0 h1 h2 h3 x0 x1 x2 x3,k2.bG q h0 h1 h2 h3 x0 x1 x2 x3⟩
theorem iD.bG {w:World} {v:Value} {ok:Bool} {x:Rat} (h:iD w v ok x) {b:Nat} {u0 u1 u2 u3:Value} (q:Bx w b [u0,u1,u2,u3]) (h0:bK u0=true) (h1:bK u1=true) (h2:bK u2=true) (h3:bK u3=true) (x0 x1 x2 x3:Value):iD ((((w.setCell ⟨b,0,none⟩ x0).setCell ⟨b,1,none⟩ x1).setCell ⟨b,2,none⟩ x2).setCell ⟨b,3,none⟩ x3) v ok x:=by
 obtain⟨a,s,c,t,o1,o2,m,d,e,k1,k2,k3⟩:=h;exact⟨a,s,c,t,o1,o2,m,d,e,k1.bG q h0 h1 h2 h3 x0 x1 x2 x3,k2.bG q h0 h1 h2 h3 x0 x1 x2 x3,k3⟩
theorem iQ.alloc {w:World} {v:Value} {ok:Bool} {x:Int} (h:iQ w v ok x) (o:Obj):iQ (w.alloc o) v ok x:=h.below ((dn _ _).alloc (aj _) _)
theorem iQ.drew {w:World} {v:Value} {ok:Bool} {x:Int} (h:iQ w v ok x):iQ w.drew v ok x:=h.below (dn _ _).drew
theorem RQ.alloc {w:World} {v:Value} {x:Rat} (h:RQ w v x) (o:Obj):RQ (w.alloc o) v x:=h.below ((dn _ _).alloc (aj _) _)
theorem RQ.drew {w:World} {v:Value} {x:Rat} (h:RQ w v x):RQ w.drew v x:=h.below (dn _ _).drew
theorem iD.alloc {w:World} {v:Value} {ok:Bool} {x:Rat} (h:iD w v ok x) (o:Obj):iD (w.alloc o) v ok x:=h.below ((dn _ _).alloc (aj _) _)
theorem iD.drew {w:World} {v:Value} {ok:Bool} {x:Rat} (h:iD w v ok x):iD w.drew v ok x:=h.below (dn _ _).drew
def GQ (q:Rat) (w:World) (e:Ending) (w':World):Prop:=∃ v,e=.returned v/\RQ w' v q/\Below w.heap.size w w'
set_option maxRecDepth 20000
theorem Bx.c4 {w:World} {b:Nat} {u0 u1 u2 u3 u4:Value} {cs:List Value} (h:Bx w b (u0::u1::u2::u3::u4::cs)):w.cell? ⟨b,4,none⟩=some u4:=(h.2 4 u4 rfl).1
theorem Bx.f4 {w:World} {b:Nat} {u0 u1 u2 u3 u4:Value} {cs:List Value} (h:Bx w b (u0::u1::u2::u3::u4::cs)):w.frozen? ⟨b,4,none⟩=false:=(h.2 4 u4 rfl).2
theorem Bx.c5 {w:World} {b:Nat} {u0 u1 u2 u3 u4 u5:Value} {cs:List Value} (h:Bx w b (u0::u1::u2::u3::u4::u5::cs)):w.cell? ⟨b,5,none⟩=some u5:=(h.2 5 u5 rfl).1
theorem Bx.f5 {w:World} {b:Nat} {u0 u1 u2 u3 u4 u5:Value} {cs:List Value} (h:Bx w b (u0::u1::u2::u3::u4::u5::cs)):w.frozen? ⟨b,5,none⟩=false:=(h.2 5 u5 rfl).2
theorem Bx.c6 {w:World} {b:Nat} {u0 u1 u2 u3 u4 u5 u6:Value} {cs:List Value} (h:Bx w b (u0::u1::u2::u3::u4::u5::u6::cs)):w.cell? ⟨b,6,none⟩=some u6:=(h.2 6 u6 rfl).1
theorem Bx.c7 {w:World} {b:Nat} {u0 u1 u2 u3 u4 u5 u6 u7:Value} {cs:List Value} (h:Bx w b (u0::u1::u2::u3::u4::u5::u6::u7::cs)):w.cell? ⟨b,7,none⟩=some u7:=(h.2 7 u7 rfl).1
theorem Bx.f7 {w:World} {b:Nat} {u0 u1 u2 u3 u4 u5 u6 u7:Value} {cs:List Value} (h:Bx w b (u0::u1::u2::u3::u4::u5::u6::u7::cs)):w.frozen? ⟨b,7,none⟩=false:=(h.2 7 u7 rfl).2
theorem Bx.c8 {w:World} {b:Nat} {u0 u1 u2 u3 u4 u5 u6 u7 u8:Value} {cs:List Value} (h:Bx w b (u0::u1::u2::u3::u4::u5::u6::u7::u8::cs)):w.cell? ⟨b,8,none⟩=some u8:=(h.2 8 u8 rfl).1
theorem Bx.c9 {w:World} {b:Nat} {u0 u1 u2 u3 u4 u5 u6 u7 u8 u9:Value} {cs:List Value} (h:Bx w b (u0::u1::u2::u3::u4::u5::u6::u7::u8::u9::cs)):w.cell? ⟨b,9,none⟩=some u9:=(h.2 9 u9 rfl).1
theorem Bx.c10 {w:World} {b:Nat} {u0 u1 u2 u3 u4 u5 u6 u7 u8 u9 u10:Value} {cs:List Value} (h:Bx w b (u0::u1::u2::u3::u4::u5::u6::u7::u8::u9::u10::cs)):w.cell? ⟨b,10,none⟩=some u10:=(h.2 10 u10 rfl).1
theorem RQ.iW {w:World} {v:Value} {x:Rat} (h:RQ w v x) {a:Addr} {u:Value} (hc:w.cell? a=some u) (hu:bK u=true) (u':Value):RQ (w.setCell a u') v x:=by
 obtain⟨b,s,c,t,e,k1,k2⟩:=h;exact⟨b,s,c,t,e,k1.iW hc hu u',k2.iW hc hu u'⟩
theorem iQ.iW {w:World} {v:Value} {ok:Bool} {x:Int} (h:iQ w v ok x) {a:Addr} {u:Value} (hc:w.cell? a=some u) (hu:bK u=true) (u':Value):iQ (w.setCell a u') v ok x:=by
 obtain⟨neg,s,l,k1,k2,k3,k4⟩:=h;exact⟨neg,s,l,k1,k2.iW hc hu u',k3,k4⟩
theorem iD.iW {w:World} {v:Value} {ok:Bool} {x:Rat} (h:iD w v ok x) {a:Addr} {u:Value} (hc:w.cell? a=some u) (hu:bK u=true) (u':Value):iD (w.setCell a u') v ok x:=by
 obtain⟨b,s,c,t,o1,o2,m,d,e,k1,k2,k3⟩:=h;exact⟨b,s,c,t,o1,o2,m,d,e,k1.iW hc hu u',k2.iW hc hu u',k3⟩
theorem bx1 (w:World) {n:Nat} (h:w.heap.size=n) (c0:List Value) (t0:TypeId):Below w.heap.size w (w.alloc (.cells c0.toArray t0))/\Bx (w.alloc (.cells c0.toArray t0)) (n) c0:=by
 subst h
 exact⟨(dn _ _).alloc (aj _) _,by have:=(Bx.new w c0 t0);simpa using this⟩
theorem bx2 (w:World) {n:Nat} (h:w.heap.size=n) (c0:List Value) (t0:TypeId) (c1:List Value) (t1:TypeId):Below w.heap.size w ((w.alloc (.cells c0.toArray t0)).alloc (.cells c1.toArray t1))/\Bx ((w.alloc (.cells c0.toArray t0)).alloc (.cells c1.toArray t1)) (n) c0/\Bx ((w.alloc (.cells c0.toArray t0)).alloc (.cells c1.toArray t1)) (n+1) c1:=by
 subst h
 exact⟨Below.al ((dn _ _).alloc (aj _) _) _,by have:=((Bx.new w c0 t0).alloc (.cells c1.toArray t1));simpa using this,by have:=(Bx.new (w.alloc (.cells c0.toArray t0)) c1 t1);simpa using this⟩
theorem bx3 (w:World) {n:Nat} (h:w.heap.size=n) (c0:List Value) (t0:TypeId) (c1:List Value) (t1:TypeId) (c2:List Value) (t2:TypeId):Below w.heap.size w (((w.alloc (.cells c0.toArray t0)).alloc (.cells c1.toArray t1)).alloc (.cells c2.toArray t2))/\Bx (((w.alloc (.cells c0.toArray t0)).alloc (.cells c1.toArray t1)).alloc (.cells c2.toArray t2)) (n) c0/\Bx (((w.alloc (.cells c0.toArray t0)).alloc (.cells c1.toArray t1)).alloc (.cells c2.toArray t2)) (n+1) c1/\Bx (((w.alloc (.cells c0.toArray t0)).alloc (.cells c1.toArray t1)).alloc (.cells c2.toArray t2)) (n+1+1) c2:=by
 subst h
 exact⟨Below.al (Below.al ((dn _ _).alloc (aj _) _) _) _,by have:=(((Bx.new w c0 t0).alloc (.cells c1.toArray t1)).alloc (.cells c2.toArray t2));simpa using this,by have:=((Bx.new (w.alloc (.cells c0.toArray t0)) c1 t1).alloc (.cells c2.toArray t2));simpa using this,by have:=(Bx.new ((w.alloc (.cells c0.toArray t0)).alloc (.cells c1.toArray t1)) c2 t2);simpa using this⟩
theorem bx4 (w:World) {n:Nat} (h:w.heap.size=n) (c0:List Value) (t0:TypeId) (c1:List Value) (t1:TypeId) (c2:List Value) (t2:TypeId) (c3:List Value) (t3:TypeId):Below w.heap.size w ((((w.alloc (.cells c0.toArray t0)).alloc (.cells c1.toArray t1)).alloc (.cells c2.toArray t2)).alloc (.cells c3.toArray t3))/\Bx ((((w.alloc (.cells c0.toArray t0)).alloc (.cells c1.toArray t1)).alloc (.cells c2.toArray t2)).alloc (.cells c3.toArray t3)) (n) c0/\Bx ((((w.alloc (.cells c0.toArray t0)).alloc (.cells c1.toArray t1)).alloc (.cells c2.toArray t2)).alloc (.cells c3.toArray t3)) (n+1) c1/\Bx ((((w.alloc (.cells c0.toArray t0)).alloc (.cells c1.toArray t1)).alloc (.cells c2.toArray t2)).alloc (.cells c3.toArray t3)) (n+1+1) c2/\Bx ((((w.alloc (.cells c0.toArray t0)).alloc (.cells c1.toArray t1)).alloc (.cells c2.toArray t2)).alloc (.cells c3.toArray t3)) (n+1+1+1) c3:=by
 subst h
 exact⟨Below.al (Below.al (Below.al ((dn _ _).alloc (aj _) _) _) _) _,by have:=((((Bx.new w c0 t0).alloc (.cells c1.toArray t1)).alloc (.cells c2.toArray t2)).alloc (.cells c3.toArray t3));simpa using this,by have:=(((Bx.new (w.alloc (.cells c0.toArray t0)) c1 t1).alloc (.cells c2.toArray t2)).alloc (.cells c3.toArray t3));simpa using this,by have:=((Bx.new ((w.alloc (.cells c0.toArray t0)).alloc (.cells c1.toArray t1)) c2 t2).alloc (.cells c3.toArray t3));simpa using this,by have:=(Bx.new (((w.alloc (.cells c0.toArray t0)).alloc (.cells c1.toArray t1)).alloc (.cells c2.toArray t2)) c3 t3);simpa using this⟩
theorem Bx.cs2 {w:World} {b:Nat} {u0 u1:Value} (h:Bx w b [u0,u1]):w.cell? ⟨b,0,none⟩=some u0/\w.cell? ⟨b,1,none⟩=some u1 :=
 ⟨(h.2 0 u0 rfl).1,(h.2 1 u1 rfl).1⟩
theorem Bx.cs4 {w:World} {b:Nat} {u0 u1 u2 u3:Value} (h:Bx w b [u0,u1,u2,u3]):w.cell? ⟨b,0,none⟩=some u0/\w.cell? ⟨b,1,none⟩=some u1/\w.cell? ⟨b,2,none⟩=some u2/\w.cell? ⟨b,3,none⟩=some u3 :=
 ⟨(h.2 0 u0 rfl).1,(h.2 1 u1 rfl).1,(h.2 2 u2 rfl).1,(h.2 3 u3 rfl).1⟩
theorem Bx.cf2 {w:World} {b:Nat} {u0 u1:Value} (h:Bx w b [u0,u1]):w.cell? ⟨b,0,none⟩=some u0/\w.frozen? ⟨b,0,none⟩=false/\w.cell? ⟨b,1,none⟩=some u1/\w.frozen? ⟨b,1,none⟩=false :=
 ⟨(h.2 0 u0 rfl).1,(h.2 0 u0 rfl).2,(h.2 1 u1 rfl).1,(h.2 1 u1 rfl).2⟩
theorem Bx.cf4 {w:World} {b:Nat} {u0 u1 u2 u3:Value} (h:Bx w b [u0,u1,u2,u3]):w.cell? ⟨b,0,none⟩=some u0/\w.frozen? ⟨b,0,none⟩=false/\w.cell? ⟨b,1,none⟩=some u1/\w.frozen? ⟨b,1,none⟩=false/\w.cell? ⟨b,2,none⟩=some u2/\w.frozen? ⟨b,2,none⟩=false/\w.cell? ⟨b,3,none⟩=some u3/\w.frozen? ⟨b,3,none⟩=false :=
 ⟨(h.2 0 u0 rfl).1,(h.2 0 u0 rfl).2,(h.2 1 u1 rfl).1,(h.2 1 u1 rfl).2,(h.2 2 u2 rfl).1,(h.2 2 u2 rfl).2,(h.2 3 u3 rfl).1,(h.2 3 u3 rfl).2⟩
def iC (S:World->Prop):Prop:=∀ A B:World,S A->Below A.heap.size A B->S B
def dQ (b:Nat) (S:World->Prop):Prop:=∀ (A:World) (j:Nat) (x:Value),S A->S (A.setCell ⟨b,j,none⟩ x)
theorem iC.go {S:World->Prop} (h:iC S) {A B:World} (hS:S A) (hb:Below A.heap.size A B):S B:=h A B hS hb
theorem dQ.go2 {S:World->Prop} {b:Nat} (h:dQ b S) {A:World} {x0 x1:Value} (hS:S A):S ((A.setCell ⟨b,0,none⟩ x0).setCell ⟨b,1,none⟩ x1):=(h _ _ _ (h _ _ _ hS))
theorem dQ.go4 {S:World->Prop} {b:Nat} (h:dQ b S) {A:World} {x0 x1 x2 x3:Value} (hS:S A):S ((((A.setCell ⟨b,0,none⟩ x0).setCell ⟨b,1,none⟩ x1).setCell ⟨b,2,none⟩ x2).setCell ⟨b,3,none⟩ x3):=(h _ _ _ (h _ _ _ (h _ _ _ (h _ _ _ hS))))
abbrev aK (S T:World->Prop) (w:World):Prop:=S w/\T w
theorem aK.mk {S T:World->Prop} {w:World} (x:S w) (y:T w):aK S T w:=⟨x,y⟩
theorem aK.hk {S T:World->Prop} (h:iC S) (h':iC T):iC (aK S T):=fun A B x hb=>⟨h A B x.1 hb,h' A B x.2 hb⟩
theorem aK.hc {S T:World->Prop} {b:Nat} (h:dQ b S) (h':dQ b T):dQ b (aK S T):=fun A j v x=>⟨h A j v x.1,h' A j v x.2⟩
abbrev BT (w:World):Prop:=True
theorem BT.of (w:World):BT w:=trivial
theorem BT.hk:iC BT:=fun _ _ _ _=>trivial
theorem BT.hc {b:Nat}:dQ b BT:=fun _ _ _ _=>trivial
abbrev BN (b:Nat) (w:World):Prop:=b<w.heap.size
theorem BN.of {w:World} {b:Nat} {cs:List Value} (h:Bx w b cs):BN b w:=h.1
theorem BN.hk {b:Nat}:iC (BN b):=fun A B x hb=>ku x hb.size
theorem BN.hc {b b':Nat}:dQ b' (BN b):=fun A j v x=>by simpa [World.setCell] using x
abbrev BC (b o:Nat) (u:Value) (w:World):Prop:=w.cell? ⟨b,o,none⟩=some u/\b<w.heap.size
theorem BC.of {w w':World} {b o:Nat} {u:Value} (hb:Below w.heap.size w w') (hl:b<w.heap.size) (hc:w.cell? ⟨b,o,none⟩=some u):BC b o u w':=⟨((gU hb).1 _ _ hl).trans hc,ku hl hb.size⟩
theorem BC.at {w w':World} {b o:Nat} {u:Value} (h:BC b o u w) (hb:Below w.heap.size w w'):w'.cell? ⟨b,o,none⟩=some u:=((gU hb).1 _ _ h.2).trans h.1
theorem BC.hk {b o:Nat} {u:Value}:iC (BC b o u):=fun A B x hb=>⟨((gU hb).1 _ _ x.2).trans x.1,ku x.2 hb.size⟩
theorem BC.hc {b b' o:Nat} {u:Value} (h:b≠b'):dQ b' (BC b o u):=fun A j v x=>⟨(jr _ _ _ _ (fun e=>h e.symm)).trans x.1,by simpa [World.setCell] using x.2⟩
abbrev BS1 (b:Nat) (u0:Value) (w:World):Prop:=w.cell? ⟨b,0,none⟩=some u0/\b<w.heap.size
theorem BS1.hk {b:Nat} {u0:Value}:iC (BS1 b u0):=fun A B ⟨h0,hl⟩ hb=>⟨((gU hb).1 _ _ hl).trans h0,ku hl hb.size⟩
theorem BS1.hc {b b':Nat} {u0:Value} (h:b≠b'):dQ b' (BS1 b u0):=fun A j v ⟨h0,hl⟩=>⟨(jr _ _ _ _ (fun e=>h e.symm)).trans h0,by simpa [World.setCell] using hl⟩
abbrev BS2 (b:Nat) (u0 u1:Value) (w:World):Prop:=w.cell? ⟨b,0,none⟩=some u0/\w.cell? ⟨b,1,none⟩=some u1/\b<w.heap.size
theorem Bx.bs2 {w:World} {b:Nat} {u0 u1:Value} (h:Bx w b [u0,u1]):BS2 b u0 u1 w:=⟨(h.2 0 u0 rfl).1,(h.2 1 u1 rfl).1,h.1⟩
theorem BS2.hk {b:Nat} {u0 u1:Value}:iC (BS2 b u0 u1):=fun A B ⟨h0,h1,hl⟩ hb=>⟨((gU hb).1 _ _ hl).trans h0,((gU hb).1 _ _ hl).trans h1,ku hl hb.size⟩
theorem BS2.hc {b b':Nat} {u0 u1:Value} (h:b≠b'):dQ b' (BS2 b u0 u1):=fun A j v ⟨h0,h1,hl⟩=>⟨(jr _ _ _ _ (fun e=>h e.symm)).trans h0,(jr _ _ _ _ (fun e=>h e.symm)).trans h1,by simpa [World.setCell] using hl⟩
abbrev BS4 (b:Nat) (u0 u1 u2 u3:Value) (w:World):Prop:=w.cell? ⟨b,0,none⟩=some u0/\w.cell? ⟨b,1,none⟩=some u1/\w.cell? ⟨b,2,none⟩=some u2/\w.cell? ⟨b,3,none⟩=some u3/\b<w.heap.size
theorem Bx.bs4 {w:World} {b:Nat} {u0 u1 u2 u3:Value} (h:Bx w b [u0,u1,u2,u3]):BS4 b u0 u1 u2 u3 w:=⟨(h.2 0 u0 rfl).1,(h.2 1 u1 rfl).1,(h.2 2 u2 rfl).1,(h.2 3 u3 rfl).1,h.1⟩
theorem BS4.hk {b:Nat} {u0 u1 u2 u3:Value}:iC (BS4 b u0 u1 u2 u3):=fun A B ⟨h0,h1,h2,h3,hl⟩ hb=>⟨((gU hb).1 _ _ hl).trans h0,((gU hb).1 _ _ hl).trans h1,((gU hb).1 _ _ hl).trans h2,((gU hb).1 _ _ hl).trans h3,ku hl hb.size⟩
theorem BS4.hc {b b':Nat} {u0 u1 u2 u3:Value} (h:b≠b'):dQ b' (BS4 b u0 u1 u2 u3):=fun A j v ⟨h0,h1,h2,h3,hl⟩=>⟨(jr _ _ _ _ (fun e=>h e.symm)).trans h0,(jr _ _ _ _ (fun e=>h e.symm)).trans h1,(jr _ _ _ _ (fun e=>h e.symm)).trans h2,(jr _ _ _ _ (fun e=>h e.symm)).trans h3,by simpa [World.setCell] using hl⟩
abbrev BS8 (b:Nat) (u0 u1 u2 u3 u4 u5 u6 u7:Value) (w:World):Prop:=w.cell? ⟨b,0,none⟩=some u0/\w.cell? ⟨b,1,none⟩=some u1/\w.cell? ⟨b,2,none⟩=some u2/\w.cell? ⟨b,3,none⟩=some u3/\w.cell? ⟨b,4,none⟩=some u4/\w.cell? ⟨b,5,none⟩=some u5/\w.cell? ⟨b,6,none⟩=some u6/\w.cell? ⟨b,7,none⟩=some u7/\b<w.heap.size
theorem BS8.hk {b:Nat} {u0 u1 u2 u3 u4 u5 u6 u7:Value}:iC (BS8 b u0 u1 u2 u3 u4 u5 u6 u7):=fun A B ⟨h0,h1,h2,h3,h4,h5,h6,h7,hl⟩ hb=>⟨((gU hb).1 _ _ hl).trans h0,((gU hb).1 _ _ hl).trans h1,((gU hb).1 _ _ hl).trans h2,((gU hb).1 _ _ hl).trans h3,((gU hb).1 _ _ hl).trans h4,((gU hb).1 _ _ hl).trans h5,((gU hb).1 _ _ hl).trans h6,((gU hb).1 _ _ hl).trans h7,ku hl hb.size⟩
theorem BS8.hc {b b':Nat} {u0 u1 u2 u3 u4 u5 u6 u7:Value} (h:b≠b'):dQ b' (BS8 b u0 u1 u2 u3 u4 u5 u6 u7):=fun A j v ⟨h0,h1,h2,h3,h4,h5,h6,h7,hl⟩=>⟨(jr _ _ _ _ (fun e=>h e.symm)).trans h0,(jr _ _ _ _ (fun e=>h e.symm)).trans h1,(jr _ _ _ _ (fun e=>h e.symm)).trans h2,(jr _ _ _ _ (fun e=>h e.symm)).trans h3,(jr _ _ _ _ (fun e=>h e.symm)).trans h4,(jr _ _ _ _ (fun e=>h e.symm)).trans h5,(jr _ _ _ _ (fun e=>h e.symm)).trans h6,(jr _ _ _ _ (fun e=>h e.symm)).trans h7,by simpa [World.setCell] using hl⟩
set_option maxRecDepth 100000
set_option maxHeartbeats 2000000
theorem Canon.pos {b:List Nat} (hb:Canon b) (h:b≠[]):0<val b:=by
 rcases yj (val b) with h0|h0
 ·have:=fE hb
  rw[h0,dY] at this
  exact absurd this.symm h
 ·exact h0
def ZI (l m:List Nat) (w:World) (e:Ending) (w':World):Prop:=∃ v1 v2,e=.returned (.tuple #[v1,v2])/\Rd w' v1 l/\Rd w' v2 m/\Below w.heap.size w w'
theorem b3P (s t:Value) (a b:List Nat) (w:World) (hs:Rd w s a) (ht:Rd w t b) (ha:Canon a) (hb:Canon b) (la:a.length<=1000000000) (hb0:b≠[]) (hlt:val a<val b) :
  Calls Tryz.prog 172 #[s,t] w (ZI (dig (val a / val b)) (dig (val a%val b)) w):=by
 have hbp:=hb.pos hb0
 obtain⟨p,c,rfl,hc1,hc2⟩:=hs.form
 obtain⟨q,d,rfl,hd1,hd2⟩:=ht.form
 have HX:Hid (dig (val a / val b)=[]/\dig (val a%val b)=a):=by
  refine⟨by rw[Dw hlt,dY],by rw[Dj hlt,fE ha]⟩
 have hcv:dV (val a) (val b)=-1:=by unfold dV;rw[gy (by omega)]
 have HCV:=bn hcv
 clear hcv hlt hbp
 go_enter Tryz.func172,Tryz.ntmps172
 go_wp2_with fail
 refine(mG _ _ a b _ hs ht ha hb).mono ?_
 rw[HCV.out]
 rintro e w1 ⟨rfl,hb1⟩
 go_wp2_with fail
 go_ret2
 exact⟨_,_,rfl,by rw[HX.out.1];exact Rd.nil _,by rw[HX.out.2];exact hs.below hb1,hb1⟩
theorem a4n (s t:Value) (a b:List Nat) (w:World) (hs:Rd w s a) (ht:Rd w t b) (ha:Canon a) (hb:Canon b) (la:a.length<=1000000000) (hb0:b≠[]) (hle:val b<=val a) (ha2:a.length<=2) :
  Calls Tryz.prog 172 #[s,t] w (ZI (dig (val a / val b)) (dig (val a%val b)) w):=by
 have hbp:=hb.pos hb0
 obtain⟨p,c,rfl,hc1,hc2⟩:=hs.form
 obtain⟨q,d,rfl,hd1,hd2⟩:=ht.form
 have hlen:b.length<=a.length:=by
  have:=aN hle
  rwa [fE ha,fE hb] at this
 have hb1':1<=b.length:=qp.2 hb0
 have hc:0<=dV (val a) (val b):=by unfold dV;rw[ig (by omega)];split<;>omega
 obtain⟨cv,hcv⟩:∃ cv,dV (val a) (val b)=cv:=⟨_,rfl⟩
 rw[hcv] at hc
 have hdc:decide (cv<0)=false:=by simpa using hc
 have HCV:=bn hcv
 have HLE:=bn hle
 have HBP:=bn hbp
 clear hcv hle hbp hc
 have hb2:b.length<=2:=by omega
 have hA:val a<=999999999999999999:=by
  have h1:=qH ha.1
  have h2:BB ^ a.length<=BB ^ 2:=wz jL ha2
  rw[dG] at h1 h2
  omega
 have hbv:0<val b:=HBP.out
 have c1s:val b<=val a:=HLE.out
 obtain⟨A,hA'⟩:∃ A,val a=A:=⟨_,rfl⟩
 obtain⟨B,hB'⟩:∃ B,val b=B:=⟨_,rfl⟩
 rw[hA'] at hA c1s ⊢
 rw[hB'] at hbv c1s ⊢
 have hq1:A / B<=A:=Bf _ _
 have hr1:A%B<B:=yg _ hbv
 obtain⟨Q,hQ⟩:∃ Q,A / B=Q:=⟨_,rfl⟩
 obtain⟨R,hR⟩:∃ R,A%B=R:=⟨_,rfl⟩
 rw[hQ] at hq1 ⊢
 rw[hR] at hr1 ⊢
 have i1:(A:Int) / B=Q:=by rw[<-hQ];simp
 have i2:(A:Int)%B=R:=by rw[<-hR];simp
 have i3:(A:Int).tmod B=R:=by rw[Bz (by omega)];exact i2
 have w1:IntKind.u64.wrap (Q:Int)=Q:=wrap_u64 (by omega)
 have w2:IntKind.u64.wrap (R:Int)=R:=wrap_u64 (by omega)
 have hdz:((B:Int)==0)=false:=by simp;omega
 have hdn:¬ B=0:=by omega
 have a9O:=fun w=>UE (n:=A) (d:=B) (v:=Q) (by omega) hA i1 w1 w
 have a9P:=fun w=>KW (n:=A) (d:=B) (v:=R) (by omega) hA i2 w2 w
 have HAB:=bn (And.intro hA' hB')
 clear hQ hR hA' hB'
 go_enter Tryz.func172,Tryz.ntmps172
 go_wp2_with fail
 refine(mG _ _ a b _ hs ht ha hb).mono ?_
 rw[HCV.out]
 rintro e w1 ⟨rfl,hb1⟩
 go_wp2_with fail
 refine(sN _ a _ (hs.below hb1) ha.1 ha2).mono ?_
 rw[HAB.out.1]
 rintro e w2 ⟨rfl,hb2'⟩
 go_wp2_with fail
 refine(sN _ b _ ((ht.below hb1).below hb2') hb.1 hb2).mono ?_
 rw[HAB.out.2]
 rintro e w3 ⟨rfl,hb3⟩
 have hB3:=(hb1.trans (hb2'.mono hb1.size)).trans (hb3.mono (jg hb1.size hb2'.size))
 have tk1:True:=trivial
 have hz3:=hB3.size
 go_wp2_with fail
 have S0:(fun _:World=>True) w3.drew:=trivial
 go_region_held3 (fun _:World=>True) (trivial)
  (first
   | (have:=tk1;clear tk1;go_at_call 159;(with_reducible refine(uI Q _ (by omega)).mono ?_);rintro e w4 ⟨v4,rfl,ho4,hb4⟩)
   | (go_at_call 159;(with_reducible refine(uI R _ (by omega)).mono ?_);rintro e w5 ⟨v5,rfl,ho5,hb5⟩))
 go_wp2_with fail
 go_ret2
 exact⟨_,_,rfl,(Rd.dO ho4).below hb5,Rd.dO ho5,(hB3.drew.trans (hb4.mono hz3)).trans (hb5.mono (jg hz3 hb4.size))⟩
theorem b0J (s t:Value) (a b:List Nat) (w:World) (hs:Rd w s a) (ht:Rd w t b) (ha:Canon a) (hb:Canon b) (la:a.length<=1000000000) (hb0:b≠[]) (hle:val b<=val a) (ha3:2<a.length) (XM:b.length=1) :
  Calls Tryz.prog 172 #[s,t] w (ZI (dig (val a / val b)) (dig (val a%val b)) w):=by
 have hbp:=hb.pos hb0
 obtain⟨p,c,rfl,hc1,hc2⟩:=hs.form
 obtain⟨q,d,rfl,hd1,hd2⟩:=ht.form
 have hlen:b.length<=a.length:=by
  have:=aN hle
  rwa [fE ha,fE hb] at this
 have hb1':1<=b.length:=qp.2 hb0
 have hc:0<=dV (val a) (val b):=by unfold dV;rw[ig (by omega)];split<;>omega
 obtain⟨cv,hcv⟩:∃ cv,dV (val a) (val b)=cv:=⟨_,rfl⟩
 rw[hcv] at hc
 have hdc:decide (cv<0)=false:=by simpa using hc
 have HCV:=bn hcv
 have HLE:=bn hle
 have HBP:=bn hbp
 clear hcv hle hbp hc
 obtain⟨d0,rfl⟩:∃ d0,b=[d0]:=by
  cases b with
  | nil=>simp at XM
  | cons x t=>cases t with
   | nil=>exact⟨x,rfl⟩
   | cons=>simp at XM
 have ht':Rd w (.slice q 1 d) [d0]:=ht
 show Calls Tryz.prog 172 #[.slice p a.length c,.slice q 1 d] w _
 obtain⟨gb,ob,rfl,hgb,hcb⟩:=ht'.at (by simp)
 have hc0:w.cell? ⟨gb,ob,none⟩=some (.int .u32 (d0:Nat)):=by simpa [gr] using hcb 0 (by simp)
 have b5L:d0<=999999999:=by have:=hb.1 d0 (by simp);rw[dG] at this;omega
 have hvd:val [d0]=d0:=by simp[dH]
 have hd0:1<=d0:=by have:=HBP.out;rw[hvd] at this;exact this
 have hr0:val a%d0<d0:=yg _ hd0
 have HVD:=bn hvd
 clear hvd hcb XM
 go_enter Tryz.func172,Tryz.ntmps172
 go_wp2_with fail
 refine(mG _ _ a [d0] _ hs ht' ha hb).mono ?_
 rw[HCV.out]
 rintro e w1 ⟨rfl,hb1⟩
 go_wp2_with fail
 refine(zV _ a _ (hs.below hb1) ha3).mono ?_
 rintro e w2 ⟨rfl,hb2'⟩
 go_wp2_with fail
 refine(sN _ [d0] _ ((ht'.below hb1).below hb2') hb.1 (by simp)).mono ?_
 rintro e w3 ⟨rfl,hb3⟩
 have hB3:=(hb1.trans (hb2'.mono hb1.size)).trans (hb3.mono (jg hb1.size hb2'.size))
 have hc3:w3.cell? ⟨gb,ob,none⟩=some (.int .u32 (d0:Nat)):=(hB3.cell (p:=⟨gb,ob,none⟩) hgb).trans hc0
 have hs3:=hs.below hB3
 have hz3:=hB3.size
 go_wp2_with fail
 refine(short_any _ a d0 _ hs3 ha.1 hd0 b5L (by omega)).mono ?_
 rintro e w4 ⟨v4,rfl,ho4,hb4⟩
 obtain⟨R,hR⟩:∃ R,val a%d0=R:=⟨_,rfl⟩
 rw[hR] at hr0 ⊢
 have HR:=bn hR
 clear hR
 go_wp2_with fail
 refine(uI R _ (by omega)).mono ?_
 rintro e w5 ⟨v5,rfl,ho5,hb5⟩
 go_wp2_with fail
 go_ret2
 exact⟨_,_,rfl,by rw[HVD.out];exact(Rd.dO ho4).below hb5,by rw[HVD.out,HR.out];exact Rd.dO ho5,(hB3.trans (hb4.mono hz3)).trans (hb5.mono (jg hz3 hb4.size))⟩
theorem a7M (s t:Value) (a b:List Nat) (w:World) (hs:Rd w s a) (ht:Rd w t b) (ha:Canon a) (hb:Canon b) (la:a.length<=1000000000) (hb0:b≠[]) (hle:val b<=val a) (ha3:2<a.length) (XM:b.length≠1) :
  Calls Tryz.prog 172 #[s,t] w (ZI (dig (val a / val b)) (dig (val a%val b)) w):=by
 have hbp:=hb.pos hb0
 obtain⟨p,c,rfl,hc1,hc2⟩:=hs.form
 obtain⟨q,d,rfl,hd1,hd2⟩:=ht.form
 have hlen:b.length<=a.length:=by
  have:=aN hle
  rwa [fE ha,fE hb] at this
 have hb1':1<=b.length:=qp.2 hb0
 have hc:0<=dV (val a) (val b):=by unfold dV;rw[ig (by omega)];split<;>omega
 obtain⟨cv,hcv⟩:∃ cv,dV (val a) (val b)=cv:=⟨_,rfl⟩
 rw[hcv] at hc
 have hdc:decide (cv<0)=false:=by simpa using hc
 have HCV:=bn hcv
 have HLE:=bn hle
 have HBP:=bn hbp
 clear hcv hle hbp hc
 have hb2:2<=b.length:=by omega
 have hne:((b.length:Int)==1)=false:=by simp;omega
 have hz:=fun(w3:World) (hB3:Below w.heap.size w w3)=>b0l _ _ a b w3 (hs.below hB3) (ht.below hB3) ha hb la hb2 HLE.out
 have HZ:=bn hz
 have HN1:=bn XM
 clear hz XM
 by_cases hb3:b.length<=2
 all_goals
  go_enter Tryz.func172,Tryz.ntmps172
  go_wp2_with fail
  refine(mG _ _ a b _ hs ht ha hb).mono ?_
  rw[HCV.out]
  rintro e w1 ⟨rfl,hb1⟩
  go_wp2_with fail
  refine(zV _ a _ (hs.below hb1) ha3).mono ?_
  rintro e w2 ⟨rfl,hb2'⟩
  go_wp2_with fail
  first
   |refine(sN _ b _ ((ht.below hb1).below hb2') hb.1 hb3).mono ?_
   |refine(zV _ b _ ((ht.below hb1).below hb2') (by omega)).mono ?_
  rintro e w3 ⟨rfl,c3F⟩
  have hB3:=(hb1.trans (hb2'.mono hb1.size)).trans (c3F.mono (jg hb1.size hb2'.size))
  go_wp2_with fail
  refine(HZ.out _ hB3).mono ?_
  rintro e w4 ⟨v1,v2,rfl,hv1,hv2,hb4⟩
  go_wp2_with fail
  go_ret2
  exact⟨_,_,rfl,hv1,hv2,hB3.trans (hb4.mono hB3.size)⟩
theorem uZ (s t:Value) (a b:List Nat) (w:World) (hs:Rd w s a) (ht:Rd w t b) (ha:Canon a) (hb:Canon b) (la:a.length<=1000000000) (hb0:b≠[]) :
  Calls Tryz.prog 172 #[s,t] w (ZI (dig (val a / val b)) (dig (val a%val b)) w):=by
 by_cases hlt:val a<val b
 ·exact b3P s t a b w hs ht ha hb la hb0 hlt
 ·by_cases ha2:a.length<=2
  ·exact a4n s t a b w hs ht ha hb la hb0 (by omega) ha2
  ·by_cases h1:b.length=1
   ·exact b0J s t a b w hs ht ha hb la hb0 (by omega) (by omega) h1
   ·exact a7M s t a b w hs ht ha hb la hb0 (by omega) (by omega) h1
end Go.Proofs.YtgplhbhfdgempaaGreat
