/-
  Lemmas for the theorem vrelative28_holds, part 5 of 35.
-/
import Derived.Deep.MidRow
import Derived.Test.YtbkocjmmbkifjaaGreatQr04
namespace Go.Proofs.YtbkocjmmbkifjaaGreat
open Go Go.RowKit
theorem vk:type_of% @World.cell?_setCell_far:=@World.cell?_setCell_far
theorem Aa:type_of% @Nat.succ_mul:=@Nat.succ_mul
theorem Di:type_of% @List.take_left:=@List.take_left
theorem Ej:type_of% @List.drop_drop:=@List.drop_drop
theorem Au:type_of% @List.drop_left:=@List.drop_left
set_option linter.unusedSimpArgs false
set_option linter.unusedVariables false
theorem Below.al {w w':World} (h:Below w.heap.size w w') (o:Obj):Below w.heap.size w (w'.alloc o):=h.alloc h.size o
theorem Below.tr {w w' w'':World} (h:Below w.heap.size w w') (k:Below w'.heap.size w' w''):Below w.heap.size w w'':=h.trans (k.mono h.size)
theorem Below.sG {m:Nat} {w w':World} (h:Below m w w') (k:Nat):Below m w (w'.drewN k):=by
 induction k with
 | zero=>exact h
 | succ k ih=>exact ih.drew
theorem Bx.drewN {w:World} {b:Nat} {cs:List Value} (h:Bx w b cs) (k:Nat):Bx (w.drewN k) b cs:=h.to (Below.sG (gy _ _) k)
theorem Rd.iM {w:World} {s:Value} {l:List Nat} (h:Rd w s l) {b:Nat} {u0 u1:Value} (q:Bx w b [u0,u1]) (h0:fF u0=true) (h1:fF u1=true) (x0 x1:Value):Rd ((w.setCell ⟨b,0,none⟩ x0).setCell ⟨b,1,none⟩ x1) s l :=
 ((h.NV (a:=⟨b,0,none⟩) (u:=u0) (by exact q.c0) h0 x0).NV (a:=⟨b,1,none⟩) (u:=u1) (by rw[World.cell?_setCell_other _ _ _ _ (by simp)];exact q.c1) h1 x1)
theorem Bx.store2 {w:World} {b:Nat} {u0 u1:Value} (h:Bx w b [u0,u1]) (x0 x1:Value):Bx ((w.setCell ⟨b,0,none⟩ x0).setCell ⟨b,1,none⟩ x1) b [x0,x1]:=by
 refine⟨by simpa [World.setCell] using h.1,fun i u hu=>?_⟩
 match i,hu with
 | 0,hu=>simp at hu;subst hu;simp[go_sem,h.c0,h.f0,h.c1,h.f1]
 | 1,hu=>simp at hu;subst hu;simp[go_sem,h.c0,h.f0,h.c1,h.f1]
 | _+2,hu=>simp at hu
theorem Bx.xA {w:World} {b':Nat} {cs:List Value} (h:Bx w b' cs) {b:Nat} (hne:b'≠b) (x0 x1:Value):Bx ((w.setCell ⟨b,0,none⟩ x0).setCell ⟨b,1,none⟩ x1) b' cs:=by
 refine⟨by simpa [World.setCell] using h.1,fun i u hu=>?_⟩;have:=h.2 i u hu;constructor
 ·rw[vk _ _ _ _ (fun e=>hne e.symm)];rw[vk _ _ _ _ (fun e=>hne e.symm)];exact this.1
 ·rw[xq];rw[xq];exact this.2
theorem Below.iM {m:Nat} {w' w:World} (h:Below m w' w) {b:Nat} (hb:m<=b) (x0 x1:Value):Below m w' ((w.setCell ⟨b,0,none⟩ x0).setCell ⟨b,1,none⟩ x1) :=
 ((h.setCell (p:=⟨b,0,none⟩) hb x0).setCell (p:=⟨b,1,none⟩) hb x1)
theorem eY.iM {w:World} {v:Value} {x:Int} (h:eY w v x) {b:Nat} {u0 u1:Value} (q:Bx w b [u0,u1]) (h0:fF u0=true) (h1:fF u1=true) (x0 x1:Value):eY ((w.setCell ⟨b,0,none⟩ x0).setCell ⟨b,1,none⟩ x1) v x:=by obtain⟨s,k1,k2⟩:=h;exact⟨s,k1,k2.iM q h0 h1 x0 x1⟩
def uV (w:World) (v:Value) (ok:Bool) (x:Int):Prop :=
 ∃ neg s l,v=.agg #[.bool neg,s]/\Rd w s l/\(∀ g ∈ l,g<4294967296)/\x=cnt neg l/\ok=LW neg l
theorem uV.raw {w:World} {v:Value} {ok:Bool} {x:Int} (h:uV w v ok x):Raw w v x:=by obtain⟨neg,s,l,k1,k2,k3,k4,_⟩:=h;exact⟨neg,s,l,k1,k2,k3,k4⟩
theorem uV.below {w w':World} {v:Value} {ok:Bool} {x:Int} (h:uV w v ok x) (hb:Below w.heap.size w w'):uV w' v ok x:=by obtain⟨neg,s,l,k1,k2,k3,k4⟩:=h;exact⟨neg,s,l,k1,k2.below hb,k3,k4⟩
theorem uV.zero {w:World} {v:Value} {x:Int} (h:uV w v false x):x=0:=by obtain⟨neg,s,l,k1,k2,k3,k4,k5⟩:=h;rw[k4];unfold cnt;rw[<-k5];rfl
theorem uV.int {w:World} {v:Value} {x:Int} (h:uV w v true x):eY w v x:=by
 obtain⟨neg,s,l,k1,k2,k3,k4,k5⟩:=h;have hd:=a0Q neg l;have hc:cgs neg l=l:=by unfold cgs;rw[<-k5];rfl
 rw[hc,<-k4] at hd;refine⟨s,?_,by rw[hd];exact k2⟩;rw[k1];by_cases hx:x=0
 ·have hl:l=[]:=by rw[<-hd,hx];simp[dX]
  have:=(LX.1 k5.symm).2 hl;rw[this,hx];simp
 ·have:=a2h (neg:=neg) (l:=l) (by rw[<-k4];exact hx);rw[<-k4] at this;rw[<-this]
theorem eY.a9d {w:World} {v:Value} {x:Int} (h:eY w v x):uV w v true x:=by obtain⟨s,h1,h2⟩:=h;exact⟨_,s,_,h1,h2,fun g hg=>by have:=bZ _ g hg;rw[bV] at this;omega,(a5U x).symm,(a3T x).symm⟩
theorem Raw.len {w:World} {b:Bool} {p:Option Addr} {n c:Nat} {x:Int} (h:Raw w (.agg #[.bool b,.slice p n c]) x):isz x<=n:=by
 obtain⟨neg,s,l,k1,k2,k3,k4⟩:=h;cases k1;obtain⟨p',c',e,_⟩:=k2.form;cases e;unfold isz nsz;rw[k4,a0Q];unfold cgs;split
 ·exact aj _
 ·simp
def RQ (w:World) (v:Value) (q:Rat):Prop:=∃ b s c t,v=.agg #[b,s,c,t]/\eY w (.agg #[b,s]) q.num/\eY w (.agg #[c,t]) (q.den:Int)
theorem RQ.mk' {w:World} {b s c t:Value} {q:Rat} {n d:Int} (h1:eY w (.agg #[b,s]) n) (h2:eY w (.agg #[c,t]) d) (hn:n=q.num) (hd:d=(q.den:Int)):RQ w (.agg #[b,s,c,t]) q :=
 ⟨b,s,c,t,rfl,hn ▸ h1,hd ▸ h2⟩
theorem RQ.form {w:World} {v:Value} {q:Rat} (h:RQ w v q):∃ b p n c b' p' n' c',v=.agg #[.bool b,.slice p n c,.bool b',.slice p' n' c']:=by obtain⟨b,s,c,t,e,h1,h2⟩:=h;obtain⟨_,_,_,_,e1⟩:=h1.form;obtain⟨_,_,_,_,e2⟩:=h2.form;cases e1;cases e2;exact⟨_,_,_,_,_,_,_,_,e⟩
def PY (w:World) (v:Value) (ok:Bool) (q:Rat):Prop :=
 ∃ b s c t o1 o2 n d,v=.agg #[b,s,c,t]/\uV w (.agg #[b,s]) o1 n/\uV w (.agg #[c,t]) o2 d/\ok=(o1&&(o2&&(decide (0<d)&&decide (Int.gcd n d=1))))/\q=if ok then Rat.divInt n d else 0
theorem PY.rq {w:World} {v:Value} {q:Rat} (h:PY w v true q):RQ w v q:=by obtain⟨b,s,c,t,o1,o2,n,d,e,h1,h2,h3,h4⟩:=h;simp only[Bool.true_eq,ay,jc] at h3;obtain⟨rfl,rfl,hd,hg⟩:=h3;rw[dn rfl] at h4;subst h4;rw[e];exact RQ.mk' h1.int h2.int (SY hd hg).symm (SV hd hg).symm
theorem PY.no {w:World} {v:Value} {q:Rat} (h:PY w v false q):q=0:=by obtain⟨b,s,c,t,o1,o2,n,d,e,h1,h2,h3,h4⟩:=h;simpa using h4
theorem RQ.raw {w:World} {v:Value} {q:Rat} (h:RQ w v q):PY w v true q:=by
 obtain⟨b,s,c,t,e,h1,h2⟩:=h;refine⟨b,s,c,t,true,true,_,_,e,h1.a9d,h2.a9d,?_,?_⟩
 ·simp[KX];exact Nat.pos_of_ne_zero q.den_nz
 ·rw[dn rfl,Bz]
set_option maxRecDepth 20000
theorem bx1 (w:World) {n:Nat} (h:w.heap.size=n) (c0:List Value) (t0:TypeId):Below w.heap.size w (w.alloc (.cells c0.toArray t0))/\Bx (w.alloc (.cells c0.toArray t0)) (n) c0:=by subst h;exact⟨(gy _ _).alloc (aj _) _,by have:=(Bx.new w c0 t0);simpa using this⟩
theorem bx2 (w:World) {n:Nat} (h:w.heap.size=n) (c0:List Value) (t0:TypeId) (c1:List Value) (t1:TypeId):Below w.heap.size w ((w.alloc (.cells c0.toArray t0)).alloc (.cells c1.toArray t1))/\Bx ((w.alloc (.cells c0.toArray t0)).alloc (.cells c1.toArray t1)) (n) c0/\Bx ((w.alloc (.cells c0.toArray t0)).alloc (.cells c1.toArray t1)) (n+1) c1:=by subst h;exact⟨Below.al ((gy _ _).alloc (aj _) _) _,by have:=((Bx.new w c0 t0).alloc (.cells c1.toArray t1));simpa using this,by have:=(Bx.new (w.alloc (.cells c0.toArray t0)) c1 t1);simpa using this⟩
theorem bx3 (w:World) {n:Nat} (h:w.heap.size=n) (c0:List Value) (t0:TypeId) (c1:List Value) (t1:TypeId) (c2:List Value) (t2:TypeId):Below w.heap.size w (((w.alloc (.cells c0.toArray t0)).alloc (.cells c1.toArray t1)).alloc (.cells c2.toArray t2))/\Bx (((w.alloc (.cells c0.toArray t0)).alloc (.cells c1.toArray t1)).alloc (.cells c2.toArray t2)) (n) c0/\Bx (((w.alloc (.cells c0.toArray t0)).alloc (.cells c1.toArray t1)).alloc (.cells c2.toArray t2)) (n+1) c1/\Bx (((w.alloc (.cells c0.toArray t0)).alloc (.cells c1.toArray t1)).alloc (.cells c2.toArray t2)) (n+1+1) c2:=by subst h;exact⟨Below.al (Below.al ((gy _ _).alloc (aj _) _) _) _,by have:=(((Bx.new w c0 t0).alloc (.cells c1.toArray t1)).alloc (.cells c2.toArray t2));simpa using this,by have:=((Bx.new (w.alloc (.cells c0.toArray t0)) c1 t1).alloc (.cells c2.toArray t2));simpa using this,by have:=(Bx.new ((w.alloc (.cells c0.toArray t0)).alloc (.cells c1.toArray t1)) c2 t2);simpa using this⟩
theorem Bx.cs2 {w:World} {b:Nat} {u0 u1:Value} (h:Bx w b [u0,u1]):w.cell? ⟨b,0,none⟩=some u0/\w.cell? ⟨b,1,none⟩=some u1 :=
 ⟨(h.2 0 u0 rfl).1,(h.2 1 u1 rfl).1⟩
theorem Bx.cf2 {w:World} {b:Nat} {u0 u1:Value} (h:Bx w b [u0,u1]):w.cell? ⟨b,0,none⟩=some u0/\w.frozen? ⟨b,0,none⟩=false/\w.cell? ⟨b,1,none⟩=some u1/\w.frozen? ⟨b,1,none⟩=false :=
 ⟨(h.2 0 u0 rfl).1,(h.2 0 u0 rfl).2,(h.2 1 u1 rfl).1,(h.2 1 u1 rfl).2⟩
def RY (S:World->Prop):Prop:=∀ A B:World,S A->Below A.heap.size A B->S B
theorem RY.go {S:World->Prop} (h:RY S) {A B:World} (hS:S A) (hb:Below A.heap.size A B):S B:=h A B hS hb
abbrev a3X (S T:World->Prop) (w:World):Prop:=S w/\T w
theorem a3X.mk {S T:World->Prop} {w:World} (x:S w) (y:T w):a3X S T w:=⟨x,y⟩
theorem a3X.hk {S T:World->Prop} (h:RY S) (h':RY T):RY (a3X S T):=fun A B x hb=>⟨h A B x.1 hb,h' A B x.2 hb⟩
abbrev BS2 (b:Nat) (u0 u1:Value) (w:World):Prop:=w.cell? ⟨b,0,none⟩=some u0/\w.cell? ⟨b,1,none⟩=some u1/\b<w.heap.size
theorem Bx.bs2 {w:World} {b:Nat} {u0 u1:Value} (h:Bx w b [u0,u1]):BS2 b u0 u1 w:=⟨(h.2 0 u0 rfl).1,(h.2 1 u1 rfl).1,h.1⟩
theorem BS2.hk {b:Nat} {u0 u1:Value}:RY (BS2 b u0 u1):=fun A B ⟨h0,h1,hl⟩ hb=>⟨((zI hb).1 _ _ hl).trans h0,((zI hb).1 _ _ hl).trans h1,qh hl hb.size⟩
set_option maxRecDepth 100000
set_option maxHeartbeats 2000000
theorem Canon.pos {b:List Nat} (hb:Canon b) (h:b≠[]):0<val b:=by
 rcases Ai (val b) with h0|h0
 ·have:=dP hb;rw[h0,dX] at this;exact absurd this.symm h
 ·exact h0
def a0s (l m:List Nat) (w:World) (e:Ending) (w':World):Prop:=∃ v1 v2,e=.returned (.tuple #[v1,v2])/\Rd w' v1 l/\Rd w' v2 m/\Below w.heap.size w w'
theorem b6G (s t:Value) (a b:List Nat) (w:World) (hs:Rd w s a) (ht:Rd w t b) (ha:Canon a) (hb:Canon b) (la:a.length<=1000000000) (hb0:b≠[]) (hlt:val a<val b) :
  Calls Tryz.prog 251 #[s,t] w (a0s (dig (val a / val b)) (dig (val a%val b)) w):=by
 have hbp:=hb.pos hb0;obtain⟨p,c,rfl,hc1,hc2⟩:=hs.form;obtain⟨q,d,rfl,hd1,hd2⟩:=ht.form;have HX:Hid (dig (val a / val b)=[]/\dig (val a%val b)=a):=by refine⟨by rw[Ez hlt,dX],by rw[Ef hlt,dP ha]⟩
 have hcv:dF (val a) (val b)=-1:=by unfold dF;rw[dn (by omega)]
 have HCV:=bf hcv;clear hcv hlt hbp
 go_enter Tryz.func251,Tryz.ntmps251
 go_wp2_with fail
 refine(lQ _ _ a b _ hs ht ha hb).mono ?_;rw[HCV.out];rintro e w1 ⟨rfl,hb1⟩
 go_wp2_with fail
 go_ret2
 exact⟨_,_,rfl,by rw[HX.out.1];exact Rd.nil _,by rw[HX.out.2];exact hs.below hb1,hb1⟩
theorem a4M (s t:Value) (a b:List Nat) (w:World) (hs:Rd w s a) (ht:Rd w t b) (ha:Canon a) (hb:Canon b) (la:a.length<=1000000000) (hb0:b≠[]) (hle:val b<=val a) (ha2:a.length<=2) :
  Calls Tryz.prog 251 #[s,t] w (a0s (dig (val a / val b)) (dig (val a%val b)) w):=by
 have hbp:=hb.pos hb0;obtain⟨p,c,rfl,hc1,hc2⟩:=hs.form;obtain⟨q,d,rfl,hd1,hd2⟩:=ht.form;have hlen:b.length<=a.length:=by have:=aX hle;rwa [dP ha,dP hb] at this
 have hb1':1<=b.length:=yc.2 hb0;have hc:0<=dF (val a) (val b):=by unfold dF;rw[bn (by omega)];split<;>omega
 obtain⟨cv,hcv⟩:∃ cv,dF (val a) (val b)=cv:=⟨_,rfl⟩;rw[hcv] at hc;have hdc:decide (cv<0)=false:=by simpa using hc
 have HCV:=bf hcv;have HLE:=bf hle;have HBP:=bf hbp;clear hcv hle hbp hc;have hb2:b.length<=2:=by omega
 have hA:val a<=999999999999999999:=by have h1:=mG ha.1;have h2:BB ^ a.length<=BB ^ 2:=vg gU ha2;rw[bV] at h1 h2;omega
 have hbv:0<val b:=HBP.out;have c5V:val b<=val a:=HLE.out;obtain⟨A,hA'⟩:∃ A,val a=A:=⟨_,rfl⟩;obtain⟨B,hB'⟩:∃ B,val b=B:=⟨_,rfl⟩;rw[hA'] at hA c5V ⊢;rw[hB'] at hbv c5V ⊢;have hq1:A / B<=A:=Nat.div_le_self _ _;have hr1:A%B<B:=xg _ hbv;obtain⟨Q,hQ⟩:∃ Q,A / B=Q:=⟨_,rfl⟩;obtain⟨R,hR⟩:∃ R,A%B=R:=⟨_,rfl⟩;rw[hQ] at hq1 ⊢;rw[hR] at hr1 ⊢;have i1:(A:Int) / B=Q:=by rw[<-hQ];simp
 have i2:(A:Int)%B=R:=by rw[<-hR];simp
 have i3:(A:Int).tmod B=R:=by rw[Bf (by omega)];exact i2
 have w1:IntKind.u64.wrap (Q:Int)=Q:=wrap_u64 (by omega);have w2:IntKind.u64.wrap (R:Int)=R:=wrap_u64 (by omega);have hdz:((B:Int)==0)=false:=by simp;omega
 have hdn:¬ B=0:=by omega
 have b1C:=fun w=>VD (n:=A) (d:=B) (v:=Q) (by omega) hA i1 w1 w;have b5A:=fun w=>VG (n:=A) (d:=B) (v:=R) (by omega) hA i2 w2 w;have HAB:=bf (And.intro hA' hB');clear hQ hR hA' hB'
 go_enter Tryz.func251,Tryz.ntmps251
 go_wp2_with fail
 refine(lQ _ _ a b _ hs ht ha hb).mono ?_;rw[HCV.out];rintro e w1 ⟨rfl,hb1⟩
 go_wp2_with fail
 refine(DN _ a _ (hs.below hb1) ha.1 ha2).mono ?_;rw[HAB.out.1];rintro e w2 ⟨rfl,hb2'⟩
 go_wp2_with fail
 refine(DN _ b _ ((ht.below hb1).below hb2') hb.1 hb2).mono ?_;rw[HAB.out.2];rintro e w3 ⟨rfl,hb3⟩;have hB3:=(hb1.trans (hb2'.mono hb1.size)).trans (hb3.mono (au hb1.size hb2'.size));have tk1:True:=trivial;have hz3:=hB3.size
 go_wp2_with fail
 have S0:(fun _:World=>True) w3.drew:=trivial
 go_region_held3 (fun _:World=>True) (trivial)
  (first
   | (have:=tk1;clear tk1;go_at_call 247;(with_reducible refine(uQ Q _ (by omega)).mono ?_);rintro e w4 ⟨v4,rfl,ho4,hb4⟩)
   | (go_at_call 247;(with_reducible refine(uQ R _ (by omega)).mono ?_);rintro e w5 ⟨v5,rfl,ho5,hb5⟩))
 go_wp2_with fail
 go_ret2
 exact⟨_,_,rfl,(Rd.dN ho4).below hb5,Rd.dN ho5,(hB3.drew.trans (hb4.mono hz3)).trans (hb5.mono (au hz3 hb4.size))⟩
theorem b2N (s t:Value) (a b:List Nat) (w:World) (hs:Rd w s a) (ht:Rd w t b) (ha:Canon a) (hb:Canon b) (la:a.length<=1000000000) (hb0:b≠[]) (hle:val b<=val a) (ha3:2<a.length) (YQ:b.length=1) :
  Calls Tryz.prog 251 #[s,t] w (a0s (dig (val a / val b)) (dig (val a%val b)) w):=by
 have hbp:=hb.pos hb0;obtain⟨p,c,rfl,hc1,hc2⟩:=hs.form;obtain⟨q,d,rfl,hd1,hd2⟩:=ht.form;have hlen:b.length<=a.length:=by have:=aX hle;rwa [dP ha,dP hb] at this
 have hb1':1<=b.length:=yc.2 hb0;have hc:0<=dF (val a) (val b):=by unfold dF;rw[bn (by omega)];split<;>omega
 obtain⟨cv,hcv⟩:∃ cv,dF (val a) (val b)=cv:=⟨_,rfl⟩;rw[hcv] at hc;have hdc:decide (cv<0)=false:=by simpa using hc
 have HCV:=bf hcv;have HLE:=bf hle;have HBP:=bf hbp;clear hcv hle hbp hc;obtain⟨d0,rfl⟩:∃ d0,b=[d0]:=by
  cases b with
  | nil=>simp at YQ
  | cons x t=>cases t with
   | nil=>exact⟨x,rfl⟩
   | cons=>simp at YQ
 have ht':Rd w (.slice q 1 d) [d0]:=ht;show Calls Tryz.prog 251 #[.slice p a.length c,.slice q 1 d] w _;obtain⟨gb,ob,rfl,hgb,hcb⟩:=ht'.at (by simp);have hc0:w.cell? ⟨gb,ob,none⟩=some (.int .u32 (d0:Nat)):=by simpa [gr] using hcb 0 (by simp)
 have b9N:d0<=999999999:=by have:=hb.1 d0 (by simp);rw[bV] at this;omega
 have hvd:val [d0]=d0:=by simp[dA]
 have hd0:1<=d0:=by have:=HBP.out;rw[hvd] at this;exact this
 have hr0:val a%d0<d0:=xg _ hd0;have HVD:=bf hvd;clear hvd hcb YQ
 go_enter Tryz.func251,Tryz.ntmps251
 go_wp2_with fail
 refine(lQ _ _ a [d0] _ hs ht' ha hb).mono ?_;rw[HCV.out];rintro e w1 ⟨rfl,hb1⟩
 go_wp2_with fail
 refine(RV _ a _ (hs.below hb1) ha3).mono ?_;rintro e w2 ⟨rfl,hb2'⟩
 go_wp2_with fail
 refine(DN _ [d0] _ ((ht'.below hb1).below hb2') hb.1 (by simp)).mono ?_;rintro e w3 ⟨rfl,hb3⟩;have hB3:=(hb1.trans (hb2'.mono hb1.size)).trans (hb3.mono (au hb1.size hb2'.size));have hc3:w3.cell? ⟨gb,ob,none⟩=some (.int .u32 (d0:Nat)):=(hB3.cell (p:=⟨gb,ob,none⟩) hgb).trans hc0;have hs3:=hs.below hB3;have hz3:=hB3.size
 go_wp2_with fail
 refine(short_any _ a d0 _ hs3 ha.1 hd0 b9N (by omega)).mono ?_;rintro e w4 ⟨v4,rfl,ho4,hb4⟩;obtain⟨R,hR⟩:∃ R,val a%d0=R:=⟨_,rfl⟩;rw[hR] at hr0 ⊢;have HR:=bf hR;clear hR
 go_wp2_with fail
 refine(uQ R _ (by omega)).mono ?_;rintro e w5 ⟨v5,rfl,ho5,hb5⟩
 go_wp2_with fail
 go_ret2
 exact⟨_,_,rfl,by rw[HVD.out];exact(Rd.dN ho4).below hb5,by rw[HVD.out,HR.out];exact Rd.dN ho5,(hB3.trans (hb4.mono hz3)).trans (hb5.mono (au hz3 hb4.size))⟩
theorem a8W (s t:Value) (a b:List Nat) (w:World) (hs:Rd w s a) (ht:Rd w t b) (ha:Canon a) (hb:Canon b) (la:a.length<=1000000000) (hb0:b≠[]) (hle:val b<=val a) (ha3:2<a.length) (YQ:b.length≠1) :
  Calls Tryz.prog 251 #[s,t] w (a0s (dig (val a / val b)) (dig (val a%val b)) w):=by
 have hbp:=hb.pos hb0;obtain⟨p,c,rfl,hc1,hc2⟩:=hs.form;obtain⟨q,d,rfl,hd1,hd2⟩:=ht.form;have hlen:b.length<=a.length:=by have:=aX hle;rwa [dP ha,dP hb] at this
 have hb1':1<=b.length:=yc.2 hb0;have hc:0<=dF (val a) (val b):=by unfold dF;rw[bn (by omega)];split<;>omega
 obtain⟨cv,hcv⟩:∃ cv,dF (val a) (val b)=cv:=⟨_,rfl⟩;rw[hcv] at hc;have hdc:decide (cv<0)=false:=by simpa using hc
 have HCV:=bf hcv;have HLE:=bf hle;have HBP:=bf hbp;clear hcv hle hbp hc;have hb2:2<=b.length:=by omega
 have hne:((b.length:Int)==1)=false:=by simp;omega
 have hz:=fun(w3:World) (hB3:Below w.heap.size w w3)=>b2p _ _ a b w3 (hs.below hB3) (ht.below hB3) ha hb la hb2 HLE.out;have HZ:=bf hz;have HN1:=bf YQ;clear hz YQ;by_cases hb3:b.length<=2;all_goals
  go_enter Tryz.func251,Tryz.ntmps251
  go_wp2_with fail
  refine(lQ _ _ a b _ hs ht ha hb).mono ?_;rw[HCV.out];rintro e w1 ⟨rfl,hb1⟩
  go_wp2_with fail
  refine(RV _ a _ (hs.below hb1) ha3).mono ?_;rintro e w2 ⟨rfl,hb2'⟩
  go_wp2_with fail
  first
   |refine(DN _ b _ ((ht.below hb1).below hb2') hb.1 hb3).mono ?_
   |refine(RV _ b _ ((ht.below hb1).below hb2') (by omega)).mono ?_
  rintro e w3 ⟨rfl,c8D⟩;have hB3:=(hb1.trans (hb2'.mono hb1.size)).trans (c8D.mono (au hb1.size hb2'.size))
  go_wp2_with fail
  refine(HZ.out _ hB3).mono ?_;rintro e w4 ⟨v1,v2,rfl,hv1,hv2,hb4⟩
  go_wp2_with fail
  go_ret2
  exact⟨_,_,rfl,hv1,hv2,hB3.trans (hb4.mono hB3.size)⟩
theorem a3r (s t:Value) (a b:List Nat) (w:World) (hs:Rd w s a) (ht:Rd w t b) (ha:Canon a) (hb:Canon b) (la:a.length<=1000000000) (hb0:b≠[]) :
  Calls Tryz.prog 251 #[s,t] w (a0s (dig (val a / val b)) (dig (val a%val b)) w):=by
 by_cases hlt:val a<val b
 ·exact b6G s t a b w hs ht ha hb la hb0 hlt
 ·by_cases ha2:a.length<=2
  ·exact a4M s t a b w hs ht ha hb la hb0 (by omega) ha2
  ·by_cases h1:b.length=1
   ·exact b2N s t a b w hs ht ha hb la hb0 (by omega) (by omega) h1
   ·exact a8W s t a b w hs ht ha hb la hb0 (by omega) (by omega) h1
theorem GU {w:World} {v:Value} {x y:Int} (h:eY w v x) (e:x=y):eY w v y:=e ▸ h
set_option maxHeartbeats 4000000
theorem gcd_zero {l1:List Nat} {x y:Int} (h:Nat.gcd (val l1) (val ([]:List Nat))=Int.gcd x y):sg false (val l1)=((Int.gcd x y:Nat):Int):=by rw[<-h];simp[val,sg]
theorem TN {a b g:Nat} (h:Nat.gcd a b=g):Nat.gcd b (a%b)=g:=by rw[<-h,Nat.gcd_comm a b,Nat.gcd_rec b a,Nat.gcd_comm]
theorem a8v (x y:Int):Hid (Nat.gcd (val (dig x.natAbs)) (val (dig y.natAbs))=Int.gcd x y):=by unfold Hid;rw[bM,bM];rfl
theorem YK {l:List Nat} (h:Canon l) (h2:l.length<=2):val l<=999999999999999999:=by have h1:=mG h.1;have h3:BB ^ l.length<=BB ^ 2:=vg gU h2;rw[bV] at h1 h3;omega
theorem a5u (v:Value) (ok:Bool) (x:Int) (w:World) (h:uV w v ok x) :
  Calls Tryz.prog 212 #[v] w fun e w'=>e=.returned (.bool ok)/\Below w.heap.size w w':=by
 obtain⟨neg,s,l,rfl,k2,k3,k4,k5⟩:=h;have:=OE neg s l w k2;rw[<-k5] at this;exact this
def sgn (x:Int):Int:=x.sign
theorem c4d {x:Int} (h:x≠0):sgn x≠0:=fun e=>h (wu.1 e)
def Qn (v:Value) (k:Nat):Prop:=∃ b p n c b' p' n' c',v=.agg #[.bool b,.slice p n c,.bool b',.slice p' n' c']/\n<=k/\n'<=k
theorem eY.len {w:World} {b:Bool} {p:Option Addr} {n c:Nat} {x:Int} (h:eY w (.agg #[.bool b,.slice p n c]) x):n=isz x:=by obtain⟨s,k1,k2⟩:=h;cases k1;obtain⟨p',c',e,_⟩:=k2.form;cases e;rfl
theorem RQ.a5d {w:World} {v:Value} {q:Rat} {k:Nat} (h:RQ w v q) (hn:Qn v k):rsz q<=k:=by
 obtain⟨b,s,c,t,e,h1,h2⟩:=h;obtain⟨b1,p1,n1,c1,b2,p2,n2,c2,e1,l1,l2⟩:=hn;rw[e1] at e;cases e;rw[h1.len] at l1;rw[h2.len] at l2;have:isz (q.den:Int)=nsz q.den:=by simp[isz]
 rw[this] at l2;exact Nat.max_le.2 ⟨l1,l2⟩
theorem b3A:rsz 0=1:=by decide +kernel
theorem PY.a5d {w:World} {v:Value} {ok:Bool} {q:Rat} {k:Nat} (h:PY w v ok q) (hn:Qn v k) (hk:1<=k):rsz q<=k:=by
 cases ok
 ·rw[h.no,b3A];exact hk
 ·exact h.rq.a5d hn
structure jK (F:Nat->Prop) (w w':World):Prop where
 blk:∀ b,F b->w'.heap[b]?=w.heap[b]?
 dig:∀ b o n,w.cell? ⟨b,o,none⟩=some (.int .u32 n)->w'.cell? ⟨b,o,none⟩=some (.int .u32 n)
 size:w.heap.size<=w'.heap.size
theorem jK.refl (F:Nat->Prop) (w:World):jK F w w:=⟨fun _ _=>rfl,fun _ _ _ h=>h,aj _⟩
theorem jK.trans {F:Nat->Prop} {a b c:World} (h:jK F a b) (k:jK F b c):jK F a c :=
 ⟨fun q hq=>(k.blk q hq).trans (h.blk q hq),fun q o n hc=>k.dig q o n (h.dig q o n hc),au h.size k.size⟩
theorem jK.less {F F':Nat->Prop} {a b:World} (h:jK F' a b) (hF:∀ q,F q->F' q):jK F a b:=⟨fun q hq=>h.blk q (hF q hq),h.dig,h.size⟩
theorem cell_lt {w:World} {b o:Nat} {v:Value} (h:w.cell? ⟨b,o,none⟩=some v):b<w.heap.size:=by
 simp only[World.cell?] at h;by_cases hb:b<w.heap.size
 ·exact hb
 ·grind
theorem Rd.stay {F:Nat->Prop} {w w':World} {s:Value} {l:List Nat} (h:Rd w s l) (hs:jK F w w'):Rd w' s l:=by
 rcases h with h|⟨b,o,c,h1,h2,h3,h4,h5⟩
 ·exact .inl h
 ·exact .inr ⟨b,o,c,h1,h2,h3,qh h4 hs.size,fun i hi=>hs.dig _ _ _ (h5 i hi)⟩
theorem eY.stay {F:Nat->Prop} {w w':World} {v:Value} {x:Int} (h:eY w v x) (hs:jK F w w'):eY w' v x:=by obtain⟨s,h1,h2⟩:=h;exact⟨s,h1,h2.stay hs⟩
theorem RQ.stay {F:Nat->Prop} {w w':World} {v:Value} {x:Rat} (h:RQ w v x) (hs:jK F w w'):RQ w' v x:=by obtain⟨b,s,c,t,h1,h2,h3⟩:=h;exact⟨b,s,c,t,h1,h2.stay hs,h3.stay hs⟩
theorem uV.stay {F:Nat->Prop} {w w':World} {v:Value} {ok:Bool} {x:Int} (h:uV w v ok x) (hs:jK F w w'):uV w' v ok x:=by obtain⟨neg,s,l,h1,h2,h3⟩:=h;exact⟨neg,s,l,h1,h2.stay hs,h3⟩
theorem PY.stay {F:Nat->Prop} {w w':World} {v:Value} {ok:Bool} {x:Rat} (h:PY w v ok x) (hs:jK F w w'):PY w' v ok x:=by obtain⟨b,s,c,t,o1,x1,o2,x2,h1,h2,h3,h4⟩:=h;exact⟨b,s,c,t,o1,x1,o2,x2,h1,h2.stay hs,h3.stay hs,h4⟩
structure iJ where
 ok:Bool
 x:Int
 g:List Nat
structure aI where
 ok:Bool
 x:Rat
 g:List Nat
 h:List Nat
abbrev iJ.n (x:iJ):Nat:=x.g.length
abbrev aI.n (x:aI):Nat:=x.g.length
abbrev aI.m (x:aI):Nat:=x.h.length
inductive Lf where
 | rat
 | big
 | fO
 | IG
 | str
 | grp
 | gsl
 | QA
 | esl
 deriving DecidableEq
def Lf.den:Lf->Type
 | .rat=>Rat
 | .big=>Int
 | .fO=>aI
 | .IG=>iJ
 | .str=>ByteArray
 | .grp=>List Nat
 | .gsl=>List Nat
 | .QA=>Nat
 | .esl=>Unit
def Lf.n:Lf->Nat
 | .rat=>4
 | .big=>2
 | .fO=>4
 | .IG=>2
 | .str=>1
 | .grp=>2
 | .gsl=>1
 | .QA=>1
 | .esl=>1
def Lf.agg:Lf->Bool
 | .str=>false
 | .gsl=>false
 | .QA=>false
 | .esl=>false
 | _=>true
def Lf.zero:(l:Lf)->l.den
 | .rat=>(0:Rat)
 | .big=>(0:Int)
 | .fO=>⟨false,0,[],[]⟩
 | .IG=>⟨true,0,[]⟩
 | .str=>ByteArray.empty
 | .grp=>[]
 | .gsl=>[]
 | .QA=>(0:Nat)
 | .esl=>()
def Lf.rep (w:World) (cs:List Value):(l:Lf)->l.den->Prop
 | .rat,x=>RQ w (.agg cs.toArray) x
 | .big,x=>eY w (.agg cs.toArray) x
 | .fO,x=>∃ b p c b' p' c',cs=[.bool b,.slice p x.n c,.bool b',.slice p' x.m c']/\PY w (.agg cs.toArray) x.ok x.x/\Rd w (.slice p x.n c) x.g/\Rd w (.slice p' x.m c') x.h
 | .IG,x=>∃ b p c,cs=[.bool b,.slice p x.n c]/\uV w (.agg cs.toArray) x.ok x.x/\Rd w (.slice p x.n c) x.g
 | .str,x=>cs=[.string x]
 | .grp,x=>∃ b s,cs=[.bool b,s]/\Rd w s x
 | .gsl,x=>∃ s,cs=[s]/\Rd w s x
 | .QA,x=>∃ b o,cs=[.pointer (some ⟨b,o,none⟩)]/\w.cell? ⟨b,o,none⟩=some (.int .u32 (Nat.cast (R:=Int) x))
 | .esl,_=>∃ b,cs=[.slice (some ⟨b,0,none⟩) 0 0]
inductive Ty where
 | bool
 | int (k:IntKind)
 | lf (l:Lf)
 | list (t:Ty)
 | arr (n:Nat) (t:Ty)
 | pair (a b:Ty)
 | unit
 | ref (t:Ty)
 | clo (f:Nat) (t:Ty)
 | nls (t:Ty)
 deriving DecidableEq
def Ty.den:Ty->Type
 | .bool=>Bool
 | .int _=>Int
 | .lf l=>l.den
 | .list t=>List t.den
 | .arr _ t=>List t.den
 | .pair a b=>a.den × b.den
 | .unit=>Unit
 | .ref t=>t.den
 | .clo _ t=>t.den
 | .nls t=>Option (List t.den)
def Ty.n:Ty->Nat
 | .lf l=>l.n
 | .arr n t=>n*t.n
 | .pair a b=>a.n+b.n
 | .unit=>0
 | _=>1
def Ty.agg:Ty->Bool
 | .lf l=>l.agg
 | .arr _ _=>true
 | .pair _ _=>true
 | .unit=>true
 | _=>false
def chunks {α:Type} (R:List Value->α->Prop):List Value->List α->Prop
 | cs,[]=>cs=[]
 | cs,y::ys=>∃ c1 c2,cs=c1++c2/\R c1 y/\chunks R c2 ys
def rep (F:Nat->Prop) (w:World):(t:Ty)->List Value->t.den->Prop
 | .bool,cs,x=>cs=[.bool x]
 | .int k,cs,x=>cs=[.int k x]
 | .lf l,cs,x=>Lf.rep w cs l x
 | .list t,cs,x=>∃ p c,cs=[.slice p (List.length (α:=t.den) x) c]/\List.length (α:=t.den) x<=c/\c<=9223372036854775807/\((x:List t.den)=[]\/∃ b o ds,p=some ⟨b,o,none⟩/\F b/\w.rangeAt b o ds/\chunks (rep F w t) ds x)
 | .arr n t,cs,x=>List.length (α:=t.den) x=n/\chunks (rep F w t) cs x
 | .pair a b,cs,x=>∃ c1 c2,cs=c1++c2/\rep F w a c1 x.1/\rep F w b c2 x.2
 | .unit,cs,_=>cs=[]
 | .ref t,cs,x=>∃ b o ds,cs=[.pointer (some ⟨b,o,none⟩)]/\F b/\w.rangeAt b o ds/\rep F w t ds x
 | .clo f t,cs,x=>∃ ds,cs=[.func (.func f) #[] ds.toArray]/\rep F w t ds x
 | .nls t,cs,x=>(x=(none:Option (List t.den))/\cs=[.slice none 0 0])\/∃ (ys:List t.den) (b o c:Nat) (ds:List Value),x=some ys/\cs=[.slice (some ⟨b,o,none⟩) ys.length c]/\ys.length<=c/\c<=9223372036854775807/\(ys=[]\/F b/\w.rangeAt b o ds/\chunks (rep F w t) ds ys)
theorem aZ {α:Type} {R R':List Value->α->Prop} (h:∀ c y,R c y->R' c y):∀ (xs:List α) (cs:List Value),chunks R cs xs->chunks R' cs xs
 | [],_,hc=>hc
 | _::xs,_,⟨c1,c2,h1,h2,h3⟩=>⟨c1,c2,h1,h _ _ h2,aZ h xs c2 h3⟩
theorem lX {F:Nat->Prop} {w w':World} (hs:jK F w w') {b o:Nat} {ds:List Value} (hF:F b) (h:w.rangeAt b o ds):w'.rangeAt b o ds:=fun j v hv=>(Dz (w:=w) (hs.blk b hF)).trans (h j v hv)
theorem Lf.stay {F:Nat->Prop} {w w':World} (hs:jK F w w') {cs:List Value}:{l:Lf}->{x:l.den}->Lf.rep w cs l x->Lf.rep w' cs l x
 | .rat,_,h=>RQ.stay h hs
 | .big,_,h=>eY.stay h hs
 | .fO,_,⟨b,p,c,b',p',c',h1,h2,h3,h4⟩=>⟨b,p,c,b',p',c',h1,h2.stay hs,h3.stay hs,h4.stay hs⟩
 | .IG,_,⟨b,p,c,h1,h2,h3⟩=>⟨b,p,c,h1,h2.stay hs,h3.stay hs⟩
 | .str,_,h=>h
 | .grp,_,⟨b,s,h1,h2⟩=>⟨b,s,h1,h2.stay hs⟩
 | .gsl,_,⟨s,h1,h2⟩=>⟨s,h1,h2.stay hs⟩
 | .QA,_,⟨b,o,h1,h2⟩=>⟨b,o,h1,hs.dig _ _ _ h2⟩
 | .esl,_,h=>h
theorem bY {F F':Nat->Prop} {w w':World} (hF:∀ b,F b->F' b) (hs:jK F w w'):(t:Ty)->(cs:List Value)->(x:t.den)->rep F w t cs x->rep F' w' t cs x
 | .bool,_,_,h=>h
 | .int _,_,_,h=>h
 | .lf _,_,_,h=>Lf.stay hs h
 | .list t,_,x,⟨p,c,h1,h2,h3,h4⟩=>⟨p,c,h1,h2,h3,h4.imp id fun⟨b,o,ds,k1,k2,k3,k4⟩=>⟨b,o,ds,k1,hF b k2,lX hs k2 k3,aZ (fun c y=>bY hF hs t c y) _ _ k4⟩⟩
 | .arr n t,_,_,⟨h1,h2⟩=>⟨h1,aZ (fun c y=>bY hF hs t c y) _ _ h2⟩
 | .pair a b,_,_,⟨c1,c2,h1,h2,h3⟩=>⟨c1,c2,h1,bY hF hs a _ _ h2,bY hF hs b _ _ h3⟩
 | .unit,_,_,h=>h
 | .ref t,_,_,⟨b,o,ds,h1,h2,h3,h4⟩=>⟨b,o,ds,h1,hF b h2,lX hs h2 h3,bY hF hs t _ _ h4⟩
 | .clo _ t,_,_,⟨ds,h1,h2⟩=>⟨ds,h1,bY hF hs t _ _ h2⟩
 | .nls t,_,_,h=>h.imp id fun⟨ys,b,o,c,ds,h1,h2,h3,h4,h5⟩=>⟨ys,b,o,c,ds,h1,h2,h3,h4,h5.imp id fun⟨k2,k3,k4⟩=>⟨hF b k2,lX hs k2 k3,aZ (fun c y=>bY hF hs t c y) _ _ k4⟩⟩
theorem Lf.len {w:World} {cs:List Value}:{l:Lf}->{x:l.den}->Lf.rep w cs l x->cs.length=l.n
 | .rat,_,h=>by obtain⟨_,_,_,_,h1,_⟩:=h;rw[Value.agg.injEq] at h1;have:=qw Array.size h1;simpa [Lf.n] using this
 | .big,_,h=>by obtain⟨_,h1,_⟩:=h;rw[Value.agg.injEq] at h1;have:=qw Array.size h1;simpa [Lf.n] using this
 | .fO,_,⟨_,_,_,_,_,_,h1,_⟩=>by rw[h1];rfl
 | .IG,_,⟨_,_,_,h1,_⟩=>by rw[h1];rfl
 | .str,_,h=>by rw[show cs=_ from h];rfl
 | .grp,_,⟨_,_,h1,_⟩=>by rw[h1];rfl
 | .gsl,_,⟨_,h1,_⟩=>by rw[h1];rfl
 | .QA,_,⟨_,_,h1,_⟩=>by rw[h1];rfl
 | .esl,_,⟨_,h1⟩=>by rw[h1];rfl
theorem oL {α:Type} {R:List Value->α->Prop} {n:Nat} (h:∀ c y,R c y->c.length=n):∀ (xs:List α) (cs:List Value),chunks R cs xs->cs.length=xs.length*n
 | [],cs,hc=>by rw[show cs=[] from hc];simp
 | _::xs,_,⟨c1,c2,h1,h2,h3⟩=>by rw[h1,dh,h _ _ h2,oL h xs c2 h3,List.length_cons,Aa,Fb]
theorem dL {F:Nat->Prop} {w:World}:(t:Ty)->(cs:List Value)->(x:t.den)->rep F w t cs x->cs.length=t.n
 | .bool,_,_,h=>by rw[show _=_ from h];rfl
 | .int _,_,_,h=>by rw[show _=_ from h];rfl
 | .lf _,_,_,h=>Lf.len h
 | .list t,_,x,⟨p,c,h1,_⟩=>by rw[h1];rfl
 | .arr n t,_,_,⟨h1,h2⟩=>by rw[oL (fun c y=>dL t c y) _ _ h2,h1];rfl
 | .pair a b,_,_,⟨c1,c2,h1,h2,h3⟩=>by rw[h1,dh,dL a _ _ h2,dL b _ _ h3];rfl
 | .unit,_,_,h=>by rw[show _=_ from h];rfl
 | .ref t,_,_,⟨b,o,ds,h1,_⟩=>by rw[h1];rfl
 | .clo _ t,_,_,⟨ds,h1,_⟩=>by rw[h1];rfl
 | .nls t,_,_,h=>by rcases h with⟨_,rfl⟩|⟨ys,b,o,c,ds,_,rfl,_⟩<;>rfl
def dB (v:Value):Bool:=v.oneCell'&&fF v
def Ty.still:Ty->Bool
 | .int .u32=>false
 | .arr _ t=>t.still
 | .pair a b=>a.still&&b.still
 | _=>true
theorem Lf.ok {w:World} {cs:List Value}:{l:Lf}->{x:l.den}->Lf.rep w cs l x->∀ v ∈ cs,dB v=true
 | .rat,_,h=>by obtain⟨b,p,n,c,b',p',n',c',h1⟩:=RQ.form h;rw[Value.agg.injEq] at h1;rw[show cs=[.bool b,.slice p n c,.bool b',.slice p' n' c'] by simpa using qw Array.toList h1];simp[dB,fF,Value.oneCell']
 | .big,_,h=>by obtain⟨b,p,n,c,h1⟩:=eY.form h;rw[Value.agg.injEq] at h1;rw[show cs=[.bool b,.slice p n c] by simpa using qw Array.toList h1];simp[dB,fF,Value.oneCell']
 | .fO,_,⟨_,_,_,_,_,_,h1,_⟩=>by rw[h1];simp[dB,fF,Value.oneCell']
 | .IG,_,⟨_,_,_,h1,_⟩=>by rw[h1];simp[dB,fF,Value.oneCell']
 | .str,_,h=>by rw[show cs=_ from h];simp[dB,fF,Value.oneCell']
 | .grp,_,⟨_,s,h1,h2⟩=>by obtain⟨p,c,rfl,_⟩:=h2.form;rw[h1];simp[dB,fF,Value.oneCell']
 | .gsl,_,⟨s,h1,h2⟩=>by obtain⟨p,c,rfl,_⟩:=h2.form;rw[h1];simp[dB,fF,Value.oneCell']
 | .QA,_,⟨_,_,h1,_⟩=>by rw[h1];simp[dB,fF,Value.oneCell']
 | .esl,_,⟨_,h1⟩=>by rw[h1];simp[dB,fF,Value.oneCell']
theorem DY {α:Type} {R:List Value->α->Prop} {p:Value->Bool} (h:∀ c y,R c y->∀ v ∈ c,p v=true):∀ (xs:List α) (cs:List Value),chunks R cs xs->∀ v ∈ cs,p v=true
 | [],cs,hc=>by rw[show cs=[] from hc];simp
 | _::xs,_,⟨c1,c2,h1,h2,h3⟩=>by
  rw[h1];intro v hv;rcases tu.1 hv with hv|hv
  ·grind
  ·exact DY h xs c2 h3 v hv
theorem yV {F:Nat->Prop} {w:World}:(t:Ty)->t.still=true->(cs:List Value)->(x:t.den)->rep F w t cs x->∀ v ∈ cs,dB v=true
 | .bool,_,_,_,h=>by rw[show _=_ from h];simp[dB,fF,Value.oneCell']
 | .int k,hk,_,_,h=>by rw[show _=_ from h];cases k<;>simp_all [dB,fF,Value.oneCell',Ty.still]
 | .lf _,_,_,_,h=>Lf.ok h
 | .list t,_,_,x,⟨p,c,h1,_⟩=>by rw[h1];simp[dB,fF,Value.oneCell']
 | .arr n t,hk,_,_,⟨h1,h2⟩=>DY (fun c y=>yV t hk c y) _ _ h2
 | .pair a b,hk,_,_,⟨c1,c2,h1,h2,h3⟩=>by
  simp only[Ty.still,ay] at hk;rw[h1];intro v hv;rcases tu.1 hv with hv|hv
  ·exact yV a hk.1 _ _ h2 v hv
  ·exact yV b hk.2 _ _ h3 v hv
 | .unit,_,_,_,h=>by rw[show _=_ from h];simp
 | .ref t,_,_,_,⟨b,o,ds,h1,_⟩=>by rw[h1];simp[dB,fF,Value.oneCell']
 | .clo _ t,_,_,_,⟨ds,h1,_⟩=>by rw[h1];simp[dB,fF,Value.oneCell']
 | .nls t,_,_,_,h=>by rcases h with⟨_,rfl⟩|⟨ys,b,o,c,ds,_,rfl,_⟩<;>simp[dB,fF,Value.oneCell']
def Ty.zero:(t:Ty)->t.den
 | .bool=>false
 | .int _=>(0:Int)
 | .lf l=>l.zero
 | .list _=>[]
 | .arr n t=>List.replicate n t.zero
 | .pair a b=>(a.zero,b.zero)
 | .unit=>()
 | .ref t=>t.zero
 | .clo _ t=>t.zero
 | .nls _=>none
theorem XI {α:Type} {R:List Value->α->Prop} {n:Nat} (h:∀ c y,R c y->c.length=n):∀ (xs:List α) (cs:List Value),chunks R cs xs->∀ (i:Nat) (d:α),i<xs.length->∃ c,(cs.drop (i*n)).take n=c/\R c (xs.getD i d)
 | x::xs,_,⟨c1,c2,h1,h2,h3⟩,0,d,_=>⟨c1,by rw[h1,Nat.zero_mul,List.drop_zero,<-h _ _ h2,Di],h2⟩
 | x::xs,_,⟨c1,c2,h1,h2,h3⟩,i+1,d,hi=>by obtain⟨c,k1,k2⟩:=XI h xs c2 h3 i d (by simpa using hi);refine⟨c,?_,k2⟩;rw[h1,Aa,Fb,<-Ej,<-h _ _ h2,Au,h _ _ h2];exact k1
theorem yT {w:World} {b o:Nat} {ds:List Value} (h:w.rangeAt b o ds) (k n:Nat):w.rangeAt b (o+k) ((ds.drop k).take n):=fun j v hv=>by
 have h1:ds[k+j]?=some v:=by
  rw[List.getElem?_take] at hv;split at hv
  ·grind
  ·cases hv
 have:=h (k+j) v h1;grind
end Go.Proofs.YtbkocjmmbkifjaaGreat
