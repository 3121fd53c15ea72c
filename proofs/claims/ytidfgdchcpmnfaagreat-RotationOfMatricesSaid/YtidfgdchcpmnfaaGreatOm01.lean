/-
  Lemmas for the theorem vofmatrices_holds, part 1 of 32.
-/
import Derived.Deep.RegionHeld3
import Derived.Lib.Hide
import Derived.Lib.SliceRun
import Derived.ProofKit
import Derived.Test.YtidfgdchcpmnfaaGreatProg
import Derived.WalkKit
namespace Go.Proofs.YtidfgdchcpmnfaaGreat
def BB:Nat:=1000000000
theorem iP:0<BB:=by unfold BB;omega
theorem bG:BB=1000000000:=rfl
theorem a6z:1<BB:=by unfold BB;omega
theorem zX {n:Nat} (h:n≠0):n / BB<n:=Nat.div_lt_self (Nat.pos_of_ne_zero h) a6z
def val:List Nat->Nat
 | []=>0
 | g::l=>g+BB*val l
@[simp] theorem rC:val []=0:=rfl
theorem bY (g:Nat) (l:List Nat):val (g::l)=g+BB*val l:=rfl
theorem val_append (a b:List Nat):val (a++b)=val a+BB ^ a.length*val b:=by
 induction a with
 | nil=>simp
 | cons g a ih =>
  simp only[List.cons_append,bY,ih,List.length_cons,Nat.pow_succ]
  grind
def dig (n:Nat):List Nat:=if _h:n=0 then [] else n%BB::dig (n / BB)
termination_by n
decreasing_by exact zX (by assumption)
theorem dQ:dig 0=[]:=by rw[dig];simp
theorem nH {n:Nat} (h:n≠0):dig n=n%BB::dig (n / BB):=by rw[dig];simp[h]
def Low (l:List Nat):Prop:=∀ g ∈ l,g<BB
def Canon (l:List Nat):Prop:=Low l/\l.getLast?≠some 0
theorem Low.nil:Low []:=by simp[Low]
theorem Low.cons {g:Nat} {l:List Nat}:Low (g::l)↔g<BB/\Low l:=by simp[Low]
theorem Low.append {a b:List Nat}:Low (a++b)↔Low a/\Low b:=by
 simp only[Low,List.mem_append]
 exact⟨fun h=>⟨fun g hg=>h g (.inl hg),fun g hg=>h g (.inr hg)⟩,fun h g hg=>hg.elim (h.1 g) (h.2 g)⟩
theorem Low.take {l:List Nat} (h:Low l) (n:Nat):Low (l.take n):=fun g hg=>h g (List.mem_of_mem_take hg)
theorem Low.drop {l:List Nat} (h:Low l) (n:Nat):Low (l.drop n):=fun g hg=>h g (List.mem_of_mem_drop hg)
theorem Low.get {l:List Nat} (h:Low l) (i:Nat):l.getD i 0<BB:=by
 rw[List.getD_eq_getElem?_getD]
 cases hi:l[i]? with
 | none=>simp[iP]
 | some g=>simpa using h g (List.mem_of_getElem? hi)
theorem aK (n:Nat):val (dig n)=n:=by
 induction n using Nat.strongRecOn with
 | _ n ih =>
  by_cases h:n=0
  ·subst h;rw[dQ];rfl
  ·rw[nH h,bY,ih _ (zX h)]
   exact Nat.mod_add_div n BB
theorem bK (n:Nat):Low (dig n):=by
 induction n using Nat.strongRecOn with
 | _ n ih =>
  by_cases h:n=0
  ·subst h;rw[dQ];exact Low.nil
  ·rw[nH h]
   exact Low.cons.2 ⟨Nat.mod_lt _ iP,ih _ (zX h)⟩
theorem jB {n:Nat}:dig n=[]↔n=0:=by
 by_cases h:n=0
 ·simp[h,dQ]
 ·simp[nH h,h]
theorem a7n (n:Nat):(dig n).getLast?≠some 0:=by
 induction n using Nat.strongRecOn with
 | _ n ih =>
  by_cases h:n=0
  ·subst h;rw[dQ];simp
  ·rw[nH h]
   by_cases h1:n / BB=0
   ·rw[h1,dQ]
    simp only[List.getLast?_singleton,ne_eq,Option.some.injEq]
    have:=Nat.mod_add_div n BB
    rw[h1] at this
    omega
   ·have h2:dig (n / BB)≠[]:=fun e=>h1 (jB.1 e)
    rw[List.getLast?_cons]
    have:=ih _ (zX h)
    cases h3:(dig (n / BB)).getLast? with
    | none=>exact absurd (List.getLast?_eq_none_iff.1 h3) h2
    | some g=>rw[h3] at this;simpa using this
theorem bH (n:Nat):Canon (dig n):=⟨bK n,a7n n⟩
theorem Canon.tail {g:Nat} {l:List Nat} (h:Canon (g::l)):Canon l:=by
 refine⟨(Low.cons.1 h.1).2,fun e=>h.2 ?_⟩
 rw[List.getLast?_cons,e];rfl
theorem Canon.b0R {l:List Nat} (h:Canon l) (hl:l≠[]):0<val l:=by
 induction l with
 | nil=>exact absurd rfl hl
 | cons g l ih =>
  rw[bY]
  by_cases hn:l=[]
  ·subst hn
   have:=h.2
   simp at this
   omega
  ·have:=ih h.tail hn
   have:=Nat.mul_pos iP this
   omega
theorem dX {l:List Nat} (h:Canon l):dig (val l)=l:=by
 induction l with
 | nil=>rw[rC,dQ]
 | cons g l ih =>
  have hp:=h.b0R (by simp)
  have hg:=(Low.cons.1 h.1).1
  rw[nH (by omega),bY,Nat.add_mul_mod_self_left,Nat.mod_eq_of_lt hg,Nat.add_mul_div_left _ _ iP,Nat.div_eq_of_lt hg,Nat.zero_add,ih h.tail]
def eY (l:List Nat):List Nat:=dig (val l)
theorem VK {l:List Nat} (h:Low l):eY l=l.take (eY l).length:=by
 unfold eY
 induction l with
 | nil=>simp[dQ]
 | cons g l ih =>
  have hg:=(Low.cons.1 h).1
  rw[bY]
  by_cases h0:g+BB*val l=0
  ·rw[h0,dQ];simp
  ·rw[nH h0,Nat.add_mul_mod_self_left,Nat.mod_eq_of_lt hg,Nat.add_mul_div_left _ _ iP,Nat.div_eq_of_lt hg,Nat.zero_add,List.length_cons,List.take_succ_cons,<-ih (Low.cons.1 h).2]
theorem nU {l:List Nat} (h:Low l):val l<BB ^ l.length:=by
 induction l with
 | nil=>simp
 | cons g l ih =>
  have h1:=Low.cons.1 h
  have h2:=ih h1.2
  rw[bY,List.length_cons,Nat.pow_succ]
  have:BB*(val l+1)<=BB*BB ^ l.length:=Nat.mul_le_mul_left _ h2
  rw[Nat.mul_comm BB (BB ^ l.length)] at this
  have h3:=h1.1
  have h4:BB*(val l+1)=BB*val l+BB:=by rw[Nat.mul_add,Nat.mul_one]
  omega
theorem eG {n k:Nat} (h:n<BB ^ k):(dig n).length<=k:=by
 induction k generalizing n with
 | zero=>simp at h;subst h;simp[dQ]
 | succ k ih =>
  by_cases h0:n=0
  ·subst h0;simp[dQ]
  ·rw[nH h0,List.length_cons]
   have:n / BB<BB ^ k:=by
    rw[Nat.div_lt_iff_lt_mul iP,<-Nat.pow_succ];exact h
   have:=ih this
   omega
theorem iY {n k:Nat} (h:(dig n).length<=k):n<BB ^ k:=by
 have h1:=nU (bK n)
 rw[aK] at h1
 exact Nat.lt_of_lt_of_le h1 (Nat.pow_le_pow_right iP h)
theorem oQ {n k:Nat} (h:k<(dig n).length):BB ^ k<=n:=by
 rcases Nat.lt_or_ge n (BB ^ k) with h1|h1
 ·have:=eG h1;omega
 ·exact h1
theorem aQ {m n:Nat} (h:m<=n):(dig m).length<=(dig n).length :=
 eG (Nat.lt_of_le_of_lt h (iY (Nat.le_refl _)))
theorem wR {l:List Nat} (h:Low l):(eY l).length<=l.length:=eG (nU h)
def nsz (n:Nat):Nat:=(dig n).length
theorem a8s:nsz 0=0:=by simp[nsz,dQ]
theorem XP (a b:Nat):nsz (a*b)<=nsz a+nsz b:=by
 refine eG ?_
 rw[Nat.pow_add]
 exact Nat.mul_lt_mul'' (iY (Nat.le_refl _)) (iY (Nat.le_refl _))
theorem PV {m n:Nat} (h:m<=n):nsz m<=nsz n:=aQ h
theorem a4v (a b:Nat):nsz (a+b)<=max (nsz a) (nsz b)+1:=by
 refine eG ?_
 have h1:a<BB ^ max (nsz a) (nsz b):=iY (Nat.le_max_left _ _)
 have h2:b<BB ^ max (nsz a) (nsz b):=iY (Nat.le_max_right _ _)
 rw[Nat.pow_succ,bG] at *
 omega
def isz (x:Int):Nat:=nsz x.natAbs
theorem a0x:isz 0=0:=a8s
theorem mG (x:Int):isz (-x)=isz x:=by simp[isz]
theorem eF (x y:Int):isz (x*y)<=isz x+isz y:=by
 unfold isz;rw[Int.natAbs_mul];exact XP _ _
theorem LM (x y:Int):isz (x+y)<=max (isz x) (isz y)+1 :=
 Nat.le_trans (PV (Int.natAbs_add_le x y)) (a4v _ _)
theorem a4g (x y:Int):isz (x-y)<=max (isz x) (isz y)+1:=by
 have:=LM x (-y)
 rw[mG] at this
 exact this
theorem EP {x y:Int} (h:x.natAbs<=y.natAbs):isz x<=isz y:=PV h
theorem uS {x:Int} {k:Nat} (h:x.natAbs<BB ^ k):isz x<=k:=eG h
def gr (l:List Nat) (i:Nat):Nat:=l.getD i 0
theorem uP {l:List Nat} {i:Nat} (h:l.length<=i):gr l i=0:=by simp[gr,List.getElem?_eq_none h]
theorem oD {l:List Nat} {i:Nat} (h:i<l.length):gr l i=l[i]:=by simp[gr,h]
theorem CU {l:List Nat} (h:Low l) (i:Nat):gr l i<1000000000:=h.get i
theorem gK {l:List Nat} (h:Low l) (i:Nat):gr l i<=999999999:=by have:=CU h i;omega
theorem AL {l:List Nat} {i k:Nat} (h:i<k):gr (l.take k) i=gr l i:=by simp[gr,h]
theorem a7u {l:List Nat} {i:Nat} (h:i<l.length):gr l i ∈ l:=by rw[oD h];exact List.getElem_mem h
def sg (neg:Bool) (n:Nat):Int:=if neg then -(n:Int) else n
end Go.Proofs.YtidfgdchcpmnfaaGreat
namespace Go.Proofs.YtidfgdchcpmnfaaGreat
open Go.RowKit
theorem fH {k:IntKind} {a b:Int} (h:a=b):Ending.returned (.int k a)=.returned (.int k b):=by rw[h]
theorem fA {a b:Bool} (h:a=b):Ending.returned (.bool a)=.returned (.bool b):=by rw[h]
def Rd (w:World) (s:Value) (l:List Nat):Prop :=
 (∃ p,s=.slice p 0 0/\l=[]) \/
 ∃ b o c,s=.slice (some ⟨b,o,none⟩) l.length c/\l.length<=c/\c<=9223372036854775807/\b<w.heap.size /\
  ∀ i,i<l.length->w.cell? ⟨b,o+i,none⟩=some (.int .u32 (gr l i:Nat))
theorem Rd.below {w w':World} {s:Value} {l:List Nat} (h:Rd w s l) (hb:Below w.heap.size w w'):Rd w' s l:=by
 rcases h with h|⟨b,o,c,h1,h2,h3,h4,h5⟩
 ·exact .inl h
 ·exact .inr ⟨b,o,c,h1,h2,h3,Nat.lt_of_lt_of_le h4 hb.size,fun i hi=>(hb.cell (p:=⟨b,o+i,none⟩) h4).trans (h5 i hi)⟩
theorem Rd.nil (w:World):Rd w (.slice none 0 0) []:=.inl ⟨none,rfl,rfl⟩
theorem Rd.alloc {w:World} {s:Value} {l:List Nat} (h:Rd w s l) (o:Obj):Rd (w.alloc o) s l:=h.below ((Below.refl _ _).alloc (Nat.le_refl _) _)
theorem Rd.form {w:World} {s:Value} {l:List Nat} (h:Rd w s l):∃ p c,s=.slice p l.length c/\l.length<=c/\c<=9223372036854775807:=by
 rcases h with⟨p,rfl,rfl⟩|⟨b,o,c,h1,h2,h3,h4,h5⟩
 ·exact⟨p,0,rfl,Nat.le_refl _,by omega⟩
 ·exact⟨_,c,h1,h2,h3⟩
theorem Rd.take {w:World} {p:Option Addr} {c:Nat} {l:List Nat} (h:Rd w (.slice p l.length c) l) {k:Nat} (hk:k<=l.length):Rd w (.slice p k c) (l.take k):=by
 have hl:(l.take k).length=k:=by rw[List.length_take];omega
 rcases h with⟨q,h1,rfl⟩|⟨b,o,c',h1,h2,h3,h4,h5⟩
 ·cases h1
  simp at hk;subst hk
  exact .inl ⟨_,rfl,rfl⟩
 ·cases h1
  refine .inr ⟨b,o,c,by rw[hl],by rw[hl];omega,h3,h4,fun i hi=>?_⟩
  rw[hl] at hi
  rw[h5 i (by omega),AL hi]
theorem Rd.drew {w:World} {s:Value} {l:List Nat} (h:Rd w s l):Rd w.drew s l:=h.below (Below.refl _ _).drew
theorem eX {B:Nat} {W w1:World} (hb:Below B W w1):(∀ b o,b<B->w1.cell? ⟨b,o,none⟩=W.cell? ⟨b,o,none⟩)/\(∀ b o,b<B->w1.frozen? ⟨b,o,none⟩=W.frozen? ⟨b,o,none⟩) :=
 ⟨fun b o h=>hb.cell (p:=⟨b,o,none⟩) h,fun b o h=>hb.frozen (p:=⟨b,o,none⟩) h⟩
def Bx (w:World) (b:Nat) (cs:List Value):Prop:=b<w.heap.size/\∀ i u,cs[i]?=some u->w.cell? ⟨b,i,none⟩=some u/\w.frozen? ⟨b,i,none⟩=false
theorem Bx.below {w w':World} {b:Nat} {cs:List Value} (h:Bx w b cs) {B:Nat} (hb:Below B w w') (hB:b<B):Bx w' b cs :=
 ⟨Nat.lt_of_lt_of_le h.1 hb.size,fun i u hu=>⟨(hb.cell (p:=⟨b,i,none⟩) hB).trans (h.2 i u hu).1,(hb.frozen (p:=⟨b,i,none⟩) hB).trans (h.2 i u hu).2⟩⟩
theorem Bx.to {w w':World} {b:Nat} {cs:List Value} (h:Bx w b cs) (hb:Below w.heap.size w w'):Bx w' b cs:=h.below hb h.1
theorem Bx.new (w:World) (cs:List Value) (t:TypeId):Bx (w.alloc (.cells cs.toArray t)) w.heap.size cs :=
 ⟨by simp,fun i u hu=>⟨by rw[World.cell?_alloc_at _ _ _ _ rfl];simpa using hu,World.frozen?_alloc_at _ _ _ _ rfl⟩⟩
theorem Bx.alloc {w:World} {b:Nat} {cs:List Value} (h:Bx w b cs) (o:Obj):Bx (w.alloc o) b cs:=h.to ((Below.refl _ _).alloc (Nat.le_refl _) _)
theorem Bx.drew {w:World} {b:Nat} {cs:List Value} (h:Bx w b cs):Bx w.drew b cs:=h.to (Below.refl _ _).drew
theorem Bx.c0 {w:World} {b:Nat} {u0:Value} {cs:List Value} (h:Bx w b (u0::cs)):w.cell? ⟨b,0,none⟩=some u0:=(h.2 0 u0 rfl).1
theorem Bx.f0 {w:World} {b:Nat} {u0:Value} {cs:List Value} (h:Bx w b (u0::cs)):w.frozen? ⟨b,0,none⟩=false:=(h.2 0 u0 rfl).2
theorem Bx.c1 {w:World} {b:Nat} {u0 u1:Value} {cs:List Value} (h:Bx w b (u0::u1::cs)):w.cell? ⟨b,1,none⟩=some u1:=(h.2 1 u1 rfl).1
theorem Bx.f1 {w:World} {b:Nat} {u0 u1:Value} {cs:List Value} (h:Bx w b (u0::u1::cs)):w.frozen? ⟨b,1,none⟩=false:=(h.2 1 u1 rfl).2
theorem Bx.c2 {w:World} {b:Nat} {u0 u1 u2:Value} {cs:List Value} (h:Bx w b (u0::u1::u2::cs)):w.cell? ⟨b,2,none⟩=some u2:=(h.2 2 u2 rfl).1
theorem Bx.f2 {w:World} {b:Nat} {u0 u1 u2:Value} {cs:List Value} (h:Bx w b (u0::u1::u2::cs)):w.frozen? ⟨b,2,none⟩=false:=(h.2 2 u2 rfl).2
theorem Bx.c3 {w:World} {b:Nat} {u0 u1 u2 u3:Value} {cs:List Value} (h:Bx w b (u0::u1::u2::u3::cs)):w.cell? ⟨b,3,none⟩=some u3:=(h.2 3 u3 rfl).1
theorem Bx.f3 {w:World} {b:Nat} {u0 u1 u2 u3:Value} {cs:List Value} (h:Bx w b (u0::u1::u2::u3::cs)):w.frozen? ⟨b,3,none⟩=false:=(h.2 3 u3 rfl).2
def GH (neg:Bool) (l:List Nat):Bool:=match l with
 | []=>!neg
 | _=>decide (gr l (l.length-1)≠0)&&!l.any (fun g=>decide (1000000000<=g))
theorem vS (neg:Bool):GH neg []=!neg:=rfl
theorem YS {neg:Bool} {l:List Nat} (h:l≠[]):GH neg l=(decide (gr l (l.length-1)≠0)&&!l.any (fun g=>decide (1000000000<=g))):=by
 cases l with
 | nil=>exact absurd rfl h
 | cons=>rfl
theorem LU {l:List Nat} (h:l≠[]):l.getLast?=some (gr l (l.length-1)):=by
 have:0<l.length:=List.length_pos_iff.2 h
 rw[List.getLast?_eq_getElem?,oD (by omega)]
 exact List.getElem?_eq_getElem _
theorem GK {neg:Bool} {l:List Nat}:GH neg l=true↔Canon l/\(l=[]->neg=false):=by
 by_cases h:l=[]
 ·subst h;simp[vS,Canon,Low]
 ·rw[YS h,Canon,LU h]
  simp[Low,bG,h]
  exact⟨fun⟨a,b⟩=>⟨b,a⟩,fun⟨a,b⟩=>⟨b,a⟩⟩
def cnt (neg:Bool) (l:List Nat):Int:=if GH neg l then (if neg then -(val l:Int) else val l) else 0
def cgs (neg:Bool) (l:List Nat):List Nat:=if GH neg l then l else []
theorem WV (neg:Bool) (l:List Nat):dig (cnt neg l).natAbs=cgs neg l:=by
 unfold cnt cgs
 by_cases h:GH neg l=true
 ·have hc:=(GK.1 h).1
  rw[if_pos h,if_pos h]
  cases neg<;>simp[dX hc]
 ·rw[if_neg h,if_neg h];exact dQ
theorem ZQ {neg:Bool} {l:List Nat} (h:cnt neg l≠0):neg=decide (cnt neg l<0):=by
 unfold cnt at *
 by_cases hv:GH neg l=true
 ·rw[if_pos hv] at h ⊢
  cases neg
  ·simp
  ·simp at h ⊢;omega
 ·rw[if_neg hv] at h;exact absurd rfl h
def Raw (w:World) (v:Value) (x:Int):Prop :=
 ∃ neg s l,v=.agg #[.bool neg,s]/\Rd w s l/\(∀ g ∈ l,g<4294967296)/\x=cnt neg l
def bU (w:World) (v:Value) (x:Int):Prop:=∃ s,v=.agg #[.bool (decide (x<0)),s]/\Rd w s (dig x.natAbs)
theorem bU.form {w:World} {v:Value} {x:Int} (h:bU w v x):∃ b p n c,v=.agg #[.bool b,.slice p n c]:=by
 obtain⟨s,rfl,h2⟩:=h
 obtain⟨p,c,rfl,_,_⟩:=h2.form
 exact⟨_,_,_,_,rfl⟩
theorem Raw.form {w:World} {v:Value} {x:Int} (h:Raw w v x):∃ b p n c,v=.agg #[.bool b,.slice p n c]:=by
 obtain⟨neg,s,l,rfl,h2,_⟩:=h
 obtain⟨p,c,rfl,_,_⟩:=h2.form
 exact⟨_,_,_,_,rfl⟩
theorem Raw.below {w w':World} {v:Value} {x:Int} (h:Raw w v x) (hb:Below w.heap.size w w'):Raw w' v x:=by
 obtain⟨neg,s,l,h1,h2,h3,h4⟩:=h
 exact⟨neg,s,l,h1,h2.below hb,h3,h4⟩
theorem bU.below {w w':World} {v:Value} {x:Int} (h:bU w v x) (hb:Below w.heap.size w w'):bU w' v x:=by
 obtain⟨s,h1,h2⟩:=h
 exact⟨s,h1,h2.below hb⟩
theorem Raw.alloc {w:World} {v:Value} {x:Int} (h:Raw w v x) (o:Obj):Raw (w.alloc o) v x:=h.below ((Below.refl _ _).alloc (Nat.le_refl _) _)
theorem bU.alloc {w:World} {v:Value} {x:Int} (h:bU w v x) (o:Obj):bU (w.alloc o) v x:=h.below ((Below.refl _ _).alloc (Nat.le_refl _) _)
theorem Raw.drew {w:World} {v:Value} {x:Int} (h:Raw w v x):Raw w.drew v x:=h.below (Below.refl _ _).drew
theorem bU.drew {w:World} {v:Value} {x:Int} (h:bU w v x):bU w.drew v x:=h.below (Below.refl _ _).drew
def aS:Value->Bool
 | .int .u32 _=>false
 | _=>true
theorem Rd.fZ {w:World} {s:Value} {l:List Nat} (h:Rd w s l) {a:Addr} {u:Value} (hc:w.cell? a=some u) (hu:aS u=true) (u':Value):Rd (w.setCell a u') s l:=by
 rcases h with h|⟨b,o,c,h1,h2,h3,h4,h5⟩
 ·exact .inl h
 ·refine .inr ⟨b,o,c,h1,h2,h3,by simpa [World.setCell] using h4,fun i hi=>?_⟩
  by_cases e:a=⟨b,o+i,none⟩
  ·subst e
   rw[h5 i hi] at hc
   cases hc
   simp[aS] at hu
  ·rw[World.cell?_setCell_other _ _ _ _ (by simpa using e)]
   exact h5 i hi
theorem Raw.fZ {w:World} {v:Value} {x:Int} (h:Raw w v x) {a:Addr} {u:Value} (hc:w.cell? a=some u) (hu:aS u=true) (u':Value):Raw (w.setCell a u') v x:=by
 obtain⟨neg,s,l,h1,h2,h3,h4⟩:=h
 exact⟨neg,s,l,h1,h2.fZ hc hu u',h3,h4⟩
theorem bU.fZ {w:World} {v:Value} {x:Int} (h:bU w v x) {a:Addr} {u:Value} (hc:w.cell? a=some u) (hu:aS u=true) (u':Value):bU (w.setCell a u') v x:=by
 obtain⟨s,h1,h2⟩:=h
 exact⟨s,h1,h2.fZ hc hu u'⟩
theorem bU.xY {w:World} {v:Value} {x:Int} (h:bU w v x) {B:Nat} {q:Bool} {p:Option Addr} {n c:Nat} (h0:w.cell? ⟨B,0,none⟩=some (.bool q)) (h1:w.cell? ⟨B,1,none⟩=some (.slice p n c)) (a b:Value) :
  bU ((w.setCell ⟨B,0,none⟩ a).setCell ⟨B,1,none⟩ b) v x :=
 (h.fZ h0 rfl a).fZ (a:=⟨B,1,none⟩) (u:=.slice p n c) (by rw[World.cell?_setCell_other _ _ _ _ (by simp)];exact h1) rfl b
theorem jY {w w':World} {B B':Nat} (h:Below B w w') (hB:B<=B') (a b:Value):Below B w ((w'.setCell ⟨B',0,none⟩ a).setCell ⟨B',1,none⟩ b) :=
 (h.setCell (p:=⟨B',0,none⟩) hB a).setCell (p:=⟨B',1,none⟩) hB b
theorem a1C (x:Int):GH (decide (x<0)) (dig x.natAbs)=true:=by
 rw[GK]
 refine⟨bH _,fun h=>?_⟩
 rw[jB] at h
 simp;omega
theorem a3L (x:Int):cnt (decide (x<0)) (dig x.natAbs)=x:=by
 unfold cnt
 rw[if_pos (a1C x),aK]
 by_cases h:x<0<;>simp[h]<;>omega
theorem bU.raw {w:World} {v:Value} {x:Int} (h:bU w v x):Raw w v x:=by
 obtain⟨s,h1,h2⟩:=h
 exact⟨_,s,_,h1,h2,fun g hg=>by have:=bK _ g hg;rw[bG] at this;omega,(a3L x).symm⟩
set_option maxRecDepth 100000
set_option maxHeartbeats 400000
set_option linter.unusedSimpArgs false
set_option linter.unusedVariables false
theorem a6M (s:Value) (l:List Nat) (i:Int) (w:World) (hs:Rd w s l) (h0:0<=i) :
  Calls Tryz.prog 170 #[s,.int .i64 i] w fun e w'=>e=.returned (.int .u32 (gr l i.toNat:Nat))/\w=w':=by
 obtain⟨n,rfl⟩:=Int.eq_ofNat_of_zero_le h0
 rw[Int.toNat_natCast]
 clear h0
 rcases hs with⟨p,rfl,rfl⟩|⟨b,o,c,rfl,h2,h3,h4,h5⟩
 ·have h8:decide ((n:Int)<0)=false:=by simp
  go_enter Tryz.func170,Tryz.ntmps170
  go_wp2_with fail
  go_ret
  exact⟨by simp[gr],rfl⟩
 ·by_cases hn:n<l.length
  ·have h6:=h5 n hn
   clear h5
   go_enter Tryz.func170,Tryz.ntmps170
   go_wp2
   go_ret
   exact⟨rfl,rfl⟩
  ·clear h5
   go_enter Tryz.func170,Tryz.ntmps170
   go_wp2
   go_ret
   exact⟨by rw[uP (by omega)];rfl,rfl⟩
theorem RS (g:Nat) (w:World) :
  Calls Tryz.prog 175 #[.int .u32 (g:Nat)] w fun e w'=>e=.returned (.bool (decide (1000000000<=g)))/\w=w':=by
 go_enter Tryz.func175,Tryz.ntmps175
 go_wp2
 go_ret
 exact⟨fA (decide_eq_decide.2 (by omega)),rfl⟩
def idxOf (p:Nat->Bool) (l:List Nat):Int:=if l.any p then (l.findIdx p:Int) else -1
theorem a2n {p:Nat->Bool} {l:List Nat} (h:∀ i,i<l.length->p (gr l i)=false):idxOf p l=-1:=by
 unfold idxOf
 rw[if_neg]
 simp only[List.any_eq_true,not_exists,not_and,Bool.not_eq_true]
 intro g hg
 obtain⟨i,hi,rfl⟩:=List.getElem_of_mem hg
 rw[<-oD hi];exact h i hi
theorem a2p {p:Nat->Bool} {l:List Nat} {k:Nat} (hk:k<l.length) (hp:p (gr l k)=true) (h:∀ i,i<k->p (gr l i)=false):idxOf p l=k:=by
 unfold idxOf
 rw[if_pos (List.any_eq_true.2 ⟨_,a7u hk,hp⟩)]
 congr 1
 rw[List.findIdx_eq hk]
 refine⟨by rw[<-oD hk];exact hp,fun j hj=>?_⟩
 rw[<-oD (by omega)];exact h j hj
theorem a2o (p:Nat->Bool) (l:List Nat):decide (0<=idxOf p l)=l.any p:=by
 unfold idxOf
 by_cases h:l.any p=true<;>simp[h]
theorem a7U (s:Value) (l:List Nat) (w:World) (hs:Rd w s l) :
  Calls Tryz.prog 179 #[s,.func (.func 175) #[] #[]] w
   fun e w'=>e=.returned (.int .i64 (idxOf (fun g=>decide (1000000000<=g)) l))/\w=w':=by
 rcases hs with⟨p,rfl,rfl⟩|⟨b,o,c,rfl,h2,h3,h4,h5⟩
 ·go_enter Tryz.func179,Tryz.ntmps179
  go_wp2
  go_loop [8] (fun i=>i=.int .i64 0) (fun _=>0)
  case atStart=>rfl
  case round =>
   subst hrel
   go_wp2
   go_ret
   exact⟨by simp[idxOf],rfl⟩
 ·have hl:l.length<=9223372036854775807:=by omega
  have H5:=Lib.hid h5
  clear h5
  go_enter Tryz.func179,Tryz.ntmps179
  go_wp2
  go_loop [5,8,10,11,12,13,14,15,16,18] (fun _ i _ _ _ _ _ _ _ _=>∃ k:Nat,k<=l.length/\i=.int .i64 k/\∀ j,j<k->decide (1000000000<=gr l j)=false) (fun _ i _ _ _ _ _ _ _ _=>l.length-(intOf i).toNat)
  case atStart=>exact⟨0,by omega,rfl,fun j hj=>by omega⟩
  case round =>
   obtain⟨k,hk,rfl,hj⟩:=hrel
   have HJ:=Lib.hid hj
   clear hj
   by_cases hlt:k<l.length
   ·have hc:=H5.out k hlt
    by_cases hp:decide (1000000000<=gr l k)=true
    ·go_wp2_with (go_at_call 175;refine(RS _ _).mono ?_;rintro e w' ⟨rfl,rfl⟩)
     go_ret
     exact⟨fH (a2p (p:=fun g=>decide (1000000000<=g)) hlt hp HJ.out).symm,rfl⟩
    ·have hp':decide (1000000000<=gr l k)=false:=by simpa using hp
     clear hp
     go_wp2_with (go_at_call 175;refine(RS _ _).mono ?_;rintro e w' ⟨rfl,rfl⟩)
     go_round
     case rel=>exact⟨k+1,by omega,by go_num,fun j hj=>if e:j<k then HJ.out j e else by rw[show j=k by omega];exact hp'⟩
     case measure=>simp[intOf];omega
   ·obtain rfl:k=l.length:=by omega
    go_wp2
    go_ret
    exact⟨fH (a2n (p:=fun g=>decide (1000000000<=g)) HJ.out).symm,rfl⟩
theorem RY (s:Value) (l:List Nat) (w:World) (hs:Rd w s l) :
  Calls Tryz.prog 174 #[s,.func (.func 175) #[] #[]] w
   fun e w'=>e=.returned (.bool (l.any fun g=>decide (1000000000<=g)))/\w=w':=by
 have hb:=a2o (fun g=>decide (1000000000<=g)) l
 generalize hx:idxOf (fun g=>decide (1000000000<=g)) l=x at *
 have HX:=Lib.hid hx
 have HB:=Lib.hid hb
 clear hx hb
 go_enter Tryz.func174,Tryz.ntmps174
 go_wp2_with (go_at_call 179;refine(a7U _ l _ hs).mono ?_;rintro e w' ⟨rfl,rfl⟩)
 go_ret
 exact⟨by rw[<-HB.out,<-HX.out];rfl,rfl⟩
theorem JG (neg:Bool) (s:Value) (l:List Nat) (w:World) (hs:Rd w s l) :
  Calls Tryz.prog 158 #[.agg #[.bool neg,s]] w fun e w'=>e=.returned (.bool (GH neg l))/\Below w.heap.size w w':=by
 rcases hs with⟨p,rfl,rfl⟩|⟨b,o,c,rfl,h2,h3,h4,h5⟩
 ·go_enter Tryz.func158,Tryz.ntmps158
  go_wp2
  go_ret
  exact⟨rfl,(Below.refl _ _).alloc (Nat.le_refl _) _⟩
 ·by_cases hn:l=[]
  ·subst hn
   clear h5
   go_enter Tryz.func158,Tryz.ntmps158
   go_wp2
   go_ret
   exact⟨rfl,(Below.refl _ _).alloc (Nat.le_refl _) _⟩
  ·have hp:0<l.length:=List.length_pos_iff.2 hn
   have hl:l.length<=9223372036854775807:=by omega
   have h6:=h5 (l.length-1) (by omega)
   have hR:Rd (w.alloc (.cells #[.bool neg,.slice (some ⟨b,o,none⟩) l.length c] 28)) (.slice (some ⟨b,o,none⟩) l.length c) l:=Rd.alloc (.inr ⟨b,o,c,rfl,h2,h3,h4,h5⟩) _
   have HV:=Lib.hid (YS (neg:=neg) hn)
   generalize hg:gr l (l.length-1)=g at *
   clear hg h5
   by_cases hz:g=0
   ·subst hz
    go_enter Tryz.func158,Tryz.ntmps158
    go_wp2
    go_ret
    exact⟨fA (by rw[HV.out];rfl),(Below.refl _ _).alloc (Nat.le_refl _) _⟩
   ·have hz':((g:Int) != 0)=true:=by simp;omega
    have HZ:=Lib.hid hz
    clear hz
    go_enter Tryz.func158,Tryz.ntmps158
    go_wp2_with (go_at_call 174;refine(RY _ l _ hR).mono ?_;rintro e w' ⟨rfl,rfl⟩)
    go_ret
    exact⟨fA (by rw[HV.out];simp[HZ.out]),(Below.refl _ _).alloc (Nat.le_refl _) _⟩
def GRd (l:List Nat) (w:World) (e:Ending) (w':World):Prop:=∃ s,e=.returned s/\Rd w' s l/\Below w.heap.size w w'
theorem dP (v:Value) (x:Int) (w:World) (hv:Raw w v x) :
  Calls Tryz.prog 119 #[v] w (GRd (dig x.natAbs) w):=by
 obtain⟨neg,s,l,rfl,hs,hb,rfl⟩:=hv
 have hR:Rd (w.alloc (.cells #[.bool neg,s] 28)) s l:=hs.alloc _
 have hW:Below w.heap.size w (w.alloc (.cells #[.bool neg,s] 28)):=(Below.refl _ _).alloc (Nat.le_refl _) _
 have HD:=Lib.hid (WV neg l)
 have HB:=Lib.hid hb
 clear hb
 cases hv:GH neg l
 ·have HE:Hid (cgs neg l=[]):=by unfold cgs;rw[hv];rfl
  go_enter Tryz.func119,Tryz.ntmps119
  go_wp2_with (go_at_call 158;refine(JG _ _ l _ hR).mono ?_;rintro e w' ⟨rfl,hb1⟩;obtain⟨hc1,hf1⟩:=eX hb1)
  go_ret
  exact⟨_,rfl,by rw[HD.out,HE.out];exact Rd.nil _,hW.trans (hb1.mono (by simp))⟩
 ·have HE:Hid (cgs neg l=l):=by unfold cgs;rw[hv];rfl
  go_enter Tryz.func119,Tryz.ntmps119
  go_wp2_with (go_at_call 158;refine(JG _ _ l _ hR).mono ?_;rintro e w' ⟨rfl,hb1⟩;obtain⟨hc1,hf1⟩:=eX hb1)
  go_ret
  exact⟨_,rfl,by rw[HD.out,HE.out];exact hR.below hb1,hW.trans (hb1.mono (by simp))⟩
theorem wU {l:List Nat} (hl:Low l) {k:Nat} (hk:k<=l.length) (hz:val (l.take k)=val l) (h:k=0\/gr l (k-1)≠0):eY l=l.take k:=by
 unfold eY
 rw[<-hz]
 refine dX ⟨hl.take k,?_⟩
 rcases h with rfl|h
 ·simp
 ·by_cases h0:k=0
  ·subst h0;simp
  ·have hne:l.take k≠[]:=by
    intro e
    have:=congrArg List.length e
    simp only[List.length_take,List.length_nil] at this
    omega
   rw[LU hne,List.length_take,Nat.min_eq_left hk,AL (by omega)]
   simpa using h
theorem uX {l:List Nat} {k:Nat} (hk:k<l.length) (h:gr l k=0):val (l.take k)=val (l.take (k+1)):=by
 rw[List.take_succ_eq_append_getElem hk,val_append,<-oD hk,h]
 simp[bY]
theorem RG (p:Option Addr) (c:Nat) (l:List Nat) (w:World) (hs:Rd w (.slice p l.length c) l) (hl:Low l) :
  Calls Tryz.prog 157 #[.slice p l.length c] w fun e w'=>e=.returned (.slice p (eY l).length c)/\w=w':=by
 rcases hs with⟨q,h1,rfl⟩|⟨b,o,c',h1,h2,h3,h4,h5⟩
 ·cases h1
  have HT:Hid (eY []=[]):=by unfold Hid eY;simp[dQ]
  go_enter Tryz.func157,Tryz.ntmps157
  go_wp2
  go_loop [0] (fun s=>s=.slice p 0 0) (fun _=>0)
  case atStart=>rfl
  case round =>
   subst hrel
   go_wp2
   go_ret
   exact⟨by rw[HT.out];rfl,rfl⟩
 ·cases h1
  have H5:=Lib.hid h5
  have HL:=Lib.hid hl
  clear h5 hl
  go_enter Tryz.func157,Tryz.ntmps157
  go_wp2
  go_loop [0,3,4,5,6,7,8,9,10,11,12,13,14,15,16,17,18,19] (fun s _ _ _ _ _ _ _ _ _ _ _ _ _ _ _ _ _=>∃ k:Nat,k<=l.length/\s=.slice (some ⟨b,o,none⟩) k c/\Hid (val (l.take k)=val l))
   (fun s _ _ _ _ _ _ _ _ _ _ _ _ _ _ _ _ _=>match s with | .slice _ k _=>k|_=>0)
  case atStart=>exact⟨l.length,Nat.le_refl _,rfl,by simp[Hid]⟩
  case round =>
   obtain⟨k,hk,rfl,hz⟩:=hrel
   cases k with
   | zero =>
    go_wp2
    go_ret
    exact⟨by rw[wU HL.out (Nat.zero_le _) hz.out (.inl rfl)];rfl,rfl⟩
   | succ k =>
    have hc:=H5.out k (by omega)
    by_cases hg:gr l k=0
    ·have HV:=Lib.hid (uX (by omega) hg)
     rw[hg] at hc
     have HG:=Lib.hid hg
     clear hg
     go_wp2
     go_round
     case rel=>exact⟨k,by omega,rfl,by unfold Hid;rw[HV.out,hz.out]⟩
     case measure=>simp
    ·have hg':((gr l k:Int)==0)=false:=by simp;omega
     have HG:=Lib.hid hg
     clear hg
     go_wp2
     go_ret
     exact⟨by rw[wU HL.out hk hz.out (.inr (by simpa using HG.out)),List.length_take,Nat.min_eq_left hk];rfl,rfl⟩
def kP (x:Int) (w:World) (e:Ending) (w':World):Prop:=∃ v,e=.returned v/\bU w' v x/\Below w.heap.size w w'
theorem a8V {neg:Bool} {n:Nat} (h:n≠0):decide (sg neg n<0)=neg:=by
 cases neg<;>simp[sg]<;>omega
theorem a3b (neg:Bool) (n:Nat):(sg neg n).natAbs=n:=by cases neg<;>simp[sg]
theorem YL (neg:Bool):sg neg 0=0:=by cases neg<;>simp[sg]
theorem bU.zero (w:World):bU w (.agg #[.bool false,.slice none 0 0]) 0:=⟨.slice none 0 0,by simp,by simp[dQ];exact Rd.nil w⟩
theorem iF (neg:Bool) (s:Value) (l:List Nat) (w:World) (hs:Rd w s l) (hl:Low l) :
  Calls Tryz.prog 114 #[.bool neg,s] w (kP (sg neg (val l)) w):=by
 obtain⟨p,c,rfl,h2,h3⟩:=hs.form
 have hR:Rd w (.slice p (eY l).length c) (eY l):=by
  have:=hs.take (wR hl)
  rwa [<-VK hl] at this
 have hs1:=hs.alloc (.cells #[.bool false,.slice none 0 0] 28)
 by_cases hz:val l=0
 ·have e0:eY l=[]:=by unfold eY;rw[hz,dQ]
  have E0:=Lib.hid e0
  rw[hz,YL]
  clear hz e0
  go_enter Tryz.func114,Tryz.ntmps114
  go_wp2_with (go_at_call 157;refine(RG _ _ l _ hs1 hl).mono ?_;rw[E0.out];rintro e w' ⟨rfl,rfl⟩)
  exact bodyPost_ret (v:=.agg #[.bool false,.slice none 0 0]) (by simp[results,Tryz.results114,go_sem]) rfl ⟨_,rfl,bU.zero _,(Below.refl _ _).alloc (Nat.le_refl _) _⟩
 ·have hp:eY l≠[]:=fun e=>hz (jB.1 e)
  have hp':0<(eY l).length:=List.length_pos_iff.2 hp
  have HZ:=Lib.hid hz
  generalize ht:eY l=t at *
  have HT:=Lib.hid ht
  clear hz hp ht
  go_enter Tryz.func114,Tryz.ntmps114
  go_wp2_with (go_at_call 157;refine(RG _ _ l _ hs1 hl).mono ?_;rw[HT.out];rintro e w' ⟨rfl,rfl⟩)
  refine bodyPost_ret (v:=.agg #[.bool neg,.slice p t.length c]) (by simp[results,Tryz.results114,go_sem]) rfl ⟨_,rfl,⟨_,by rw[a8V HZ.out],?_⟩,?_⟩
  ·rw[a3b,<-eY,HT.out]
   exact hR.below ((Below.refl _ _).alloc (Nat.le_refl _) _)
  ·exact(Below.refl _ _).alloc (Nat.le_refl _) _
theorem iI:(Tryz.prog.info? 118).map (fun i=>(i.zero,i.size,i.bytes))=some (some (.int .u32 0),1,4):=by kernel_rfl
def cells32 (l:List Nat):List Value:=l.map fun g=>.int .u32 (g:Nat)
theorem Rd.bZ {w:World} {base:Nat} {v:Value} {l:List Nat} (h:w.ownsRow base 118 1 v l.length (cells32 l)):Rd w v l:=by
 rcases h.2 with⟨rfl,h0⟩|⟨g,cap,cur,rfl,hb,hg,hn,hm,hs,ht⟩
 ·exact .inl ⟨none,rfl,List.eq_nil_of_length_eq_zero h0⟩
 ·refine .inr ⟨g,0,cap,rfl,hn,by simpa [maxLen] using hm,(Array.getElem?_eq_some_iff.1 hg).1,fun i hi=>?_⟩
  have:=h.cells (g:=g) rfl i (.int .u32 (gr l i:Nat)) (by simp[cells32,oD hi,hi])
  have e:(⟨g,0,none⟩:Addr).add i=⟨g,0+i,none⟩:=by unfold Addr.add;split<;>simp_all
  rwa [e] at this
theorem uN {n m:Nat} {l:List Nat} (hm:0<m) (h:l++dig m=dig n):(l++[m%1000000000])++dig (m / 1000000000)=dig n:=by
 rw[List.append_assoc,<-h,nH (by omega:m≠0)]
 rfl
theorem cell_one_new (w:World) (v:Value) (t:TypeId):∀ j u,[v][j]?=some u->(w.alloc (.cells #[v] t)).cell? ((⟨w.heap.size,0,none⟩:Addr).add j)=some u:=by
 intro j u h
 cases j with
 | zero=>simp at h;subst h;simp[Addr.add,World.cell?_alloc_at]
 | succ j=>simp at h
theorem rO (n:Nat) (w:World) (hn:n<18446744073709551616) :
  Calls Tryz.prog 115 #[.int .u64 (n:Nat)] w fun e w'=>∃ v,e=.returned v/\w'.ownsRow w.heap.size 118 1 v (dig n).length (cells32 (dig n))/\Below w.heap.size w w':=by
 obtain⟨i0,hi,hz0,hz1,hz2⟩:=info_parts iI
 have HN:=Lib.hid hn
 have hlen:(dig n).length<=3:=eG (by rw[bG];omega)
 have HLEN:=Lib.hid hlen
 clear hn hlen
 go_enter Tryz.func115,Tryz.ntmps115
 go_wp2
 go_loopw [0,3,4,5,6,7,8,9,10,11,12,13] (fun m v _ _ _ _ _ _ _ _ _ _ wr=>∃ (k:Nat) (l:List Nat),k<=18446744073709551615/\m=.int .u64 (k:Nat)/\Hid (l++dig k=dig n)/\wr.ownsRow w.heap.size 118 1 v l.length (cells32 l)/\Below w.heap.size w wr)
  (fun m _ _ _ _ _ _ _ _ _ _ _ _=>(intOf m).toNat)
 case atStart=>exact⟨n,[],by have:=HN.out;omega,rfl,by simp[Hid],World.ownsRow_nil _ _ _ _,Below.refl _ _⟩
 case round =>
  obtain⟨k,l,hk,rfl,hl,hown,hB⟩:=hrel
  by_cases h0:0<k
  ·have HS:=Lib.hid (uN h0 hl.out)
   have hll:l.length<=2:=by
    have h1:=congrArg List.length hl.out
    have h2:=HLEN.out
    rw[List.length_append,nH (by omega:k≠0),List.length_cons] at h1
    omega
   have hsz:=hB.size
   go_wp2_with (at_builtin;refine wpList_append_own _ rfl _ _ 26 rfl w.heap.size 118 i0 (.int .u32 0) 1 4 Tryz.underlying26 hi hz0 hz1 hz2 rfl (by decide) _ _ _ rfl (hown.alloc _) ⟨wr.heap.size,0,none⟩ 1 1 [.int .u32 ((k%1000000000:Nat):Int)] rfl rfl ?c1 ?c2 ?c3 ?c4 ?c5 ?_)
   case c1=>exact cell_one_new _ _ _
   case c2=>simp[Value.oneCell']
   case c3=>unfold maxLen;omega
   case c4=>omega
   case c5=>simp;omega
   intro v' w1 hown' hgrow _
   have hown2:w1.ownsRow w.heap.size 118 1 v' (l++[k%1000000000]).length (cells32 (l++[k%1000000000])):=by
    rw[List.length_append,List.length_singleton]
    have:cells32 (l++[k%1000000000])=cells32 l++[.int .u32 ((k%1000000000:Nat):Int)]:=by simp[cells32]
    rw[this];exact hown'
   have hB1:Below w.heap.size w w1:=(hB.alloc hsz _).grown hgrow (by simp;omega) (fun j e=>(hown.lt j e).1)
   clear hown' hgrow
   go_wp2
   go_roundw
   case rel=>exact⟨k / 1000000000,l++[k%1000000000],by omega,by go_num,HS,hown2,hB1⟩
   case measure=>simp[intOf];omega
  ·obtain rfl:k=0:=by omega
   clear h0
   go_wp2
   go_ret
   have e:l=dig n:=by rw[<-hl.out,dQ,List.append_nil]
   exact⟨_,rfl,by rw[<-e];exact hown,hB⟩
theorem YU {k:Nat} (hk:k<=9223372036854775808):IntKind.u64.wrap (-IntKind.u64.wrap (-(k:Int)))=k:=by
 simp[IntKind.wrap,IntKind.bits,IntKind.signed];omega
theorem DC (n:Int) (w:World) (h0:-9223372036854775808<=n) (h1:n<=9223372036854775807) :
  Calls Tryz.prog 69 #[.int .i64 n] w (kP n w):=by
 by_cases hn:n<0
 ·obtain⟨k,rfl⟩:∃ k:Nat,n=-(k:Int):=⟨n.natAbs,by omega⟩
  have hk:k<=9223372036854775808:=by omega
  have hk0:0<k:=by omega
  have hlt:decide (-(k:Int)<0)=true:=by simp;omega
  have hw:=YU hk
  have HX:Hid (sg true (val (dig k))=-(k:Int)):=by unfold Hid;rw[aK];rfl
  clear hn h1 h0
  go_enter Tryz.func69,Tryz.ntmps69
  go_wp2_with fail
  refine(rO k _ (by omega)).mono ?_
  rintro e w1 ⟨v,rfl,hown,hb1⟩
  obtain⟨hc1,hf1⟩:=eX hb1
  have hsz:w.heap.size<w1.heap.size:=by have:=hb1.size;simp at this;omega
  go_wp2_with fail
  refine(iF true _ _ _ (Rd.bZ hown) (bK k)).mono ?_
  rw[HX.out]
  rintro e w2 ⟨v2,rfl,hi2,hb2⟩
  obtain⟨g2,p2,n2,c2,rfl⟩:=hi2.form
  obtain⟨hc2,hf2⟩:=eX hb2
  have hsz2:w.heap.size<w2.heap.size:=Nat.lt_of_lt_of_le hsz hb2.size
  have hB:Below w.heap.size w w2:=((Below.refl _ _).alloc (Nat.le_refl _) _).trans ((hb1.mono (by simp)).trans (hb2.mono (by omega)))
  go_wp2_with fail
  refine bodyPost_ret (v:=.agg #[.bool g2,.slice p2 n2 c2]) (by simp[results,Tryz.results69,go_sem,hc2,hc1,hsz,hsz2]) rfl ⟨_,rfl,?_,?_⟩
  ·exact hi2.xY (q:=false) (p:=none) (n:=0) (c:=0) (by simp[hc2,hc1,hsz]) (by simp[hc2,hc1,hsz]) _ _
  ·exact jY hB (Nat.le_refl _) _ _
 ·obtain⟨k,rfl⟩:=Int.eq_ofNat_of_zero_le (Int.not_lt.1 hn)
  have hk:k<=9223372036854775807:=by omega
  have hlt:decide ((k:Int)<0)=false:=by simp
  have HX:Hid (sg false (val (dig k))=(k:Int)):=by unfold Hid;rw[aK];rfl
  clear hn h1 h0
  go_enter Tryz.func69,Tryz.ntmps69
  go_wp2_with fail
  refine(rO k _ (by omega)).mono ?_
  rintro e w1 ⟨v,rfl,hown,hb1⟩
  obtain⟨hc1,hf1⟩:=eX hb1
  have hsz:w.heap.size<w1.heap.size:=by have:=hb1.size;simp at this;omega
  go_wp2_with fail
  refine(iF false _ _ _ (Rd.bZ hown) (bK k)).mono ?_
  rw[HX.out]
  rintro e w2 ⟨v2,rfl,hi2,hb2⟩
  obtain⟨g2,p2,n2,c2,rfl⟩:=hi2.form
  obtain⟨hc2,hf2⟩:=eX hb2
  have hsz2:w.heap.size<w2.heap.size:=Nat.lt_of_lt_of_le hsz hb2.size
  have hB:Below w.heap.size w w2:=((Below.refl _ _).alloc (Nat.le_refl _) _).trans ((hb1.mono (by simp)).trans (hb2.mono (by omega)))
  go_wp2_with fail
  refine bodyPost_ret (v:=.agg #[.bool g2,.slice p2 n2 c2]) (by simp[results,Tryz.results69,go_sem,hc2,hc1,hsz,hsz2]) rfl ⟨_,rfl,?_,?_⟩
  ·exact hi2.xY (q:=false) (p:=none) (n:=0) (c:=0) (by simp[hc2,hc1,hsz]) (by simp[hc2,hc1,hsz]) _ _
  ·exact jY hB (Nat.le_refl _) _ _
def a9q (l:List Nat) (w:World) (e:Ending) (w':World):Prop:=∃ v,e=.returned v/\w'.ownsRow w.heap.size 118 1 v l.length (cells32 l)/\Below w.heap.size w w'
theorem mM {w:World} {b o:Nat} {l:List Nat} (h5:∀ i,i<l.length->w.cell? ⟨b,o+i,none⟩=some (.int .u32 (gr l i:Nat))) :
  ∀ j u,(cells32 l)[j]?=some u->w.cell? ((⟨b,o,none⟩:Addr).add j)=some u:=by
 intro j u hj
 have hlt:j<l.length:=by
  have:=(List.getElem?_eq_some_iff.1 hj).1
  simpa [cells32] using this
 have e:(⟨b,o,none⟩:Addr).add j=⟨b,o+j,none⟩:=by unfold Addr.add;split<;>simp_all
 rw[e,h5 j hlt,oD hlt,<-hj]
 simp[cells32,hlt]
theorem jA (l:List Nat):(cells32 l).length=l.length*1:=by simp[cells32]
theorem kR (l:List Nat):∀ u ∈ cells32 l,u.oneCell'=true:=by simp[cells32,Value.oneCell']
theorem DT {P:Program} {w:World} {ops:Array Oper} {rest:List Oper} {o:Oper} {a:Act} {Q:Exit->Act->World->Prop} (hgd:o.guard=none) (s x:Operand) (t:TypeId)
  (hop:o.op=Op.call { callee:=Callee.builtin Builtin.append,args:=#[s,x],argTypes:=#[t,t] })
  (e:TypeId) (i:TypeInfo) (h1:P.underlying t=some (.slice e)) (h2:P.info? e=some i)
  (b:Addr) (hs:a.eval s=.slice (some b) 0 0) {q:Option Addr} (hx:a.eval x=.slice q 0 0)
  (h:wpList P ops Q rest (a.put o.dst (.slice (some b) 0 0)) w):wpList P ops Q (o::rest) a w :=
 wpList_plain hgd fun _ hK=>by
  have hrun:(Builtin.append_ #[t,t] o.type #[.slice (some b) 0 0,.slice q 0 0]).run P w=.ok (.slice (some b) 0 0) w:=by
   cases q<;>simp[Builtin.append_,run_underlying h1,sizeOf,typeInfo,h2,Builtin.lenOf,Builtin.firstCells,loadCells,loadCellsFrom,Sem.run_bind,storeCells]
  unfold Oper.wp
  simp[execOp,hop,resolve,invoke,builtin,hs,hx,hrun,Result.andThen]
  exact hK _ _ h
theorem clone_any (s:Value) (l:List Nat) (w:World) (hs:Rd w s l) (hl:l.length<=1000000000) :
  Calls Tryz.prog 152 #[s] w (a9q l w):=by
 rcases hs with⟨p,rfl,rfl⟩|⟨b,o,c,rfl,h2,h3,h4,h5⟩
 ·cases p with
  | none =>
   have hk:=Lib.run_eql_slice_nil (P:=Tryz.prog) w 26 118 none 0 0 0 0 Tryz.underlying26
   go_enter Tryz.func152,Tryz.ntmps152
   go_wp2
   go_ret
   exact⟨_,rfl,World.ownsRow_nil _ _ _ _,Below.refl _ _⟩
  | some ad =>
   obtain⟨i0,hi,hz0,hz1,hz2⟩:=info_parts iI
   have hk:=Lib.run_eql_slice_nil (P:=Tryz.prog) w 26 118 (some ad) 0 0 0 0 Tryz.underlying26
   go_enter Tryz.func152,Tryz.ntmps152
   go_wp2_with (at_builtin;refine DT rfl _ _ 26 rfl 118 i0 Tryz.underlying26 hi _ rfl rfl ?_)
   go_ret
   exact⟨_,rfl,World.ownsRow_made w #[] 0 (Nat.le_refl _) (by simp[maxLen]) (by simp),(Below.refl _ _).alloc (Nat.le_refl _) _⟩
 ·obtain⟨i0,hi,hz0,hz1,hz2⟩:=info_parts iI
  have hk:=Lib.run_eql_slice_nil (P:=Tryz.prog) w 26 118 (some ⟨b,o,none⟩) l.length c 0 0 Tryz.underlying26
  have H5:=Lib.hid h5
  clear h5
  go_enter Tryz.func152,Tryz.ntmps152
  go_wp2_with (at_builtin;refine wpList_append_own _ rfl _ _ 26 rfl w.heap.size 118 i0 (.int .u32 0) 1 4 Tryz.underlying26 hi hz0 hz1 hz2 rfl (by decide) _ _ _ rfl (World.ownsRow_made w #[] 0 (Nat.le_refl _) (by simp[maxLen]) (by simp)) ⟨b,o,none⟩ l.length c (cells32 l) rfl (jA l) ?c1 (kR l) ?c3 ?c4 ?c5 ?_)
  case c1=>exact mM fun i hi=>(World.cell?_alloc_lt _ _ ⟨b,o+i,none⟩ h4).trans (H5.out i hi)
  case c3=>unfold maxLen;omega
  case c4=>omega
  case c5=>simp
  intro v' w1 hown hgrow _
  have hB:Below w.heap.size w w1:=((Below.refl _ _).alloc (Nat.le_refl _) _).grown hgrow (by simp) (fun j e=>by simp[Value.ownBlock] at e;omega)
  clear hgrow
  go_wp2
  go_ret
  exact⟨_,rfl,by simpa using hown,hB⟩
theorem Raw.sign {w:World} {b:Bool} {s:Value} {x:Int} (hv:Raw w (.agg #[.bool b,s]) x) (h:x≠0):b=decide (x<0):=by
 obtain⟨neg,s',l,h1,h2,h3,rfl⟩:=hv
 cases h1
 exact ZQ h
theorem vM {w:World} {b:Bool} {s:Value} {x:Int} (hv:Raw w (.agg #[.bool b,s]) x):sg b x.natAbs=x:=by
 by_cases h:x=0
 ·subst h;exact YL _
 ·have:=hv.sign h
  unfold sg
  subst this
  by_cases h2:x<0<;>simp[h2]<;>omega
theorem b5F {w:World} {b:Bool} {s:Value} {x:Int} (hv:Raw w (.agg #[.bool b,s]) x):sg (!b) x.natAbs=-x:=by
 have:=vM hv
 unfold sg at *
 cases b<;>simp at this ⊢<;>omega
theorem tY (v:Value) (x:Int) (w:World) (hv:Raw w v x) (hl:isz x<=1000000000) :
  Calls Tryz.prog 134 #[v] w (kP (-x) w):=by
 obtain⟨b,p,n,c,rfl⟩:=hv.form
 have HX:Hid (sg (!b) (val (dig x.natAbs))=-x):=by unfold Hid;rw[aK];exact b5F hv
 have hv1:=hv.alloc (.cells #[.bool b,.slice p n c] 28)
 have hv2:=hv1.alloc (.cells #[.bool false,.slice none 0 0] 28)
 go_enter Tryz.func134,Tryz.ntmps134
 go_wp2_with fail
 have K:∀ A B:World,(fun w':World=>w'.cell? ⟨w.heap.size,0,none⟩=some (.bool b)/\w'.cell? ⟨w.heap.size,1,none⟩=some (.slice p n c)/\w.heap.size+1<w'.heap.size) A->Below A.heap.size A B->(fun w':World=>w'.cell? ⟨w.heap.size,0,none⟩=some (.bool b)/\w'.cell? ⟨w.heap.size,1,none⟩=some (.slice p n c)/\w.heap.size+1<w'.heap.size) B:=by
  rintro A B ⟨h1,h2,h3⟩ hb
  have hs:=hb.size
  exact⟨by rw[(eX hb).1 _ _ (by omega)];exact h1,by rw[(eX hb).1 _ _ (by omega)];exact h2,by omega⟩
 have K2:∀ (A:World) (u v:Value),(fun w':World=>w'.cell? ⟨w.heap.size,0,none⟩=some (.bool b)/\w'.cell? ⟨w.heap.size,1,none⟩=some (.slice p n c)/\w.heap.size+1<w'.heap.size) A->(fun w':World=>w'.cell? ⟨w.heap.size,0,none⟩=some (.bool b)/\w'.cell? ⟨w.heap.size,1,none⟩=some (.slice p n c)/\w.heap.size+1<w'.heap.size) ((A.setCell ⟨w.heap.size+1,0,none⟩ u).setCell ⟨w.heap.size+1,1,none⟩ v):=by
  rintro A u v ⟨h1,h2,h3⟩
  simp[go_sem,h1,h2,h3]
 have Q0:Bx ((w.alloc (.cells #[.bool b,.slice p n c] 28)).alloc (.cells #[.bool false,.slice none 0 0] 28)).drew (w.heap.size+1) [.bool false,.slice none 0 0]:=by
  have:=Bx.new (w.alloc (.cells #[.bool b,.slice p n c] 28)) [.bool false,.slice none 0 0] 28
  rw[World.size_alloc] at this
  exact this.drew
 go_region_held3 (fun w':World=>w'.cell? ⟨w.heap.size,0,none⟩=some (.bool b)/\w'.cell? ⟨w.heap.size,1,none⟩=some (.slice p n c)/\w.heap.size+1<w'.heap.size) (first|(simp;done)|exact K _ _ (by assumption) (by assumption)|exact K2 _ _ _ (by assumption))
  (first
   | (go_at_call 119;refine(dP _ x _ hv2.drew).mono ?_;rintro e w1 ⟨s1,rfl,hs1,hb1⟩;have Q1:=Q0.to hb1)
   | (go_at_call 152;refine(clone_any _ _ _ hs1 hl).mono ?_;rintro e w2 ⟨s2,rfl,hs2,hb2⟩;have Q2:=Q1.to hb2)
   | (go_at_call 114;refine(iF _ _ _ _ (Rd.bZ hs2) (bK _)).mono ?_;rintro e w3 ⟨s3,rfl,hs3,hb3⟩;obtain⟨g3,p3,n3,c3,rfl⟩:=hs3.form;have Q3:=Q2.to hb3;have q0:=Q3.c0;have q1:=Q3.c1;have r0:=Q3.f0;have r1:=Q3.f1))
 go_wp2
 have hB:Below w.heap.size w w3:=(((((Below.refl _ _).alloc (Nat.le_refl _) _).alloc (by simp) _).drew.trans (hb1.mono (by simp;omega))).trans (hb2.mono (by have:=Q1.1;omega))).trans (hb3.mono (by have:=Q2.1;omega))
 refine bodyPost_ret (v:=.agg #[.bool g3,.slice p3 n3 c3]) (by simp[results,Tryz.results134,go_sem,q0,q1]) rfl ⟨_,rfl,?_,jY hB (by omega) _ _⟩
 refine bU.xY ?_ q0 q1 _ _
 rw[<-HX.out];exact hs3
theorem aZ (l:List Nat) (k:Nat):val (l.take (k+1))=val (l.take k)+BB ^ k*gr l k:=by
 by_cases h:k<l.length
 ·rw[List.take_succ_eq_append_getElem h,val_append,List.length_take,Nat.min_eq_left (by omega),oD h]
  simp[bY]
 ·rw[uP (by omega),List.take_of_length_le (by omega),List.take_of_length_le (by omega)]
  simp
theorem dY {l:List Nat} {k:Nat} (h:l.length<=k):val (l.take k)=val l:=by rw[List.take_of_length_le h]
theorem fD {l:List Nat} {k v:Nat} (h:k<l.length):(l.set k v).take (k+1)=l.take k++[v]:=by
 rw[List.take_succ_eq_append_getElem (by simpa using h)]
 simp[List.take_set_of_le]
structure mD (a b o:List Nat) (n k c:Nat):Prop where
 len:o.length=n
 low:Low (o.take k)
 vl:val (o.take k)+BB ^ k*c=val (a.take k)+val (b.take k)
 car:c<=1
theorem mD.zero (a b:List Nat) (n:Nat):mD a b (List.replicate n 0) n 0 0:=⟨by simp,by simp[Low.nil],by simp,by omega⟩
theorem mD.PI {a b o:List Nat} {n k c:Nat} (h:mD a b o n k c) (hk:k<n) (hs:gr a k+gr b k+c<1000000000):mD a b (o.set k (gr a k+gr b k+c)) n (k+1) 0:=by
 have hl:k<o.length:=by rw[h.len];exact hk
 refine⟨by simp[h.len],?_,?_,by omega⟩
 ·rw[fD hl];exact Low.append.2 ⟨h.low,Low.cons.2 ⟨hs,Low.nil⟩⟩
 ·rw[fD hl,val_append,aZ,aZ,List.length_take,Nat.min_eq_left (by omega)]
  have:=h.vl
  simp only[bY,rC]
  grind
theorem mD.IG {a b o:List Nat} {n k c s:Nat} (h:mD a b o n k c) (ha:gr a k<1000000000) (hb:gr b k<1000000000) (hk:k<n) (hs:gr a k+gr b k+c=s+1000000000):mD a b (o.set k s) n (k+1) 1:=by
 have hl:k<o.length:=by rw[h.len];exact hk
 have hc:=h.car
 refine⟨by simp[h.len],?_,?_,by omega⟩
 ·rw[fD hl];exact Low.append.2 ⟨h.low,Low.cons.2 ⟨by rw[bG];omega,Low.nil⟩⟩
 ·rw[fD hl,val_append,aZ,aZ,List.length_take,Nat.min_eq_left (by omega),Nat.pow_succ]
  have:=h.vl
  simp only[bY,rC,bG] at *
  have e:1000000000 ^ k*(gr a k+gr b k+c)=1000000000 ^ k*(s+1000000000):=by rw[hs]
  grind
theorem mD.done {a b o:List Nat} {n c:Nat} (ha:Low a) (hb:Low b) (h:mD a b o n n c) (h1:a.length<n) (h2:b.length<n):Low o/\val o=val a+val b:=by
 have ho:o.take n=o:=List.take_of_length_le (by rw[h.len];exact Nat.le_refl _)
 have hv:=h.vl
 have hl:=h.low
 rw[ho] at hl hv
 rw[dY (by omega),dY (by omega)] at hv
 refine⟨hl,?_⟩
 have e1:val a<BB ^ (n-1):=Nat.lt_of_lt_of_le (nU ha) (Nat.pow_le_pow_right iP (by omega))
 have e2:val b<BB ^ (n-1):=Nat.lt_of_lt_of_le (nU hb) (Nat.pow_le_pow_right iP (by omega))
 have e3:BB ^ n=BB ^ (n-1)*BB:=by rw[<-Nat.pow_succ];congr 1;omega
 have hc:c=0\/c=1:=by have:=h.car;omega
 rcases hc with rfl|rfl
 ·simpa using hv
 ·rw[e3,bG] at hv
  rw[bG] at e1 e2
  omega
structure kF (a b o:List Nat) (n k c:Nat):Prop where
 len:o.length=n
 low:Low (o.take k)
 vl:val (o.take k)+val (b.take k)=val (a.take k)+BB ^ k*c
 car:c<=1
theorem kF.zero (a b:List Nat) (n:Nat):kF a b (List.replicate n 0) n 0 0:=⟨by simp,by simp[Low.nil],by simp,by omega⟩
theorem kF.PI {a b o:List Nat} {n k c s:Nat} (h:kF a b o n k c) (ha:gr a k<1000000000) (hk:k<n) (hs:gr a k=s+(gr b k+c)):kF a b (o.set k s) n (k+1) 0:=by
 have hl:k<o.length:=by rw[h.len];exact hk
 refine⟨by simp[h.len],?_,?_,by omega⟩
 ·rw[fD hl];exact Low.append.2 ⟨h.low,Low.cons.2 ⟨by rw[bG];omega,Low.nil⟩⟩
 ·rw[fD hl,val_append,aZ,aZ,List.length_take,Nat.min_eq_left (by omega)]
  have:=h.vl
  simp only[bY,rC]
  have e:BB ^ k*gr a k=BB ^ k*(s+(gr b k+c)):=by rw[hs]
  grind
theorem kF.IG {a b o:List Nat} {n k c s:Nat} (h:kF a b o n k c) (hb:gr b k<1000000000) (hk:k<n) (hlt:gr a k<gr b k+c) (hs:gr a k+1000000000=s+(gr b k+c)):kF a b (o.set k s) n (k+1) 1:=by
 have hl:k<o.length:=by rw[h.len];exact hk
 have hc:=h.car
 refine⟨by simp[h.len],?_,?_,by omega⟩
 ·rw[fD hl];exact Low.append.2 ⟨h.low,Low.cons.2 ⟨by rw[bG];omega,Low.nil⟩⟩
 ·rw[fD hl,val_append,aZ,aZ,List.length_take,Nat.min_eq_left (by omega),Nat.pow_succ]
  have:=h.vl
  simp only[bY,rC,bG] at *
  have e:1000000000 ^ k*(gr a k+1000000000)=1000000000 ^ k*(s+(gr b k+c)):=by rw[hs]
  grind
theorem kF.done {a b o:List Nat} {n c:Nat} (h:kF a b o n n c) (h1:a.length<=n) (h2:b.length<=n) (hle:val b<=val a):Low o/\val o=val a-val b:=by
 have ho:o.take n=o:=List.take_of_length_le (by rw[h.len];exact Nat.le_refl _)
 have hv:=h.vl
 have hl:=h.low
 rw[ho] at hl hv
 rw[dY (by omega),dY (by omega)] at hv
 refine⟨hl,?_⟩
 have e1:val o<BB ^ n:=by have:=nU hl;rwa [h.len] at this
 have hc:c=0\/c=1:=by have:=h.car;omega
 rcases hc with rfl|rfl
 ·omega
 ·rw[bG] at hv e1
  omega
theorem yP {l:List Nat} {k m v:Nat} (h:k<l.length):gr (l.set k v) m=if m=k then v else gr l m:=by
 unfold gr
 rw[List.getD_eq_getElem?_getD,List.getD_eq_getElem?_getD,List.getElem?_set]
 by_cases e:k=m
 ·subst e;simp[h]
 ·simp[e,Ne.symm e]
theorem low_set {l:List Nat} {k v:Nat} (h:Low l) (hv:v<1000000000):Low (l.set k v):=by
 intro g hg
 rcases List.mem_or_eq_of_mem_set hg with h1|h1
 ·exact h g h1
 ·subst h1;rw[bG];exact hv
theorem a1q {l:List Nat} {k m v:Nat} (h:m<=k):(l.set k v).take m=l.take m:=by
 simp[List.take_set_of_le h]
structure lV (a b o:List Nat) (n i:Nat):Prop where
 len:o.length=n
 low:Low o
 zero:∀ m,i+b.length<=m->gr o m=0
 vl:val (o.take (i+b.length))=val (a.take i)*val b
structure lF (o0 b o:List Nat) (n i p j c:Nat):Prop where
 len:o.length=n
 low:Low o
 same:∀ m,i+j<=m->gr o m=gr o0 m
 vl:val (o.take (i+j))+BB ^ (i+j)*c=val (o0.take (i+j))+BB ^ i*p*val (b.take j)
 car:c<1000000000
theorem EI (n m:Nat):gr (List.replicate n 0) m=0:=by
 unfold gr
 rw[List.getD_eq_getElem?_getD,List.getElem?_replicate]
 split<;>rfl
theorem VO (n:Nat):val (List.replicate n 0)=0:=by
 induction n with
 | zero=>rfl
 | succ n ih=>rw[List.replicate_succ,bY,ih];simp
theorem lV.start (a b:List Nat) (n:Nat):lV a b (List.replicate n 0) n 0 :=
 ⟨by simp,fun g hg=>by rw[(List.mem_replicate.1 hg).2];exact iP,fun m _=>EI n m,by rw[List.take_replicate,VO];simp⟩
theorem lF.start {o0 b:List Nat} {n i p:Nat} (h1:o0.length=n) (h2:Low o0):lF o0 b o0 n i p 0 0:=⟨h1,h2,fun _ _=>rfl,by simp,by omega⟩
theorem lF.step {o0 b o:List Nat} {n i p j c:Nat} (h:lF o0 b o n i p j c) (hp:p<1000000000) (hq:gr b j<1000000000) (hk:i+j<n) :
  lF o0 b (o.set (i+j) ((gr o (i+j)+p*gr b j+c)%1000000000)) n i p (j+1) ((gr o (i+j)+p*gr b j+c) / 1000000000):=by
 have hl:i+j<o.length:=by rw[h.len];exact hk
 have hc:=h.car
 have hg:=CU h.low (i+j)
 have hm:p*gr b j<=999999999*999999999:=Nat.mul_le_mul (by omega) (by omega)
 refine⟨by simp[h.len],low_set h.low (Nat.mod_lt _ (by omega)),?_,?_,by omega⟩
 ·intro m hm
  rw[yP hl,if_neg (by omega)]
  exact h.same m (by omega)
 ·have e1:=h.vl
  have e2:=h.same (i+j) (Nat.le_refl _)
  have e3:=aZ o0 (i+j)
  have e4:=aZ b j
  rw[show i+(j+1)=(i+j)+1 from by omega,fD hl,val_append,List.length_take,Nat.min_eq_left (by omega),e3,e4,<-e2]
  simp only[bY,rC]
  have e5:=Nat.mod_add_div (gr o (i+j)+p*gr b j+c) 1000000000
  generalize (gr o (i+j)+p*gr b j+c)%1000000000=r at *
  generalize (gr o (i+j)+p*gr b j+c) / 1000000000=d at *
  rw[Nat.pow_succ,Nat.pow_add] at *
  rw[bG] at *
  have e6:1000000000 ^ i*1000000000 ^ j*(r+1000000000*d)=1000000000 ^ i*1000000000 ^ j*(gr o (i+j)+p*gr b j+c):=by rw[e5]
  grind
theorem lF.done {a b o0 o:List Nat} {n i c:Nat} (h0:lV a b o0 n i) (h:lF o0 b o n i (gr a i) b.length c) (hi:i+b.length<n):lV a b (o.set (i+b.length) c) n (i+1):=by
 have hl:i+b.length<o.length:=by rw[h.len];exact hi
 refine⟨by simp[h.len],low_set h.low h.car,?_,?_⟩
 ·intro m hm
  rw[yP hl,if_neg (by omega),h.same m (by omega)]
  exact h0.zero m (by omega)
 ·have e1:=h.vl
  have e2:=h0.vl
  have e3:=aZ a i
  rw[show i+1+b.length=(i+b.length)+1 from by omega,fD hl,val_append,List.length_take,Nat.min_eq_left (by omega),e3]
  rw[dY (Nat.le_refl b.length)] at e1
  simp only[bY,rC]
  grind
theorem lV.done {a b o:List Nat} {n:Nat} (h:lV a b o n a.length) (hn:n=a.length+b.length):val o=val a*val b:=by
 have:=h.vl
 rwa [List.take_of_length_le (by rw[h.len];omega),dY (Nat.le_refl _)] at this
end Go.Proofs.YtidfgdchcpmnfaaGreat
