/-
  Lemmas for the theorem veight28_holds, part 1 of 32.
-/
import Derived.Deep.RegionHeld3
import Derived.Lib.Hide
import Derived.Lib.SliceRun
import Derived.ProofKit
import Derived.Test.YtbkocjmmbkifjaaGreatProg
import Derived.WalkKit
namespace Go.Proofs.YtbkocjmmbkifjaaGreat
open Go Go.RowKit
theorem ug:type_of% @List.mem_append:=@List.mem_append
theorem Bc:type_of% @List.mem_of_mem_take:=@List.mem_of_mem_take
theorem bn:type_of% @List.getD_eq_getElem?_getD:=@List.getD_eq_getElem?_getD
theorem Cb:type_of% @List.mem_of_getElem?:=@List.mem_of_getElem?
theorem Aq:type_of% @Nat.mod_lt:=@Nat.mod_lt
theorem aj:type_of% @Option.some.injEq:=@Option.some.injEq
theorem Dp:type_of% @Nat.mod_eq_of_lt:=@Nat.mod_eq_of_lt
theorem Eh:type_of% @Nat.div_eq_of_lt:=@Nat.div_eq_of_lt
theorem tu:type_of% @Nat.zero_add:=@Nat.zero_add
theorem Aa:type_of% @Nat.mul_le_mul_left:=@Nat.mul_le_mul_left
theorem xu:type_of% @Nat.mul_comm:=@Nat.mul_comm
theorem oq:type_of% @Nat.lt_of_lt_of_le:=@Nat.lt_of_lt_of_le
theorem wu:type_of% @Nat.pow_le_pow_right:=@Nat.pow_le_pow_right
theorem Ac:type_of% @Nat.lt_or_ge:=@Nat.lt_or_ge
theorem ay:type_of% @Nat.le_refl:=@Nat.le_refl
theorem Dx:type_of% @Nat.pow_add:=@Nat.pow_add
theorem jc:type_of% @Nat.le_trans:=@Nat.le_trans
theorem qw:type_of% @List.getElem?_eq_none:=@List.getElem?_eq_none
theorem wz:type_of% @List.getElem_mem:=@List.getElem_mem
theorem ji:type_of% @Below.refl:=@Below.refl
theorem mg:type_of% @List.length_take:=@List.length_take
theorem yj:type_of% @List.length_pos_iff:=@List.length_pos_iff
theorem dw:type_of% @List.getElem?_eq_getElem:=@List.getElem?_eq_getElem
theorem jl:type_of% @if_pos:=@if_pos
theorem jd:type_of% @if_neg:=@if_neg
theorem zq:type_of% @World.cell?_setCell_other:=@World.cell?_setCell_other
theorem uq:type_of% @Int.eq_ofNat_of_zero_le:=@Int.eq_ofNat_of_zero_le
theorem Cm:type_of% @List.getElem_of_mem:=@List.getElem_of_mem
theorem iy:type_of% @Lib.hid:=@Lib.hid
theorem xg:type_of% @congrArg:=@congrArg
theorem zh:type_of% @Nat.min_eq_left:=@Nat.min_eq_left
theorem uw:type_of% @Nat.zero_le:=@Nat.zero_le
theorem yc:type_of% @bodyPost_ret:=@bodyPost_ret
theorem qj:type_of% @List.eq_nil_of_length_eq_zero:=@List.eq_nil_of_length_eq_zero
theorem Ag:type_of% @Array.getElem?_eq_some_iff:=@Array.getElem?_eq_some_iff
theorem uz:type_of% @List.append_assoc:=@List.append_assoc
theorem Af:type_of% @info_parts:=@info_parts
theorem Bf:type_of% @World.ownsRow_nil:=@World.ownsRow_nil
theorem jg:type_of% @List.length_append:=@List.length_append
theorem yx:type_of% @wpList_append_own:=@wpList_append_own
theorem og:type_of% @Tryz.underlying43:=@Tryz.underlying43
theorem Aw:type_of% @List.append_nil:=@List.append_nil
theorem oz:type_of% @List.getElem?_eq_some_iff:=@List.getElem?_eq_some_iff
theorem qg:type_of% @run_underlying:=@run_underlying
theorem jk:type_of% @Sem.run_bind:=@Sem.run_bind
theorem zu:type_of% @World.cell?_alloc_lt:=@World.cell?_alloc_lt
theorem jv:type_of% @List.take_of_length_le:=@List.take_of_length_le
theorem Dw:type_of% @List.mem_replicate:=@List.mem_replicate
theorem xw:type_of% @Nat.mul_le_mul:=@Nat.mul_le_mul
theorem Dq:type_of% @wpList_make_full:=@wpList_make_full
def BB:Nat:=1000000000
theorem fP:0<BB:=by unfold BB;omega
theorem bH:BB=1000000000:=rfl
theorem b4n:1<BB:=by unfold BB;omega
theorem zN {n:Nat} (h:n≠0):n / BB<n:=Nat.div_lt_self (Nat.pos_of_ne_zero h) b4n
def val:List Nat->Nat
 | []=>0
 | g::l=>g+BB*val l
@[simp] theorem qN:val []=0:=rfl
theorem bP (g:Nat) (l:List Nat):val (g::l)=g+BB*val l:=rfl
theorem val_append (a b:List Nat):val (a++b)=val a+BB ^ a.length*val b:=by
 induction a with
 | nil=>simp
 | cons g a ih =>
  simp only[List.cons_append,bP,ih,List.length_cons,Nat.pow_succ]
  grind
def dig (n:Nat):List Nat:=if _h:n=0 then [] else n%BB::dig (n / BB)
termination_by n
decreasing_by exact zN (by assumption)
theorem dS:dig 0=[]:=by rw[dig];simp
theorem nG {n:Nat} (h:n≠0):dig n=n%BB::dig (n / BB):=by rw[dig];simp[h]
def Low (l:List Nat):Prop:=∀ g ∈ l,g<BB
def Canon (l:List Nat):Prop:=Low l/\l.getLast?≠some 0
theorem Low.nil:Low []:=by simp[Low]
theorem Low.cons {g:Nat} {l:List Nat}:Low (g::l)↔g<BB/\Low l:=by simp[Low]
theorem Low.append {a b:List Nat}:Low (a++b)↔Low a/\Low b:=by
 simp only[Low,ug]
 exact⟨fun h=>⟨fun g hg=>h g (.inl hg),fun g hg=>h g (.inr hg)⟩,fun h g hg=>hg.elim (h.1 g) (h.2 g)⟩
theorem Low.take {l:List Nat} (h:Low l) (n:Nat):Low (l.take n):=fun g hg=>h g (Bc hg)
theorem Low.drop {l:List Nat} (h:Low l) (n:Nat):Low (l.drop n):=fun g hg=>h g (List.mem_of_mem_drop hg)
theorem Low.get {l:List Nat} (h:Low l) (i:Nat):l.getD i 0<BB:=by
 rw[bn]
 cases hi:l[i]? with
 | none=>simp[fP]
 | some g=>simpa using h g (Cb hi)
theorem bG (n:Nat):val (dig n)=n:=by
 induction n using Nat.strongRecOn with
 | _ n ih =>
  by_cases h:n=0
  ·subst h;rw[dS];rfl
  ·rw[nG h,bP,ih _ (zN h)]
   exact Nat.mod_add_div n BB
theorem bK (n:Nat):Low (dig n):=by
 induction n using Nat.strongRecOn with
 | _ n ih =>
  by_cases h:n=0
  ·subst h;rw[dS];exact Low.nil
  ·rw[nG h]
   exact Low.cons.2 ⟨Aq _ fP,ih _ (zN h)⟩
theorem iE {n:Nat}:dig n=[]↔n=0:=by
 by_cases h:n=0
 ·simp[h,dS]
 ·simp[nG h,h]
theorem a7l (n:Nat):(dig n).getLast?≠some 0:=by
 induction n using Nat.strongRecOn with
 | _ n ih =>
  by_cases h:n=0
  ·subst h;rw[dS];simp
  ·rw[nG h]
   by_cases h1:n / BB=0
   ·rw[h1,dS]
    simp only[List.getLast?_singleton,ne_eq,aj]
    have:=Nat.mod_add_div n BB
    rw[h1] at this
    omega
   ·have h2:dig (n / BB)≠[]:=fun e=>h1 (iE.1 e)
    rw[List.getLast?_cons]
    have:=ih _ (zN h)
    cases h3:(dig (n / BB)).getLast? with
    | none=>exact absurd (List.getLast?_eq_none_iff.1 h3) h2
    | some g=>rw[h3] at this;simpa using this
theorem dA (n:Nat):Canon (dig n):=⟨bK n,a7l n⟩
theorem Canon.tail {g:Nat} {l:List Nat} (h:Canon (g::l)):Canon l:=by
 refine⟨(Low.cons.1 h.1).2,fun e=>h.2 ?_⟩
 rw[List.getLast?_cons,e];rfl
theorem Canon.b3m {l:List Nat} (h:Canon l) (hl:l≠[]):0<val l:=by
 induction l with
 | nil=>exact absurd rfl hl
 | cons g l ih =>
  rw[bP]
  by_cases hn:l=[]
  ·subst hn
   have:=h.2
   simp at this
   omega
  ·have:=ih h.tail hn
   have:=Nat.mul_pos fP this
   omega
theorem dJ {l:List Nat} (h:Canon l):dig (val l)=l:=by
 induction l with
 | nil=>rw[qN,dS]
 | cons g l ih =>
  have hp:=h.b3m (by simp)
  have hg:=(Low.cons.1 h.1).1
  rw[nG (by omega),bP,Nat.add_mul_mod_self_left,Dp hg,Nat.add_mul_div_left _ _ fP,Eh hg,tu,ih h.tail]
def dX (l:List Nat):List Nat:=dig (val l)
theorem VO {l:List Nat} (h:Low l):dX l=l.take (dX l).length:=by
 unfold dX
 induction l with
 | nil=>simp[dS]
 | cons g l ih =>
  have hg:=(Low.cons.1 h).1
  rw[bP]
  by_cases h0:g+BB*val l=0
  ·rw[h0,dS];simp
  ·rw[nG h0,Nat.add_mul_mod_self_left,Dp hg,Nat.add_mul_div_left _ _ fP,Eh hg,tu,List.length_cons,List.take_succ_cons,<-ih (Low.cons.1 h).2]
theorem kQ {l:List Nat} (h:Low l):val l<BB ^ l.length:=by
 induction l with
 | nil=>simp
 | cons g l ih =>
  have h1:=Low.cons.1 h
  have h2:=ih h1.2
  rw[bP,List.length_cons,Nat.pow_succ]
  have:BB*(val l+1)<=BB*BB ^ l.length:=Aa _ h2
  rw[xu BB (BB ^ l.length)] at this
  have h3:=h1.1
  have h4:BB*(val l+1)=BB*val l+BB:=by rw[Nat.mul_add,Nat.mul_one]
  omega
theorem dN {n k:Nat} (h:n<BB ^ k):(dig n).length<=k:=by
 induction k generalizing n with
 | zero=>simp at h;subst h;simp[dS]
 | succ k ih =>
  by_cases h0:n=0
  ·subst h0;simp[dS]
  ·rw[nG h0,List.length_cons]
   have:n / BB<BB ^ k:=by
    rw[Nat.div_lt_iff_lt_mul fP,<-Nat.pow_succ];exact h
   have:=ih this
   omega
theorem gZ {n k:Nat} (h:(dig n).length<=k):n<BB ^ k:=by
 have h1:=kQ (bK n)
 rw[bG] at h1
 exact oq h1 (wu fP h)
theorem oP {n k:Nat} (h:k<(dig n).length):BB ^ k<=n:=by
 rcases Ac n (BB ^ k) with h1|h1
 ·have:=dN h1;omega
 ·exact h1
theorem aP {m n:Nat} (h:m<=n):(dig m).length<=(dig n).length :=
 dN (Nat.lt_of_le_of_lt h (gZ (ay _)))
theorem wO {l:List Nat} (h:Low l):(dX l).length<=l.length:=dN (kQ h)
def nsz (n:Nat):Nat:=(dig n).length
theorem a9g:nsz 0=0:=by simp[nsz,dS]
theorem sU (a b:Nat):nsz (a*b)<=nsz a+nsz b:=by
 refine dN ?_
 rw[Dx]
 exact Nat.mul_lt_mul'' (gZ (ay _)) (gZ (ay _))
theorem yM {m n:Nat} (h:m<=n):nsz m<=nsz n:=aP h
theorem a4b (a b:Nat):nsz (a+b)<=max (nsz a) (nsz b)+1:=by
 refine dN ?_
 have h1:a<BB ^ max (nsz a) (nsz b):=gZ (Nat.le_max_left _ _)
 have h2:b<BB ^ max (nsz a) (nsz b):=gZ (Nat.le_max_right _ _)
 rw[Nat.pow_succ,bH] at *
 omega
def isz (x:Int):Nat:=nsz x.natAbs
theorem PI:isz 0=0:=a9g
theorem jK (x:Int):isz (-x)=isz x:=by simp[isz]
theorem fG (x y:Int):isz (x*y)<=isz x+isz y:=by
 unfold isz;rw[Int.natAbs_mul];exact sU _ _
theorem vW (x y:Int):isz (x+y)<=max (isz x) (isz y)+1 :=
 jc (yM (Int.natAbs_add_le x y)) (a4b _ _)
theorem LW (x y:Int):isz (x-y)<=max (isz x) (isz y)+1:=by
 have:=vW x (-y)
 rw[jK] at this
 exact this
theorem PG {x y:Int} (h:x.natAbs<=y.natAbs):isz x<=isz y:=yM h
theorem yG {x:Int} {k:Nat} (h:x.natAbs<BB ^ k):isz x<=k:=dN h
def gr (l:List Nat) (i:Nat):Nat:=l.getD i 0
theorem uD {l:List Nat} {i:Nat} (h:l.length<=i):gr l i=0:=by simp[gr,qw h]
theorem oG {l:List Nat} {i:Nat} (h:i<l.length):gr l i=l[i]:=by simp[gr,h]
theorem CV {l:List Nat} (h:Low l) (i:Nat):gr l i<1000000000:=h.get i
theorem fM {l:List Nat} (h:Low l) (i:Nat):gr l i<=999999999:=by have:=CV h i;omega
theorem zT {l:List Nat} {i k:Nat} (h:i<k):gr (l.take k) i=gr l i:=by simp[gr,h]
theorem a7I {l:List Nat} {i:Nat} (h:i<l.length):gr l i ∈ l:=by rw[oG h];exact wz h
def sg (neg:Bool) (n:Nat):Int:=if neg then -(n:Int) else n
theorem jC {k:IntKind} {a b:Int} (h:a=b):Ending.returned (.int k a)=.returned (.int k b):=by rw[h]
theorem rW {a b:Bool} (h:a=b):Ending.returned (.bool a)=.returned (.bool b):=by rw[h]
def Rd (w:World) (s:Value) (l:List Nat):Prop :=
 (∃ p,s=.slice p 0 0/\l=[]) \/
 ∃ b o c,s=.slice (some ⟨b,o,none⟩) l.length c/\l.length<=c/\c<=9223372036854775807/\b<w.heap.size /\
  ∀ i,i<l.length->w.cell? ⟨b,o+i,none⟩=some (.int .u32 (gr l i:Nat))
theorem Rd.below {w w':World} {s:Value} {l:List Nat} (h:Rd w s l) (hb:Below w.heap.size w w'):Rd w' s l:=by
 rcases h with h|⟨b,o,c,h1,h2,h3,h4,h5⟩
 ·exact .inl h
 ·exact .inr ⟨b,o,c,h1,h2,h3,oq h4 hb.size,fun i hi=>(hb.cell (p:=⟨b,o+i,none⟩) h4).trans (h5 i hi)⟩
theorem Rd.nil (w:World):Rd w (.slice none 0 0) []:=.inl ⟨none,rfl,rfl⟩
theorem Rd.alloc {w:World} {s:Value} {l:List Nat} (h:Rd w s l) (o:Obj):Rd (w.alloc o) s l:=h.below ((ji _ _).alloc (ay _) _)
theorem Rd.form {w:World} {s:Value} {l:List Nat} (h:Rd w s l):∃ p c,s=.slice p l.length c/\l.length<=c/\c<=9223372036854775807:=by
 rcases h with⟨p,rfl,rfl⟩|⟨b,o,c,h1,h2,h3,h4,h5⟩
 ·exact⟨p,0,rfl,ay _,by omega⟩
 ·exact⟨_,c,h1,h2,h3⟩
theorem Rd.take {w:World} {p:Option Addr} {c:Nat} {l:List Nat} (h:Rd w (.slice p l.length c) l) {k:Nat} (hk:k<=l.length):Rd w (.slice p k c) (l.take k):=by
 have hl:(l.take k).length=k:=by rw[mg];omega
 rcases h with⟨q,h1,rfl⟩|⟨b,o,c',h1,h2,h3,h4,h5⟩
 ·cases h1
  simp at hk;subst hk
  exact .inl ⟨_,rfl,rfl⟩
 ·cases h1
  refine .inr ⟨b,o,c,by rw[hl],by rw[hl];omega,h3,h4,fun i hi=>?_⟩
  rw[hl] at hi
  rw[h5 i (by omega),zT hi]
theorem Rd.drew {w:World} {s:Value} {l:List Nat} (h:Rd w s l):Rd w.drew s l:=h.below (ji _ _).drew
theorem iK {B:Nat} {W w1:World} (hb:Below B W w1):(∀ b o,b<B->w1.cell? ⟨b,o,none⟩=W.cell? ⟨b,o,none⟩)/\(∀ b o,b<B->w1.frozen? ⟨b,o,none⟩=W.frozen? ⟨b,o,none⟩) :=
 ⟨fun b o h=>hb.cell (p:=⟨b,o,none⟩) h,fun b o h=>hb.frozen (p:=⟨b,o,none⟩) h⟩
def Bx (w:World) (b:Nat) (cs:List Value):Prop:=b<w.heap.size/\∀ i u,cs[i]?=some u->w.cell? ⟨b,i,none⟩=some u/\w.frozen? ⟨b,i,none⟩=false
theorem Bx.below {w w':World} {b:Nat} {cs:List Value} (h:Bx w b cs) {B:Nat} (hb:Below B w w') (hB:b<B):Bx w' b cs :=
 ⟨oq h.1 hb.size,fun i u hu=>⟨(hb.cell (p:=⟨b,i,none⟩) hB).trans (h.2 i u hu).1,(hb.frozen (p:=⟨b,i,none⟩) hB).trans (h.2 i u hu).2⟩⟩
theorem Bx.to {w w':World} {b:Nat} {cs:List Value} (h:Bx w b cs) (hb:Below w.heap.size w w'):Bx w' b cs:=h.below hb h.1
theorem Bx.new (w:World) (cs:List Value) (t:TypeId):Bx (w.alloc (.cells cs.toArray t)) w.heap.size cs :=
 ⟨by simp,fun i u hu=>⟨by rw[World.cell?_alloc_at _ _ _ _ rfl];simpa using hu,World.frozen?_alloc_at _ _ _ _ rfl⟩⟩
theorem Bx.alloc {w:World} {b:Nat} {cs:List Value} (h:Bx w b cs) (o:Obj):Bx (w.alloc o) b cs:=h.to ((ji _ _).alloc (ay _) _)
theorem Bx.drew {w:World} {b:Nat} {cs:List Value} (h:Bx w b cs):Bx w.drew b cs:=h.to (ji _ _).drew
theorem Bx.c0 {w:World} {b:Nat} {u0:Value} {cs:List Value} (h:Bx w b (u0::cs)):w.cell? ⟨b,0,none⟩=some u0:=(h.2 0 u0 rfl).1
theorem Bx.f0 {w:World} {b:Nat} {u0:Value} {cs:List Value} (h:Bx w b (u0::cs)):w.frozen? ⟨b,0,none⟩=false:=(h.2 0 u0 rfl).2
theorem Bx.c1 {w:World} {b:Nat} {u0 u1:Value} {cs:List Value} (h:Bx w b (u0::u1::cs)):w.cell? ⟨b,1,none⟩=some u1:=(h.2 1 u1 rfl).1
theorem Bx.f1 {w:World} {b:Nat} {u0 u1:Value} {cs:List Value} (h:Bx w b (u0::u1::cs)):w.frozen? ⟨b,1,none⟩=false:=(h.2 1 u1 rfl).2
theorem Bx.c2 {w:World} {b:Nat} {u0 u1 u2:Value} {cs:List Value} (h:Bx w b (u0::u1::u2::cs)):w.cell? ⟨b,2,none⟩=some u2:=(h.2 2 u2 rfl).1
theorem Bx.f2 {w:World} {b:Nat} {u0 u1 u2:Value} {cs:List Value} (h:Bx w b (u0::u1::u2::cs)):w.frozen? ⟨b,2,none⟩=false:=(h.2 2 u2 rfl).2
theorem Bx.c3 {w:World} {b:Nat} {u0 u1 u2 u3:Value} {cs:List Value} (h:Bx w b (u0::u1::u2::u3::cs)):w.cell? ⟨b,3,none⟩=some u3:=(h.2 3 u3 rfl).1
theorem Bx.f3 {w:World} {b:Nat} {u0 u1 u2 u3:Value} {cs:List Value} (h:Bx w b (u0::u1::u2::u3::cs)):w.frozen? ⟨b,3,none⟩=false:=(h.2 3 u3 rfl).2
def GY (neg:Bool) (l:List Nat):Bool:=match l with
 | []=>!neg
 | _=>decide (gr l (l.length-1)≠0)&&!l.any (fun g=>decide (1000000000<=g))
theorem vH (neg:Bool):GY neg []=!neg:=rfl
theorem YZ {neg:Bool} {l:List Nat} (h:l≠[]):GY neg l=(decide (gr l (l.length-1)≠0)&&!l.any (fun g=>decide (1000000000<=g))):=by
 cases l with
 | nil=>exact absurd rfl h
 | cons=>rfl
theorem LX {l:List Nat} (h:l≠[]):l.getLast?=some (gr l (l.length-1)):=by
 have:0<l.length:=yj.2 h
 rw[List.getLast?_eq_getElem?,oG (by omega)]
 exact dw _
theorem GZ {neg:Bool} {l:List Nat}:GY neg l=true↔Canon l/\(l=[]->neg=false):=by
 by_cases h:l=[]
 ·subst h;simp[vH,Canon,Low]
 ·rw[YZ h,Canon,LX h]
  simp[Low,bH,h]
  exact⟨fun⟨a,b⟩=>⟨b,a⟩,fun⟨a,b⟩=>⟨b,a⟩⟩
def cnt (neg:Bool) (l:List Nat):Int:=if GY neg l then (if neg then -(val l:Int) else val l) else 0
def cgs (neg:Bool) (l:List Nat):List Nat:=if GY neg l then l else []
theorem XB (neg:Bool) (l:List Nat):dig (cnt neg l).natAbs=cgs neg l:=by
 unfold cnt cgs
 by_cases h:GY neg l=true
 ·have hc:=(GZ.1 h).1
  rw[jl h,jl h]
  cases neg<;>simp[dJ hc]
 ·rw[jd h,jd h];exact dS
theorem ZP {neg:Bool} {l:List Nat} (h:cnt neg l≠0):neg=decide (cnt neg l<0):=by
 unfold cnt at *
 by_cases hv:GY neg l=true
 ·rw[jl hv] at h ⊢
  cases neg
  ·simp
  ·simp at h ⊢;omega
 ·rw[jd hv] at h;exact absurd rfl h
def Raw (w:World) (v:Value) (x:Int):Prop :=
 ∃ neg s l,v=.agg #[.bool neg,s]/\Rd w s l/\(∀ g ∈ l,g<4294967296)/\x=cnt neg l
def dR (w:World) (v:Value) (x:Int):Prop:=∃ s,v=.agg #[.bool (decide (x<0)),s]/\Rd w s (dig x.natAbs)
theorem dR.form {w:World} {v:Value} {x:Int} (h:dR w v x):∃ b p n c,v=.agg #[.bool b,.slice p n c]:=by
 obtain⟨s,rfl,h2⟩:=h
 obtain⟨p,c,rfl,_,_⟩:=h2.form
 exact⟨_,_,_,_,rfl⟩
theorem Raw.form {w:World} {v:Value} {x:Int} (h:Raw w v x):∃ b p n c,v=.agg #[.bool b,.slice p n c]:=by
 obtain⟨neg,s,l,rfl,h2,_⟩:=h
 obtain⟨p,c,rfl,_,_⟩:=h2.form
 exact⟨_,_,_,_,rfl⟩
theorem Raw.below {w w':World} {v:Value} {x:Int} (h:Raw w v x) (hb:Below w.heap.size w w'):Raw w' v x:=by
 obtain⟨neg,s,l,h1,h2,h3,h4⟩:=h
 exact⟨neg,s,l,h1,h2.below hb,h3,h4⟩
theorem dR.below {w w':World} {v:Value} {x:Int} (h:dR w v x) (hb:Below w.heap.size w w'):dR w' v x:=by
 obtain⟨s,h1,h2⟩:=h
 exact⟨s,h1,h2.below hb⟩
theorem Raw.alloc {w:World} {v:Value} {x:Int} (h:Raw w v x) (o:Obj):Raw (w.alloc o) v x:=h.below ((ji _ _).alloc (ay _) _)
theorem dR.alloc {w:World} {v:Value} {x:Int} (h:dR w v x) (o:Obj):dR (w.alloc o) v x:=h.below ((ji _ _).alloc (ay _) _)
theorem Raw.drew {w:World} {v:Value} {x:Int} (h:Raw w v x):Raw w.drew v x:=h.below (ji _ _).drew
theorem dR.drew {w:World} {v:Value} {x:Int} (h:dR w v x):dR w.drew v x:=h.below (ji _ _).drew
def bU:Value->Bool
 | .int .u32 _=>false
 | _=>true
theorem Rd.iG {w:World} {s:Value} {l:List Nat} (h:Rd w s l) {a:Addr} {u:Value} (hc:w.cell? a=some u) (hu:bU u=true) (u':Value):Rd (w.setCell a u') s l:=by
 rcases h with h|⟨b,o,c,h1,h2,h3,h4,h5⟩
 ·exact .inl h
 ·refine .inr ⟨b,o,c,h1,h2,h3,by simpa [World.setCell] using h4,fun i hi=>?_⟩
  by_cases e:a=⟨b,o+i,none⟩
  ·subst e
   rw[h5 i hi] at hc
   cases hc
   simp[bU] at hu
  ·rw[zq _ _ _ _ (by simpa using e)]
   exact h5 i hi
theorem Raw.iG {w:World} {v:Value} {x:Int} (h:Raw w v x) {a:Addr} {u:Value} (hc:w.cell? a=some u) (hu:bU u=true) (u':Value):Raw (w.setCell a u') v x:=by
 obtain⟨neg,s,l,h1,h2,h3,h4⟩:=h
 exact⟨neg,s,l,h1,h2.iG hc hu u',h3,h4⟩
theorem dR.iG {w:World} {v:Value} {x:Int} (h:dR w v x) {a:Addr} {u:Value} (hc:w.cell? a=some u) (hu:bU u=true) (u':Value):dR (w.setCell a u') v x:=by
 obtain⟨s,h1,h2⟩:=h
 exact⟨s,h1,h2.iG hc hu u'⟩
theorem dR.b9c {w:World} {v:Value} {x:Int} (h:dR w v x) {B:Nat} {q:Bool} {p:Option Addr} {n c:Nat} (h0:w.cell? ⟨B,0,none⟩=some (.bool q)) (h1:w.cell? ⟨B,1,none⟩=some (.slice p n c)) (a b:Value) :
  dR ((w.setCell ⟨B,0,none⟩ a).setCell ⟨B,1,none⟩ b) v x :=
 (h.iG h0 rfl a).iG (a:=⟨B,1,none⟩) (u:=.slice p n c) (by rw[zq _ _ _ _ (by simp)];exact h1) rfl b
theorem NR {w w':World} {B B':Nat} (h:Below B w w') (hB:B<=B') (a b:Value):Below B w ((w'.setCell ⟨B',0,none⟩ a).setCell ⟨B',1,none⟩ b) :=
 (h.setCell (p:=⟨B',0,none⟩) hB a).setCell (p:=⟨B',1,none⟩) hB b
theorem a1s (x:Int):GY (decide (x<0)) (dig x.natAbs)=true:=by
 rw[GZ]
 refine⟨dA _,fun h=>?_⟩
 rw[iE] at h
 simp;omega
theorem a3n (x:Int):cnt (decide (x<0)) (dig x.natAbs)=x:=by
 unfold cnt
 rw[jl (a1s x),bG]
 by_cases h:x<0<;>simp[h]<;>omega
theorem dR.raw {w:World} {v:Value} {x:Int} (h:dR w v x):Raw w v x:=by
 obtain⟨s,h1,h2⟩:=h
 exact⟨_,s,_,h1,h2,fun g hg=>by have:=bK _ g hg;rw[bH] at this;omega,(a3n x).symm⟩
set_option maxRecDepth 100000
set_option maxHeartbeats 400000
set_option linter.unusedSimpArgs false
set_option linter.unusedVariables false
theorem a6G (s:Value) (l:List Nat) (i:Int) (w:World) (hs:Rd w s l) (h0:0<=i) :
  Calls Tryz.prog 279 #[s,.int .i64 i] w fun e w'=>e=.returned (.int .u32 (gr l i.toNat:Nat))/\w=w':=by
 obtain⟨n,rfl⟩:=uq h0
 rw[Int.toNat_natCast]
 clear h0
 rcases hs with⟨p,rfl,rfl⟩|⟨b,o,c,rfl,h2,h3,h4,h5⟩
 ·have h8:decide ((n:Int)<0)=false:=by simp
  go_enter Tryz.func279,Tryz.ntmps279
  go_wp2_with fail
  go_ret
  exact⟨by simp[gr],rfl⟩
 ·by_cases hn:n<l.length
  ·have h6:=h5 n hn
   clear h5
   go_enter Tryz.func279,Tryz.ntmps279
   go_wp2
   go_ret
   exact⟨rfl,rfl⟩
  ·clear h5
   go_enter Tryz.func279,Tryz.ntmps279
   go_wp2
   go_ret
   exact⟨by rw[uD (by omega)];rfl,rfl⟩
theorem RY (g:Nat) (w:World) :
  Calls Tryz.prog 264 #[.int .u32 (g:Nat)] w fun e w'=>e=.returned (.bool (decide (1000000000<=g)))/\w=w':=by
 go_enter Tryz.func264,Tryz.ntmps264
 go_wp2
 go_ret
 exact⟨rW (decide_eq_decide.2 (by omega)),rfl⟩
def idxOf (p:Nat->Bool) (l:List Nat):Int:=if l.any p then (l.findIdx p:Int) else -1
theorem a1R {p:Nat->Bool} {l:List Nat} (h:∀ i,i<l.length->p (gr l i)=false):idxOf p l=-1:=by
 unfold idxOf
 rw[jd]
 simp only[List.any_eq_true,not_exists,not_and,Bool.not_eq_true]
 intro g hg
 obtain⟨i,hi,rfl⟩:=Cm hg
 rw[<-oG hi];exact h i hi
theorem a1T {p:Nat->Bool} {l:List Nat} {k:Nat} (hk:k<l.length) (hp:p (gr l k)=true) (h:∀ i,i<k->p (gr l i)=false):idxOf p l=k:=by
 unfold idxOf
 rw[jl (List.any_eq_true.2 ⟨_,a7I hk,hp⟩)]
 congr 1
 rw[List.findIdx_eq hk]
 refine⟨by rw[<-oG hk];exact hp,fun j hj=>?_⟩
 rw[<-oG (by omega)];exact h j hj
theorem a1S (p:Nat->Bool) (l:List Nat):decide (0<=idxOf p l)=l.any p:=by
 unfold idxOf
 by_cases h:l.any p=true<;>simp[h]
theorem a8b (s:Value) (l:List Nat) (w:World) (hs:Rd w s l) :
  Calls Tryz.prog 287 #[s,.func (.func 264) #[] #[]] w
   fun e w'=>e=.returned (.int .i64 (idxOf (fun g=>decide (1000000000<=g)) l))/\w=w':=by
 rcases hs with⟨p,rfl,rfl⟩|⟨b,o,c,rfl,h2,h3,h4,h5⟩
 ·go_enter Tryz.func287,Tryz.ntmps287
  go_wp2
  go_loop [8] (fun i=>i=.int .i64 0) (fun _=>0)
  case atStart=>rfl
  case round =>
   subst hrel
   go_wp2
   go_ret
   exact⟨by simp[idxOf],rfl⟩
 ·have hl:l.length<=9223372036854775807:=by omega
  have H5:=iy h5
  clear h5
  go_enter Tryz.func287,Tryz.ntmps287
  go_wp2
  go_loop [5,8,10,11,12,13,14,15,16,18] (fun _ i _ _ _ _ _ _ _ _=>∃ k:Nat,k<=l.length/\i=.int .i64 k/\∀ j,j<k->decide (1000000000<=gr l j)=false) (fun _ i _ _ _ _ _ _ _ _=>l.length-(intOf i).toNat)
  case atStart=>exact⟨0,by omega,rfl,fun j hj=>by omega⟩
  case round =>
   obtain⟨k,hk,rfl,hj⟩:=hrel
   have HJ:=iy hj
   clear hj
   by_cases hlt:k<l.length
   ·have hc:=H5.out k hlt
    by_cases hp:decide (1000000000<=gr l k)=true
    ·go_wp2_with (go_at_call 264;refine(RY _ _).mono ?_;rintro e w' ⟨rfl,rfl⟩)
     go_ret
     exact⟨jC (a1T (p:=fun g=>decide (1000000000<=g)) hlt hp HJ.out).symm,rfl⟩
    ·have hp':decide (1000000000<=gr l k)=false:=by simpa using hp
     clear hp
     go_wp2_with (go_at_call 264;refine(RY _ _).mono ?_;rintro e w' ⟨rfl,rfl⟩)
     go_round
     case rel=>exact⟨k+1,by omega,by go_num,fun j hj=>if e:j<k then HJ.out j e else by rw[show j=k by omega];exact hp'⟩
     case measure=>simp[intOf];omega
   ·obtain rfl:k=l.length:=by omega
    go_wp2
    go_ret
    exact⟨jC (a1R (p:=fun g=>decide (1000000000<=g)) HJ.out).symm,rfl⟩
theorem SG (s:Value) (l:List Nat) (w:World) (hs:Rd w s l) :
  Calls Tryz.prog 263 #[s,.func (.func 264) #[] #[]] w
   fun e w'=>e=.returned (.bool (l.any fun g=>decide (1000000000<=g)))/\w=w':=by
 have hb:=a1S (fun g=>decide (1000000000<=g)) l
 generalize hx:idxOf (fun g=>decide (1000000000<=g)) l=x at *
 have HX:=iy hx
 have HB:=iy hb
 clear hx hb
 go_enter Tryz.func263,Tryz.ntmps263
 go_wp2_with (go_at_call 287;refine(a8b _ l _ hs).mono ?_;rintro e w' ⟨rfl,rfl⟩)
 go_ret
 exact⟨by rw[<-HB.out,<-HX.out];rfl,rfl⟩
theorem JR (neg:Bool) (s:Value) (l:List Nat) (w:World) (hs:Rd w s l) :
  Calls Tryz.prog 212 #[.agg #[.bool neg,s]] w fun e w'=>e=.returned (.bool (GY neg l))/\Below w.heap.size w w':=by
 rcases hs with⟨p,rfl,rfl⟩|⟨b,o,c,rfl,h2,h3,h4,h5⟩
 ·go_enter Tryz.func212,Tryz.ntmps212
  go_wp2
  go_ret
  exact⟨rfl,(ji _ _).alloc (ay _) _⟩
 ·by_cases hn:l=[]
  ·subst hn
   clear h5
   go_enter Tryz.func212,Tryz.ntmps212
   go_wp2
   go_ret
   exact⟨rfl,(ji _ _).alloc (ay _) _⟩
  ·have hp:0<l.length:=yj.2 hn
   have hl:l.length<=9223372036854775807:=by omega
   have h6:=h5 (l.length-1) (by omega)
   have hR:Rd (w.alloc (.cells #[.bool neg,.slice (some ⟨b,o,none⟩) l.length c] 45)) (.slice (some ⟨b,o,none⟩) l.length c) l:=Rd.alloc (.inr ⟨b,o,c,rfl,h2,h3,h4,h5⟩) _
   have HV:=iy (YZ (neg:=neg) hn)
   generalize hg:gr l (l.length-1)=g at *
   clear hg h5
   by_cases hz:g=0
   ·subst hz
    go_enter Tryz.func212,Tryz.ntmps212
    go_wp2
    go_ret
    exact⟨rW (by rw[HV.out];rfl),(ji _ _).alloc (ay _) _⟩
   ·have hz':((g:Int) != 0)=true:=by simp;omega
    have HZ:=iy hz
    clear hz
    go_enter Tryz.func212,Tryz.ntmps212
    go_wp2_with (go_at_call 263;refine(SG _ l _ hR).mono ?_;rintro e w' ⟨rfl,rfl⟩)
    go_ret
    exact⟨rW (by rw[HV.out];simp[HZ.out]),(ji _ _).alloc (ay _) _⟩
def GRd (l:List Nat) (w:World) (e:Ending) (w':World):Prop:=∃ s,e=.returned s/\Rd w' s l/\Below w.heap.size w w'
theorem vU (v:Value) (x:Int) (w:World) (hv:Raw w v x) :
  Calls Tryz.prog 192 #[v] w (GRd (dig x.natAbs) w):=by
 obtain⟨neg,s,l,rfl,hs,hb,rfl⟩:=hv
 have hR:Rd (w.alloc (.cells #[.bool neg,s] 45)) s l:=hs.alloc _
 have hW:Below w.heap.size w (w.alloc (.cells #[.bool neg,s] 45)):=(ji _ _).alloc (ay _) _
 have HD:=iy (XB neg l)
 have HB:=iy hb
 clear hb
 cases hv:GY neg l
 ·have HE:Hid (cgs neg l=[]):=by unfold cgs;rw[hv];rfl
  go_enter Tryz.func192,Tryz.ntmps192
  go_wp2_with (go_at_call 212;refine(JR _ _ l _ hR).mono ?_;rintro e w' ⟨rfl,hb1⟩;obtain⟨hc1,hf1⟩:=iK hb1)
  go_ret
  exact⟨_,rfl,by rw[HD.out,HE.out];exact Rd.nil _,hW.trans (hb1.mono (by simp))⟩
 ·have HE:Hid (cgs neg l=l):=by unfold cgs;rw[hv];rfl
  go_enter Tryz.func192,Tryz.ntmps192
  go_wp2_with (go_at_call 212;refine(JR _ _ l _ hR).mono ?_;rintro e w' ⟨rfl,hb1⟩;obtain⟨hc1,hf1⟩:=iK hb1)
  go_ret
  exact⟨_,rfl,by rw[HD.out,HE.out];exact hR.below hb1,hW.trans (hb1.mono (by simp))⟩
theorem wP {l:List Nat} (hl:Low l) {k:Nat} (hk:k<=l.length) (hz:val (l.take k)=val l) (h:k=0\/gr l (k-1)≠0):dX l=l.take k:=by
 unfold dX
 rw[<-hz]
 refine dJ ⟨hl.take k,?_⟩
 rcases h with rfl|h
 ·simp
 ·by_cases h0:k=0
  ·subst h0;simp
  ·have hne:l.take k≠[]:=by
    intro e
    have:=xg List.length e
    simp only[mg,List.length_nil] at this
    omega
   rw[LX hne,mg,zh hk,zT (by omega)]
   simpa using h
theorem uH {l:List Nat} {k:Nat} (hk:k<l.length) (h:gr l k=0):val (l.take k)=val (l.take (k+1)):=by
 rw[List.take_succ_eq_append_getElem hk,val_append,<-oG hk,h]
 simp[bP]
theorem RN (p:Option Addr) (c:Nat) (l:List Nat) (w:World) (hs:Rd w (.slice p l.length c) l) (hl:Low l) :
  Calls Tryz.prog 257 #[.slice p l.length c] w fun e w'=>e=.returned (.slice p (dX l).length c)/\w=w':=by
 rcases hs with⟨q,h1,rfl⟩|⟨b,o,c',h1,h2,h3,h4,h5⟩
 ·cases h1
  have HT:Hid (dX []=[]):=by unfold Hid dX;simp[dS]
  go_enter Tryz.func257,Tryz.ntmps257
  go_wp2
  go_loop [0] (fun s=>s=.slice p 0 0) (fun _=>0)
  case atStart=>rfl
  case round =>
   subst hrel
   go_wp2
   go_ret
   exact⟨by rw[HT.out];rfl,rfl⟩
 ·cases h1
  have H5:=iy h5
  have HL:=iy hl
  clear h5 hl
  go_enter Tryz.func257,Tryz.ntmps257
  go_wp2
  go_loop [0,3,4,5,6,7,8,9,10,11,12,13,14,15,16,17,18,19] (fun s _ _ _ _ _ _ _ _ _ _ _ _ _ _ _ _ _=>∃ k:Nat,k<=l.length/\s=.slice (some ⟨b,o,none⟩) k c/\Hid (val (l.take k)=val l))
   (fun s _ _ _ _ _ _ _ _ _ _ _ _ _ _ _ _ _=>match s with | .slice _ k _=>k|_=>0)
  case atStart=>exact⟨l.length,ay _,rfl,by simp[Hid]⟩
  case round =>
   obtain⟨k,hk,rfl,hz⟩:=hrel
   cases k with
   | zero =>
    go_wp2
    go_ret
    exact⟨by rw[wP HL.out (uw _) hz.out (.inl rfl)];rfl,rfl⟩
   | succ k =>
    have hc:=H5.out k (by omega)
    by_cases hg:gr l k=0
    ·have HV:=iy (uH (by omega) hg)
     rw[hg] at hc
     have HG:=iy hg
     clear hg
     go_wp2
     go_round
     case rel=>exact⟨k,by omega,rfl,by unfold Hid;rw[HV.out,hz.out]⟩
     case measure=>simp
    ·have hg':((gr l k:Int)==0)=false:=by simp;omega
     have HG:=iy hg
     clear hg
     go_wp2
     go_ret
     exact⟨by rw[wP HL.out hk hz.out (.inr (by simpa using HG.out)),mg,zh hk];rfl,rfl⟩
def AU (x:Int) (w:World) (e:Ending) (w':World):Prop:=∃ v,e=.returned v/\dR w' v x/\Below w.heap.size w w'
theorem b0l {neg:Bool} {n:Nat} (h:n≠0):decide (sg neg n<0)=neg:=by
 cases neg<;>simp[sg]<;>omega
theorem a2H (neg:Bool) (n:Nat):(sg neg n).natAbs=n:=by cases neg<;>simp[sg]
theorem YN (neg:Bool):sg neg 0=0:=by cases neg<;>simp[sg]
theorem dR.zero (w:World):dR w (.agg #[.bool false,.slice none 0 0]) 0:=⟨.slice none 0 0,by simp,by simp[dS];exact Rd.nil w⟩
theorem FC (neg:Bool) (s:Value) (l:List Nat) (w:World) (hs:Rd w s l) (hl:Low l) :
  Calls Tryz.prog 190 #[.bool neg,s] w (AU (sg neg (val l)) w):=by
 obtain⟨p,c,rfl,h2,h3⟩:=hs.form
 have hR:Rd w (.slice p (dX l).length c) (dX l):=by
  have:=hs.take (wO hl)
  rwa [<-VO hl] at this
 have hs1:=hs.alloc (.cells #[.bool false,.slice none 0 0] 45)
 by_cases hz:val l=0
 ·have e0:dX l=[]:=by unfold dX;rw[hz,dS]
  have E0:=iy e0
  rw[hz,YN]
  clear hz e0
  go_enter Tryz.func190,Tryz.ntmps190
  go_wp2_with (go_at_call 257;refine(RN _ _ l _ hs1 hl).mono ?_;rw[E0.out];rintro e w' ⟨rfl,rfl⟩)
  exact yc (v:=.agg #[.bool false,.slice none 0 0]) (by simp[results,Tryz.results190,go_sem]) rfl ⟨_,rfl,dR.zero _,(ji _ _).alloc (ay _) _⟩
 ·have hp:dX l≠[]:=fun e=>hz (iE.1 e)
  have hp':0<(dX l).length:=yj.2 hp
  have HZ:=iy hz
  generalize ht:dX l=t at *
  have HT:=iy ht
  clear hz hp ht
  go_enter Tryz.func190,Tryz.ntmps190
  go_wp2_with (go_at_call 257;refine(RN _ _ l _ hs1 hl).mono ?_;rw[HT.out];rintro e w' ⟨rfl,rfl⟩)
  refine yc (v:=.agg #[.bool neg,.slice p t.length c]) (by simp[results,Tryz.results190,go_sem]) rfl ⟨_,rfl,⟨_,by rw[b0l HZ.out],?_⟩,?_⟩
  ·rw[a2H,<-dX,HT.out]
   exact hR.below ((ji _ _).alloc (ay _) _)
  ·exact(ji _ _).alloc (ay _) _
theorem fQ:(Tryz.prog.info? 148).map (fun i=>(i.zero,i.size,i.bytes))=some (some (.int .u32 0),1,4):=by kernel_rfl
def cells32 (l:List Nat):List Value:=l.map fun g=>.int .u32 (g:Nat)
theorem Rd.dH {w:World} {base:Nat} {v:Value} {l:List Nat} (h:w.ownsRow base 148 1 v l.length (cells32 l)):Rd w v l:=by
 rcases h.2 with⟨rfl,h0⟩|⟨g,cap,cur,rfl,hb,hg,hn,hm,hs,ht⟩
 ·exact .inl ⟨none,rfl,qj h0⟩
 ·refine .inr ⟨g,0,cap,rfl,hn,by simpa [maxLen] using hm,(Ag.1 hg).1,fun i hi=>?_⟩
  have:=h.cells (g:=g) rfl i (.int .u32 (gr l i:Nat)) (by simp[cells32,oG hi,hi])
  have e:(⟨g,0,none⟩:Addr).add i=⟨g,0+i,none⟩:=by unfold Addr.add;split<;>simp_all
  rwa [e] at this
theorem tX {n m:Nat} {l:List Nat} (hm:0<m) (h:l++dig m=dig n):(l++[m%1000000000])++dig (m / 1000000000)=dig n:=by
 rw[uz,<-h,nG (by omega:m≠0)]
 rfl
theorem cell_one_new (w:World) (v:Value) (t:TypeId):∀ j u,[v][j]?=some u->(w.alloc (.cells #[v] t)).cell? ((⟨w.heap.size,0,none⟩:Addr).add j)=some u:=by
 intro j u h
 cases j with
 | zero=>simp at h;subst h;simp[Addr.add,World.cell?_alloc_at]
 | succ j=>simp at h
theorem qZ (n:Nat) (w:World) (hn:n<18446744073709551616) :
  Calls Tryz.prog 247 #[.int .u64 (n:Nat)] w fun e w'=>∃ v,e=.returned v/\w'.ownsRow w.heap.size 148 1 v (dig n).length (cells32 (dig n))/\Below w.heap.size w w':=by
 obtain⟨i0,hi,hz0,hz1,hz2⟩:=Af fQ
 have HN:=iy hn
 have hlen:(dig n).length<=3:=dN (by rw[bH];omega)
 have HLEN:=iy hlen
 clear hn hlen
 go_enter Tryz.func247,Tryz.ntmps247
 go_wp2
 go_loopw [0,3,4,5,6,7,8,9,10,11,12,13] (fun m v _ _ _ _ _ _ _ _ _ _ wr=>∃ (k:Nat) (l:List Nat),k<=18446744073709551615/\m=.int .u64 (k:Nat)/\Hid (l++dig k=dig n)/\wr.ownsRow w.heap.size 148 1 v l.length (cells32 l)/\Below w.heap.size w wr)
  (fun m _ _ _ _ _ _ _ _ _ _ _ _=>(intOf m).toNat)
 case atStart=>exact⟨n,[],by have:=HN.out;omega,rfl,by simp[Hid],Bf _ _ _ _,ji _ _⟩
 case round =>
  obtain⟨k,l,hk,rfl,hl,hown,hB⟩:=hrel
  by_cases h0:0<k
  ·have HS:=iy (tX h0 hl.out)
   have hll:l.length<=2:=by
    have h1:=xg List.length hl.out
    have h2:=HLEN.out
    rw[jg,nG (by omega:k≠0),List.length_cons] at h1
    omega
   have hsz:=hB.size
   go_wp2_with (at_builtin;refine yx _ rfl _ _ 43 rfl w.heap.size 148 i0 (.int .u32 0) 1 4 og hi hz0 hz1 hz2 rfl (by decide) _ _ _ rfl (hown.alloc _) ⟨wr.heap.size,0,none⟩ 1 1 [.int .u32 ((k%1000000000:Nat):Int)] rfl rfl ?c1 ?c2 ?c3 ?c4 ?c5 ?_)
   case c1=>exact cell_one_new _ _ _
   case c2=>simp[Value.oneCell']
   case c3=>unfold maxLen;omega
   case c4=>omega
   case c5=>simp;omega
   intro v' w1 hown' hgrow _
   have hown2:w1.ownsRow w.heap.size 148 1 v' (l++[k%1000000000]).length (cells32 (l++[k%1000000000])):=by
    rw[jg,List.length_singleton]
    have:cells32 (l++[k%1000000000])=cells32 l++[.int .u32 ((k%1000000000:Nat):Int)]:=by simp[cells32]
    rw[this];exact hown'
   have hB1:Below w.heap.size w w1:=(hB.alloc hsz _).grown hgrow (by simp;omega) (fun j e=>(hown.lt j e).1)
   clear hown' hgrow
   go_wp2
   go_roundw
   case rel=>exact⟨k / 1000000000,l++[k%1000000000],by omega,by go_num,HS,hown2,hB1⟩
   case measure=>simp[intOf];omega
  ·obtain rfl:k=0:=by omega
   clear h0
   go_wp2
   go_ret
   have e:l=dig n:=by rw[<-hl.out,dS,Aw]
   exact⟨_,rfl,by rw[<-e];exact hown,hB⟩
theorem ZB {k:Nat} (hk:k<=9223372036854775808):IntKind.u64.wrap (-IntKind.u64.wrap (-(k:Int)))=k:=by
 simp[IntKind.wrap,IntKind.bits,IntKind.signed];omega
theorem a9m (n:Int) (w:World) (h0:-9223372036854775808<=n) (h1:n<=9223372036854775807) :
  Calls Tryz.prog 175 #[.int .i64 n] w (AU n w):=by
 by_cases hn:n<0
 ·obtain⟨k,rfl⟩:∃ k:Nat,n=-(k:Int):=⟨n.natAbs,by omega⟩
  have hk:k<=9223372036854775808:=by omega
  have hk0:0<k:=by omega
  have hlt:decide (-(k:Int)<0)=true:=by simp;omega
  have hw:=ZB hk
  have HX:Hid (sg true (val (dig k))=-(k:Int)):=by unfold Hid;rw[bG];rfl
  clear hn h1 h0
  go_enter Tryz.func175,Tryz.ntmps175
  go_wp2_with fail
  refine(qZ k _ (by omega)).mono ?_
  rintro e w1 ⟨v,rfl,hown,hb1⟩
  obtain⟨hc1,hf1⟩:=iK hb1
  have hsz:w.heap.size<w1.heap.size:=by have:=hb1.size;simp at this;omega
  go_wp2_with fail
  refine(FC true _ _ _ (Rd.dH hown) (bK k)).mono ?_
  rw[HX.out]
  rintro e w2 ⟨v2,rfl,hi2,hb2⟩
  obtain⟨g2,p2,n2,c2,rfl⟩:=hi2.form
  obtain⟨hc2,hf2⟩:=iK hb2
  have hsz2:w.heap.size<w2.heap.size:=oq hsz hb2.size
  have hB:Below w.heap.size w w2:=((ji _ _).alloc (ay _) _).trans ((hb1.mono (by simp)).trans (hb2.mono (by omega)))
  go_wp2_with fail
  refine yc (v:=.agg #[.bool g2,.slice p2 n2 c2]) (by simp[results,Tryz.results175,go_sem,hc2,hc1,hsz,hsz2]) rfl ⟨_,rfl,?_,?_⟩
  ·exact hi2.b9c (q:=false) (p:=none) (n:=0) (c:=0) (by simp[hc2,hc1,hsz]) (by simp[hc2,hc1,hsz]) _ _
  ·exact NR hB (ay _) _ _
 ·obtain⟨k,rfl⟩:=uq (Int.not_lt.1 hn)
  have hk:k<=9223372036854775807:=by omega
  have hlt:decide ((k:Int)<0)=false:=by simp
  have HX:Hid (sg false (val (dig k))=(k:Int)):=by unfold Hid;rw[bG];rfl
  clear hn h1 h0
  go_enter Tryz.func175,Tryz.ntmps175
  go_wp2_with fail
  refine(qZ k _ (by omega)).mono ?_
  rintro e w1 ⟨v,rfl,hown,hb1⟩
  obtain⟨hc1,hf1⟩:=iK hb1
  have hsz:w.heap.size<w1.heap.size:=by have:=hb1.size;simp at this;omega
  go_wp2_with fail
  refine(FC false _ _ _ (Rd.dH hown) (bK k)).mono ?_
  rw[HX.out]
  rintro e w2 ⟨v2,rfl,hi2,hb2⟩
  obtain⟨g2,p2,n2,c2,rfl⟩:=hi2.form
  obtain⟨hc2,hf2⟩:=iK hb2
  have hsz2:w.heap.size<w2.heap.size:=oq hsz hb2.size
  have hB:Below w.heap.size w w2:=((ji _ _).alloc (ay _) _).trans ((hb1.mono (by simp)).trans (hb2.mono (by omega)))
  go_wp2_with fail
  refine yc (v:=.agg #[.bool g2,.slice p2 n2 c2]) (by simp[results,Tryz.results175,go_sem,hc2,hc1,hsz,hsz2]) rfl ⟨_,rfl,?_,?_⟩
  ·exact hi2.b9c (q:=false) (p:=none) (n:=0) (c:=0) (by simp[hc2,hc1,hsz]) (by simp[hc2,hc1,hsz]) _ _
  ·exact NR hB (ay _) _ _
def ZG (l:List Nat) (w:World) (e:Ending) (w':World):Prop:=∃ v,e=.returned v/\w'.ownsRow w.heap.size 148 1 v l.length (cells32 l)/\Below w.heap.size w w'
theorem lZ {w:World} {b o:Nat} {l:List Nat} (h5:∀ i,i<l.length->w.cell? ⟨b,o+i,none⟩=some (.int .u32 (gr l i:Nat))) :
  ∀ j u,(cells32 l)[j]?=some u->w.cell? ((⟨b,o,none⟩:Addr).add j)=some u:=by
 intro j u hj
 have hlt:j<l.length:=by
  have:=(oz.1 hj).1
  simpa [cells32] using this
 have e:(⟨b,o,none⟩:Addr).add j=⟨b,o+j,none⟩:=by unfold Addr.add;split<;>simp_all
 rw[e,h5 j hlt,oG hlt,<-hj]
 simp[cells32,hlt]
theorem iD (l:List Nat):(cells32 l).length=l.length*1:=by simp[cells32]
theorem kD (l:List Nat):∀ u ∈ cells32 l,u.oneCell'=true:=by simp[cells32,Value.oneCell']
theorem DL {P:Program} {w:World} {ops:Array Oper} {rest:List Oper} {o:Oper} {a:Act} {Q:Exit->Act->World->Prop} (hgd:o.guard=none) (s x:Operand) (t:TypeId)
  (hop:o.op=Op.call { callee:=Callee.builtin Builtin.append,args:=#[s,x],argTypes:=#[t,t] })
  (e:TypeId) (i:TypeInfo) (h1:P.underlying t=some (.slice e)) (h2:P.info? e=some i)
  (b:Addr) (hs:a.eval s=.slice (some b) 0 0) {q:Option Addr} (hx:a.eval x=.slice q 0 0)
  (h:wpList P ops Q rest (a.put o.dst (.slice (some b) 0 0)) w):wpList P ops Q (o::rest) a w :=
 wpList_plain hgd fun _ hK=>by
  have hrun:(Builtin.append_ #[t,t] o.type #[.slice (some b) 0 0,.slice q 0 0]).run P w=.ok (.slice (some b) 0 0) w:=by
   cases q<;>simp[Builtin.append_,qg h1,sizeOf,typeInfo,h2,Builtin.lenOf,Builtin.firstCells,loadCells,loadCellsFrom,jk,storeCells]
  unfold Oper.wp
  simp[execOp,hop,resolve,invoke,builtin,hs,hx,hrun,Result.andThen]
  exact hK _ _ h
theorem clone_any (s:Value) (l:List Nat) (w:World) (hs:Rd w s l) (hl:l.length<=1000000000) :
  Calls Tryz.prog 191 #[s] w (ZG l w):=by
 rcases hs with⟨p,rfl,rfl⟩|⟨b,o,c,rfl,h2,h3,h4,h5⟩
 ·cases p with
  | none =>
   have hk:=Lib.run_eql_slice_nil (P:=Tryz.prog) w 43 148 none 0 0 0 0 og
   go_enter Tryz.func191,Tryz.ntmps191
   go_wp2
   go_ret
   exact⟨_,rfl,Bf _ _ _ _,ji _ _⟩
  | some ad =>
   obtain⟨i0,hi,hz0,hz1,hz2⟩:=Af fQ
   have hk:=Lib.run_eql_slice_nil (P:=Tryz.prog) w 43 148 (some ad) 0 0 0 0 og
   go_enter Tryz.func191,Tryz.ntmps191
   go_wp2_with (at_builtin;refine DL rfl _ _ 43 rfl 148 i0 og hi _ rfl rfl ?_)
   go_ret
   exact⟨_,rfl,World.ownsRow_made w #[] 0 (ay _) (by simp[maxLen]) (by simp),(ji _ _).alloc (ay _) _⟩
 ·obtain⟨i0,hi,hz0,hz1,hz2⟩:=Af fQ
  have hk:=Lib.run_eql_slice_nil (P:=Tryz.prog) w 43 148 (some ⟨b,o,none⟩) l.length c 0 0 og
  have H5:=iy h5
  clear h5
  go_enter Tryz.func191,Tryz.ntmps191
  go_wp2_with (at_builtin;refine yx _ rfl _ _ 43 rfl w.heap.size 148 i0 (.int .u32 0) 1 4 og hi hz0 hz1 hz2 rfl (by decide) _ _ _ rfl (World.ownsRow_made w #[] 0 (ay _) (by simp[maxLen]) (by simp)) ⟨b,o,none⟩ l.length c (cells32 l) rfl (iD l) ?c1 (kD l) ?c3 ?c4 ?c5 ?_)
  case c1=>exact lZ fun i hi=>(zu _ _ ⟨b,o+i,none⟩ h4).trans (H5.out i hi)
  case c3=>unfold maxLen;omega
  case c4=>omega
  case c5=>simp
  intro v' w1 hown hgrow _
  have hB:Below w.heap.size w w1:=((ji _ _).alloc (ay _) _).grown hgrow (by simp) (fun j e=>by simp[Value.ownBlock] at e;omega)
  clear hgrow
  go_wp2
  go_ret
  exact⟨_,rfl,by simpa using hown,hB⟩
theorem Raw.sign {w:World} {b:Bool} {s:Value} {x:Int} (hv:Raw w (.agg #[.bool b,s]) x) (h:x≠0):b=decide (x<0):=by
 obtain⟨neg,s',l,h1,h2,h3,rfl⟩:=hv
 cases h1
 exact ZP h
theorem aV (l:List Nat) (k:Nat):val (l.take (k+1))=val (l.take k)+BB ^ k*gr l k:=by
 by_cases h:k<l.length
 ·rw[List.take_succ_eq_append_getElem h,val_append,mg,zh (by omega),oG h]
  simp[bP]
 ·rw[uD (by omega),jv (by omega),jv (by omega)]
  simp
theorem dM {l:List Nat} {k:Nat} (h:l.length<=k):val (l.take k)=val l:=by rw[jv h]
theorem dZ {l:List Nat} {k v:Nat} (h:k<l.length):(l.set k v).take (k+1)=l.take k++[v]:=by
 rw[List.take_succ_eq_append_getElem (by simpa using h)]
 simp[List.take_set_of_le]
structure lW (a b o:List Nat) (n k c:Nat):Prop where
 len:o.length=n
 low:Low (o.take k)
 vl:val (o.take k)+BB ^ k*c=val (a.take k)+val (b.take k)
 car:c<=1
theorem lW.zero (a b:List Nat) (n:Nat):lW a b (List.replicate n 0) n 0 0:=⟨by simp,by simp[Low.nil],by simp,by omega⟩
theorem lW.QA {a b o:List Nat} {n k c:Nat} (h:lW a b o n k c) (hk:k<n) (hs:gr a k+gr b k+c<1000000000):lW a b (o.set k (gr a k+gr b k+c)) n (k+1) 0:=by
 have hl:k<o.length:=by rw[h.len];exact hk
 refine⟨by simp[h.len],?_,?_,by omega⟩
 ·rw[dZ hl];exact Low.append.2 ⟨h.low,Low.cons.2 ⟨hs,Low.nil⟩⟩
 ·rw[dZ hl,val_append,aV,aV,mg,zh (by omega)]
  have:=h.vl
  simp only[bP,qN]
  grind
theorem lW.IX {a b o:List Nat} {n k c s:Nat} (h:lW a b o n k c) (ha:gr a k<1000000000) (hb:gr b k<1000000000) (hk:k<n) (hs:gr a k+gr b k+c=s+1000000000):lW a b (o.set k s) n (k+1) 1:=by
 have hl:k<o.length:=by rw[h.len];exact hk
 have hc:=h.car
 refine⟨by simp[h.len],?_,?_,by omega⟩
 ·rw[dZ hl];exact Low.append.2 ⟨h.low,Low.cons.2 ⟨by rw[bH];omega,Low.nil⟩⟩
 ·rw[dZ hl,val_append,aV,aV,mg,zh (by omega),Nat.pow_succ]
  have:=h.vl
  simp only[bP,qN,bH] at *
  have e:1000000000 ^ k*(gr a k+gr b k+c)=1000000000 ^ k*(s+1000000000):=by rw[hs]
  grind
theorem lW.done {a b o:List Nat} {n c:Nat} (ha:Low a) (hb:Low b) (h:lW a b o n n c) (h1:a.length<n) (h2:b.length<n):Low o/\val o=val a+val b:=by
 have ho:o.take n=o:=jv (by rw[h.len];exact ay _)
 have hv:=h.vl
 have hl:=h.low
 rw[ho] at hl hv
 rw[dM (by omega),dM (by omega)] at hv
 refine⟨hl,?_⟩
 have e1:val a<BB ^ (n-1):=oq (kQ ha) (wu fP (by omega))
 have e2:val b<BB ^ (n-1):=oq (kQ hb) (wu fP (by omega))
 have e3:BB ^ n=BB ^ (n-1)*BB:=by rw[<-Nat.pow_succ];congr 1;omega
 have hc:c=0\/c=1:=by have:=h.car;omega
 rcases hc with rfl|rfl
 ·simpa using hv
 ·rw[e3,bH] at hv
  rw[bH] at e1 e2
  omega
structure jQ (a b o:List Nat) (n k c:Nat):Prop where
 len:o.length=n
 low:Low (o.take k)
 vl:val (o.take k)+val (b.take k)=val (a.take k)+BB ^ k*c
 car:c<=1
theorem jQ.zero (a b:List Nat) (n:Nat):jQ a b (List.replicate n 0) n 0 0:=⟨by simp,by simp[Low.nil],by simp,by omega⟩
theorem jQ.QA {a b o:List Nat} {n k c s:Nat} (h:jQ a b o n k c) (ha:gr a k<1000000000) (hk:k<n) (hs:gr a k=s+(gr b k+c)):jQ a b (o.set k s) n (k+1) 0:=by
 have hl:k<o.length:=by rw[h.len];exact hk
 refine⟨by simp[h.len],?_,?_,by omega⟩
 ·rw[dZ hl];exact Low.append.2 ⟨h.low,Low.cons.2 ⟨by rw[bH];omega,Low.nil⟩⟩
 ·rw[dZ hl,val_append,aV,aV,mg,zh (by omega)]
  have:=h.vl
  simp only[bP,qN]
  have e:BB ^ k*gr a k=BB ^ k*(s+(gr b k+c)):=by rw[hs]
  grind
theorem jQ.IX {a b o:List Nat} {n k c s:Nat} (h:jQ a b o n k c) (hb:gr b k<1000000000) (hk:k<n) (hlt:gr a k<gr b k+c) (hs:gr a k+1000000000=s+(gr b k+c)):jQ a b (o.set k s) n (k+1) 1:=by
 have hl:k<o.length:=by rw[h.len];exact hk
 have hc:=h.car
 refine⟨by simp[h.len],?_,?_,by omega⟩
 ·rw[dZ hl];exact Low.append.2 ⟨h.low,Low.cons.2 ⟨by rw[bH];omega,Low.nil⟩⟩
 ·rw[dZ hl,val_append,aV,aV,mg,zh (by omega),Nat.pow_succ]
  have:=h.vl
  simp only[bP,qN,bH] at *
  have e:1000000000 ^ k*(gr a k+1000000000)=1000000000 ^ k*(s+(gr b k+c)):=by rw[hs]
  grind
theorem jQ.done {a b o:List Nat} {n c:Nat} (h:jQ a b o n n c) (h1:a.length<=n) (h2:b.length<=n) (hle:val b<=val a):Low o/\val o=val a-val b:=by
 have ho:o.take n=o:=jv (by rw[h.len];exact ay _)
 have hv:=h.vl
 have hl:=h.low
 rw[ho] at hl hv
 rw[dM (by omega),dM (by omega)] at hv
 refine⟨hl,?_⟩
 have e1:val o<BB ^ n:=by have:=kQ hl;rwa [h.len] at this
 have hc:c=0\/c=1:=by have:=h.car;omega
 rcases hc with rfl|rfl
 ·omega
 ·rw[bH] at hv e1
  omega
theorem xZ {l:List Nat} {k m v:Nat} (h:k<l.length):gr (l.set k v) m=if m=k then v else gr l m:=by
 unfold gr
 rw[bn,bn,List.getElem?_set]
 by_cases e:k=m
 ·subst e;simp[h]
 ·simp[e,Ne.symm e]
theorem low_set {l:List Nat} {k v:Nat} (h:Low l) (hv:v<1000000000):Low (l.set k v):=by
 intro g hg
 rcases List.mem_or_eq_of_mem_set hg with h1|h1
 ·exact h g h1
 ·subst h1;rw[bH];exact hv
theorem a1l {l:List Nat} {k m v:Nat} (h:m<=k):(l.set k v).take m=l.take m:=by
 simp[List.take_set_of_le h]
structure lH (a b o:List Nat) (n i:Nat):Prop where
 len:o.length=n
 low:Low o
 zero:∀ m,i+b.length<=m->gr o m=0
 vl:val (o.take (i+b.length))=val (a.take i)*val b
structure kT (o0 b o:List Nat) (n i p j c:Nat):Prop where
 len:o.length=n
 low:Low o
 same:∀ m,i+j<=m->gr o m=gr o0 m
 vl:val (o.take (i+j))+BB ^ (i+j)*c=val (o0.take (i+j))+BB ^ i*p*val (b.take j)
 car:c<1000000000
theorem EL (n m:Nat):gr (List.replicate n 0) m=0:=by
 unfold gr
 rw[bn,List.getElem?_replicate]
 split<;>rfl
theorem JQ (n:Nat):val (List.replicate n 0)=0:=by
 induction n with
 | zero=>rfl
 | succ n ih=>rw[List.replicate_succ,bP,ih];simp
theorem lH.start (a b:List Nat) (n:Nat):lH a b (List.replicate n 0) n 0 :=
 ⟨by simp,fun g hg=>by rw[(Dw.1 hg).2];exact fP,fun m _=>EL n m,by rw[List.take_replicate,JQ];simp⟩
theorem kT.start {o0 b:List Nat} {n i p:Nat} (h1:o0.length=n) (h2:Low o0):kT o0 b o0 n i p 0 0:=⟨h1,h2,fun _ _=>rfl,by simp,by omega⟩
theorem kT.step {o0 b o:List Nat} {n i p j c:Nat} (h:kT o0 b o n i p j c) (hp:p<1000000000) (hq:gr b j<1000000000) (hk:i+j<n) :
  kT o0 b (o.set (i+j) ((gr o (i+j)+p*gr b j+c)%1000000000)) n i p (j+1) ((gr o (i+j)+p*gr b j+c) / 1000000000):=by
 have hl:i+j<o.length:=by rw[h.len];exact hk
 have hc:=h.car
 have hg:=CV h.low (i+j)
 have hm:p*gr b j<=999999999*999999999:=xw (by omega) (by omega)
 refine⟨by simp[h.len],low_set h.low (Aq _ (by omega)),?_,?_,by omega⟩
 ·intro m hm
  rw[xZ hl,jd (by omega)]
  exact h.same m (by omega)
 ·have e1:=h.vl
  have e2:=h.same (i+j) (ay _)
  have e3:=aV o0 (i+j)
  have e4:=aV b j
  rw[show i+(j+1)=(i+j)+1 from by omega,dZ hl,val_append,mg,zh (by omega),e3,e4,<-e2]
  simp only[bP,qN]
  have e5:=Nat.mod_add_div (gr o (i+j)+p*gr b j+c) 1000000000
  generalize (gr o (i+j)+p*gr b j+c)%1000000000=r at *
  generalize (gr o (i+j)+p*gr b j+c) / 1000000000=d at *
  rw[Nat.pow_succ,Dx] at *
  rw[bH] at *
  have e6:1000000000 ^ i*1000000000 ^ j*(r+1000000000*d)=1000000000 ^ i*1000000000 ^ j*(gr o (i+j)+p*gr b j+c):=by rw[e5]
  grind
theorem kT.done {a b o0 o:List Nat} {n i c:Nat} (h0:lH a b o0 n i) (h:kT o0 b o n i (gr a i) b.length c) (hi:i+b.length<n):lH a b (o.set (i+b.length) c) n (i+1):=by
 have hl:i+b.length<o.length:=by rw[h.len];exact hi
 refine⟨by simp[h.len],low_set h.low h.car,?_,?_⟩
 ·intro m hm
  rw[xZ hl,jd (by omega),h.same m (by omega)]
  exact h0.zero m (by omega)
 ·have e1:=h.vl
  have e2:=h0.vl
  have e3:=aV a i
  rw[show i+1+b.length=(i+b.length)+1 from by omega,dZ hl,val_append,mg,zh (by omega),e3]
  rw[dM (ay b.length)] at e1
  simp only[bP,qN]
  grind
theorem lH.done {a b o:List Nat} {n:Nat} (h:lH a b o n a.length) (hn:n=a.length+b.length):val o=val a*val b:=by
 have:=h.vl
 rwa [jv (by rw[h.len];omega),dM (ay _)] at this
theorem IE (s:Value) (l:List Nat) (k:Nat) (w:World) (hs:Rd w s l) :
  Calls Tryz.prog 279 #[s,.int .i64 (k:Nat)] w fun e w'=>e=.returned (.int .u32 (gr l k:Nat))/\w=w':=by
 have:=a6G s l k w hs (by omega)
 rwa [Int.toNat_natCast] at this
theorem eY (l:List Nat) (k v:Nat):(cells32 l).set k (.int .u32 (v:Nat))=cells32 (l.set k v):=by simp[cells32,List.map_set]
theorem dW {l:List Nat} {k:Nat} (h:k<l.length):(cells32 l)[k]?=some (.int .u32 (gr l k:Nat)):=by simp[cells32,oG h,h]
theorem gV (n:Nat):(madeCells #[Value.int .u32 0] n).toList=cells32 (List.replicate n 0):=by
 rw[toList_madeCells_one]
 simp[cells32]
theorem JO (p:Option Addr) (c n:Nat) (l:List Nat) (w:World) (hs:Rd w (.slice p n c) l) (hl:Low l) (hn:l.length=n) :
  Calls Tryz.prog 257 #[.slice p n c] w fun e w'=>e=.returned (.slice p (dX l).length c)/\w=w':=by
 subst hn
 exact RN p c l w hs hl
theorem FN {w:World} {base:Nat} {e:TypeId} {g n cap:Nat} {xs:List Value} (h:w.ownsRow base e 1 (.slice (some ⟨g,0,none⟩) n cap) n xs) {m:Nat} (hm:m<=n) :
  w.ownsRow base e 1 (.slice (some ⟨g,0,none⟩) m cap) m (xs.take m):=by
 obtain⟨h1,h2⟩:=h
 rcases h2 with⟨h2,_⟩|⟨g',cap',cur,h3,h4,h5,h6,h7,h8,h9⟩
 ·cases h2
 ·cases h3
  refine⟨by rw[mg,h1];omega,.inr ⟨g,cap,cur,rfl,h4,h5,by omega,h7,h8,?_⟩⟩
  rw[<-h9,List.take_take]
  congr 1
  omega
theorem qW {w:World} {base g n cap:Nat} {o:List Nat} (h:w.ownsRow base 148 1 (.slice (some ⟨g,0,none⟩) n cap) n (cells32 o)) (hl:Low o) (hn:o.length=n) :
  w.ownsRow base 148 1 (.slice (some ⟨g,0,none⟩) (dX o).length cap) (dX o).length (cells32 (dX o)):=by
 have:=FN h (m:=(dX o).length) (by have:=wO hl;omega)
 have e:cells32 (dX o)=(cells32 o).take (dX o).length:=by
  rw[cells32,cells32,<-List.map_take,<-VO hl]
 rw[e];exact this
theorem a0X (s t:Value) (a b:List Nat) (w:World) (hs:Rd w s a) (ht:Rd w t b) (ha:Low a) (hb:Low b) (la:a.length<=1000000000) (lb:b.length<=1000000000) :
  Calls Tryz.prog 253 #[s,t] w (ZG (dig (val a+val b)) w):=by
 obtain⟨i0,hi,hz0,hz1,hz2⟩:=Af fQ
 obtain⟨p,c,rfl,_,_⟩:=hs.form
 obtain⟨q,d,rfl,_,_⟩:=ht.form
 have HA:=iy ha
 have HB:=iy hb
 clear ha hb
 obtain⟨m,hm⟩:∃ m:Nat,(if a.length<b.length then (b.length:Int) else a.length)=m:=⟨max a.length b.length,by split<;>omega⟩
 have n1:a.length<m+1:=by split at hm<;>omega
 have n2:b.length<m+1:=by split at hm<;>omega
 have n3:m<=1000000000:=by split at hm<;>omega
 go_enter Tryz.func253,Tryz.ntmps253
 go_wp2_with (at_make;refine Dq _ rfl _ _ 43 rfl w.heap.size 148 i0 (.int .u32 0) 1 og hi hz0 hz1 _ _ _ _ (m+1) rfl rfl (by omega) (by omega) (by rw[hz2];omega) (by unfold maxLen;omega) (ay _) ?_)
 intro w1 hown hgrow
 rw[gV] at hown
 have hB1:Below w.heap.size w w1:=(ji _ _).grown hgrow (ay _) (fun k e=>by cases e)
 clear hgrow hm
 go_wp2
 go_loopw [6,7,8,18,19,20,21,22,23,24,25,26,27,28,29,30,31,32,33,34,35,36,37,38] (fun c _ _ i _ _ _ _ _ _ _ _ _ _ _ _ _ _ _ _ _ _ _ _ wr=>∃ (k e:Nat) (o:List Nat),k<=m+1/\i=.int .i64 (k:Nat)/\c=.int .u32 (e:Nat)/\lW a b o (m+1) k e /\
   wr.ownsRow w.heap.size 148 1 (.slice (some ⟨w.heap.size,0,none⟩) (m+1) (m+1)) (m+1) (cells32 o)/\Below w.heap.size w wr)
  (fun _ _ _ i _ _ _ _ _ _ _ _ _ _ _ _ _ _ _ _ _ _ _ _ _=>m+1-(intOf i).toNat)
 case atStart=>exact⟨0,0,_,by omega,rfl,rfl,lW.zero _ _ _,hown,hB1⟩
 case round =>
  obtain⟨k,e,o,hk,rfl,rfl,hI,hO,hB⟩:=hrel
  by_cases hlt:k<m+1
  ·have ga:gr a k<=999999999:=fM HA.out k
   have gb:gr b k<=999999999:=fM HB.out k
   have gc:=hI.car
   have hcl:wr.cell? ⟨w.heap.size,k,none⟩=some (.int .u32 (gr o k:Nat)):=by
    rw[hO.cellAt k (by omega)];exact dW (by rw[hI.len];exact hlt)
   have hfr:=hO.frozenAt k
   by_cases hsm:gr a k+gr b k+e<=999999999
   ·have hN:=hI.QA hlt (by omega)
    have hd:decide ((1000000000:Int)<=gr a k+gr b k+e)=false:=by simp;omega
    go_wp2_with fail
    refine(IE _ a k _ (hs.below hB)).mono ?_
    rintro e w' ⟨rfl,rfl⟩
    go_wp2_with fail
    refine(IE _ b k _ (ht.below hB)).mono ?_
    rintro e w' ⟨rfl,rfl⟩
    dsimp only
    go_wp2
    have hst:=hO.stored k (.int .u32 (gr a k+gr b k+e:Nat))
    rw[eY] at hst
    go_roundw
    case rel=>exact⟨k+1,0,_,by omega,by go_num,rfl,hN,hst.1,hB.setCell (p:=⟨w.heap.size,k,none⟩) (ay _) _⟩
    case measure=>simp[intOf];omega
   ·obtain⟨r,hr⟩:∃ r,gr a k+gr b k+e=r+1000000000:=⟨gr a k+gr b k+e-1000000000,by omega⟩
    have hN:=hI.IX (by omega) (by omega) hlt hr
    have HR:=iy hr
    have hrw:IntKind.u32.wrap ((gr a k:Int)+gr b k+e-1000000000)=r:=by simp[IntKind.wrap,IntKind.bits,IntKind.signed];omega
    clear hr
    have hd:decide ((1000000000:Int)<=gr a k+gr b k+e)=true:=by simp;omega
    go_wp2_with fail
    refine(IE _ a k _ (hs.below hB)).mono ?_
    rintro e w' ⟨rfl,rfl⟩
    go_wp2_with fail
    refine(IE _ b k _ (ht.below hB)).mono ?_
    rintro e w' ⟨rfl,rfl⟩
    dsimp only
    go_wp2
    have hst:=hO.stored k (.int .u32 (r:Nat))
    rw[eY] at hst
    go_roundw
    case rel=>exact⟨k+1,1,_,by omega,by go_num,rfl,hN,hst.1,hB.setCell (p:=⟨w.heap.size,k,none⟩) (ay _) _⟩
    case measure=>simp[intOf];omega
  ·obtain rfl:k=m+1:=by omega
   obtain⟨hl,hv⟩:=hI.done HA.out HB.out n1 n2
   have HV:Hid (dX o=dig (val a+val b)):=by unfold Hid dX;rw[hv]
   clear hv
   go_wp2_with (go_at_call 257;refine(JO _ _ _ o _ (Rd.dH (by rw[hI.len];exact hO)) hl hI.len).mono ?_;rintro e w' ⟨rfl,rfl⟩)
   go_ret
   exact⟨_,rfl,by rw[<-HV.out];exact qW hO hl hI.len,hB⟩
end Go.Proofs.YtbkocjmmbkifjaaGreat
