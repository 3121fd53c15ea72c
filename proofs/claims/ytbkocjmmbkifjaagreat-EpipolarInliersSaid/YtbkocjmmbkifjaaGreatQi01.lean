/-
  Lemmas for the theorem vinliers_holds, part 1 of 32.
-/
import Derived.Deep.RegionHeld3
import Derived.Lib.Hide
import Derived.Lib.SliceRun
import Derived.ProofKit
import Derived.Test.YtbkocjmmbkifjaaGreatProg
import Derived.WalkKit
namespace Go.Proofs.YtbkocjmmbkifjaaGreat
open Go Go.RowKit
theorem tu:type_of% @List.mem_append:=@List.mem_append
theorem Aw:type_of% @List.mem_of_mem_take:=@List.mem_of_mem_take
theorem dh:type_of% @List.getD_eq_getElem?_getD:=@List.getD_eq_getElem?_getD
theorem Bo:type_of% @List.mem_of_getElem?:=@List.mem_of_getElem?
theorem wu:type_of% @Nat.mod_lt:=@Nat.mod_lt
theorem ah:type_of% @Option.some.injEq:=@Option.some.injEq
theorem Cj:type_of% @Nat.mod_eq_of_lt:=@Nat.mod_eq_of_lt
theorem Dv:type_of% @Nat.div_eq_of_lt:=@Nat.div_eq_of_lt
theorem qm:type_of% @Nat.zero_add:=@Nat.zero_add
theorem zf:type_of% @Nat.mul_le_mul_left:=@Nat.mul_le_mul_left
theorem uw:type_of% @Nat.mul_comm:=@Nat.mul_comm
theorem ni:type_of% @Nat.lt_of_lt_of_le:=@Nat.lt_of_lt_of_le
theorem yc:type_of% @Nat.pow_le_pow_right:=@Nat.pow_le_pow_right
theorem Aa:type_of% @Nat.lt_or_ge:=@Nat.lt_or_ge
theorem ak:type_of% @Nat.le_refl:=@Nat.le_refl
theorem Dj:type_of% @Nat.pow_add:=@Nat.pow_add
theorem iq:type_of% @Nat.le_trans:=@Nat.le_trans
theorem uy:type_of% @List.getElem?_eq_none:=@List.getElem?_eq_none
theorem um:type_of% @List.getElem_mem:=@List.getElem_mem
theorem bg:type_of% @Below.refl:=@Below.refl
theorem jy:type_of% @List.length_take:=@List.length_take
theorem oq:type_of% @List.length_pos_iff:=@List.length_pos_iff
theorem dn:type_of% @List.getElem?_eq_getElem:=@List.getElem?_eq_getElem
theorem jq:type_of% @if_pos:=@if_pos
theorem jk:type_of% @if_neg:=@if_neg
theorem ql:type_of% @World.cell?_setCell_other:=@World.cell?_setCell_other
theorem uf:type_of% @Int.eq_ofNat_of_zero_le:=@Int.eq_ofNat_of_zero_le
theorem Ar:type_of% @decide_eq_decide:=@decide_eq_decide
theorem Cb:type_of% @List.getElem_of_mem:=@List.getElem_of_mem
theorem bn:type_of% @Lib.hid:=@Lib.hid
theorem zl:type_of% @congrArg:=@congrArg
theorem xu:type_of% @Nat.min_eq_left:=@Nat.min_eq_left
theorem qw:type_of% @Nat.zero_le:=@Nat.zero_le
theorem iw:type_of% @bodyPost_ret:=@bodyPost_ret
theorem qg:type_of% @List.eq_nil_of_length_eq_zero:=@List.eq_nil_of_length_eq_zero
theorem zk:type_of% @Array.getElem?_eq_some_iff:=@Array.getElem?_eq_some_iff
theorem Ag:type_of% @List.append_assoc:=@List.append_assoc
theorem zh:type_of% @info_parts:=@info_parts
theorem Ah:type_of% @World.ownsRow_nil:=@World.ownsRow_nil
theorem dw:type_of% @List.length_append:=@List.length_append
theorem wz:type_of% @wpList_append_own:=@wpList_append_own
theorem jw:type_of% @Tryz.underlying43:=@Tryz.underlying43
theorem zo:type_of% @List.append_nil:=@List.append_nil
theorem ou:type_of% @List.getElem?_eq_some_iff:=@List.getElem?_eq_some_iff
theorem oz:type_of% @run_underlying:=@run_underlying
theorem gy:type_of% @Sem.run_bind:=@Sem.run_bind
theorem yg:type_of% @World.cell?_alloc_lt:=@World.cell?_alloc_lt
theorem Ae:type_of% @World.size_alloc:=@World.size_alloc
theorem jh:type_of% @List.take_of_length_le:=@List.take_of_length_le
theorem Di:type_of% @List.mem_replicate:=@List.mem_replicate
theorem vw:type_of% @Nat.mul_le_mul:=@Nat.mul_le_mul
def BB:Nat:=1000000000
theorem gV:0<BB:=by unfold BB;omega
theorem bI:BB=1000000000:=rfl
theorem a6G:1<BB:=by unfold BB;omega
theorem zV {n:Nat} (h:n≠0):n / BB<n:=Nat.div_lt_self (Nat.pos_of_ne_zero h) a6G
def val:List Nat->Nat
 | []=>0
 | g::l=>g+BB*val l
@[simp] theorem qV:val []=0:=rfl
theorem bP (g:Nat) (l:List Nat):val (g::l)=g+BB*val l:=rfl
theorem val_append (a b:List Nat):val (a++b)=val a+BB ^ a.length*val b:=by
 induction a with
 | nil=>simp
 | cons g a ih =>
  simp only[List.cons_append,bP,ih,List.length_cons,Nat.pow_succ]
  grind
def dig (n:Nat):List Nat:=if _h:n=0 then [] else n%BB::dig (n / BB)
termination_by n
decreasing_by exact zV (by assumption)
theorem dL:dig 0=[]:=by rw[dig];simp
theorem nH {n:Nat} (h:n≠0):dig n=n%BB::dig (n / BB):=by rw[dig];simp[h]
def Low (l:List Nat):Prop:=∀ g ∈ l,g<BB
def Canon (l:List Nat):Prop:=Low l/\l.getLast?≠some 0
theorem Low.nil:Low []:=by simp[Low]
theorem Low.cons {g:Nat} {l:List Nat}:Low (g::l)↔g<BB/\Low l:=by simp[Low]
theorem Low.append {a b:List Nat}:Low (a++b)↔Low a/\Low b:=by
 simp only[Low,tu]
 exact⟨fun h=>⟨fun g hg=>h g (.inl hg),fun g hg=>h g (.inr hg)⟩,fun h g hg=>hg.elim (h.1 g) (h.2 g)⟩
theorem Low.take {l:List Nat} (h:Low l) (n:Nat):Low (l.take n):=fun g hg=>h g (Aw hg)
theorem Low.drop {l:List Nat} (h:Low l) (n:Nat):Low (l.drop n):=fun g hg=>h g (List.mem_of_mem_drop hg)
theorem Low.get {l:List Nat} (h:Low l) (i:Nat):l.getD i 0<BB:=by
 rw[dh]
 cases hi:l[i]? with
 | none=>simp[gV]
 | some g=>simpa using h g (Bo hi)
theorem aH (n:Nat):val (dig n)=n:=by
 induction n using Nat.strongRecOn with
 | _ n ih =>
  by_cases h:n=0
  ·subst h;rw[dL];rfl
  ·rw[nH h,bP,ih _ (zV h)]
   exact Nat.mod_add_div n BB
theorem bH (n:Nat):Low (dig n):=by
 induction n using Nat.strongRecOn with
 | _ n ih =>
  by_cases h:n=0
  ·subst h;rw[dL];exact Low.nil
  ·rw[nH h]
   exact Low.cons.2 ⟨wu _ gV,ih _ (zV h)⟩
theorem iO {n:Nat}:dig n=[]↔n=0:=by
 by_cases h:n=0
 ·simp[h,dL]
 ·simp[nH h,h]
theorem a7k (n:Nat):(dig n).getLast?≠some 0:=by
 induction n using Nat.strongRecOn with
 | _ n ih =>
  by_cases h:n=0
  ·subst h;rw[dL];simp
  ·rw[nH h]
   by_cases h1:n / BB=0
   ·rw[h1,dL]
    simp only[List.getLast?_singleton,ne_eq,ah]
    have:=Nat.mod_add_div n BB
    rw[h1] at this
    omega
   ·have h2:dig (n / BB)≠[]:=fun e=>h1 (iO.1 e)
    rw[List.getLast?_cons]
    have:=ih _ (zV h)
    cases h3:(dig (n / BB)).getLast? with
    | none=>exact absurd (List.getLast?_eq_none_iff.1 h3) h2
    | some g=>rw[h3] at this;simpa using this
theorem aY (n:Nat):Canon (dig n):=⟨bH n,a7k n⟩
theorem Canon.tail {g:Nat} {l:List Nat} (h:Canon (g::l)):Canon l:=by
 refine⟨(Low.cons.1 h.1).2,fun e=>h.2 ?_⟩
 rw[List.getLast?_cons,e];rfl
theorem Canon.b2F {l:List Nat} (h:Canon l) (hl:l≠[]):0<val l:=by
 induction l with
 | nil=>exact absurd rfl hl
 | cons g l ih =>
  rw[bP]
  by_cases hn:l=[]
  ·subst hn
   have:=h.2
   simp at this
   omega
  ·have:=ih h.tail hn
   have:=Nat.mul_pos gV this
   omega
theorem dN {l:List Nat} (h:Canon l):dig (val l)=l:=by
 induction l with
 | nil=>rw[qV,dL]
 | cons g l ih =>
  have hp:=h.b2F (by simp)
  have hg:=(Low.cons.1 h.1).1
  rw[nH (by omega),bP,Nat.add_mul_mod_self_left,Cj hg,Nat.add_mul_div_left _ _ gV,Dv hg,qm,ih h.tail]
def eH (l:List Nat):List Nat:=dig (val l)
theorem VR {l:List Nat} (h:Low l):eH l=l.take (eH l).length:=by
 unfold eH
 induction l with
 | nil=>simp[dL]
 | cons g l ih =>
  have hg:=(Low.cons.1 h).1
  rw[bP]
  by_cases h0:g+BB*val l=0
  ·rw[h0,dL];simp
  ·rw[nH h0,Nat.add_mul_mod_self_left,Cj hg,Nat.add_mul_div_left _ _ gV,Dv hg,qm,List.length_cons,List.take_succ_cons,<-ih (Low.cons.1 h).2]
theorem mG {l:List Nat} (h:Low l):val l<BB ^ l.length:=by
 induction l with
 | nil=>simp
 | cons g l ih =>
  have h1:=Low.cons.1 h
  have h2:=ih h1.2
  rw[bP,List.length_cons,Nat.pow_succ]
  have:BB*(val l+1)<=BB*BB ^ l.length:=zf _ h2
  rw[uw BB (BB ^ l.length)] at this
  have h3:=h1.1
  have h4:BB*(val l+1)=BB*val l+BB:=by rw[Nat.mul_add,Nat.mul_one]
  omega
theorem dV {n k:Nat} (h:n<BB ^ k):(dig n).length<=k:=by
 induction k generalizing n with
 | zero=>simp at h;subst h;simp[dL]
 | succ k ih =>
  by_cases h0:n=0
  ·subst h0;simp[dL]
  ·rw[nH h0,List.length_cons]
   have:n / BB<BB ^ k:=by
    rw[Nat.div_lt_iff_lt_mul gV,<-Nat.pow_succ];exact h
   have:=ih this
   omega
theorem iJ {n k:Nat} (h:(dig n).length<=k):n<BB ^ k:=by
 have h1:=mG (bH n)
 rw[aH] at h1
 exact ni h1 (yc gV h)
theorem oP {n k:Nat} (h:k<(dig n).length):BB ^ k<=n:=by
 rcases Aa n (BB ^ k) with h1|h1
 ·have:=dV h1;omega
 ·exact h1
theorem aJ {m n:Nat} (h:m<=n):(dig m).length<=(dig n).length :=
 dV (Nat.lt_of_le_of_lt h (iJ (ak _)))
theorem wZ {l:List Nat} (h:Low l):(eH l).length<=l.length:=dV (mG h)
def nsz (n:Nat):Nat:=(dig n).length
theorem a8Z:nsz 0=0:=by simp[nsz,dL]
theorem tY (a b:Nat):nsz (a*b)<=nsz a+nsz b:=by
 refine dV ?_
 rw[Dj]
 exact Nat.mul_lt_mul'' (iJ (ak _)) (iJ (ak _))
theorem FD {m n:Nat} (h:m<=n):nsz m<=nsz n:=aJ h
theorem a4j (a b:Nat):nsz (a+b)<=max (nsz a) (nsz b)+1:=by
 refine dV ?_
 have h1:a<BB ^ max (nsz a) (nsz b):=iJ (Nat.le_max_left _ _)
 have h2:b<BB ^ max (nsz a) (nsz b):=iJ (Nat.le_max_right _ _)
 rw[Nat.pow_succ,bI] at *
 omega
def isz (x:Int):Nat:=nsz x.natAbs
theorem OX:isz 0=0:=a8Z
theorem lS (x:Int):isz (-x)=isz x:=by simp[isz]
theorem dK (x y:Int):isz (x*y)<=isz x+isz y:=by
 unfold isz;rw[Int.natAbs_mul];exact tY _ _
theorem wM (x y:Int):isz (x+y)<=max (isz x) (isz y)+1 :=
 iq (FD (Int.natAbs_add_le x y)) (a4j _ _)
theorem YF (x y:Int):isz (x-y)<=max (isz x) (isz y)+1:=by
 have:=wM x (-y)
 rw[lS] at this
 exact this
theorem OW {x y:Int} (h:x.natAbs<=y.natAbs):isz x<=isz y:=FD h
theorem qI {x:Int} {k:Nat} (h:x.natAbs<BB ^ k):isz x<=k:=dV h
def gr (l:List Nat) (i:Nat):Nat:=l.getD i 0
theorem uQ {l:List Nat} {i:Nat} (h:l.length<=i):gr l i=0:=by simp[gr,uy h]
theorem oG {l:List Nat} {i:Nat} (h:i<l.length):gr l i=l[i]:=by simp[gr,h]
theorem CV {l:List Nat} (h:Low l) (i:Nat):gr l i<1000000000:=h.get i
theorem fU {l:List Nat} (h:Low l) (i:Nat):gr l i<=999999999:=by have:=CV h i;omega
theorem AA {l:List Nat} {i k:Nat} (h:i<k):gr (l.take k) i=gr l i:=by simp[gr,h]
theorem a7A {l:List Nat} {i:Nat} (h:i<l.length):gr l i ∈ l:=by rw[oG h];exact um h
def sg (neg:Bool) (n:Nat):Int:=if neg then -(n:Int) else n
theorem gG {k:IntKind} {a b:Int} (h:a=b):Ending.returned (.int k a)=.returned (.int k b):=by rw[h]
theorem gJ {a b:Bool} (h:a=b):Ending.returned (.bool a)=.returned (.bool b):=by rw[h]
def Rd (w:World) (s:Value) (l:List Nat):Prop :=
 (∃ p,s=.slice p 0 0/\l=[]) \/
 ∃ b o c,s=.slice (some ⟨b,o,none⟩) l.length c/\l.length<=c/\c<=9223372036854775807/\b<w.heap.size /\
  ∀ i,i<l.length->w.cell? ⟨b,o+i,none⟩=some (.int .u32 (gr l i:Nat))
theorem Rd.below {w w':World} {s:Value} {l:List Nat} (h:Rd w s l) (hb:Below w.heap.size w w'):Rd w' s l:=by
 rcases h with h|⟨b,o,c,h1,h2,h3,h4,h5⟩
 ·exact .inl h
 ·exact .inr ⟨b,o,c,h1,h2,h3,ni h4 hb.size,fun i hi=>(hb.cell (p:=⟨b,o+i,none⟩) h4).trans (h5 i hi)⟩
theorem Rd.nil (w:World):Rd w (.slice none 0 0) []:=.inl ⟨none,rfl,rfl⟩
theorem Rd.alloc {w:World} {s:Value} {l:List Nat} (h:Rd w s l) (o:Obj):Rd (w.alloc o) s l:=h.below ((bg _ _).alloc (ak _) _)
theorem Rd.form {w:World} {s:Value} {l:List Nat} (h:Rd w s l):∃ p c,s=.slice p l.length c/\l.length<=c/\c<=9223372036854775807:=by
 rcases h with⟨p,rfl,rfl⟩|⟨b,o,c,h1,h2,h3,h4,h5⟩
 ·exact⟨p,0,rfl,ak _,by omega⟩
 ·exact⟨_,c,h1,h2,h3⟩
theorem Rd.take {w:World} {p:Option Addr} {c:Nat} {l:List Nat} (h:Rd w (.slice p l.length c) l) {k:Nat} (hk:k<=l.length):Rd w (.slice p k c) (l.take k):=by
 have hl:(l.take k).length=k:=by rw[jy];omega
 rcases h with⟨q,h1,rfl⟩|⟨b,o,c',h1,h2,h3,h4,h5⟩
 ·cases h1
  simp at hk;subst hk
  exact .inl ⟨_,rfl,rfl⟩
 ·cases h1
  refine .inr ⟨b,o,c,by rw[hl],by rw[hl];omega,h3,h4,fun i hi=>?_⟩
  rw[hl] at hi
  rw[h5 i (by omega),AA hi]
theorem Rd.drew {w:World} {s:Value} {l:List Nat} (h:Rd w s l):Rd w.drew s l:=h.below (bg _ _).drew
theorem eY {B:Nat} {W w1:World} (hb:Below B W w1):(∀ b o,b<B->w1.cell? ⟨b,o,none⟩=W.cell? ⟨b,o,none⟩)/\(∀ b o,b<B->w1.frozen? ⟨b,o,none⟩=W.frozen? ⟨b,o,none⟩) :=
 ⟨fun b o h=>hb.cell (p:=⟨b,o,none⟩) h,fun b o h=>hb.frozen (p:=⟨b,o,none⟩) h⟩
def Bx (w:World) (b:Nat) (cs:List Value):Prop:=b<w.heap.size/\∀ i u,cs[i]?=some u->w.cell? ⟨b,i,none⟩=some u/\w.frozen? ⟨b,i,none⟩=false
theorem Bx.below {w w':World} {b:Nat} {cs:List Value} (h:Bx w b cs) {B:Nat} (hb:Below B w w') (hB:b<B):Bx w' b cs :=
 ⟨ni h.1 hb.size,fun i u hu=>⟨(hb.cell (p:=⟨b,i,none⟩) hB).trans (h.2 i u hu).1,(hb.frozen (p:=⟨b,i,none⟩) hB).trans (h.2 i u hu).2⟩⟩
theorem Bx.to {w w':World} {b:Nat} {cs:List Value} (h:Bx w b cs) (hb:Below w.heap.size w w'):Bx w' b cs:=h.below hb h.1
theorem Bx.new (w:World) (cs:List Value) (t:TypeId):Bx (w.alloc (.cells cs.toArray t)) w.heap.size cs :=
 ⟨by simp,fun i u hu=>⟨by rw[World.cell?_alloc_at _ _ _ _ rfl];simpa using hu,World.frozen?_alloc_at _ _ _ _ rfl⟩⟩
theorem Bx.alloc {w:World} {b:Nat} {cs:List Value} (h:Bx w b cs) (o:Obj):Bx (w.alloc o) b cs:=h.to ((bg _ _).alloc (ak _) _)
theorem Bx.drew {w:World} {b:Nat} {cs:List Value} (h:Bx w b cs):Bx w.drew b cs:=h.to (bg _ _).drew
theorem Bx.c0 {w:World} {b:Nat} {u0:Value} {cs:List Value} (h:Bx w b (u0::cs)):w.cell? ⟨b,0,none⟩=some u0:=(h.2 0 u0 rfl).1
theorem Bx.f0 {w:World} {b:Nat} {u0:Value} {cs:List Value} (h:Bx w b (u0::cs)):w.frozen? ⟨b,0,none⟩=false:=(h.2 0 u0 rfl).2
theorem Bx.c1 {w:World} {b:Nat} {u0 u1:Value} {cs:List Value} (h:Bx w b (u0::u1::cs)):w.cell? ⟨b,1,none⟩=some u1:=(h.2 1 u1 rfl).1
theorem Bx.f1 {w:World} {b:Nat} {u0 u1:Value} {cs:List Value} (h:Bx w b (u0::u1::cs)):w.frozen? ⟨b,1,none⟩=false:=(h.2 1 u1 rfl).2
theorem Bx.c2 {w:World} {b:Nat} {u0 u1 u2:Value} {cs:List Value} (h:Bx w b (u0::u1::u2::cs)):w.cell? ⟨b,2,none⟩=some u2:=(h.2 2 u2 rfl).1
theorem Bx.f2 {w:World} {b:Nat} {u0 u1 u2:Value} {cs:List Value} (h:Bx w b (u0::u1::u2::cs)):w.frozen? ⟨b,2,none⟩=false:=(h.2 2 u2 rfl).2
theorem Bx.c3 {w:World} {b:Nat} {u0 u1 u2 u3:Value} {cs:List Value} (h:Bx w b (u0::u1::u2::u3::cs)):w.cell? ⟨b,3,none⟩=some u3:=(h.2 3 u3 rfl).1
theorem Bx.f3 {w:World} {b:Nat} {u0 u1 u2 u3:Value} {cs:List Value} (h:Bx w b (u0::u1::u2::u3::cs)):w.frozen? ⟨b,3,none⟩=false:=(h.2 3 u3 rfl).2
def GU (neg:Bool) (l:List Nat):Bool:=match l with
 | []=>!neg
 | _=>decide (gr l (l.length-1)≠0)&&!l.any (fun g=>decide (1000000000<=g))
theorem vX (neg:Bool):GU neg []=!neg:=rfl
theorem ZQ {neg:Bool} {l:List Nat} (h:l≠[]):GU neg l=(decide (gr l (l.length-1)≠0)&&!l.any (fun g=>decide (1000000000<=g))):=by
 cases l with
 | nil=>exact absurd rfl h
 | cons=>rfl
theorem MH {l:List Nat} (h:l≠[]):l.getLast?=some (gr l (l.length-1)):=by
 have:0<l.length:=oq.2 h
 rw[List.getLast?_eq_getElem?,oG (by omega)]
 exact dn _
theorem GV {neg:Bool} {l:List Nat}:GU neg l=true↔Canon l/\(l=[]->neg=false):=by
 by_cases h:l=[]
 ·subst h;simp[vX,Canon,Low]
 ·rw[ZQ h,Canon,MH h]
  simp[Low,bI,h]
  exact⟨fun⟨a,b⟩=>⟨b,a⟩,fun⟨a,b⟩=>⟨b,a⟩⟩
def cnt (neg:Bool) (l:List Nat):Int:=if GU neg l then (if neg then -(val l:Int) else val l) else 0
def cgs (neg:Bool) (l:List Nat):List Nat:=if GU neg l then l else []
theorem XK (neg:Bool) (l:List Nat):dig (cnt neg l).natAbs=cgs neg l:=by
 unfold cnt cgs
 by_cases h:GU neg l=true
 ·have hc:=(GV.1 h).1
  rw[jq h,jq h]
  cases neg<;>simp[dN hc]
 ·rw[jk h,jk h];exact dL
theorem a0k {neg:Bool} {l:List Nat} (h:cnt neg l≠0):neg=decide (cnt neg l<0):=by
 unfold cnt at *
 by_cases hv:GU neg l=true
 ·rw[jq hv] at h ⊢
  cases neg
  ·simp
  ·simp at h ⊢;omega
 ·rw[jk hv] at h;exact absurd rfl h
def Raw (w:World) (v:Value) (x:Int):Prop :=
 ∃ neg s l,v=.agg #[.bool neg,s]/\Rd w s l/\(∀ g ∈ l,g<4294967296)/\x=cnt neg l
def bW (w:World) (v:Value) (x:Int):Prop:=∃ s,v=.agg #[.bool (decide (x<0)),s]/\Rd w s (dig x.natAbs)
theorem bW.form {w:World} {v:Value} {x:Int} (h:bW w v x):∃ b p n c,v=.agg #[.bool b,.slice p n c]:=by
 obtain⟨s,rfl,h2⟩:=h
 obtain⟨p,c,rfl,_,_⟩:=h2.form
 exact⟨_,_,_,_,rfl⟩
theorem Raw.form {w:World} {v:Value} {x:Int} (h:Raw w v x):∃ b p n c,v=.agg #[.bool b,.slice p n c]:=by
 obtain⟨neg,s,l,rfl,h2,_⟩:=h
 obtain⟨p,c,rfl,_,_⟩:=h2.form
 exact⟨_,_,_,_,rfl⟩
theorem Raw.below {w w':World} {v:Value} {x:Int} (h:Raw w v x) (hb:Below w.heap.size w w'):Raw w' v x:=by
 obtain⟨neg,s,l,h1,h2,h3,h4⟩:=h
 exact⟨neg,s,l,h1,h2.below hb,h3,h4⟩
theorem bW.below {w w':World} {v:Value} {x:Int} (h:bW w v x) (hb:Below w.heap.size w w'):bW w' v x:=by
 obtain⟨s,h1,h2⟩:=h
 exact⟨s,h1,h2.below hb⟩
theorem Raw.alloc {w:World} {v:Value} {x:Int} (h:Raw w v x) (o:Obj):Raw (w.alloc o) v x:=h.below ((bg _ _).alloc (ak _) _)
theorem bW.alloc {w:World} {v:Value} {x:Int} (h:bW w v x) (o:Obj):bW (w.alloc o) v x:=h.below ((bg _ _).alloc (ak _) _)
theorem Raw.drew {w:World} {v:Value} {x:Int} (h:Raw w v x):Raw w.drew v x:=h.below (bg _ _).drew
theorem bW.drew {w:World} {v:Value} {x:Int} (h:bW w v x):bW w.drew v x:=h.below (bg _ _).drew
def aX:Value->Bool
 | .int .u32 _=>false
 | _=>true
theorem Rd.gU {w:World} {s:Value} {l:List Nat} (h:Rd w s l) {a:Addr} {u:Value} (hc:w.cell? a=some u) (hu:aX u=true) (u':Value):Rd (w.setCell a u') s l:=by
 rcases h with h|⟨b,o,c,h1,h2,h3,h4,h5⟩
 ·exact .inl h
 ·refine .inr ⟨b,o,c,h1,h2,h3,by simpa [World.setCell] using h4,fun i hi=>?_⟩
  by_cases e:a=⟨b,o+i,none⟩
  ·subst e
   rw[h5 i hi] at hc
   cases hc
   simp[aX] at hu
  ·rw[ql _ _ _ _ (by simpa using e)]
   exact h5 i hi
theorem Raw.gU {w:World} {v:Value} {x:Int} (h:Raw w v x) {a:Addr} {u:Value} (hc:w.cell? a=some u) (hu:aX u=true) (u':Value):Raw (w.setCell a u') v x:=by
 obtain⟨neg,s,l,h1,h2,h3,h4⟩:=h
 exact⟨neg,s,l,h1,h2.gU hc hu u',h3,h4⟩
theorem bW.gU {w:World} {v:Value} {x:Int} (h:bW w v x) {a:Addr} {u:Value} (hc:w.cell? a=some u) (hu:aX u=true) (u':Value):bW (w.setCell a u') v x:=by
 obtain⟨s,h1,h2⟩:=h
 exact⟨s,h1,h2.gU hc hu u'⟩
theorem bW.a0e {w:World} {v:Value} {x:Int} (h:bW w v x) {B:Nat} {q:Bool} {p:Option Addr} {n c:Nat} (h0:w.cell? ⟨B,0,none⟩=some (.bool q)) (h1:w.cell? ⟨B,1,none⟩=some (.slice p n c)) (a b:Value) :
  bW ((w.setCell ⟨B,0,none⟩ a).setCell ⟨B,1,none⟩ b) v x :=
 (h.gU h0 rfl a).gU (a:=⟨B,1,none⟩) (u:=.slice p n c) (by rw[ql _ _ _ _ (by simp)];exact h1) rfl b
theorem kE {w w':World} {B B':Nat} (h:Below B w w') (hB:B<=B') (a b:Value):Below B w ((w'.setCell ⟨B',0,none⟩ a).setCell ⟨B',1,none⟩ b) :=
 (h.setCell (p:=⟨B',0,none⟩) hB a).setCell (p:=⟨B',1,none⟩) hB b
theorem a1J (x:Int):GU (decide (x<0)) (dig x.natAbs)=true:=by
 rw[GV]
 refine⟨aY _,fun h=>?_⟩
 rw[iO] at h
 simp;omega
theorem a3A (x:Int):cnt (decide (x<0)) (dig x.natAbs)=x:=by
 unfold cnt
 rw[jq (a1J x),aH]
 by_cases h:x<0<;>simp[h]<;>omega
theorem bW.raw {w:World} {v:Value} {x:Int} (h:bW w v x):Raw w v x:=by
 obtain⟨s,h1,h2⟩:=h
 exact⟨_,s,_,h1,h2,fun g hg=>by have:=bH _ g hg;rw[bI] at this;omega,(a3A x).symm⟩
def GB (b:Bool) (w:World) (e:Ending) (w':World):Prop:=e=.returned (.bool b)/\Below w.heap.size w w'
set_option maxRecDepth 100000
set_option maxHeartbeats 400000
set_option linter.unusedSimpArgs false
set_option linter.unusedVariables false
theorem a6M (s:Value) (l:List Nat) (i:Int) (w:World) (hs:Rd w s l) (h0:0<=i) :
  Calls Tryz.prog 279 #[s,.int .i64 i] w fun e w'=>e=.returned (.int .u32 (gr l i.toNat:Nat))/\w=w':=by
 obtain⟨n,rfl⟩:=uf h0
 rw[Int.toNat_natCast]
 clear h0
 rcases hs with⟨p,rfl,rfl⟩|⟨b,o,c,rfl,h2,h3,h4,h5⟩
 ·have h8:decide ((n:Int)<0)=false:=by simp
  go_enter Tryz.func279,Tryz.ntmps279
  go_wp2_with fail
  go_ret
  exact⟨by simp[gr],rfl⟩
 ·by_cases hn:n<l.length
  ·have h6:=h5 n hn
   clear h5
   go_enter Tryz.func279,Tryz.ntmps279
   go_wp2
   go_ret
   exact⟨rfl,rfl⟩
  ·clear h5
   go_enter Tryz.func279,Tryz.ntmps279
   go_wp2
   go_ret
   exact⟨by rw[uQ (by omega)];rfl,rfl⟩
theorem RP (g:Nat) (w:World) :
  Calls Tryz.prog 264 #[.int .u32 (g:Nat)] w fun e w'=>e=.returned (.bool (decide (1000000000<=g)))/\w=w':=by
 go_enter Tryz.func264,Tryz.ntmps264
 go_wp2
 go_ret
 exact⟨gJ (Ar.2 (by omega)),rfl⟩
def idxOf (p:Nat->Bool) (l:List Nat):Int:=if l.any p then (l.findIdx p:Int) else -1
theorem a2g {p:Nat->Bool} {l:List Nat} (h:∀ i,i<l.length->p (gr l i)=false):idxOf p l=-1:=by
 unfold idxOf
 rw[jk]
 simp only[List.any_eq_true,not_exists,not_and,Bool.not_eq_true]
 intro g hg
 obtain⟨i,hi,rfl⟩:=Cb hg
 rw[<-oG hi];exact h i hi
theorem a2i {p:Nat->Bool} {l:List Nat} {k:Nat} (hk:k<l.length) (hp:p (gr l k)=true) (h:∀ i,i<k->p (gr l i)=false):idxOf p l=k:=by
 unfold idxOf
 rw[jq (List.any_eq_true.2 ⟨_,a7A hk,hp⟩)]
 congr 1
 rw[List.findIdx_eq hk]
 refine⟨by rw[<-oG hk];exact hp,fun j hj=>?_⟩
 rw[<-oG (by omega)];exact h j hj
theorem a2h (p:Nat->Bool) (l:List Nat):decide (0<=idxOf p l)=l.any p:=by
 unfold idxOf
 by_cases h:l.any p=true<;>simp[h]
theorem a7Y (s:Value) (l:List Nat) (w:World) (hs:Rd w s l) :
  Calls Tryz.prog 287 #[s,.func (.func 264) #[] #[]] w
   fun e w'=>e=.returned (.int .i64 (idxOf (fun g=>decide (1000000000<=g)) l))/\w=w':=by
 rcases hs with⟨p,rfl,rfl⟩|⟨b,o,c,rfl,h2,h3,h4,h5⟩
 ·go_enter Tryz.func287,Tryz.ntmps287
  go_wp2
  go_loop [8] (fun i=>i=.int .i64 0) (fun _=>0)
  case atStart=>rfl
  case round =>
   subst hrel
   go_wp2
   go_ret
   exact⟨by simp[idxOf],rfl⟩
 ·have hl:l.length<=9223372036854775807:=by omega
  have H5:=bn h5
  clear h5
  go_enter Tryz.func287,Tryz.ntmps287
  go_wp2
  go_loop [5,8,10,11,12,13,14,15,16,18] (fun _ i _ _ _ _ _ _ _ _=>∃ k:Nat,k<=l.length/\i=.int .i64 k/\∀ j,j<k->decide (1000000000<=gr l j)=false) (fun _ i _ _ _ _ _ _ _ _=>l.length-(intOf i).toNat)
  case atStart=>exact⟨0,by omega,rfl,fun j hj=>by omega⟩
  case round =>
   obtain⟨k,hk,rfl,hj⟩:=hrel
   have HJ:=bn hj
   clear hj
   by_cases hlt:k<l.length
   ·have hc:=H5.out k hlt
    by_cases hp:decide (1000000000<=gr l k)=true
    ·go_wp2_with (go_at_call 264;refine(RP _ _).mono ?_;rintro e w' ⟨rfl,rfl⟩)
     go_ret
     exact⟨gG (a2i (p:=fun g=>decide (1000000000<=g)) hlt hp HJ.out).symm,rfl⟩
    ·have hp':decide (1000000000<=gr l k)=false:=by simpa using hp
     clear hp
     go_wp2_with (go_at_call 264;refine(RP _ _).mono ?_;rintro e w' ⟨rfl,rfl⟩)
     go_round
     case rel=>exact⟨k+1,by omega,by go_num,fun j hj=>if e:j<k then HJ.out j e else by rw[show j=k by omega];exact hp'⟩
     case measure=>simp[intOf];omega
   ·obtain rfl:k=l.length:=by omega
    go_wp2
    go_ret
    exact⟨gG (a2g (p:=fun g=>decide (1000000000<=g)) HJ.out).symm,rfl⟩
theorem SA (s:Value) (l:List Nat) (w:World) (hs:Rd w s l) :
  Calls Tryz.prog 263 #[s,.func (.func 264) #[] #[]] w
   fun e w'=>e=.returned (.bool (l.any fun g=>decide (1000000000<=g)))/\w=w':=by
 have hb:=a2h (fun g=>decide (1000000000<=g)) l
 generalize hx:idxOf (fun g=>decide (1000000000<=g)) l=x at *
 have HX:=bn hx
 have HB:=bn hb
 clear hx hb
 go_enter Tryz.func263,Tryz.ntmps263
 go_wp2_with (go_at_call 287;refine(a7Y _ l _ hs).mono ?_;rintro e w' ⟨rfl,rfl⟩)
 go_ret
 exact⟨by rw[<-HB.out,<-HX.out];rfl,rfl⟩
theorem JV (neg:Bool) (s:Value) (l:List Nat) (w:World) (hs:Rd w s l) :
  Calls Tryz.prog 212 #[.agg #[.bool neg,s]] w fun e w'=>e=.returned (.bool (GU neg l))/\Below w.heap.size w w':=by
 rcases hs with⟨p,rfl,rfl⟩|⟨b,o,c,rfl,h2,h3,h4,h5⟩
 ·go_enter Tryz.func212,Tryz.ntmps212
  go_wp2
  go_ret
  exact⟨rfl,(bg _ _).alloc (ak _) _⟩
 ·by_cases hn:l=[]
  ·subst hn
   clear h5
   go_enter Tryz.func212,Tryz.ntmps212
   go_wp2
   go_ret
   exact⟨rfl,(bg _ _).alloc (ak _) _⟩
  ·have hp:0<l.length:=oq.2 hn
   have hl:l.length<=9223372036854775807:=by omega
   have h6:=h5 (l.length-1) (by omega)
   have hR:Rd (w.alloc (.cells #[.bool neg,.slice (some ⟨b,o,none⟩) l.length c] 45)) (.slice (some ⟨b,o,none⟩) l.length c) l:=Rd.alloc (.inr ⟨b,o,c,rfl,h2,h3,h4,h5⟩) _
   have HV:=bn (ZQ (neg:=neg) hn)
   generalize hg:gr l (l.length-1)=g at *
   clear hg h5
   by_cases hz:g=0
   ·subst hz
    go_enter Tryz.func212,Tryz.ntmps212
    go_wp2
    go_ret
    exact⟨gJ (by rw[HV.out];rfl),(bg _ _).alloc (ak _) _⟩
   ·have hz':((g:Int) != 0)=true:=by simp;omega
    have HZ:=bn hz
    clear hz
    go_enter Tryz.func212,Tryz.ntmps212
    go_wp2_with (go_at_call 263;refine(SA _ l _ hR).mono ?_;rintro e w' ⟨rfl,rfl⟩)
    go_ret
    exact⟨gJ (by rw[HV.out];simp[HZ.out]),(bg _ _).alloc (ak _) _⟩
def GRd (l:List Nat) (w:World) (e:Ending) (w':World):Prop:=∃ s,e=.returned s/\Rd w' s l/\Below w.heap.size w w'
theorem dJ (v:Value) (x:Int) (w:World) (hv:Raw w v x) :
  Calls Tryz.prog 192 #[v] w (GRd (dig x.natAbs) w):=by
 obtain⟨neg,s,l,rfl,hs,hb,rfl⟩:=hv
 have hR:Rd (w.alloc (.cells #[.bool neg,s] 45)) s l:=hs.alloc _
 have hW:Below w.heap.size w (w.alloc (.cells #[.bool neg,s] 45)):=(bg _ _).alloc (ak _) _
 have HD:=bn (XK neg l)
 have HB:=bn hb
 clear hb
 cases hv:GU neg l
 ·have HE:Hid (cgs neg l=[]):=by unfold cgs;rw[hv];rfl
  go_enter Tryz.func192,Tryz.ntmps192
  go_wp2_with (go_at_call 212;refine(JV _ _ l _ hR).mono ?_;rintro e w' ⟨rfl,hb1⟩;obtain⟨hc1,hf1⟩:=eY hb1)
  go_ret
  exact⟨_,rfl,by rw[HD.out,HE.out];exact Rd.nil _,hW.trans (hb1.mono (by simp))⟩
 ·have HE:Hid (cgs neg l=l):=by unfold cgs;rw[hv];rfl
  go_enter Tryz.func192,Tryz.ntmps192
  go_wp2_with (go_at_call 212;refine(JV _ _ l _ hR).mono ?_;rintro e w' ⟨rfl,hb1⟩;obtain⟨hc1,hf1⟩:=eY hb1)
  go_ret
  exact⟨_,rfl,by rw[HD.out,HE.out];exact hR.below hb1,hW.trans (hb1.mono (by simp))⟩
theorem xA {l:List Nat} (hl:Low l) {k:Nat} (hk:k<=l.length) (hz:val (l.take k)=val l) (h:k=0\/gr l (k-1)≠0):eH l=l.take k:=by
 unfold eH
 rw[<-hz]
 refine dN ⟨hl.take k,?_⟩
 rcases h with rfl|h
 ·simp
 ·by_cases h0:k=0
  ·subst h0;simp
  ·have hne:l.take k≠[]:=by
    intro e
    have:=zl List.length e
    simp only[jy,List.length_nil] at this
    omega
   rw[MH hne,jy,xu hk,AA (by omega)]
   simpa using h
theorem uU {l:List Nat} {k:Nat} (hk:k<l.length) (h:gr l k=0):val (l.take k)=val (l.take (k+1)):=by
 rw[List.take_succ_eq_append_getElem hk,val_append,<-oG hk,h]
 simp[bP]
theorem RG (p:Option Addr) (c:Nat) (l:List Nat) (w:World) (hs:Rd w (.slice p l.length c) l) (hl:Low l) :
  Calls Tryz.prog 257 #[.slice p l.length c] w fun e w'=>e=.returned (.slice p (eH l).length c)/\w=w':=by
 rcases hs with⟨q,h1,rfl⟩|⟨b,o,c',h1,h2,h3,h4,h5⟩
 ·cases h1
  have HT:Hid (eH []=[]):=by unfold Hid eH;simp[dL]
  go_enter Tryz.func257,Tryz.ntmps257
  go_wp2
  go_loop [0] (fun s=>s=.slice p 0 0) (fun _=>0)
  case atStart=>rfl
  case round =>
   subst hrel
   go_wp2
   go_ret
   exact⟨by rw[HT.out];rfl,rfl⟩
 ·cases h1
  have H5:=bn h5
  have HL:=bn hl
  clear h5 hl
  go_enter Tryz.func257,Tryz.ntmps257
  go_wp2
  go_loop [0,3,4,5,6,7,8,9,10,11,12,13,14,15,16,17,18,19] (fun s _ _ _ _ _ _ _ _ _ _ _ _ _ _ _ _ _=>∃ k:Nat,k<=l.length/\s=.slice (some ⟨b,o,none⟩) k c/\Hid (val (l.take k)=val l))
   (fun s _ _ _ _ _ _ _ _ _ _ _ _ _ _ _ _ _=>match s with | .slice _ k _=>k|_=>0)
  case atStart=>exact⟨l.length,ak _,rfl,by simp[Hid]⟩
  case round =>
   obtain⟨k,hk,rfl,hz⟩:=hrel
   cases k with
   | zero =>
    go_wp2
    go_ret
    exact⟨by rw[xA HL.out (qw _) hz.out (.inl rfl)];rfl,rfl⟩
   | succ k =>
    have hc:=H5.out k (by omega)
    by_cases hg:gr l k=0
    ·have HV:=bn (uU (by omega) hg)
     rw[hg] at hc
     have HG:=bn hg
     clear hg
     go_wp2
     go_round
     case rel=>exact⟨k,by omega,rfl,by unfold Hid;rw[HV.out,hz.out]⟩
     case measure=>simp
    ·have hg':((gr l k:Int)==0)=false:=by simp;omega
     have HG:=bn hg
     clear hg
     go_wp2
     go_ret
     exact⟨by rw[xA HL.out hk hz.out (.inr (by simpa using HG.out)),jy,xu hk];rfl,rfl⟩
def lU (x:Int) (w:World) (e:Ending) (w':World):Prop:=∃ v,e=.returned v/\bW w' v x/\Below w.heap.size w w'
theorem a9O {neg:Bool} {n:Nat} (h:n≠0):decide (sg neg n<0)=neg:=by
 cases neg<;>simp[sg]<;>omega
theorem a2R (neg:Bool) (n:Nat):(sg neg n).natAbs=n:=by cases neg<;>simp[sg]
theorem ZG (neg:Bool):sg neg 0=0:=by cases neg<;>simp[sg]
theorem bW.zero (w:World):bW w (.agg #[.bool false,.slice none 0 0]) 0:=⟨.slice none 0 0,by simp,by simp[dL];exact Rd.nil w⟩
theorem gI (neg:Bool) (s:Value) (l:List Nat) (w:World) (hs:Rd w s l) (hl:Low l) :
  Calls Tryz.prog 190 #[.bool neg,s] w (lU (sg neg (val l)) w):=by
 obtain⟨p,c,rfl,h2,h3⟩:=hs.form
 have hR:Rd w (.slice p (eH l).length c) (eH l):=by
  have:=hs.take (wZ hl)
  rwa [<-VR hl] at this
 have hs1:=hs.alloc (.cells #[.bool false,.slice none 0 0] 45)
 by_cases hz:val l=0
 ·have e0:eH l=[]:=by unfold eH;rw[hz,dL]
  have E0:=bn e0
  rw[hz,ZG]
  clear hz e0
  go_enter Tryz.func190,Tryz.ntmps190
  go_wp2_with (go_at_call 257;refine(RG _ _ l _ hs1 hl).mono ?_;rw[E0.out];rintro e w' ⟨rfl,rfl⟩)
  exact iw (v:=.agg #[.bool false,.slice none 0 0]) (by simp[results,Tryz.results190,go_sem]) rfl ⟨_,rfl,bW.zero _,(bg _ _).alloc (ak _) _⟩
 ·have hp:eH l≠[]:=fun e=>hz (iO.1 e)
  have hp':0<(eH l).length:=oq.2 hp
  have HZ:=bn hz
  generalize ht:eH l=t at *
  have HT:=bn ht
  clear hz hp ht
  go_enter Tryz.func190,Tryz.ntmps190
  go_wp2_with (go_at_call 257;refine(RG _ _ l _ hs1 hl).mono ?_;rw[HT.out];rintro e w' ⟨rfl,rfl⟩)
  refine iw (v:=.agg #[.bool neg,.slice p t.length c]) (by simp[results,Tryz.results190,go_sem]) rfl ⟨_,rfl,⟨_,by rw[a9O HZ.out],?_⟩,?_⟩
  ·rw[a2R,<-eH,HT.out]
   exact hR.below ((bg _ _).alloc (ak _) _)
  ·exact(bg _ _).alloc (ak _) _
theorem gB:(Tryz.prog.info? 148).map (fun i=>(i.zero,i.size,i.bytes))=some (some (.int .u32 0),1,4):=by kernel_rfl
def cells32 (l:List Nat):List Value:=l.map fun g=>.int .u32 (g:Nat)
theorem Rd.bU {w:World} {base:Nat} {v:Value} {l:List Nat} (h:w.ownsRow base 148 1 v l.length (cells32 l)):Rd w v l:=by
 rcases h.2 with⟨rfl,h0⟩|⟨g,cap,cur,rfl,hb,hg,hn,hm,hs,ht⟩
 ·exact .inl ⟨none,rfl,qg h0⟩
 ·refine .inr ⟨g,0,cap,rfl,hn,by simpa [maxLen] using hm,(zk.1 hg).1,fun i hi=>?_⟩
  have:=h.cells (g:=g) rfl i (.int .u32 (gr l i:Nat)) (by simp[cells32,oG hi,hi])
  have e:(⟨g,0,none⟩:Addr).add i=⟨g,0+i,none⟩:=by unfold Addr.add;split<;>simp_all
  rwa [e] at this
theorem uO {n m:Nat} {l:List Nat} (hm:0<m) (h:l++dig m=dig n):(l++[m%1000000000])++dig (m / 1000000000)=dig n:=by
 rw[Ag,<-h,nH (by omega:m≠0)]
 rfl
theorem cell_one_new (w:World) (v:Value) (t:TypeId):∀ j u,[v][j]?=some u->(w.alloc (.cells #[v] t)).cell? ((⟨w.heap.size,0,none⟩:Addr).add j)=some u:=by
 intro j u h
 cases j with
 | zero=>simp at h;subst h;simp[Addr.add,World.cell?_alloc_at]
 | succ j=>simp at h
theorem rF (n:Nat) (w:World) (hn:n<18446744073709551616) :
  Calls Tryz.prog 247 #[.int .u64 (n:Nat)] w fun e w'=>∃ v,e=.returned v/\w'.ownsRow w.heap.size 148 1 v (dig n).length (cells32 (dig n))/\Below w.heap.size w w':=by
 obtain⟨i0,hi,hz0,hz1,hz2⟩:=zh gB
 have HN:=bn hn
 have hlen:(dig n).length<=3:=dV (by rw[bI];omega)
 have HLEN:=bn hlen
 clear hn hlen
 go_enter Tryz.func247,Tryz.ntmps247
 go_wp2
 go_loopw [0,3,4,5,6,7,8,9,10,11,12,13] (fun m v _ _ _ _ _ _ _ _ _ _ wr=>∃ (k:Nat) (l:List Nat),k<=18446744073709551615/\m=.int .u64 (k:Nat)/\Hid (l++dig k=dig n)/\wr.ownsRow w.heap.size 148 1 v l.length (cells32 l)/\Below w.heap.size w wr)
  (fun m _ _ _ _ _ _ _ _ _ _ _ _=>(intOf m).toNat)
 case atStart=>exact⟨n,[],by have:=HN.out;omega,rfl,by simp[Hid],Ah _ _ _ _,bg _ _⟩
 case round =>
  obtain⟨k,l,hk,rfl,hl,hown,hB⟩:=hrel
  by_cases h0:0<k
  ·have HS:=bn (uO h0 hl.out)
   have hll:l.length<=2:=by
    have h1:=zl List.length hl.out
    have h2:=HLEN.out
    rw[dw,nH (by omega:k≠0),List.length_cons] at h1
    omega
   have hsz:=hB.size
   go_wp2_with (at_builtin;refine wz _ rfl _ _ 43 rfl w.heap.size 148 i0 (.int .u32 0) 1 4 jw hi hz0 hz1 hz2 rfl (by decide) _ _ _ rfl (hown.alloc _) ⟨wr.heap.size,0,none⟩ 1 1 [.int .u32 ((k%1000000000:Nat):Int)] rfl rfl ?c1 ?c2 ?c3 ?c4 ?c5 ?_)
   case c1=>exact cell_one_new _ _ _
   case c2=>simp[Value.oneCell']
   case c3=>unfold maxLen;omega
   case c4=>omega
   case c5=>simp;omega
   intro v' w1 hown' hgrow _
   have hown2:w1.ownsRow w.heap.size 148 1 v' (l++[k%1000000000]).length (cells32 (l++[k%1000000000])):=by
    rw[dw,List.length_singleton]
    have:cells32 (l++[k%1000000000])=cells32 l++[.int .u32 ((k%1000000000:Nat):Int)]:=by simp[cells32]
    rw[this];exact hown'
   have hB1:Below w.heap.size w w1:=(hB.alloc hsz _).grown hgrow (by simp;omega) (fun j e=>(hown.lt j e).1)
   clear hown' hgrow
   go_wp2
   go_roundw
   case rel=>exact⟨k / 1000000000,l++[k%1000000000],by omega,by go_num,HS,hown2,hB1⟩
   case measure=>simp[intOf];omega
  ·obtain rfl:k=0:=by omega
   clear h0
   go_wp2
   go_ret
   have e:l=dig n:=by rw[<-hl.out,dL,zo]
   exact⟨_,rfl,by rw[<-e];exact hown,hB⟩
theorem ZU {k:Nat} (hk:k<=9223372036854775808):IntKind.u64.wrap (-IntKind.u64.wrap (-(k:Int)))=k:=by
 simp[IntKind.wrap,IntKind.bits,IntKind.signed];omega
theorem DK (n:Int) (w:World) (h0:-9223372036854775808<=n) (h1:n<=9223372036854775807) :
  Calls Tryz.prog 175 #[.int .i64 n] w (lU n w):=by
 by_cases hn:n<0
 ·obtain⟨k,rfl⟩:∃ k:Nat,n=-(k:Int):=⟨n.natAbs,by omega⟩
  have hk:k<=9223372036854775808:=by omega
  have hk0:0<k:=by omega
  have hlt:decide (-(k:Int)<0)=true:=by simp;omega
  have hw:=ZU hk
  have HX:Hid (sg true (val (dig k))=-(k:Int)):=by unfold Hid;rw[aH];rfl
  clear hn h1 h0
  go_enter Tryz.func175,Tryz.ntmps175
  go_wp2_with fail
  refine(rF k _ (by omega)).mono ?_
  rintro e w1 ⟨v,rfl,hown,hb1⟩
  obtain⟨hc1,hf1⟩:=eY hb1
  have hsz:w.heap.size<w1.heap.size:=by have:=hb1.size;simp at this;omega
  go_wp2_with fail
  refine(gI true _ _ _ (Rd.bU hown) (bH k)).mono ?_
  rw[HX.out]
  rintro e w2 ⟨v2,rfl,hi2,hb2⟩
  obtain⟨g2,p2,n2,c2,rfl⟩:=hi2.form
  obtain⟨hc2,hf2⟩:=eY hb2
  have hsz2:w.heap.size<w2.heap.size:=ni hsz hb2.size
  have hB:Below w.heap.size w w2:=((bg _ _).alloc (ak _) _).trans ((hb1.mono (by simp)).trans (hb2.mono (by omega)))
  go_wp2_with fail
  refine iw (v:=.agg #[.bool g2,.slice p2 n2 c2]) (by simp[results,Tryz.results175,go_sem,hc2,hc1,hsz,hsz2]) rfl ⟨_,rfl,?_,?_⟩
  ·exact hi2.a0e (q:=false) (p:=none) (n:=0) (c:=0) (by simp[hc2,hc1,hsz]) (by simp[hc2,hc1,hsz]) _ _
  ·exact kE hB (ak _) _ _
 ·obtain⟨k,rfl⟩:=uf (Int.not_lt.1 hn)
  have hk:k<=9223372036854775807:=by omega
  have hlt:decide ((k:Int)<0)=false:=by simp
  have HX:Hid (sg false (val (dig k))=(k:Int)):=by unfold Hid;rw[aH];rfl
  clear hn h1 h0
  go_enter Tryz.func175,Tryz.ntmps175
  go_wp2_with fail
  refine(rF k _ (by omega)).mono ?_
  rintro e w1 ⟨v,rfl,hown,hb1⟩
  obtain⟨hc1,hf1⟩:=eY hb1
  have hsz:w.heap.size<w1.heap.size:=by have:=hb1.size;simp at this;omega
  go_wp2_with fail
  refine(gI false _ _ _ (Rd.bU hown) (bH k)).mono ?_
  rw[HX.out]
  rintro e w2 ⟨v2,rfl,hi2,hb2⟩
  obtain⟨g2,p2,n2,c2,rfl⟩:=hi2.form
  obtain⟨hc2,hf2⟩:=eY hb2
  have hsz2:w.heap.size<w2.heap.size:=ni hsz hb2.size
  have hB:Below w.heap.size w w2:=((bg _ _).alloc (ak _) _).trans ((hb1.mono (by simp)).trans (hb2.mono (by omega)))
  go_wp2_with fail
  refine iw (v:=.agg #[.bool g2,.slice p2 n2 c2]) (by simp[results,Tryz.results175,go_sem,hc2,hc1,hsz,hsz2]) rfl ⟨_,rfl,?_,?_⟩
  ·exact hi2.a0e (q:=false) (p:=none) (n:=0) (c:=0) (by simp[hc2,hc1,hsz]) (by simp[hc2,hc1,hsz]) _ _
  ·exact kE hB (ak _) _ _
def b0y (l:List Nat) (w:World) (e:Ending) (w':World):Prop:=∃ v,e=.returned v/\w'.ownsRow w.heap.size 148 1 v l.length (cells32 l)/\Below w.heap.size w w'
theorem lW {w:World} {b o:Nat} {l:List Nat} (h5:∀ i,i<l.length->w.cell? ⟨b,o+i,none⟩=some (.int .u32 (gr l i:Nat))) :
  ∀ j u,(cells32 l)[j]?=some u->w.cell? ((⟨b,o,none⟩:Addr).add j)=some u:=by
 intro j u hj
 have hlt:j<l.length:=by
  have:=(ou.1 hj).1
  simpa [cells32] using this
 have e:(⟨b,o,none⟩:Addr).add j=⟨b,o+j,none⟩:=by unfold Addr.add;split<;>simp_all
 rw[e,h5 j hlt,oG hlt,<-hj]
 simp[cells32,hlt]
theorem iM (l:List Nat):(cells32 l).length=l.length*1:=by simp[cells32]
theorem kF (l:List Nat):∀ u ∈ cells32 l,u.oneCell'=true:=by simp[cells32,Value.oneCell']
theorem DV {P:Program} {w:World} {ops:Array Oper} {rest:List Oper} {o:Oper} {a:Act} {Q:Exit->Act->World->Prop} (hgd:o.guard=none) (s x:Operand) (t:TypeId)
  (hop:o.op=Op.call { callee:=Callee.builtin Builtin.append,args:=#[s,x],argTypes:=#[t,t] })
  (e:TypeId) (i:TypeInfo) (h1:P.underlying t=some (.slice e)) (h2:P.info? e=some i)
  (b:Addr) (hs:a.eval s=.slice (some b) 0 0) {q:Option Addr} (hx:a.eval x=.slice q 0 0)
  (h:wpList P ops Q rest (a.put o.dst (.slice (some b) 0 0)) w):wpList P ops Q (o::rest) a w :=
 wpList_plain hgd fun _ hK=>by
  have hrun:(Builtin.append_ #[t,t] o.type #[.slice (some b) 0 0,.slice q 0 0]).run P w=.ok (.slice (some b) 0 0) w:=by
   cases q<;>simp[Builtin.append_,oz h1,sizeOf,typeInfo,h2,Builtin.lenOf,Builtin.firstCells,loadCells,loadCellsFrom,gy,storeCells]
  unfold Oper.wp
  simp[execOp,hop,resolve,invoke,builtin,hs,hx,hrun,Result.andThen]
  exact hK _ _ h
theorem clone_any (s:Value) (l:List Nat) (w:World) (hs:Rd w s l) (hl:l.length<=1000000000) :
  Calls Tryz.prog 191 #[s] w (b0y l w):=by
 rcases hs with⟨p,rfl,rfl⟩|⟨b,o,c,rfl,h2,h3,h4,h5⟩
 ·cases p with
  | none =>
   have hk:=Lib.run_eql_slice_nil (P:=Tryz.prog) w 43 148 none 0 0 0 0 jw
   go_enter Tryz.func191,Tryz.ntmps191
   go_wp2
   go_ret
   exact⟨_,rfl,Ah _ _ _ _,bg _ _⟩
  | some ad =>
   obtain⟨i0,hi,hz0,hz1,hz2⟩:=zh gB
   have hk:=Lib.run_eql_slice_nil (P:=Tryz.prog) w 43 148 (some ad) 0 0 0 0 jw
   go_enter Tryz.func191,Tryz.ntmps191
   go_wp2_with (at_builtin;refine DV rfl _ _ 43 rfl 148 i0 jw hi _ rfl rfl ?_)
   go_ret
   exact⟨_,rfl,World.ownsRow_made w #[] 0 (ak _) (by simp[maxLen]) (by simp),(bg _ _).alloc (ak _) _⟩
 ·obtain⟨i0,hi,hz0,hz1,hz2⟩:=zh gB
  have hk:=Lib.run_eql_slice_nil (P:=Tryz.prog) w 43 148 (some ⟨b,o,none⟩) l.length c 0 0 jw
  have H5:=bn h5
  clear h5
  go_enter Tryz.func191,Tryz.ntmps191
  go_wp2_with (at_builtin;refine wz _ rfl _ _ 43 rfl w.heap.size 148 i0 (.int .u32 0) 1 4 jw hi hz0 hz1 hz2 rfl (by decide) _ _ _ rfl (World.ownsRow_made w #[] 0 (ak _) (by simp[maxLen]) (by simp)) ⟨b,o,none⟩ l.length c (cells32 l) rfl (iM l) ?c1 (kF l) ?c3 ?c4 ?c5 ?_)
  case c1=>exact lW fun i hi=>(yg _ _ ⟨b,o+i,none⟩ h4).trans (H5.out i hi)
  case c3=>unfold maxLen;omega
  case c4=>omega
  case c5=>simp
  intro v' w1 hown hgrow _
  have hB:Below w.heap.size w w1:=((bg _ _).alloc (ak _) _).grown hgrow (by simp) (fun j e=>by simp[Value.ownBlock] at e;omega)
  clear hgrow
  go_wp2
  go_ret
  exact⟨_,rfl,by simpa using hown,hB⟩
theorem Raw.sign {w:World} {b:Bool} {s:Value} {x:Int} (hv:Raw w (.agg #[.bool b,s]) x) (h:x≠0):b=decide (x<0):=by
 obtain⟨neg,s',l,h1,h2,h3,rfl⟩:=hv
 cases h1
 exact a0k h
theorem vS {w:World} {b:Bool} {s:Value} {x:Int} (hv:Raw w (.agg #[.bool b,s]) x):sg b x.natAbs=x:=by
 by_cases h:x=0
 ·subst h;exact ZG _
 ·have:=hv.sign h
  unfold sg
  subst this
  by_cases h2:x<0<;>simp[h2]<;>omega
theorem b7Q {w:World} {b:Bool} {s:Value} {x:Int} (hv:Raw w (.agg #[.bool b,s]) x):sg (!b) x.natAbs=-x:=by
 have:=vS hv
 unfold sg at *
 cases b<;>simp at this ⊢<;>omega
theorem tX (v:Value) (x:Int) (w:World) (hv:Raw w v x) (hl:isz x<=1000000000) :
  Calls Tryz.prog 97 #[v] w (lU (-x) w):=by
 obtain⟨b,p,n,c,rfl⟩:=hv.form
 have HX:Hid (sg (!b) (val (dig x.natAbs))=-x):=by unfold Hid;rw[aH];exact b7Q hv
 have hv1:=hv.alloc (.cells #[.bool b,.slice p n c] 45)
 have hv2:=hv1.alloc (.cells #[.bool false,.slice none 0 0] 45)
 go_enter Tryz.func97,Tryz.ntmps97
 go_wp2_with fail
 have K:∀ A B:World,(fun w':World=>w'.cell? ⟨w.heap.size,0,none⟩=some (.bool b)/\w'.cell? ⟨w.heap.size,1,none⟩=some (.slice p n c)/\w.heap.size+1<w'.heap.size) A->Below A.heap.size A B->(fun w':World=>w'.cell? ⟨w.heap.size,0,none⟩=some (.bool b)/\w'.cell? ⟨w.heap.size,1,none⟩=some (.slice p n c)/\w.heap.size+1<w'.heap.size) B:=by
  rintro A B ⟨h1,h2,h3⟩ hb
  have hs:=hb.size
  exact⟨by rw[(eY hb).1 _ _ (by omega)];exact h1,by rw[(eY hb).1 _ _ (by omega)];exact h2,by omega⟩
 have K2:∀ (A:World) (u v:Value),(fun w':World=>w'.cell? ⟨w.heap.size,0,none⟩=some (.bool b)/\w'.cell? ⟨w.heap.size,1,none⟩=some (.slice p n c)/\w.heap.size+1<w'.heap.size) A->(fun w':World=>w'.cell? ⟨w.heap.size,0,none⟩=some (.bool b)/\w'.cell? ⟨w.heap.size,1,none⟩=some (.slice p n c)/\w.heap.size+1<w'.heap.size) ((A.setCell ⟨w.heap.size+1,0,none⟩ u).setCell ⟨w.heap.size+1,1,none⟩ v):=by
  rintro A u v ⟨h1,h2,h3⟩
  simp[go_sem,h1,h2,h3]
 have Q0:Bx ((w.alloc (.cells #[.bool b,.slice p n c] 45)).alloc (.cells #[.bool false,.slice none 0 0] 45)).drew (w.heap.size+1) [.bool false,.slice none 0 0]:=by
  have:=Bx.new (w.alloc (.cells #[.bool b,.slice p n c] 45)) [.bool false,.slice none 0 0] 45
  rw[Ae] at this
  exact this.drew
 go_region_held3 (fun w':World=>w'.cell? ⟨w.heap.size,0,none⟩=some (.bool b)/\w'.cell? ⟨w.heap.size,1,none⟩=some (.slice p n c)/\w.heap.size+1<w'.heap.size) (first|(simp;done)|exact K _ _ (by assumption) (by assumption)|exact K2 _ _ _ (by assumption))
  (first
   | (go_at_call 192;refine(dJ _ x _ hv2.drew).mono ?_;rintro e w1 ⟨s1,rfl,hs1,hb1⟩;have Q1:=Q0.to hb1)
   | (go_at_call 191;refine(clone_any _ _ _ hs1 hl).mono ?_;rintro e w2 ⟨s2,rfl,hs2,hb2⟩;have Q2:=Q1.to hb2)
   | (go_at_call 190;refine(gI _ _ _ _ (Rd.bU hs2) (bH _)).mono ?_;rintro e w3 ⟨s3,rfl,hs3,hb3⟩;obtain⟨g3,p3,n3,c3,rfl⟩:=hs3.form;have Q3:=Q2.to hb3;have q0:=Q3.c0;have q1:=Q3.c1;have r0:=Q3.f0;have r1:=Q3.f1))
 go_wp2
 have hB:Below w.heap.size w w3:=(((((bg _ _).alloc (ak _) _).alloc (by simp) _).drew.trans (hb1.mono (by simp;omega))).trans (hb2.mono (by have:=Q1.1;omega))).trans (hb3.mono (by have:=Q2.1;omega))
 refine iw (v:=.agg #[.bool g3,.slice p3 n3 c3]) (by simp[results,Tryz.results97,go_sem,q0,q1]) rfl ⟨_,rfl,?_,kE hB (by omega) _ _⟩
 refine bW.a0e ?_ q0 q1 _ _
 rw[<-HX.out];exact hs3
theorem aW (l:List Nat) (k:Nat):val (l.take (k+1))=val (l.take k)+BB ^ k*gr l k:=by
 by_cases h:k<l.length
 ·rw[List.take_succ_eq_append_getElem h,val_append,jy,xu (by omega),oG h]
  simp[bP]
 ·rw[uQ (by omega),jh (by omega),jh (by omega)]
  simp
theorem dU {l:List Nat} {k:Nat} (h:l.length<=k):val (l.take k)=val l:=by rw[jh h]
theorem eU {l:List Nat} {k v:Nat} (h:k<l.length):(l.set k v).take (k+1)=l.take k++[v]:=by
 rw[List.take_succ_eq_append_getElem (by simpa using h)]
 simp[List.take_set_of_le]
structure lN (a b o:List Nat) (n k c:Nat):Prop where
 len:o.length=n
 low:Low (o.take k)
 vl:val (o.take k)+BB ^ k*c=val (a.take k)+val (b.take k)
 car:c<=1
theorem lN.zero (a b:List Nat) (n:Nat):lN a b (List.replicate n 0) n 0 0:=⟨by simp,by simp[Low.nil],by simp,by omega⟩
theorem lN.PS {a b o:List Nat} {n k c:Nat} (h:lN a b o n k c) (hk:k<n) (hs:gr a k+gr b k+c<1000000000):lN a b (o.set k (gr a k+gr b k+c)) n (k+1) 0:=by
 have hl:k<o.length:=by rw[h.len];exact hk
 refine⟨by simp[h.len],?_,?_,by omega⟩
 ·rw[eU hl];exact Low.append.2 ⟨h.low,Low.cons.2 ⟨hs,Low.nil⟩⟩
 ·rw[eU hl,val_append,aW,aW,jy,xu (by omega)]
  have:=h.vl
  simp only[bP,qV]
  grind
theorem lN.IV {a b o:List Nat} {n k c s:Nat} (h:lN a b o n k c) (ha:gr a k<1000000000) (hb:gr b k<1000000000) (hk:k<n) (hs:gr a k+gr b k+c=s+1000000000):lN a b (o.set k s) n (k+1) 1:=by
 have hl:k<o.length:=by rw[h.len];exact hk
 have hc:=h.car
 refine⟨by simp[h.len],?_,?_,by omega⟩
 ·rw[eU hl];exact Low.append.2 ⟨h.low,Low.cons.2 ⟨by rw[bI];omega,Low.nil⟩⟩
 ·rw[eU hl,val_append,aW,aW,jy,xu (by omega),Nat.pow_succ]
  have:=h.vl
  simp only[bP,qV,bI] at *
  have e:1000000000 ^ k*(gr a k+gr b k+c)=1000000000 ^ k*(s+1000000000):=by rw[hs]
  grind
theorem lN.done {a b o:List Nat} {n c:Nat} (ha:Low a) (hb:Low b) (h:lN a b o n n c) (h1:a.length<n) (h2:b.length<n):Low o/\val o=val a+val b:=by
 have ho:o.take n=o:=jh (by rw[h.len];exact ak _)
 have hv:=h.vl
 have hl:=h.low
 rw[ho] at hl hv
 rw[dU (by omega),dU (by omega)] at hv
 refine⟨hl,?_⟩
 have e1:val a<BB ^ (n-1):=ni (mG ha) (yc gV (by omega))
 have e2:val b<BB ^ (n-1):=ni (mG hb) (yc gV (by omega))
 have e3:BB ^ n=BB ^ (n-1)*BB:=by rw[<-Nat.pow_succ];congr 1;omega
 have hc:c=0\/c=1:=by have:=h.car;omega
 rcases hc with rfl|rfl
 ·simpa using hv
 ·rw[e3,bI] at hv
  rw[bI] at e1 e2
  omega
structure jS (a b o:List Nat) (n k c:Nat):Prop where
 len:o.length=n
 low:Low (o.take k)
 vl:val (o.take k)+val (b.take k)=val (a.take k)+BB ^ k*c
 car:c<=1
theorem jS.zero (a b:List Nat) (n:Nat):jS a b (List.replicate n 0) n 0 0:=⟨by simp,by simp[Low.nil],by simp,by omega⟩
theorem jS.PS {a b o:List Nat} {n k c s:Nat} (h:jS a b o n k c) (ha:gr a k<1000000000) (hk:k<n) (hs:gr a k=s+(gr b k+c)):jS a b (o.set k s) n (k+1) 0:=by
 have hl:k<o.length:=by rw[h.len];exact hk
 refine⟨by simp[h.len],?_,?_,by omega⟩
 ·rw[eU hl];exact Low.append.2 ⟨h.low,Low.cons.2 ⟨by rw[bI];omega,Low.nil⟩⟩
 ·rw[eU hl,val_append,aW,aW,jy,xu (by omega)]
  have:=h.vl
  simp only[bP,qV]
  have e:BB ^ k*gr a k=BB ^ k*(s+(gr b k+c)):=by rw[hs]
  grind
theorem jS.IV {a b o:List Nat} {n k c s:Nat} (h:jS a b o n k c) (hb:gr b k<1000000000) (hk:k<n) (hlt:gr a k<gr b k+c) (hs:gr a k+1000000000=s+(gr b k+c)):jS a b (o.set k s) n (k+1) 1:=by
 have hl:k<o.length:=by rw[h.len];exact hk
 have hc:=h.car
 refine⟨by simp[h.len],?_,?_,by omega⟩
 ·rw[eU hl];exact Low.append.2 ⟨h.low,Low.cons.2 ⟨by rw[bI];omega,Low.nil⟩⟩
 ·rw[eU hl,val_append,aW,aW,jy,xu (by omega),Nat.pow_succ]
  have:=h.vl
  simp only[bP,qV,bI] at *
  have e:1000000000 ^ k*(gr a k+1000000000)=1000000000 ^ k*(s+(gr b k+c)):=by rw[hs]
  grind
theorem jS.done {a b o:List Nat} {n c:Nat} (h:jS a b o n n c) (h1:a.length<=n) (h2:b.length<=n) (hle:val b<=val a):Low o/\val o=val a-val b:=by
 have ho:o.take n=o:=jh (by rw[h.len];exact ak _)
 have hv:=h.vl
 have hl:=h.low
 rw[ho] at hl hv
 rw[dU (by omega),dU (by omega)] at hv
 refine⟨hl,?_⟩
 have e1:val o<BB ^ n:=by have:=mG hl;rwa [h.len] at this
 have hc:c=0\/c=1:=by have:=h.car;omega
 rcases hc with rfl|rfl
 ·omega
 ·rw[bI] at hv e1
  omega
theorem yP {l:List Nat} {k m v:Nat} (h:k<l.length):gr (l.set k v) m=if m=k then v else gr l m:=by
 unfold gr
 rw[dh,dh,List.getElem?_set]
 by_cases e:k=m
 ·subst e;simp[h]
 ·simp[e,Ne.symm e]
theorem low_set {l:List Nat} {k v:Nat} (h:Low l) (hv:v<1000000000):Low (l.set k v):=by
 intro g hg
 rcases List.mem_or_eq_of_mem_set hg with h1|h1
 ·exact h g h1
 ·subst h1;rw[bI];exact hv
theorem a1B {l:List Nat} {k m v:Nat} (h:m<=k):(l.set k v).take m=l.take m:=by
 simp[List.take_set_of_le h]
structure kZ (a b o:List Nat) (n i:Nat):Prop where
 len:o.length=n
 low:Low o
 zero:∀ m,i+b.length<=m->gr o m=0
 vl:val (o.take (i+b.length))=val (a.take i)*val b
structure kQ (o0 b o:List Nat) (n i p j c:Nat):Prop where
 len:o.length=n
 low:Low o
 same:∀ m,i+j<=m->gr o m=gr o0 m
 vl:val (o.take (i+j))+BB ^ (i+j)*c=val (o0.take (i+j))+BB ^ i*p*val (b.take j)
 car:c<1000000000
theorem EO (n m:Nat):gr (List.replicate n 0) m=0:=by
 unfold gr
 rw[dh,List.getElem?_replicate]
 split<;>rfl
theorem JU (n:Nat):val (List.replicate n 0)=0:=by
 induction n with
 | zero=>rfl
 | succ n ih=>rw[List.replicate_succ,bP,ih];simp
theorem kZ.start (a b:List Nat) (n:Nat):kZ a b (List.replicate n 0) n 0 :=
 ⟨by simp,fun g hg=>by rw[(Di.1 hg).2];exact gV,fun m _=>EO n m,by rw[List.take_replicate,JU];simp⟩
theorem kQ.start {o0 b:List Nat} {n i p:Nat} (h1:o0.length=n) (h2:Low o0):kQ o0 b o0 n i p 0 0:=⟨h1,h2,fun _ _=>rfl,by simp,by omega⟩
theorem kQ.step {o0 b o:List Nat} {n i p j c:Nat} (h:kQ o0 b o n i p j c) (hp:p<1000000000) (hq:gr b j<1000000000) (hk:i+j<n) :
  kQ o0 b (o.set (i+j) ((gr o (i+j)+p*gr b j+c)%1000000000)) n i p (j+1) ((gr o (i+j)+p*gr b j+c) / 1000000000):=by
 have hl:i+j<o.length:=by rw[h.len];exact hk
 have hc:=h.car
 have hg:=CV h.low (i+j)
 have hm:p*gr b j<=999999999*999999999:=vw (by omega) (by omega)
 refine⟨by simp[h.len],low_set h.low (wu _ (by omega)),?_,?_,by omega⟩
 ·intro m hm
  rw[yP hl,jk (by omega)]
  exact h.same m (by omega)
 ·have e1:=h.vl
  have e2:=h.same (i+j) (ak _)
  have e3:=aW o0 (i+j)
  have e4:=aW b j
  rw[show i+(j+1)=(i+j)+1 from by omega,eU hl,val_append,jy,xu (by omega),e3,e4,<-e2]
  simp only[bP,qV]
  have e5:=Nat.mod_add_div (gr o (i+j)+p*gr b j+c) 1000000000
  generalize (gr o (i+j)+p*gr b j+c)%1000000000=r at *
  generalize (gr o (i+j)+p*gr b j+c) / 1000000000=d at *
  rw[Nat.pow_succ,Dj] at *
  rw[bI] at *
  have e6:1000000000 ^ i*1000000000 ^ j*(r+1000000000*d)=1000000000 ^ i*1000000000 ^ j*(gr o (i+j)+p*gr b j+c):=by rw[e5]
  grind
theorem kQ.done {a b o0 o:List Nat} {n i c:Nat} (h0:kZ a b o0 n i) (h:kQ o0 b o n i (gr a i) b.length c) (hi:i+b.length<n):kZ a b (o.set (i+b.length) c) n (i+1):=by
 have hl:i+b.length<o.length:=by rw[h.len];exact hi
 refine⟨by simp[h.len],low_set h.low h.car,?_,?_⟩
 ·intro m hm
  rw[yP hl,jk (by omega),h.same m (by omega)]
  exact h0.zero m (by omega)
 ·have e1:=h.vl
  have e2:=h0.vl
  have e3:=aW a i
  rw[show i+1+b.length=(i+b.length)+1 from by omega,eU hl,val_append,jy,xu (by omega),e3]
  rw[dU (ak b.length)] at e1
  simp only[bP,qV]
  grind
theorem kZ.done {a b o:List Nat} {n:Nat} (h:kZ a b o n a.length) (hn:n=a.length+b.length):val o=val a*val b:=by
 have:=h.vl
 rwa [jh (by rw[h.len];omega),dU (ak _)] at this
end Go.Proofs.YtbkocjmmbkifjaaGreat
