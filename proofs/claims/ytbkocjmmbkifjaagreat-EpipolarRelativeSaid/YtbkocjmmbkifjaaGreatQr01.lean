/-
  Lemmas for the theorem vrelative28_holds, part 1 of 35.
-/
import Derived.Deep.RegionHeld3
import Derived.Lib.Hide
import Derived.Lib.SliceRun
import Derived.ProofKit
import Derived.Test.YtbkocjmmbkifjaaGreatProg
import Derived.WalkKit
namespace Go.Proofs.YtbkocjmmbkifjaaGreat
open Go Go.RowKit
theorem tu:type_of% @List.mem_append:=@List.mem_append
theorem Dx:type_of% @List.mem_of_mem_take:=@List.mem_of_mem_take
theorem bg:type_of% @List.getD_eq_getElem?_getD:=@List.getD_eq_getElem?_getD
theorem Dh:type_of% @List.mem_of_getElem?:=@List.mem_of_getElem?
theorem xg:type_of% @Nat.mod_lt:=@Nat.mod_lt
theorem ah:type_of% @Option.some.injEq:=@Option.some.injEq
theorem Ef:type_of% @Nat.mod_eq_of_lt:=@Nat.mod_eq_of_lt
theorem Ez:type_of% @Nat.div_eq_of_lt:=@Nat.div_eq_of_lt
theorem qg:type_of% @Nat.zero_add:=@Nat.zero_add
theorem xw:type_of% @Nat.mul_le_mul_left:=@Nat.mul_le_mul_left
theorem vw:type_of% @Nat.mul_comm:=@Nat.mul_comm
theorem qh:type_of% @Nat.lt_of_lt_of_le:=@Nat.lt_of_lt_of_le
theorem vg:type_of% @Nat.pow_le_pow_right:=@Nat.pow_le_pow_right
theorem Ad:type_of% @Nat.lt_or_ge:=@Nat.lt_or_ge
theorem aj:type_of% @Nat.le_refl:=@Nat.le_refl
theorem En:type_of% @Nat.pow_add:=@Nat.pow_add
theorem Ei:type_of% @Int.natAbs_mul:=@Int.natAbs_mul
theorem au:type_of% @Nat.le_trans:=@Nat.le_trans
theorem qm:type_of% @List.getElem?_eq_none:=@List.getElem?_eq_none
theorem uq:type_of% @List.getElem_mem:=@List.getElem_mem
theorem gy:type_of% @Below.refl:=@Below.refl
theorem jk:type_of% @List.length_take:=@List.length_take
theorem yc:type_of% @List.length_pos_iff:=@List.length_pos_iff
theorem dw:type_of% @List.getElem?_eq_getElem:=@List.getElem?_eq_getElem
theorem dn:type_of% @if_pos:=@if_pos
theorem bn:type_of% @if_neg:=@if_neg
theorem uf:type_of% @Int.eq_ofNat_of_zero_le:=@Int.eq_ofNat_of_zero_le
theorem yx:type_of% @List.any_eq_true:=@List.any_eq_true
theorem Dn:type_of% @List.getElem_of_mem:=@List.getElem_of_mem
theorem bf:type_of% @Lib.hid:=@Lib.hid
theorem qw:type_of% @congrArg:=@congrArg
theorem zf:type_of% @Nat.min_eq_left:=@Nat.min_eq_left
theorem ru:type_of% @Nat.zero_le:=@Nat.zero_le
theorem xk:type_of% @bodyPost_ret:=@bodyPost_ret
theorem ng:type_of% @List.eq_nil_of_length_eq_zero:=@List.eq_nil_of_length_eq_zero
theorem Ah:type_of% @Array.getElem?_eq_some_iff:=@Array.getElem?_eq_some_iff
theorem Ar:type_of% @List.append_assoc:=@List.append_assoc
theorem Ag:type_of% @info_parts:=@info_parts
theorem Bg:type_of% @World.ownsRow_nil:=@World.ownsRow_nil
theorem dh:type_of% @List.length_append:=@List.length_append
theorem yh:type_of% @wpList_append_own:=@wpList_append_own
theorem ji:type_of% @Tryz.underlying43:=@Tryz.underlying43
theorem Aj:type_of% @List.append_nil:=@List.append_nil
theorem jy:type_of% @List.getElem?_eq_some_iff:=@List.getElem?_eq_some_iff
theorem ku:type_of% @run_underlying:=@run_underlying
theorem eu:type_of% @Sem.run_bind:=@Sem.run_bind
theorem zy:type_of% @World.cell?_alloc_lt:=@World.cell?_alloc_lt
theorem jf:type_of% @List.take_of_length_le:=@List.take_of_length_le
theorem Em:type_of% @List.mem_replicate:=@List.mem_replicate
theorem uy:type_of% @Nat.mul_le_mul:=@Nat.mul_le_mul
theorem Eh:type_of% @wpList_make_full:=@wpList_make_full
def BB:Nat:=1000000000
theorem gU:0<BB:=by unfold BB;omega
theorem bV:BB=1000000000:=rfl
theorem b8Z:1<BB:=by unfold BB;omega
theorem EF {n:Nat} (h:n≠0):n / BB<n:=Nat.div_lt_self (Nat.pos_of_ne_zero h) b8Z
def val:List Nat->Nat
 | []=>0
 | g::l=>g+BB*val l
@[simp] theorem uG:val []=0:=rfl
theorem dA (g:Nat) (l:List Nat):val (g::l)=g+BB*val l:=rfl
theorem val_append (a b:List Nat):val (a++b)=val a+BB ^ a.length*val b:=by
 induction a with
 | nil=>simp
 | cons g a ih =>
  simp only[List.cons_append,dA,ih,List.length_cons,Nat.pow_succ];grind
def dig (n:Nat):List Nat:=if _h:n=0 then [] else n%BB::dig (n / BB)
termination_by n
decreasing_by exact EF (by assumption)
theorem dX:dig 0=[]:=by rw[dig];simp
theorem pU {n:Nat} (h:n≠0):dig n=n%BB::dig (n / BB):=by rw[dig];simp[h]
def Low (l:List Nat):Prop:=∀ g ∈ l,g<BB
def Canon (l:List Nat):Prop:=Low l/\l.getLast?≠some 0
theorem Low.nil:Low []:=by simp[Low]
theorem Low.cons {g:Nat} {l:List Nat}:Low (g::l)↔g<BB/\Low l:=by simp[Low]
theorem Low.append {a b:List Nat}:Low (a++b)↔Low a/\Low b:=by simp only[Low,tu];exact⟨fun h=>⟨fun g hg=>h g (.inl hg),fun g hg=>h g (.inr hg)⟩,fun h g hg=>hg.elim (h.1 g) (h.2 g)⟩
theorem Low.take {l:List Nat} (h:Low l) (n:Nat):Low (l.take n):=fun g hg=>h g (Dx hg)
theorem Low.drop {l:List Nat} (h:Low l) (n:Nat):Low (l.drop n):=fun g hg=>h g (List.mem_of_mem_drop hg)
theorem Low.get {l:List Nat} (h:Low l) (i:Nat):l.getD i 0<BB:=by
 rw[bg];cases hi:l[i]? with
 | none=>simp[gU]
 | some g=>simpa using h g (Dh hi)
theorem bM (n:Nat):val (dig n)=n:=by
 induction n using Nat.strongRecOn with
 | _ n ih =>
  by_cases h:n=0
  ·subst h;rw[dX];rfl
  ·rw[pU h,dA,ih _ (EF h)];exact Nat.mod_add_div n BB
theorem bZ (n:Nat):Low (dig n):=by
 induction n using Nat.strongRecOn with
 | _ n ih =>
  by_cases h:n=0
  ·subst h;rw[dX];exact Low.nil
  ·rw[pU h];exact Low.cons.2 ⟨xg _ gU,ih _ (EF h)⟩
theorem jA {n:Nat}:dig n=[]↔n=0:=by
 by_cases h:n=0
 ·simp[h,dX]
 ·simp[pU h,h]
theorem b0G (n:Nat):(dig n).getLast?≠some 0:=by
 induction n using Nat.strongRecOn with
 | _ n ih =>
  by_cases h:n=0
  ·subst h;rw[dX];simp
  ·rw[pU h];by_cases h1:n / BB=0
   ·rw[h1,dX];simp only[List.getLast?_singleton,ne_eq,ah];have:=Nat.mod_add_div n BB;rw[h1] at this;omega
   ·have h2:dig (n / BB)≠[]:=fun e=>h1 (jA.1 e);rw[List.getLast?_cons];have:=ih _ (EF h);cases h3:(dig (n / BB)).getLast? with
    | none=>exact absurd (List.getLast?_eq_none_iff.1 h3) h2
    | some g=>rw[h3] at this;simpa using this
theorem dJ (n:Nat):Canon (dig n):=⟨bZ n,b0G n⟩
theorem Canon.tail {g:Nat} {l:List Nat} (h:Canon (g::l)):Canon l:=by refine⟨(Low.cons.1 h.1).2,fun e=>h.2 ?_⟩;rw[List.getLast?_cons,e];rfl
theorem Canon.b7D {l:List Nat} (h:Canon l) (hl:l≠[]):0<val l:=by
 induction l with
 | nil=>exact absurd rfl hl
 | cons g l ih =>
  rw[dA];by_cases hn:l=[]
  ·subst hn;have:=h.2;simp at this;omega
  ·have:=ih h.tail hn;have:=Nat.mul_pos gU this;omega
theorem dP {l:List Nat} (h:Canon l):dig (val l)=l:=by
 induction l with
 | nil=>rw[uG,dX]
 | cons g l ih =>
  have hp:=h.b7D (by simp);have hg:=(Low.cons.1 h.1).1;rw[pU (by omega),dA,Nat.add_mul_mod_self_left,Ef hg,Nat.add_mul_div_left _ _ gU,Ez hg,qg,ih h.tail]
def fA (l:List Nat):List Nat:=dig (val l)
theorem a0g {l:List Nat} (h:Low l):fA l=l.take (fA l).length:=by
 unfold fA
 induction l with
 | nil=>simp[dX]
 | cons g l ih =>
  have hg:=(Low.cons.1 h).1;rw[dA];by_cases h0:g+BB*val l=0
  ·rw[h0,dX];simp
  ·rw[pU h0,Nat.add_mul_mod_self_left,Ef hg,Nat.add_mul_div_left _ _ gU,Ez hg,qg,List.length_cons,List.take_succ_cons,<-ih (Low.cons.1 h).2]
theorem mG {l:List Nat} (h:Low l):val l<BB ^ l.length:=by
 induction l with
 | nil=>simp
 | cons g l ih =>
  have h1:=Low.cons.1 h;have h2:=ih h1.2;rw[dA,List.length_cons,Nat.pow_succ];have:BB*(val l+1)<=BB*BB ^ l.length:=xw _ h2;rw[vw BB (BB ^ l.length)] at this;have h3:=h1.1;have h4:BB*(val l+1)=BB*val l+BB:=by rw[Nat.mul_add,Nat.mul_one]
  omega
theorem dS {n k:Nat} (h:n<BB ^ k):(dig n).length<=k:=by
 induction k generalizing n with
 | zero=>simp at h;subst h;simp[dX]
 | succ k ih =>
  by_cases h0:n=0
  ·subst h0;simp[dX]
  ·rw[pU h0,List.length_cons];have:n / BB<BB ^ k:=by rw[Nat.div_lt_iff_lt_mul gU,<-Nat.pow_succ];exact h
   have:=ih this;omega
theorem iV {n k:Nat} (h:(dig n).length<=k):n<BB ^ k:=by have h1:=mG (bZ n);rw[bM] at h1;exact qh h1 (vg gU h)
theorem qW {n k:Nat} (h:k<(dig n).length):BB ^ k<=n:=by
 rcases Ad n (BB ^ k) with h1|h1
 ·have:=dS h1;omega
 ·exact h1
theorem aX {m n:Nat} (h:m<=n):(dig m).length<=(dig n).length :=
 dS (Nat.lt_of_le_of_lt h (iV (aj _)))
theorem zB {l:List Nat} (h:Low l):(fA l).length<=l.length:=dS (mG h)
def nsz (n:Nat):Nat:=(dig n).length
theorem b2E:nsz 0=0:=by simp[nsz,dX]
theorem ER (a b:Nat):nsz (a*b)<=nsz a+nsz b:=by refine dS ?_;rw[En];exact Nat.mul_lt_mul'' (iV (aj _)) (iV (aj _))
theorem KO {m n:Nat} (h:m<=n):nsz m<=nsz n:=aX h
theorem a6R (a b:Nat):nsz (a+b)<=max (nsz a) (nsz b)+1:=by
 refine dS ?_;have h1:a<BB ^ max (nsz a) (nsz b):=iV (Nat.le_max_left _ _);have h2:b<BB ^ max (nsz a) (nsz b):=iV (Nat.le_max_right _ _);rw[Nat.pow_succ,bV] at *
 omega
def isz (x:Int):Nat:=nsz x.natAbs
theorem KD:isz 0=0:=b2E
theorem kR (x:Int):isz (-x)=isz x:=by simp[isz]
theorem iC (x y:Int):isz (x*y)<=isz x+isz y:=by unfold isz;rw[Ei];exact ER _ _
theorem yP (x y:Int):isz (x+y)<=max (isz x) (isz y)+1 :=
 au (KO (Int.natAbs_add_le x y)) (a6R _ _)
theorem a1f (x y:Int):isz (x-y)<=max (isz x) (isz y)+1:=by have:=yP x (-y);rw[kR] at this;exact this
theorem BJ {x y:Int} (h:x.natAbs<=y.natAbs):isz x<=isz y:=KO h
theorem BI {x:Int} {k:Nat} (h:x.natAbs<BB ^ k):isz x<=k:=dS h
def gr (l:List Nat) (i:Nat):Nat:=l.getD i 0
theorem wY {l:List Nat} {i:Nat} (h:l.length<=i):gr l i=0:=by simp[gr,qm h]
theorem qL {l:List Nat} {i:Nat} (h:i<l.length):gr l i=l[i]:=by simp[gr,h]
theorem GY {l:List Nat} (h:Low l) (i:Nat):gr l i<1000000000:=h.get i
theorem gJ {l:List Nat} (h:Low l) (i:Nat):gr l i<=999999999:=by have:=GY h i;omega
theorem EJ {l:List Nat} {i k:Nat} (h:i<k):gr (l.take k) i=gr l i:=by simp[gr,h]
theorem b1k {l:List Nat} {i:Nat} (h:i<l.length):gr l i ∈ l:=by rw[qL h];exact uq h
def sg (neg:Bool) (n:Nat):Int:=if neg then -(n:Int) else n
theorem kJ {k:IntKind} {a b:Int} (h:a=b):Ending.returned (.int k a)=.returned (.int k b):=by rw[h]
theorem vP {a b:Bool} (h:a=b):Ending.returned (.bool a)=.returned (.bool b):=by rw[h]
def Rd (w:World) (s:Value) (l:List Nat):Prop :=
 (∃ p,s=.slice p 0 0/\l=[]) \/
 ∃ b o c,s=.slice (some ⟨b,o,none⟩) l.length c/\l.length<=c/\c<=9223372036854775807/\b<w.heap.size /\
  ∀ i,i<l.length->w.cell? ⟨b,o+i,none⟩=some (.int .u32 (gr l i:Nat))
theorem Rd.below {w w':World} {s:Value} {l:List Nat} (h:Rd w s l) (hb:Below w.heap.size w w'):Rd w' s l:=by
 rcases h with h|⟨b,o,c,h1,h2,h3,h4,h5⟩
 ·exact .inl h
 ·exact .inr ⟨b,o,c,h1,h2,h3,qh h4 hb.size,fun i hi=>(hb.cell (p:=⟨b,o+i,none⟩) h4).trans (h5 i hi)⟩
theorem Rd.nil (w:World):Rd w (.slice none 0 0) []:=.inl ⟨none,rfl,rfl⟩
theorem Rd.alloc {w:World} {s:Value} {l:List Nat} (h:Rd w s l) (o:Obj):Rd (w.alloc o) s l:=h.below ((gy _ _).alloc (aj _) _)
theorem Rd.form {w:World} {s:Value} {l:List Nat} (h:Rd w s l):∃ p c,s=.slice p l.length c/\l.length<=c/\c<=9223372036854775807:=by
 rcases h with⟨p,rfl,rfl⟩|⟨b,o,c,h1,h2,h3,h4,h5⟩
 ·exact⟨p,0,rfl,aj _,by omega⟩
 ·exact⟨_,c,h1,h2,h3⟩
theorem Rd.take {w:World} {p:Option Addr} {c:Nat} {l:List Nat} (h:Rd w (.slice p l.length c) l) {k:Nat} (hk:k<=l.length):Rd w (.slice p k c) (l.take k):=by
 have hl:(l.take k).length=k:=by rw[jk];omega
 rcases h with⟨q,h1,rfl⟩|⟨b,o,c',h1,h2,h3,h4,h5⟩
 ·cases h1;simp at hk;subst hk;exact .inl ⟨_,rfl,rfl⟩
 ·cases h1;refine .inr ⟨b,o,c,by rw[hl],by rw[hl];omega,h3,h4,fun i hi=>?_⟩;rw[hl] at hi;rw[h5 i (by omega),EJ hi]
theorem Rd.drew {w:World} {s:Value} {l:List Nat} (h:Rd w s l):Rd w.drew s l:=h.below (gy _ _).drew
theorem zI {B:Nat} {W w1:World} (hb:Below B W w1):(∀ b o,b<B->w1.cell? ⟨b,o,none⟩=W.cell? ⟨b,o,none⟩)/\(∀ b o,b<B->w1.frozen? ⟨b,o,none⟩=W.frozen? ⟨b,o,none⟩) :=
 ⟨fun b o h=>hb.cell (p:=⟨b,o,none⟩) h,fun b o h=>hb.frozen (p:=⟨b,o,none⟩) h⟩
def Bx (w:World) (b:Nat) (cs:List Value):Prop:=b<w.heap.size/\∀ i u,cs[i]?=some u->w.cell? ⟨b,i,none⟩=some u/\w.frozen? ⟨b,i,none⟩=false
theorem Bx.below {w w':World} {b:Nat} {cs:List Value} (h:Bx w b cs) {B:Nat} (hb:Below B w w') (hB:b<B):Bx w' b cs :=
 ⟨qh h.1 hb.size,fun i u hu=>⟨(hb.cell (p:=⟨b,i,none⟩) hB).trans (h.2 i u hu).1,(hb.frozen (p:=⟨b,i,none⟩) hB).trans (h.2 i u hu).2⟩⟩
theorem Bx.to {w w':World} {b:Nat} {cs:List Value} (h:Bx w b cs) (hb:Below w.heap.size w w'):Bx w' b cs:=h.below hb h.1
theorem Bx.new (w:World) (cs:List Value) (t:TypeId):Bx (w.alloc (.cells cs.toArray t)) w.heap.size cs :=
 ⟨by simp,fun i u hu=>⟨by rw[World.cell?_alloc_at _ _ _ _ rfl];simpa using hu,World.frozen?_alloc_at _ _ _ _ rfl⟩⟩
theorem Bx.alloc {w:World} {b:Nat} {cs:List Value} (h:Bx w b cs) (o:Obj):Bx (w.alloc o) b cs:=h.to ((gy _ _).alloc (aj _) _)
theorem Bx.drew {w:World} {b:Nat} {cs:List Value} (h:Bx w b cs):Bx w.drew b cs:=h.to (gy _ _).drew
theorem Bx.c0 {w:World} {b:Nat} {u0:Value} {cs:List Value} (h:Bx w b (u0::cs)):w.cell? ⟨b,0,none⟩=some u0:=(h.2 0 u0 rfl).1
theorem Bx.f0 {w:World} {b:Nat} {u0:Value} {cs:List Value} (h:Bx w b (u0::cs)):w.frozen? ⟨b,0,none⟩=false:=(h.2 0 u0 rfl).2
theorem Bx.c1 {w:World} {b:Nat} {u0 u1:Value} {cs:List Value} (h:Bx w b (u0::u1::cs)):w.cell? ⟨b,1,none⟩=some u1:=(h.2 1 u1 rfl).1
theorem Bx.f1 {w:World} {b:Nat} {u0 u1:Value} {cs:List Value} (h:Bx w b (u0::u1::cs)):w.frozen? ⟨b,1,none⟩=false:=(h.2 1 u1 rfl).2
def LW (neg:Bool) (l:List Nat):Bool:=match l with
 | []=>!neg
 | _=>decide (gr l (l.length-1)≠0)&&!l.any (fun g=>decide (1000000000<=g))
theorem a3U (neg:Bool):LW neg []=!neg:=rfl
theorem a1Q {neg:Bool} {l:List Nat} (h:l≠[]):LW neg l=(decide (gr l (l.length-1)≠0)&&!l.any (fun g=>decide (1000000000<=g))):=by
 cases l with
 | nil=>exact absurd rfl h
 | cons=>rfl
theorem QO {l:List Nat} (h:l≠[]):l.getLast?=some (gr l (l.length-1)):=by have:0<l.length:=yc.2 h;rw[List.getLast?_eq_getElem?,qL (by omega)];exact dw _
theorem LX {neg:Bool} {l:List Nat}:LW neg l=true↔Canon l/\(l=[]->neg=false):=by
 by_cases h:l=[]
 ·subst h;simp[a3U,Canon,Low]
 ·rw[a1Q h,Canon,QO h];simp[Low,bV,h];exact⟨fun⟨a,b⟩=>⟨b,a⟩,fun⟨a,b⟩=>⟨b,a⟩⟩
def cnt (neg:Bool) (l:List Nat):Int:=if LW neg l then (if neg then -(val l:Int) else val l) else 0
def cgs (neg:Bool) (l:List Nat):List Nat:=if LW neg l then l else []
theorem a0Q (neg:Bool) (l:List Nat):dig (cnt neg l).natAbs=cgs neg l:=by
 unfold cnt cgs;by_cases h:LW neg l=true
 ·have hc:=(LX.1 h).1;rw[dn h,dn h];cases neg<;>simp[dP hc]
 ·rw[bn h,bn h];exact dX
theorem a2h {neg:Bool} {l:List Nat} (h:cnt neg l≠0):neg=decide (cnt neg l<0):=by
 unfold cnt at *
 by_cases hv:LW neg l=true
 ·rw[dn hv] at h ⊢;cases neg
  ·simp
  ·simp at h ⊢;omega
 ·rw[bn hv] at h;exact absurd rfl h
def Raw (w:World) (v:Value) (x:Int):Prop :=
 ∃ neg s l,v=.agg #[.bool neg,s]/\Rd w s l/\(∀ g ∈ l,g<4294967296)/\x=cnt neg l
def eY (w:World) (v:Value) (x:Int):Prop:=∃ s,v=.agg #[.bool (decide (x<0)),s]/\Rd w s (dig x.natAbs)
theorem eY.form {w:World} {v:Value} {x:Int} (h:eY w v x):∃ b p n c,v=.agg #[.bool b,.slice p n c]:=by obtain⟨s,rfl,h2⟩:=h;obtain⟨p,c,rfl,_,_⟩:=h2.form;exact⟨_,_,_,_,rfl⟩
theorem Raw.form {w:World} {v:Value} {x:Int} (h:Raw w v x):∃ b p n c,v=.agg #[.bool b,.slice p n c]:=by obtain⟨neg,s,l,rfl,h2,_⟩:=h;obtain⟨p,c,rfl,_,_⟩:=h2.form;exact⟨_,_,_,_,rfl⟩
theorem Raw.below {w w':World} {v:Value} {x:Int} (h:Raw w v x) (hb:Below w.heap.size w w'):Raw w' v x:=by obtain⟨neg,s,l,h1,h2,h3,h4⟩:=h;exact⟨neg,s,l,h1,h2.below hb,h3,h4⟩
theorem eY.below {w w':World} {v:Value} {x:Int} (h:eY w v x) (hb:Below w.heap.size w w'):eY w' v x:=by obtain⟨s,h1,h2⟩:=h;exact⟨s,h1,h2.below hb⟩
theorem Raw.alloc {w:World} {v:Value} {x:Int} (h:Raw w v x) (o:Obj):Raw (w.alloc o) v x:=h.below ((gy _ _).alloc (aj _) _)
theorem Raw.drew {w:World} {v:Value} {x:Int} (h:Raw w v x):Raw w.drew v x:=h.below (gy _ _).drew
theorem eY.drew {w:World} {v:Value} {x:Int} (h:eY w v x):eY w.drew v x:=h.below (gy _ _).drew
def fF:Value->Bool
 | .int .u32 _=>false
 | _=>true
theorem Rd.NV {w:World} {s:Value} {l:List Nat} (h:Rd w s l) {a:Addr} {u:Value} (hc:w.cell? a=some u) (hu:fF u=true) (u':Value):Rd (w.setCell a u') s l:=by
 rcases h with h|⟨b,o,c,h1,h2,h3,h4,h5⟩
 ·exact .inl h
 ·refine .inr ⟨b,o,c,h1,h2,h3,by simpa [World.setCell] using h4,fun i hi=>?_⟩;by_cases e:a=⟨b,o+i,none⟩
  ·subst e;rw[h5 i hi] at hc;cases hc;simp[fF] at hu
  ·rw[World.cell?_setCell_other _ _ _ _ (by simpa using e)];exact h5 i hi
theorem eY.NV {w:World} {v:Value} {x:Int} (h:eY w v x) {a:Addr} {u:Value} (hc:w.cell? a=some u) (hu:fF u=true) (u':Value):eY (w.setCell a u') v x:=by obtain⟨s,h1,h2⟩:=h;exact⟨s,h1,h2.NV hc hu u'⟩
theorem eY.c4F {w:World} {v:Value} {x:Int} (h:eY w v x) {B:Nat} {q:Bool} {p:Option Addr} {n c:Nat} (h0:w.cell? ⟨B,0,none⟩=some (.bool q)) (h1:w.cell? ⟨B,1,none⟩=some (.slice p n c)) (a b:Value) :
  eY ((w.setCell ⟨B,0,none⟩ a).setCell ⟨B,1,none⟩ b) v x :=
 (h.NV h0 rfl a).NV (a:=⟨B,1,none⟩) (u:=.slice p n c) (by rw[World.cell?_setCell_other _ _ _ _ (by simp)];exact h1) rfl b
theorem SH {w w':World} {B B':Nat} (h:Below B w w') (hB:B<=B') (a b:Value):Below B w ((w'.setCell ⟨B',0,none⟩ a).setCell ⟨B',1,none⟩ b) :=
 (h.setCell (p:=⟨B',0,none⟩) hB a).setCell (p:=⟨B',1,none⟩) hB b
theorem a3T (x:Int):LW (decide (x<0)) (dig x.natAbs)=true:=by rw[LX];refine⟨dJ _,fun h=>?_⟩;rw[jA] at h;simp;omega
theorem a5U (x:Int):cnt (decide (x<0)) (dig x.natAbs)=x:=by unfold cnt;rw[dn (a3T x),bM];by_cases h:x<0<;>simp[h]<;>omega
theorem eY.raw {w:World} {v:Value} {x:Int} (h:eY w v x):Raw w v x:=by obtain⟨s,h1,h2⟩:=h;exact⟨_,s,_,h1,h2,fun g hg=>by have:=bZ _ g hg;rw[bV] at this;omega,(a5U x).symm⟩
set_option maxRecDepth 100000
set_option maxHeartbeats 400000
set_option linter.unusedSimpArgs false
set_option linter.unusedVariables false
theorem a9P (s:Value) (l:List Nat) (i:Int) (w:World) (hs:Rd w s l) (h0:0<=i) :
  Calls Tryz.prog 279 #[s,.int .i64 i] w fun e w'=>e=.returned (.int .u32 (gr l i.toNat:Nat))/\w=w':=by
 obtain⟨n,rfl⟩:=uf h0;rw[Int.toNat_natCast];clear h0;rcases hs with⟨p,rfl,rfl⟩|⟨b,o,c,rfl,h2,h3,h4,h5⟩
 ·have h8:decide ((n:Int)<0)=false:=by simp
  go_enter Tryz.func279,Tryz.ntmps279
  go_wp2_with fail
  go_ret
  exact⟨by simp[gr],rfl⟩
 ·by_cases hn:n<l.length
  ·have h6:=h5 n hn;clear h5
   go_enter Tryz.func279,Tryz.ntmps279
   go_wp2
   go_ret
   exact⟨rfl,rfl⟩
  ·clear h5
   go_enter Tryz.func279,Tryz.ntmps279
   go_wp2
   go_ret
   exact⟨by rw[wY (by omega)];rfl,rfl⟩
theorem WH (g:Nat) (w:World) :
  Calls Tryz.prog 264 #[.int .u32 (g:Nat)] w fun e w'=>e=.returned (.bool (decide (1000000000<=g)))/\w=w':=by
 go_enter Tryz.func264,Tryz.ntmps264
 go_wp2
 go_ret
 exact⟨vP (decide_eq_decide.2 (by omega)),rfl⟩
def idxOf (p:Nat->Bool) (l:List Nat):Int:=if l.any p then (l.findIdx p:Int) else -1
theorem a4u {p:Nat->Bool} {l:List Nat} (h:∀ i,i<l.length->p (gr l i)=false):idxOf p l=-1:=by unfold idxOf;rw[bn];simp only[yx,not_exists,not_and,Bool.not_eq_true];intro g hg;obtain⟨i,hi,rfl⟩:=Dn hg;rw[<-qL hi];exact h i hi
theorem a4w {p:Nat->Bool} {l:List Nat} {k:Nat} (hk:k<l.length) (hp:p (gr l k)=true) (h:∀ i,i<k->p (gr l i)=false):idxOf p l=k:=by unfold idxOf;rw[dn (yx.2 ⟨_,b1k hk,hp⟩)];congr 1;rw[List.findIdx_eq hk];refine⟨by rw[<-qL hk];exact hp,fun j hj=>?_⟩;rw[<-qL (by omega)];exact h j hj
theorem a4v (p:Nat->Bool) (l:List Nat):decide (0<=idxOf p l)=l.any p:=by unfold idxOf;by_cases h:l.any p=true<;>simp[h]
theorem b1H (s:Value) (l:List Nat) (w:World) (hs:Rd w s l) :
  Calls Tryz.prog 287 #[s,.func (.func 264) #[] #[]] w
   fun e w'=>e=.returned (.int .i64 (idxOf (fun g=>decide (1000000000<=g)) l))/\w=w':=by
 rcases hs with⟨p,rfl,rfl⟩|⟨b,o,c,rfl,h2,h3,h4,h5⟩
 ·go_enter Tryz.func287,Tryz.ntmps287
  go_wp2
  go_loop [8] (fun i=>i=.int .i64 0) (fun _=>0)
  case atStart=>rfl
  case round =>
   subst hrel
   go_wp2
   go_ret
   exact⟨by simp[idxOf],rfl⟩
 ·have hl:l.length<=9223372036854775807:=by omega
  have H5:=bf h5;clear h5
  go_enter Tryz.func287,Tryz.ntmps287
  go_wp2
  go_loop [5,8,10,11,12,13,14,15,16,18] (fun _ i _ _ _ _ _ _ _ _=>∃ k:Nat,k<=l.length/\i=.int .i64 k/\∀ j,j<k->decide (1000000000<=gr l j)=false) (fun _ i _ _ _ _ _ _ _ _=>l.length-(intOf i).toNat)
  case atStart=>exact⟨0,by omega,rfl,fun j hj=>by omega⟩
  case round =>
   obtain⟨k,hk,rfl,hj⟩:=hrel;have HJ:=bf hj;clear hj;by_cases hlt:k<l.length
   ·have hc:=H5.out k hlt;by_cases hp:decide (1000000000<=gr l k)=true
    ·go_wp2_with (go_at_call 264;refine(WH _ _).mono ?_;rintro e w' ⟨rfl,rfl⟩)
     go_ret
     exact⟨kJ (a4w (p:=fun g=>decide (1000000000<=g)) hlt hp HJ.out).symm,rfl⟩
    ·have hp':decide (1000000000<=gr l k)=false:=by simpa using hp
     clear hp
     go_wp2_with (go_at_call 264;refine(WH _ _).mono ?_;rintro e w' ⟨rfl,rfl⟩)
     go_round
     case rel=>exact⟨k+1,by omega,by go_num,fun j hj=>if e:j<k then HJ.out j e else by rw[show j=k by omega];exact hp'⟩
     case measure=>simp[intOf];omega
   ·obtain rfl:k=l.length:=by omega
    go_wp2
    go_ret
    exact⟨kJ (a4u (p:=fun g=>decide (1000000000<=g)) HJ.out).symm,rfl⟩
theorem WQ (s:Value) (l:List Nat) (w:World) (hs:Rd w s l) :
  Calls Tryz.prog 263 #[s,.func (.func 264) #[] #[]] w
   fun e w'=>e=.returned (.bool (l.any fun g=>decide (1000000000<=g)))/\w=w':=by
 have hb:=a4v (fun g=>decide (1000000000<=g)) l;generalize hx:idxOf (fun g=>decide (1000000000<=g)) l=x at *
 have HX:=bf hx;have HB:=bf hb;clear hx hb
 go_enter Tryz.func263,Tryz.ntmps263
 go_wp2_with (go_at_call 287;refine(b1H _ l _ hs).mono ?_;rintro e w' ⟨rfl,rfl⟩)
 go_ret
 exact⟨by rw[<-HB.out,<-HX.out];rfl,rfl⟩
theorem OE (neg:Bool) (s:Value) (l:List Nat) (w:World) (hs:Rd w s l) :
  Calls Tryz.prog 212 #[.agg #[.bool neg,s]] w fun e w'=>e=.returned (.bool (LW neg l))/\Below w.heap.size w w':=by
 rcases hs with⟨p,rfl,rfl⟩|⟨b,o,c,rfl,h2,h3,h4,h5⟩
 ·go_enter Tryz.func212,Tryz.ntmps212
  go_wp2
  go_ret
  exact⟨rfl,(gy _ _).alloc (aj _) _⟩
 ·by_cases hn:l=[]
  ·subst hn;clear h5
   go_enter Tryz.func212,Tryz.ntmps212
   go_wp2
   go_ret
   exact⟨rfl,(gy _ _).alloc (aj _) _⟩
  ·have hp:0<l.length:=yc.2 hn;have hl:l.length<=9223372036854775807:=by omega
   have h6:=h5 (l.length-1) (by omega);have hR:Rd (w.alloc (.cells #[.bool neg,.slice (some ⟨b,o,none⟩) l.length c] 45)) (.slice (some ⟨b,o,none⟩) l.length c) l:=Rd.alloc (.inr ⟨b,o,c,rfl,h2,h3,h4,h5⟩) _;have HV:=bf (a1Q (neg:=neg) hn);generalize hg:gr l (l.length-1)=g at *
   clear hg h5;by_cases hz:g=0
   ·subst hz
    go_enter Tryz.func212,Tryz.ntmps212
    go_wp2
    go_ret
    exact⟨vP (by rw[HV.out];rfl),(gy _ _).alloc (aj _) _⟩
   ·have hz':((g:Int) != 0)=true:=by simp;omega
    have HZ:=bf hz;clear hz
    go_enter Tryz.func212,Tryz.ntmps212
    go_wp2_with (go_at_call 263;refine(WQ _ l _ hR).mono ?_;rintro e w' ⟨rfl,rfl⟩)
    go_ret
    exact⟨vP (by rw[HV.out];simp[HZ.out]),(gy _ _).alloc (aj _) _⟩
def GRd (l:List Nat) (w:World) (e:Ending) (w':World):Prop:=∃ s,e=.returned s/\Rd w' s l/\Below w.heap.size w w'
theorem yN (v:Value) (x:Int) (w:World) (hv:Raw w v x) :
  Calls Tryz.prog 192 #[v] w (GRd (dig x.natAbs) w):=by
 obtain⟨neg,s,l,rfl,hs,hb,rfl⟩:=hv;have hR:Rd (w.alloc (.cells #[.bool neg,s] 45)) s l:=hs.alloc _;have hW:Below w.heap.size w (w.alloc (.cells #[.bool neg,s] 45)):=(gy _ _).alloc (aj _) _;have HD:=bf (a0Q neg l);have HB:=bf hb;clear hb;cases hv:LW neg l
 ·have HE:Hid (cgs neg l=[]):=by unfold cgs;rw[hv];rfl
  go_enter Tryz.func192,Tryz.ntmps192
  go_wp2_with (go_at_call 212;refine(OE _ _ l _ hR).mono ?_;rintro e w' ⟨rfl,hb1⟩;obtain⟨hc1,hf1⟩:=zI hb1)
  go_ret
  exact⟨_,rfl,by rw[HD.out,HE.out];exact Rd.nil _,hW.trans (hb1.mono (by simp))⟩
 ·have HE:Hid (cgs neg l=l):=by unfold cgs;rw[hv];rfl
  go_enter Tryz.func192,Tryz.ntmps192
  go_wp2_with (go_at_call 212;refine(OE _ _ l _ hR).mono ?_;rintro e w' ⟨rfl,hb1⟩;obtain⟨hc1,hf1⟩:=zI hb1)
  go_ret
  exact⟨_,rfl,by rw[HD.out,HE.out];exact hR.below hb1,hW.trans (hb1.mono (by simp))⟩
theorem zC {l:List Nat} (hl:Low l) {k:Nat} (hk:k<=l.length) (hz:val (l.take k)=val l) (h:k=0\/gr l (k-1)≠0):fA l=l.take k:=by
 unfold fA;rw[<-hz];refine dP ⟨hl.take k,?_⟩;rcases h with rfl|h
 ·simp
 ·by_cases h0:k=0
  ·subst h0;simp
  ·have hne:l.take k≠[]:=by intro e;have:=qw List.length e;simp only[jk,List.length_nil] at this;omega
   rw[QO hne,jk,zf hk,EJ (by omega)];simpa using h
theorem xE {l:List Nat} {k:Nat} (hk:k<l.length) (h:gr l k=0):val (l.take k)=val (l.take (k+1)):=by rw[List.take_succ_eq_append_getElem hk,val_append,<-qL hk,h];simp[dA]
theorem VY (p:Option Addr) (c:Nat) (l:List Nat) (w:World) (hs:Rd w (.slice p l.length c) l) (hl:Low l) :
  Calls Tryz.prog 257 #[.slice p l.length c] w fun e w'=>e=.returned (.slice p (fA l).length c)/\w=w':=by
 rcases hs with⟨q,h1,rfl⟩|⟨b,o,c',h1,h2,h3,h4,h5⟩
 ·cases h1;have HT:Hid (fA []=[]):=by unfold Hid fA;simp[dX]
  go_enter Tryz.func257,Tryz.ntmps257
  go_wp2
  go_loop [0] (fun s=>s=.slice p 0 0) (fun _=>0)
  case atStart=>rfl
  case round =>
   subst hrel
   go_wp2
   go_ret
   exact⟨by rw[HT.out];rfl,rfl⟩
 ·cases h1;have H5:=bf h5;have HL:=bf hl;clear h5 hl
  go_enter Tryz.func257,Tryz.ntmps257
  go_wp2
  go_loop [0,3,4,5,6,7,8,9,10,11,12,13,14,15,16,17,18,19] (fun s _ _ _ _ _ _ _ _ _ _ _ _ _ _ _ _ _=>∃ k:Nat,k<=l.length/\s=.slice (some ⟨b,o,none⟩) k c/\Hid (val (l.take k)=val l))
   (fun s _ _ _ _ _ _ _ _ _ _ _ _ _ _ _ _ _=>match s with | .slice _ k _=>k|_=>0)
  case atStart=>exact⟨l.length,aj _,rfl,by simp[Hid]⟩
  case round =>
   obtain⟨k,hk,rfl,hz⟩:=hrel;cases k with
   | zero =>
    go_wp2
    go_ret
    exact⟨by rw[zC HL.out (ru _) hz.out (.inl rfl)];rfl,rfl⟩
   | succ k =>
    have hc:=H5.out k (by omega);by_cases hg:gr l k=0
    ·have HV:=bf (xE (by omega) hg);rw[hg] at hc;have HG:=bf hg;clear hg
     go_wp2
     go_round
     case rel=>exact⟨k,by omega,rfl,by unfold Hid;rw[HV.out,hz.out]⟩
     case measure=>simp
    ·have hg':((gr l k:Int)==0)=false:=by simp;omega
     have HG:=bf hg;clear hg
     go_wp2
     go_ret
     exact⟨by rw[zC HL.out hk hz.out (.inr (by simpa using HG.out)),jk,zf hk];rfl,rfl⟩
def FI (x:Int) (w:World) (e:Ending) (w':World):Prop:=∃ v,e=.returned v/\eY w' v x/\Below w.heap.size w w'
theorem b3G {neg:Bool} {n:Nat} (h:n≠0):decide (sg neg n<0)=neg:=by cases neg<;>simp[sg]<;>omega
theorem a5j (neg:Bool) (n:Nat):(sg neg n).natAbs=n:=by cases neg<;>simp[sg]
theorem a1E (neg:Bool):sg neg 0=0:=by cases neg<;>simp[sg]
theorem eY.zero (w:World):eY w (.agg #[.bool false,.slice none 0 0]) 0:=⟨.slice none 0 0,by simp,by simp[dX];exact Rd.nil w⟩
theorem KI (neg:Bool) (s:Value) (l:List Nat) (w:World) (hs:Rd w s l) (hl:Low l) :
  Calls Tryz.prog 190 #[.bool neg,s] w (FI (sg neg (val l)) w):=by
 obtain⟨p,c,rfl,h2,h3⟩:=hs.form;have hR:Rd w (.slice p (fA l).length c) (fA l):=by have:=hs.take (zB hl);rwa [<-a0g hl] at this
 have hs1:=hs.alloc (.cells #[.bool false,.slice none 0 0] 45);by_cases hz:val l=0
 ·have e0:fA l=[]:=by unfold fA;rw[hz,dX]
  have E0:=bf e0;rw[hz,a1E];clear hz e0
  go_enter Tryz.func190,Tryz.ntmps190
  go_wp2_with (go_at_call 257;refine(VY _ _ l _ hs1 hl).mono ?_;rw[E0.out];rintro e w' ⟨rfl,rfl⟩)
  exact xk (v:=.agg #[.bool false,.slice none 0 0]) (by simp[results,Tryz.results190,go_sem]) rfl ⟨_,rfl,eY.zero _,(gy _ _).alloc (aj _) _⟩
 ·have hp:fA l≠[]:=fun e=>hz (jA.1 e);have hp':0<(fA l).length:=yc.2 hp;have HZ:=bf hz;generalize ht:fA l=t at *
  have HT:=bf ht;clear hz hp ht
  go_enter Tryz.func190,Tryz.ntmps190
  go_wp2_with (go_at_call 257;refine(VY _ _ l _ hs1 hl).mono ?_;rw[HT.out];rintro e w' ⟨rfl,rfl⟩)
  refine xk (v:=.agg #[.bool neg,.slice p t.length c]) (by simp[results,Tryz.results190,go_sem]) rfl ⟨_,rfl,⟨_,by rw[b3G HZ.out],?_⟩,?_⟩
  ·rw[a5j,<-fA,HT.out];exact hR.below ((gy _ _).alloc (aj _) _)
  ·exact(gy _ _).alloc (aj _) _
theorem gX:(Tryz.prog.info? 148).map (fun i=>(i.zero,i.size,i.bytes))=some (some (.int .u32 0),1,4):=by kernel_rfl
def cells32 (l:List Nat):List Value:=l.map fun g=>.int .u32 (g:Nat)
theorem Rd.dN {w:World} {base:Nat} {v:Value} {l:List Nat} (h:w.ownsRow base 148 1 v l.length (cells32 l)):Rd w v l:=by
 rcases h.2 with⟨rfl,h0⟩|⟨g,cap,cur,rfl,hb,hg,hn,hm,hs,ht⟩
 ·exact .inl ⟨none,rfl,ng h0⟩
 ·refine .inr ⟨g,0,cap,rfl,hn,by simpa [maxLen] using hm,(Ah.1 hg).1,fun i hi=>?_⟩;have:=h.cells (g:=g) rfl i (.int .u32 (gr l i:Nat)) (by simp[cells32,qL hi,hi]);have e:(⟨g,0,none⟩:Addr).add i=⟨g,0+i,none⟩:=by unfold Addr.add;split<;>simp_all
  rwa [e] at this
theorem wV {n m:Nat} {l:List Nat} (hm:0<m) (h:l++dig m=dig n):(l++[m%1000000000])++dig (m / 1000000000)=dig n:=by rw[Ar,<-h,pU (by omega:m≠0)];rfl
theorem cell_one_new (w:World) (v:Value) (t:TypeId):∀ j u,[v][j]?=some u->(w.alloc (.cells #[v] t)).cell? ((⟨w.heap.size,0,none⟩:Addr).add j)=some u:=by
 intro j u h;cases j with
 | zero=>simp at h;subst h;simp[Addr.add,World.cell?_alloc_at]
 | succ j=>simp at h
theorem uQ (n:Nat) (w:World) (hn:n<18446744073709551616) :
  Calls Tryz.prog 247 #[.int .u64 (n:Nat)] w fun e w'=>∃ v,e=.returned v/\w'.ownsRow w.heap.size 148 1 v (dig n).length (cells32 (dig n))/\Below w.heap.size w w':=by
 obtain⟨i0,hi,hz0,hz1,hz2⟩:=Ag gX;have HN:=bf hn;have hlen:(dig n).length<=3:=dS (by rw[bV];omega);have HLEN:=bf hlen;clear hn hlen
 go_enter Tryz.func247,Tryz.ntmps247
 go_wp2
 go_loopw [0,3,4,5,6,7,8,9,10,11,12,13] (fun m v _ _ _ _ _ _ _ _ _ _ wr=>∃ (k:Nat) (l:List Nat),k<=18446744073709551615/\m=.int .u64 (k:Nat)/\Hid (l++dig k=dig n)/\wr.ownsRow w.heap.size 148 1 v l.length (cells32 l)/\Below w.heap.size w wr)
  (fun m _ _ _ _ _ _ _ _ _ _ _ _=>(intOf m).toNat)
 case atStart=>exact⟨n,[],by have:=HN.out;omega,rfl,by simp[Hid],Bg _ _ _ _,gy _ _⟩
 case round =>
  obtain⟨k,l,hk,rfl,hl,hown,hB⟩:=hrel;by_cases h0:0<k
  ·have HS:=bf (wV h0 hl.out);have hll:l.length<=2:=by have h1:=qw List.length hl.out;have h2:=HLEN.out;rw[dh,pU (by omega:k≠0),List.length_cons] at h1;omega
   have hsz:=hB.size
   go_wp2_with (at_builtin;refine yh _ rfl _ _ 43 rfl w.heap.size 148 i0 (.int .u32 0) 1 4 ji hi hz0 hz1 hz2 rfl (by decide) _ _ _ rfl (hown.alloc _) ⟨wr.heap.size,0,none⟩ 1 1 [.int .u32 ((k%1000000000:Nat):Int)] rfl rfl ?c1 ?c2 ?c3 ?c4 ?c5 ?_)
   case c1=>exact cell_one_new _ _ _
   case c2=>simp[Value.oneCell']
   case c3=>unfold maxLen;omega
   case c4=>omega
   case c5=>simp;omega
   intro v' w1 hown' hgrow _;have hown2:w1.ownsRow w.heap.size 148 1 v' (l++[k%1000000000]).length (cells32 (l++[k%1000000000])):=by
    rw[dh,List.length_singleton];have:cells32 (l++[k%1000000000])=cells32 l++[.int .u32 ((k%1000000000:Nat):Int)]:=by simp[cells32]
    rw[this];exact hown'
   have hB1:Below w.heap.size w w1:=(hB.alloc hsz _).grown hgrow (by simp;omega) (fun j e=>(hown.lt j e).1);clear hown' hgrow
   go_wp2
   go_roundw
   case rel=>exact⟨k / 1000000000,l++[k%1000000000],by omega,by go_num,HS,hown2,hB1⟩
   case measure=>simp[intOf];omega
  ·obtain rfl:k=0:=by omega
   clear h0
   go_wp2
   go_ret
   have e:l=dig n:=by rw[<-hl.out,dX,Aj]
   exact⟨_,rfl,by rw[<-e];exact hown,hB⟩
theorem a1S {k:Nat} (hk:k<=9223372036854775808):IntKind.u64.wrap (-IntKind.u64.wrap (-(k:Int)))=k:=by simp[IntKind.wrap,IntKind.bits,IntKind.signed];omega
theorem b2H (n:Int) (w:World) (h0:-9223372036854775808<=n) (h1:n<=9223372036854775807) :
  Calls Tryz.prog 175 #[.int .i64 n] w (FI n w):=by
 by_cases hn:n<0
 ·obtain⟨k,rfl⟩:∃ k:Nat,n=-(k:Int):=⟨n.natAbs,by omega⟩;have hk:k<=9223372036854775808:=by omega
  have hk0:0<k:=by omega
  have hlt:decide (-(k:Int)<0)=true:=by simp;omega
  have hw:=a1S hk;have HX:Hid (sg true (val (dig k))=-(k:Int)):=by unfold Hid;rw[bM];rfl
  clear hn h1 h0
  go_enter Tryz.func175,Tryz.ntmps175
  go_wp2_with fail
  refine(uQ k _ (by omega)).mono ?_;rintro e w1 ⟨v,rfl,hown,hb1⟩;obtain⟨hc1,hf1⟩:=zI hb1;have hsz:w.heap.size<w1.heap.size:=by have:=hb1.size;simp at this;omega
  go_wp2_with fail
  refine(KI true _ _ _ (Rd.dN hown) (bZ k)).mono ?_;rw[HX.out];rintro e w2 ⟨v2,rfl,hi2,hb2⟩;obtain⟨g2,p2,n2,c2,rfl⟩:=hi2.form;obtain⟨hc2,hf2⟩:=zI hb2;have hsz2:w.heap.size<w2.heap.size:=qh hsz hb2.size;have hB:Below w.heap.size w w2:=((gy _ _).alloc (aj _) _).trans ((hb1.mono (by simp)).trans (hb2.mono (by omega)))
  go_wp2_with fail
  refine xk (v:=.agg #[.bool g2,.slice p2 n2 c2]) (by simp[results,Tryz.results175,go_sem,hc2,hc1,hsz,hsz2]) rfl ⟨_,rfl,?_,?_⟩
  ·exact hi2.c4F (q:=false) (p:=none) (n:=0) (c:=0) (by simp[hc2,hc1,hsz]) (by simp[hc2,hc1,hsz]) _ _
  ·exact SH hB (aj _) _ _
 ·obtain⟨k,rfl⟩:=uf (Int.not_lt.1 hn);have hk:k<=9223372036854775807:=by omega
  have hlt:decide ((k:Int)<0)=false:=by simp
  have HX:Hid (sg false (val (dig k))=(k:Int)):=by unfold Hid;rw[bM];rfl
  clear hn h1 h0
  go_enter Tryz.func175,Tryz.ntmps175
  go_wp2_with fail
  refine(uQ k _ (by omega)).mono ?_;rintro e w1 ⟨v,rfl,hown,hb1⟩;obtain⟨hc1,hf1⟩:=zI hb1;have hsz:w.heap.size<w1.heap.size:=by have:=hb1.size;simp at this;omega
  go_wp2_with fail
  refine(KI false _ _ _ (Rd.dN hown) (bZ k)).mono ?_;rw[HX.out];rintro e w2 ⟨v2,rfl,hi2,hb2⟩;obtain⟨g2,p2,n2,c2,rfl⟩:=hi2.form;obtain⟨hc2,hf2⟩:=zI hb2;have hsz2:w.heap.size<w2.heap.size:=qh hsz hb2.size;have hB:Below w.heap.size w w2:=((gy _ _).alloc (aj _) _).trans ((hb1.mono (by simp)).trans (hb2.mono (by omega)))
  go_wp2_with fail
  refine xk (v:=.agg #[.bool g2,.slice p2 n2 c2]) (by simp[results,Tryz.results175,go_sem,hc2,hc1,hsz,hsz2]) rfl ⟨_,rfl,?_,?_⟩
  ·exact hi2.c4F (q:=false) (p:=none) (n:=0) (c:=0) (by simp[hc2,hc1,hsz]) (by simp[hc2,hc1,hsz]) _ _
  ·exact SH hB (aj _) _ _
def a1U (l:List Nat) (w:World) (e:Ending) (w':World):Prop:=∃ v,e=.returned v/\w'.ownsRow w.heap.size 148 1 v l.length (cells32 l)/\Below w.heap.size w w'
theorem oK {w:World} {b o:Nat} {l:List Nat} (h5:∀ i,i<l.length->w.cell? ⟨b,o+i,none⟩=some (.int .u32 (gr l i:Nat))) :
  ∀ j u,(cells32 l)[j]?=some u->w.cell? ((⟨b,o,none⟩:Addr).add j)=some u:=by
 intro j u hj;have hlt:j<l.length:=by have:=(jy.1 hj).1;simpa [cells32] using this
 have e:(⟨b,o,none⟩:Addr).add j=⟨b,o+j,none⟩:=by unfold Addr.add;split<;>simp_all
 rw[e,h5 j hlt,qL hlt,<-hj];simp[cells32,hlt]
theorem iZ (l:List Nat):(cells32 l).length=l.length*1:=by simp[cells32]
theorem lN (l:List Nat):∀ u ∈ cells32 l,u.oneCell'=true:=by simp[cells32,Value.oneCell']
theorem IU {P:Program} {w:World} {ops:Array Oper} {rest:List Oper} {o:Oper} {a:Act} {Q:Exit->Act->World->Prop} (hgd:o.guard=none) (s x:Operand) (t:TypeId)
  (hop:o.op=Op.call { callee:=Callee.builtin Builtin.append,args:=#[s,x],argTypes:=#[t,t] })
  (e:TypeId) (i:TypeInfo) (h1:P.underlying t=some (.slice e)) (h2:P.info? e=some i)
  (b:Addr) (hs:a.eval s=.slice (some b) 0 0) {q:Option Addr} (hx:a.eval x=.slice q 0 0)
  (h:wpList P ops Q rest (a.put o.dst (.slice (some b) 0 0)) w):wpList P ops Q (o::rest) a w :=
 wpList_plain hgd fun _ hK=>by
  have hrun:(Builtin.append_ #[t,t] o.type #[.slice (some b) 0 0,.slice q 0 0]).run P w=.ok (.slice (some b) 0 0) w:=by cases q<;>simp[Builtin.append_,ku h1,sizeOf,typeInfo,h2,Builtin.lenOf,Builtin.firstCells,loadCells,loadCellsFrom,eu,storeCells]
  unfold Oper.wp;simp[execOp,hop,resolve,invoke,builtin,hs,hx,hrun,Result.andThen];exact hK _ _ h
theorem clone_any (s:Value) (l:List Nat) (w:World) (hs:Rd w s l) (hl:l.length<=1000000000) :
  Calls Tryz.prog 191 #[s] w (a1U l w):=by
 rcases hs with⟨p,rfl,rfl⟩|⟨b,o,c,rfl,h2,h3,h4,h5⟩
 ·cases p with
  | none =>
   have hk:=Lib.run_eql_slice_nil (P:=Tryz.prog) w 43 148 none 0 0 0 0 ji
   go_enter Tryz.func191,Tryz.ntmps191
   go_wp2
   go_ret
   exact⟨_,rfl,Bg _ _ _ _,gy _ _⟩
  | some ad =>
   obtain⟨i0,hi,hz0,hz1,hz2⟩:=Ag gX;have hk:=Lib.run_eql_slice_nil (P:=Tryz.prog) w 43 148 (some ad) 0 0 0 0 ji
   go_enter Tryz.func191,Tryz.ntmps191
   go_wp2_with (at_builtin;refine IU rfl _ _ 43 rfl 148 i0 ji hi _ rfl rfl ?_)
   go_ret
   exact⟨_,rfl,World.ownsRow_made w #[] 0 (aj _) (by simp[maxLen]) (by simp),(gy _ _).alloc (aj _) _⟩
 ·obtain⟨i0,hi,hz0,hz1,hz2⟩:=Ag gX;have hk:=Lib.run_eql_slice_nil (P:=Tryz.prog) w 43 148 (some ⟨b,o,none⟩) l.length c 0 0 ji;have H5:=bf h5;clear h5
  go_enter Tryz.func191,Tryz.ntmps191
  go_wp2_with (at_builtin;refine yh _ rfl _ _ 43 rfl w.heap.size 148 i0 (.int .u32 0) 1 4 ji hi hz0 hz1 hz2 rfl (by decide) _ _ _ rfl (World.ownsRow_made w #[] 0 (aj _) (by simp[maxLen]) (by simp)) ⟨b,o,none⟩ l.length c (cells32 l) rfl (iZ l) ?c1 (lN l) ?c3 ?c4 ?c5 ?_)
  case c1=>exact oK fun i hi=>(zy _ _ ⟨b,o+i,none⟩ h4).trans (H5.out i hi)
  case c3=>unfold maxLen;omega
  case c4=>omega
  case c5=>simp
  intro v' w1 hown hgrow _;have hB:Below w.heap.size w w1:=((gy _ _).alloc (aj _) _).grown hgrow (by simp) (fun j e=>by simp[Value.ownBlock] at e;omega);clear hgrow
  go_wp2
  go_ret
  exact⟨_,rfl,by simpa using hown,hB⟩
theorem Raw.sign {w:World} {b:Bool} {s:Value} {x:Int} (hv:Raw w (.agg #[.bool b,s]) x) (h:x≠0):b=decide (x<0):=by obtain⟨neg,s',l,h1,h2,h3,rfl⟩:=hv;cases h1;exact a2h h
theorem bG (l:List Nat) (k:Nat):val (l.take (k+1))=val (l.take k)+BB ^ k*gr l k:=by
 by_cases h:k<l.length
 ·rw[List.take_succ_eq_append_getElem h,val_append,jk,zf (by omega),qL h];simp[dA]
 ·rw[wY (by omega),jf (by omega),jf (by omega)];simp
theorem dR {l:List Nat} {k:Nat} (h:l.length<=k):val (l.take k)=val l:=by rw[jf h]
theorem fH {l:List Nat} {k v:Nat} (h:k<l.length):(l.set k v).take (k+1)=l.take k++[v]:=by rw[List.take_succ_eq_append_getElem (by simpa using h)];simp[List.take_set_of_le]
structure nZ (a b o:List Nat) (n k c:Nat):Prop where
 len:o.length=n
 low:Low (o.take k)
 vl:val (o.take k)+BB ^ k*c=val (a.take k)+val (b.take k)
 car:c<=1
theorem nZ.zero (a b:List Nat) (n:Nat):nZ a b (List.replicate n 0) n 0 0:=⟨by simp,by simp[Low.nil],by simp,by omega⟩
theorem nZ.UL {a b o:List Nat} {n k c:Nat} (h:nZ a b o n k c) (hk:k<n) (hs:gr a k+gr b k+c<1000000000):nZ a b (o.set k (gr a k+gr b k+c)) n (k+1) 0:=by
 have hl:k<o.length:=by rw[h.len];exact hk
 refine⟨by simp[h.len],?_,?_,by omega⟩
 ·rw[fH hl];exact Low.append.2 ⟨h.low,Low.cons.2 ⟨hs,Low.nil⟩⟩
 ·rw[fH hl,val_append,bG,bG,jk,zf (by omega)];have:=h.vl;simp only[dA,uG];grind
theorem nZ.MP {a b o:List Nat} {n k c s:Nat} (h:nZ a b o n k c) (ha:gr a k<1000000000) (hb:gr b k<1000000000) (hk:k<n) (hs:gr a k+gr b k+c=s+1000000000):nZ a b (o.set k s) n (k+1) 1:=by
 have hl:k<o.length:=by rw[h.len];exact hk
 have hc:=h.car;refine⟨by simp[h.len],?_,?_,by omega⟩
 ·rw[fH hl];exact Low.append.2 ⟨h.low,Low.cons.2 ⟨by rw[bV];omega,Low.nil⟩⟩
 ·rw[fH hl,val_append,bG,bG,jk,zf (by omega),Nat.pow_succ];have:=h.vl;simp only[dA,uG,bV] at *
  have e:1000000000 ^ k*(gr a k+gr b k+c)=1000000000 ^ k*(s+1000000000):=by rw[hs]
  grind
theorem nZ.done {a b o:List Nat} {n c:Nat} (ha:Low a) (hb:Low b) (h:nZ a b o n n c) (h1:a.length<n) (h2:b.length<n):Low o/\val o=val a+val b:=by
 have ho:o.take n=o:=jf (by rw[h.len];exact aj _);have hv:=h.vl;have hl:=h.low;rw[ho] at hl hv;rw[dR (by omega),dR (by omega)] at hv;refine⟨hl,?_⟩;have e1:val a<BB ^ (n-1):=qh (mG ha) (vg gU (by omega));have e2:val b<BB ^ (n-1):=qh (mG hb) (vg gU (by omega));have e3:BB ^ n=BB ^ (n-1)*BB:=by rw[<-Nat.pow_succ];congr 1;omega
 have hc:c=0\/c=1:=by have:=h.car;omega
 rcases hc with rfl|rfl
 ·simpa using hv
 ·rw[e3,bV] at hv;rw[bV] at e1 e2;omega
structure kV (a b o:List Nat) (n k c:Nat):Prop where
 len:o.length=n
 low:Low (o.take k)
 vl:val (o.take k)+val (b.take k)=val (a.take k)+BB ^ k*c
 car:c<=1
theorem kV.zero (a b:List Nat) (n:Nat):kV a b (List.replicate n 0) n 0 0:=⟨by simp,by simp[Low.nil],by simp,by omega⟩
theorem kV.UL {a b o:List Nat} {n k c s:Nat} (h:kV a b o n k c) (ha:gr a k<1000000000) (hk:k<n) (hs:gr a k=s+(gr b k+c)):kV a b (o.set k s) n (k+1) 0:=by
 have hl:k<o.length:=by rw[h.len];exact hk
 refine⟨by simp[h.len],?_,?_,by omega⟩
 ·rw[fH hl];exact Low.append.2 ⟨h.low,Low.cons.2 ⟨by rw[bV];omega,Low.nil⟩⟩
 ·rw[fH hl,val_append,bG,bG,jk,zf (by omega)];have:=h.vl;simp only[dA,uG];have e:BB ^ k*gr a k=BB ^ k*(s+(gr b k+c)):=by rw[hs]
  grind
theorem kV.MP {a b o:List Nat} {n k c s:Nat} (h:kV a b o n k c) (hb:gr b k<1000000000) (hk:k<n) (hlt:gr a k<gr b k+c) (hs:gr a k+1000000000=s+(gr b k+c)):kV a b (o.set k s) n (k+1) 1:=by
 have hl:k<o.length:=by rw[h.len];exact hk
 have hc:=h.car;refine⟨by simp[h.len],?_,?_,by omega⟩
 ·rw[fH hl];exact Low.append.2 ⟨h.low,Low.cons.2 ⟨by rw[bV];omega,Low.nil⟩⟩
 ·rw[fH hl,val_append,bG,bG,jk,zf (by omega),Nat.pow_succ];have:=h.vl;simp only[dA,uG,bV] at *
  have e:1000000000 ^ k*(gr a k+1000000000)=1000000000 ^ k*(s+(gr b k+c)):=by rw[hs]
  grind
theorem kV.done {a b o:List Nat} {n c:Nat} (h:kV a b o n n c) (h1:a.length<=n) (h2:b.length<=n) (hle:val b<=val a):Low o/\val o=val a-val b:=by
 have ho:o.take n=o:=jf (by rw[h.len];exact aj _);have hv:=h.vl;have hl:=h.low;rw[ho] at hl hv;rw[dR (by omega),dR (by omega)] at hv;refine⟨hl,?_⟩;have e1:val o<BB ^ n:=by have:=mG hl;rwa [h.len] at this
 have hc:c=0\/c=1:=by have:=h.car;omega
 rcases hc with rfl|rfl
 ·omega
 ·rw[bV] at hv e1;omega
theorem AX {l:List Nat} {k m v:Nat} (h:k<l.length):gr (l.set k v) m=if m=k then v else gr l m:=by
 unfold gr;rw[bg,bg,List.getElem?_set];by_cases e:k=m
 ·subst e;simp[h]
 ·simp[e,Ne.symm e]
theorem low_set {l:List Nat} {k v:Nat} (h:Low l) (hv:v<1000000000):Low (l.set k v):=by
 intro g hg;rcases List.mem_or_eq_of_mem_set hg with h1|h1
 ·exact h g h1
 ·subst h1;rw[bV];exact hv
theorem a3L {l:List Nat} {k m v:Nat} (h:m<=k):(l.set k v).take m=l.take m:=by simp[List.take_set_of_le h]
structure nM (a b o:List Nat) (n i:Nat):Prop where
 len:o.length=n
 low:Low o
 zero:∀ m,i+b.length<=m->gr o m=0
 vl:val (o.take (i+b.length))=val (a.take i)*val b
structure mJ (o0 b o:List Nat) (n i p j c:Nat):Prop where
 len:o.length=n
 low:Low o
 same:∀ m,i+j<=m->gr o m=gr o0 m
 vl:val (o.take (i+j))+BB ^ (i+j)*c=val (o0.take (i+j))+BB ^ i*p*val (b.take j)
 car:c<1000000000
theorem JV (n m:Nat):gr (List.replicate n 0) m=0:=by unfold gr;rw[bg,List.getElem?_replicate];split<;>rfl
theorem OD (n:Nat):val (List.replicate n 0)=0:=by
 induction n with
 | zero=>rfl
 | succ n ih=>rw[List.replicate_succ,dA,ih];simp
theorem nM.start (a b:List Nat) (n:Nat):nM a b (List.replicate n 0) n 0 :=
 ⟨by simp,fun g hg=>by rw[(Em.1 hg).2];exact gU,fun m _=>JV n m,by rw[List.take_replicate,OD];simp⟩
theorem mJ.start {o0 b:List Nat} {n i p:Nat} (h1:o0.length=n) (h2:Low o0):mJ o0 b o0 n i p 0 0:=⟨h1,h2,fun _ _=>rfl,by simp,by omega⟩
theorem mJ.step {o0 b o:List Nat} {n i p j c:Nat} (h:mJ o0 b o n i p j c) (hp:p<1000000000) (hq:gr b j<1000000000) (hk:i+j<n) :
  mJ o0 b (o.set (i+j) ((gr o (i+j)+p*gr b j+c)%1000000000)) n i p (j+1) ((gr o (i+j)+p*gr b j+c) / 1000000000):=by
 have hl:i+j<o.length:=by rw[h.len];exact hk
 have hc:=h.car;have hg:=GY h.low (i+j);have hm:p*gr b j<=999999999*999999999:=uy (by omega) (by omega);refine⟨by simp[h.len],low_set h.low (xg _ (by omega)),?_,?_,by omega⟩
 ·intro m hm;rw[AX hl,bn (by omega)];exact h.same m (by omega)
 ·have e1:=h.vl;have e2:=h.same (i+j) (aj _);have e3:=bG o0 (i+j);have e4:=bG b j;rw[show i+(j+1)=(i+j)+1 from by omega,fH hl,val_append,jk,zf (by omega),e3,e4,<-e2];simp only[dA,uG];have e5:=Nat.mod_add_div (gr o (i+j)+p*gr b j+c) 1000000000;generalize (gr o (i+j)+p*gr b j+c)%1000000000=r at *
  generalize (gr o (i+j)+p*gr b j+c) / 1000000000=d at *
  rw[Nat.pow_succ,En] at *
  rw[bV] at *
  have e6:1000000000 ^ i*1000000000 ^ j*(r+1000000000*d)=1000000000 ^ i*1000000000 ^ j*(gr o (i+j)+p*gr b j+c):=by rw[e5]
  grind
theorem mJ.done {a b o0 o:List Nat} {n i c:Nat} (h0:nM a b o0 n i) (h:mJ o0 b o n i (gr a i) b.length c) (hi:i+b.length<n):nM a b (o.set (i+b.length) c) n (i+1):=by
 have hl:i+b.length<o.length:=by rw[h.len];exact hi
 refine⟨by simp[h.len],low_set h.low h.car,?_,?_⟩
 ·intro m hm;rw[AX hl,bn (by omega),h.same m (by omega)];exact h0.zero m (by omega)
 ·have e1:=h.vl;have e2:=h0.vl;have e3:=bG a i;rw[show i+1+b.length=(i+b.length)+1 from by omega,fH hl,val_append,jk,zf (by omega),e3];rw[dR (aj b.length)] at e1;simp only[dA,uG];grind
theorem nM.done {a b o:List Nat} {n:Nat} (h:nM a b o n a.length) (hn:n=a.length+b.length):val o=val a*val b:=by have:=h.vl;rwa [jf (by rw[h.len];omega),dR (aj _)] at this
theorem MB (s:Value) (l:List Nat) (k:Nat) (w:World) (hs:Rd w s l) :
  Calls Tryz.prog 279 #[s,.int .i64 (k:Nat)] w fun e w'=>e=.returned (.int .u32 (gr l k:Nat))/\w=w':=by
 have:=a9P s l k w hs (by omega);rwa [Int.toNat_natCast] at this
theorem fP (l:List Nat) (k v:Nat):(cells32 l).set k (.int .u32 (v:Nat))=cells32 (l.set k v):=by simp[cells32,List.map_set]
theorem eX {l:List Nat} {k:Nat} (h:k<l.length):(cells32 l)[k]?=some (.int .u32 (gr l k:Nat)):=by simp[cells32,qL h,h]
theorem iR (n:Nat):(madeCells #[Value.int .u32 0] n).toList=cells32 (List.replicate n 0):=by rw[toList_madeCells_one];simp[cells32]
theorem OC (p:Option Addr) (c n:Nat) (l:List Nat) (w:World) (hs:Rd w (.slice p n c) l) (hl:Low l) (hn:l.length=n) :
  Calls Tryz.prog 257 #[.slice p n c] w fun e w'=>e=.returned (.slice p (fA l).length c)/\w=w':=by
 subst hn;exact VY p c l w hs hl
theorem KR {w:World} {base:Nat} {e:TypeId} {g n cap:Nat} {xs:List Value} (h:w.ownsRow base e 1 (.slice (some ⟨g,0,none⟩) n cap) n xs) {m:Nat} (hm:m<=n) :
  w.ownsRow base e 1 (.slice (some ⟨g,0,none⟩) m cap) m (xs.take m):=by
 obtain⟨h1,h2⟩:=h;rcases h2 with⟨h2,_⟩|⟨g',cap',cur,h3,h4,h5,h6,h7,h8,h9⟩
 ·cases h2
 ·cases h3;refine⟨by rw[jk,h1];omega,.inr ⟨g,cap,cur,rfl,h4,h5,by omega,h7,h8,?_⟩⟩;rw[<-h9,List.take_take];congr 1;omega
theorem uM {w:World} {base g n cap:Nat} {o:List Nat} (h:w.ownsRow base 148 1 (.slice (some ⟨g,0,none⟩) n cap) n (cells32 o)) (hl:Low o) (hn:o.length=n) :
  w.ownsRow base 148 1 (.slice (some ⟨g,0,none⟩) (fA o).length cap) (fA o).length (cells32 (fA o)):=by
 have:=KR h (m:=(fA o).length) (by have:=zB hl;omega);have e:cells32 (fA o)=(cells32 o).take (fA o).length:=by rw[cells32,cells32,<-List.map_take,<-a0g hl]
 rw[e];exact this
theorem a3t (s t:Value) (a b:List Nat) (w:World) (hs:Rd w s a) (ht:Rd w t b) (ha:Low a) (hb:Low b) (la:a.length<=1000000000) (lb:b.length<=1000000000) :
  Calls Tryz.prog 253 #[s,t] w (a1U (dig (val a+val b)) w):=by
 obtain⟨i0,hi,hz0,hz1,hz2⟩:=Ag gX;obtain⟨p,c,rfl,_,_⟩:=hs.form;obtain⟨q,d,rfl,_,_⟩:=ht.form;have HA:=bf ha;have HB:=bf hb;clear ha hb;obtain⟨m,hm⟩:∃ m:Nat,(if a.length<b.length then (b.length:Int) else a.length)=m:=⟨max a.length b.length,by split<;>omega⟩;have n1:a.length<m+1:=by split at hm<;>omega
 have n2:b.length<m+1:=by split at hm<;>omega
 have n3:m<=1000000000:=by split at hm<;>omega
 go_enter Tryz.func253,Tryz.ntmps253
 go_wp2_with (at_make;refine Eh _ rfl _ _ 43 rfl w.heap.size 148 i0 (.int .u32 0) 1 ji hi hz0 hz1 _ _ _ _ (m+1) rfl rfl (by omega) (by omega) (by rw[hz2];omega) (by unfold maxLen;omega) (aj _) ?_)
 intro w1 hown hgrow;rw[iR] at hown;have hB1:Below w.heap.size w w1:=(gy _ _).grown hgrow (aj _) (fun k e=>by cases e);clear hgrow hm
 go_wp2
 go_loopw [6,7,8,18,19,20,21,22,23,24,25,26,27,28,29,30,31,32,33,34,35,36,37,38] (fun c _ _ i _ _ _ _ _ _ _ _ _ _ _ _ _ _ _ _ _ _ _ _ wr=>∃ (k e:Nat) (o:List Nat),k<=m+1/\i=.int .i64 (k:Nat)/\c=.int .u32 (e:Nat)/\nZ a b o (m+1) k e /\
   wr.ownsRow w.heap.size 148 1 (.slice (some ⟨w.heap.size,0,none⟩) (m+1) (m+1)) (m+1) (cells32 o)/\Below w.heap.size w wr)
  (fun _ _ _ i _ _ _ _ _ _ _ _ _ _ _ _ _ _ _ _ _ _ _ _ _=>m+1-(intOf i).toNat)
 case atStart=>exact⟨0,0,_,by omega,rfl,rfl,nZ.zero _ _ _,hown,hB1⟩
 case round =>
  obtain⟨k,e,o,hk,rfl,rfl,hI,hO,hB⟩:=hrel;by_cases hlt:k<m+1
  ·have ga:gr a k<=999999999:=gJ HA.out k;have gb:gr b k<=999999999:=gJ HB.out k;have gc:=hI.car;have hcl:wr.cell? ⟨w.heap.size,k,none⟩=some (.int .u32 (gr o k:Nat)):=by rw[hO.cellAt k (by omega)];exact eX (by rw[hI.len];exact hlt)
   have hfr:=hO.frozenAt k;by_cases hsm:gr a k+gr b k+e<=999999999
   ·have hN:=hI.UL hlt (by omega);have hd:decide ((1000000000:Int)<=gr a k+gr b k+e)=false:=by simp;omega
    go_wp2_with fail
    refine(MB _ a k _ (hs.below hB)).mono ?_;rintro e w' ⟨rfl,rfl⟩
    go_wp2_with fail
    refine(MB _ b k _ (ht.below hB)).mono ?_;rintro e w' ⟨rfl,rfl⟩;dsimp only
    go_wp2
    have hst:=hO.stored k (.int .u32 (gr a k+gr b k+e:Nat));rw[fP] at hst
    go_roundw
    case rel=>exact⟨k+1,0,_,by omega,by go_num,rfl,hN,hst.1,hB.setCell (p:=⟨w.heap.size,k,none⟩) (aj _) _⟩
    case measure=>simp[intOf];omega
   ·obtain⟨r,hr⟩:∃ r,gr a k+gr b k+e=r+1000000000:=⟨gr a k+gr b k+e-1000000000,by omega⟩;have hN:=hI.MP (by omega) (by omega) hlt hr;have HR:=bf hr;have hrw:IntKind.u32.wrap ((gr a k:Int)+gr b k+e-1000000000)=r:=by simp[IntKind.wrap,IntKind.bits,IntKind.signed];omega
    clear hr;have hd:decide ((1000000000:Int)<=gr a k+gr b k+e)=true:=by simp;omega
    go_wp2_with fail
    refine(MB _ a k _ (hs.below hB)).mono ?_;rintro e w' ⟨rfl,rfl⟩
    go_wp2_with fail
    refine(MB _ b k _ (ht.below hB)).mono ?_;rintro e w' ⟨rfl,rfl⟩;dsimp only
    go_wp2
    have hst:=hO.stored k (.int .u32 (r:Nat));rw[fP] at hst
    go_roundw
    case rel=>exact⟨k+1,1,_,by omega,by go_num,rfl,hN,hst.1,hB.setCell (p:=⟨w.heap.size,k,none⟩) (aj _) _⟩
    case measure=>simp[intOf];omega
  ·obtain rfl:k=m+1:=by omega
   obtain⟨hl,hv⟩:=hI.done HA.out HB.out n1 n2;have HV:Hid (fA o=dig (val a+val b)):=by unfold Hid fA;rw[hv]
   clear hv
   go_wp2_with (go_at_call 257;refine(OC _ _ _ o _ (Rd.dN (by rw[hI.len];exact hO)) hl hI.len).mono ?_;rintro e w' ⟨rfl,rfl⟩)
   go_ret
   exact⟨_,rfl,by rw[<-HV.out];exact uM hO hl hI.len,hB⟩
end Go.Proofs.YtbkocjmmbkifjaaGreat
