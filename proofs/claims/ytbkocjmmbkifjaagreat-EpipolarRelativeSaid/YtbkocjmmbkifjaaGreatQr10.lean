/-
  Lemmas for the theorem vrelative28_holds, part 10 of 35.
-/
import Derived.Test.YtbkocjmmbkifjaaGreatQr09
namespace Go.Proofs.YtbkocjmmbkifjaaGreat
open Go Go.RowKit
theorem qp:type_of% @List.length_set:=@List.length_set
theorem ny:type_of% @List.length_map:=@List.length_map
theorem mg:type_of% @List.mem_singleton:=@List.mem_singleton
theorem og:type_of% @List.map_congr_left:=@List.map_congr_left
section
set_option linter.unusedSimpArgs false
set_option linter.unusedVariables false
def uY (k:Operand->K) (d:Int):Option Operand->Option Int
 | none=>some d
 | some x=>match k x with
  | .val (.int _) n=>some n
  | _=>none
def b5b (ty:Ty) (ys:List ty.den) (lo hi:Int) (m:Nat):PK:=some ([0<=lo,lo<=hi,hi<=m],.val (.list ty) ((ys.take hi.toNat).drop lo.toNat))
def c6s (a b:Int):Int:=if b > a then b else a
def c6t (a b:Int):Int:=if b<a then b else a
def foldI (k:Operand->K) (f:Int->Int->Int):Int->List Operand->Option Int
 | a,[]=>some a
 | a,x::l=>match k x with
  | .val (.int _) b=>foldI k f (f a b) l
  | _=>none
def JF (P:Program) (k:Operand->K):Op->PK
 | .slice s x lo hi none=>match k x with
  | .val (.list t) ys=>if nP P s none t then (match uY k 0 lo,uY k (List.length (α:=t.den) ys:Int) hi with
   | some l,some h=>b5b t ys l h (List.length (α:=t.den) ys)
   | _,_=>none) else none
  | .val (.ref (.arr m t)) ys=>if nP P s (some m) t&&decide (m<=9223372036854775807) then (match uY k 0 lo,uY k (m:Int) hi with
   | some l,some h=>b5b t ys l h m
   | _,_=>none) else none
  | _=>none
 | .slice s x lo (some hi) (some mx)=>match k x with
  | .val (.list t) ys=>if nP P s none t then (match uY k 0 lo,uY k 0 (some hi),uY k 0 (some mx) with
   | some l,some h,some m=>some ([0<=l,l<=h,h<=m,m<=(List.length (α:=t.den) ys:Int)],.val (.list t) ((List.take (α:=t.den) h.toNat ys).drop l.toNat))
   | _,_,_=>none) else none
  | _=>none
 | .call { callee:=.builtin .max,args:=xs,argTypes:=_ }=>match xs.toList with
  | x::l=>match k x with
   | .val (.int ka) a=>(foldI k c6s a l).map fun b=>([],.val (.int ka) b)
   | _=>none
  | _=>none
 | .call { callee:=.builtin .min,args:=xs,argTypes:=_ }=>match xs.toList with
  | x::l=>match k x with
   | .val (.int ka) a=>(foldI k c6t a l).map fun b=>([],.val (.int ka) b)
   | _=>none
  | _=>none
 | _=>none
section
variable {P:Program} {E:Env} {ρ:Nat->Res} {w:World}
theorem a8e {k:Operand->K} {ev:Operand->Value} {d:Int} {n:Int} {x:Option Operand} (h:uY k d x=some n) (hk:∀ x,(k x).holds E ρ w (ev x)):(x=none/\n=d)\/∃ y kd,x=some y/\ev y=.int kd n:=by
 cases x with
 | none=>exact .inl ⟨rfl,by unfold uY at h;simpa using h.symm⟩
 | some y =>
  unfold uY at h;dsimp only at h;split at h<;>try(cases h;done)
  rename_i kd m hy;cases h;have:=hk y;rw[hy] at this;exact .inr ⟨y,_,rfl,kT this⟩
theorem MJ {k:Operand->K} {ev:Operand->Value} {f:Int->Int->Int} {g:Value->Value->Sem Value} (hg:∀ (ka kb:IntKind) (a b:Int),g (.int ka a) (.int kb b)=pure (.int ka (f a b))) (hk:∀ x,(k x).holds E ρ w (ev x)) {ka:IntKind}:∀ {l:List Operand} {a b:Int},foldI k f a l=some b->((l.map ev).foldlM g (.int ka a)).run P w=.ok (.int ka b) w
 | [],a,b,h=>by cases h;rfl
 | x::l,a,b,h=>by
  simp only[foldI] at h;split at h<;>try(cases h;done)
  rename_i kb c hx;have h1:=hk x;rw[hx] at h1;have h1:=kT h1;have h3:=MJ hg hk (ka:=ka) h;rw[yw,List.foldlM_cons,h1];erw[hg];exact h3
theorem SI {lo hi:Option Value} {l h:Int} {len cap m:Nat} {b:Bool} (hl:(lo=none/\l=0)\/∃ kd,lo=some (.int kd l)) (hh:(hi=none/\h=len)\/∃ kd,hi=some (.int kd h)) (h0:0<=l) (h1:l<=h) (h2:h<=cap) :
  (Instr.sliceBounds b len cap lo hi none).run P w=.ok (l.toNat,h.toNat,cap) w:=by
 unfold Instr.sliceBounds Instr.sliceBound;obtain⟨l',rfl⟩:=uf h0;obtain⟨h',rfl⟩:=uf (Int.le_trans h0 h1);have h1:l'<=h':=by omega
 have h2:h'<=cap:=by omega
 have h3:(0:Int)<=(l':Int):=h0;have h4:(0:Int)<=(h':Int):=by omega
 rcases hl with⟨rfl,hl⟩|⟨kd,rfl⟩<;>rcases hh with⟨rfl,hh⟩|⟨kd',rfl⟩<;>simp_all [eu,asIntOf]<;>omega
theorem a2b {lo:Option Value} {l h m:Int} {kh km:IntKind} {len cap:Nat} {b:Bool} (hl:(lo=none/\l=0)\/∃ kd,lo=some (.int kd l)) (h0:0<=l) (h1:l<=h) (h2:h<=m) (h3:m<=cap) :
  (Instr.sliceBounds b len cap lo (some (.int kh h)) (some (.int km m))).run P w=.ok (l.toNat,h.toNat,m.toNat) w:=by
 unfold Instr.sliceBounds Instr.sliceBound;obtain⟨l',rfl⟩:=uf h0;obtain⟨h',rfl⟩:=uf (Int.le_trans h0 h1);obtain⟨m',rfl⟩:=uf (Int.le_trans (Int.le_trans h0 h1) h2);have h1:l'<=h':=by omega
 have h2:h'<=m':=by omega
 have h3:m'<=cap:=by omega
 have h4:(0:Int)<=(l':Int):=h0;have h5:(0:Int)<=(h':Int):=by omega
 have h6:(0:Int)<=(m':Int):=by omega
 rcases hl with⟨rfl,hl⟩|⟨kd,rfl⟩<;>simp_all [eu,asIntOf]<;>omega
theorem PN {α:Type} {R:List Value->α->Prop} {n:Nat} (h:∀ c y,R c y->c.length=n):∀ (xs:List α) (cs:List Value) (i:Nat),chunks R cs xs->chunks R (cs.take (i*n)) (xs.take i)
 | [],cs,i,hc=>by rw[show cs=[] from hc];simp;rfl
 | x::xs,_,0,_=>by simp;rfl
 | x::xs,_,i+1,⟨c1,c2,h1,h2,h3⟩=>by refine⟨c1,c2.take (i*n),?_,h2,PN h xs c2 i h3⟩;rw[h1,Aa,Fb,<-h _ _ h2,List.take_length_add_append]
theorem OT {α:Type} {R:List Value->α->Prop} {n:Nat} (h:∀ c y,R c y->c.length=n):∀ (xs:List α) (cs:List Value) (i:Nat),chunks R cs xs->chunks R (cs.drop (i*n)) (xs.drop i)
 | [],cs,i,hc=>by rw[show cs=[] from hc];simp;rfl
 | x::xs,cs,0,hc=>by simpa using hc
 | x::xs,_,i+1,⟨c1,c2,h1,h2,h3⟩=>by have:=OT h xs c2 i h3;rw[h1,Aa,Fb,<-Ej,<-h _ _ h2,Au,h _ _ h2];exact this
theorem JG {ty:Ty} {ys:List ty.den} {b o:Nat} {ds:List Value} {l h c:Nat} (hl:l<=h) (hh:h<=ys.length) (hc:h<=c) (hc2:c<=9223372036854775807) (hn:ys≠[]->fz w E b/\w.rangeAt b o ds/\chunks (rep (fz w E) w ty) ds ys) (p:Option Addr) (hp:h≠l->c≠l->p=some ⟨b,o+l*ty.n,none⟩) :
  (K.val (.list ty) ((ys.take h).drop l)).holds E ρ w (.slice p (h-l) (c-l)):=by
 have hlen:((ys.take h).drop l).length=h-l:=by rw[Bc,jk,zf hh]
 refine⟨[.slice p (h-l) (c-l)],rfl,p,c-l,by rw[show List.length (α:=ty.den) ((ys.take h).drop l)=h-l from hlen],by rw[show List.length (α:=ty.den) ((ys.take h).drop l)=h-l from hlen];omega,by omega,?_⟩;by_cases e:h=l
 ·left;show (ys.take h).drop l=[];exact ng (by rw[hlen];omega)
 ·right;have hne:ys≠[]:=fun e2=>by rw[e2] at hh;simp at hh;omega
  obtain⟨h1,h2,h3⟩:=hn hne;refine⟨b,o+l*ty.n,(ds.take (h*ty.n)).drop (l*ty.n),hp e (by omega),h1,fun j v hv=>?_,OT (fun c y=>dL ty c y) _ _ l (PN (fun c y=>dL ty c y) _ _ h h3)⟩;rw[List.getElem?_drop] at hv;have hlt:l*ty.n+j<h*ty.n:=by have:=(jy.1 hv).1;rw[jk] at this;omega
  rw[List.getElem?_take,dn hlt] at hv;have:=h2 _ _ hv;rwa [<-Nat.add_assoc] at this
theorem a2j {k:Operand->K} {ev:Operand->Value} {o:Oper} {vc:List Cd} {kk:K} (h:JF P k o.op=some (vc,kk)) (hv:dH vc) (hk:∀ x,(k x).holds E ρ w (ev x)):zV P E ρ w o ev kk/\kk.wf ρ:=by
 cases ho:o.op<;>rw[ho] at h<;>try (simp[JF] at h;done)
 case slice s x lo hi mx =>
  have hkx:=hk x;have hb:∀ {d:Int} {n:Int} {y:Option Operand},uY k d y=some n->(y.map ev=none/\n=d)\/∃ kd,y.map ev=some (.int kd n):=fun {d n y} hh=>by
   rcases a8e hh hk with⟨rfl,rfl⟩|⟨z,kd,rfl,h2⟩
   ·exact .inl ⟨rfl,rfl⟩
   ·exact .inr ⟨kd,by simp[h2]⟩
  cases mx with
  | some mx =>
   cases hi<;>simp only[JF] at h<;>try(cases h;done)
   rename_i hi;split at h<;>try(cases h;done)
   rename_i t ys hx;rw[hx] at hkx;split at h<;>try(cases h;done)
   rename_i he;split at h<;>try(cases h;done)
   rename_i l hh m hlo hhi hmx;simp only[ah,ak] at h;obtain⟨rfl,rfl⟩:=h;obtain⟨v0,v1,v2,v3,_⟩:=hv;obtain⟨p,c,hxv,k1,k2,k3⟩:=yC (ρ:=ρ) hkx;obtain⟨e,hu,hf⟩:=oQ he;obtain⟨⟨i2,hi2,hsz⟩,_⟩:=fM hf;obtain⟨kh,eh⟩:=(hb hhi).resolve_left (fun h=>by cases h.1);obtain⟨km,em⟩:=(hb hmx).resolve_left (fun h=>by cases h.1);have hr:=a2b (P:=P) (w:=w) (b:=true) (len:=List.length (α:=t.den) ys) (kh:=kh) (km:=km) (hb hlo) v0 v1 v2 (show m<=(c:Int) by omega);rw[<-eh,<-em] at hr;refine⟨fQ (s:=Instr.sliceAt s (ev x) (lo.map ev) ((some hi).map ev) ((some mx).map ev)) (by simp only[execOp,ho]) ⟨.slice (if m.toNat=l.toNat then p else p.map (·.add (l.toNat*i2.size))) (hh.toNat-l.toNat) (m.toNat-l.toNat),?_,?_⟩,trivial⟩
   ·rw[hxv];simp only[Instr.sliceAt,eu,ku hu w,Result.andThen_ok,Instr.slice,hr,run_sizeOf hi2,Sem.run_pure]
   ·rcases k3 with rfl|⟨b,oo,ds,rfl,k3,k4,k5⟩
    ·have h0:hh.toNat=0:=by simp at v3;omega
     have h1:l.toNat=0:=by omega
     rw[h0,h1];exact JG (b:=0) (o:=0) (ds:=[]) (aj _) (by simp) (ru _) (by omega) (fun e=>absurd rfl e) _ (fun hne=>absurd rfl hne)
    ·refine JG (b:=b) (o:=oo) (ds:=ds) (by omega) (by omega) (by omega) (by omega) (fun _=>⟨k3,k4,k5⟩) _ (fun _ hne=>?_);rw[bn hne,hsz];simp[Ba]
  | none =>
  simp only[JF] at h;split at h<;>try(cases h;done)
  ·rename_i t ys hx;rw[hx] at hkx;split at h<;>try(cases h;done)
   rename_i he;split at h<;>try(cases h;done)
   rename_i l hh hlo hhi;simp only[b5b,ah,ak] at h;obtain⟨rfl,rfl⟩:=h;obtain⟨v0,v1,v2,_⟩:=hv;obtain⟨p,c,hxv,k1,k2,k3⟩:=yC (ρ:=ρ) hkx;obtain⟨e,hu,hf⟩:=oQ he;obtain⟨⟨i2,hi2,hsz⟩,_⟩:=fM hf;have hr:=SI (P:=P) (w:=w) (b:=true) (m:=0) (hb hlo) (hb hhi) v0 v1 (show hh<=(c:Int) by omega);refine⟨fQ (s:=Instr.sliceAt s (ev x) (lo.map ev) (hi.map ev) none) (by simp only[execOp,ho];rfl) ⟨.slice (if c=l.toNat then p else p.map (·.add (l.toNat*i2.size))) (hh.toNat-l.toNat) (c-l.toNat),?_,?_⟩,trivial⟩
   ·rw[hxv];simp only[Instr.sliceAt,eu,ku hu w,Result.andThen_ok,Instr.slice,hr,run_sizeOf hi2,Sem.run_pure]
   ·rcases k3 with rfl|⟨b,oo,ds,rfl,k3,k4,k5⟩
    ·have h0:hh.toNat=0:=by simp at v2;omega
     have h1:l.toNat=0:=by omega
     rw[h0,h1];exact JG (b:=0) (o:=0) (ds:=[]) (aj _) (by simp) (by omega) k2 (fun e=>absurd rfl e) _ (fun hne=>absurd rfl hne)
    ·refine JG (b:=b) (o:=oo) (ds:=ds) (by omega) (by omega) (by omega) k2 (fun _=>⟨k3,k4,k5⟩) _ (fun _ hne=>?_);rw[bn hne,hsz];simp[Ba]
  ·rename_i m t ys hx;rw[hx] at hkx;split at h<;>try(cases h;done)
   rename_i he;simp only[ay,jc] at he;obtain⟨he,hm9⟩:=he;split at h<;>try(cases h;done)
   rename_i l hh hlo hhi;simp only[b5b,ah,ak] at h;obtain⟨rfl,rfl⟩:=h;obtain⟨v0,v1,v2,_⟩:=hv;obtain⟨b,oo,ds,hxv,k1,k2,kl,k3⟩:=FB hkx;have kl:List.length (α:=t.den) ys=m:=kl;obtain⟨e,hu,hf⟩:=MG he;obtain⟨⟨i2,hi2,hsz⟩,_⟩:=fM hf;have hr:=SI (P:=P) (w:=w) (b:=false) (m:=0) (len:=m) (cap:=m) (hb hlo) (hb hhi) v0 v1 v2;refine⟨fQ (s:=Instr.sliceAt s (ev x) (lo.map ev) (hi.map ev) none) (by simp only[execOp,ho];rfl) ⟨.slice (some (if m=l.toNat then ⟨b,oo,none⟩ else (⟨b,oo,none⟩:Addr).add (l.toNat*i2.size))) (hh.toNat-l.toNat) (m-l.toNat),?_,?_⟩,trivial⟩
   ·rw[hxv];simp only[Instr.sliceAt,eu,ku hu w,Result.andThen_ok,Instr.sureAddr,hr,run_sizeOf hi2,Sem.run_pure]
   ·refine JG (b:=b) (o:=oo) (ds:=ds) (by omega) (by omega) (by omega) hm9 (fun _=>⟨k1,k2,k3⟩) _ (fun _ hne=>?_);rw[bn hne,hsz,Ba]
 case call c =>
  obtain⟨cl,xs,ts⟩:=c;cases cl<;>try (simp[JF] at h;done)
  rename_i bi;cases bi<;>try (simp[JF] at h;done)
  all_goals
   simp only[JF] at h;split at h<;>try(cases h;done)
   rename_i x l hxs;have hxs:xs=(x::l).toArray:=by apply Dw;simpa using hxs
   subst hxs;split at h<;>try(cases h;done)
   rename_i ka a hx;obtain⟨b,hf,h9⟩:=ig.1 h;cases h9;have h1:=hk x;rw[hx] at h1;have h1:=kT h1;refine⟨⟨_,?_,lI _ _⟩,trivial⟩;first
    |have r:=MJ (P:=P) (w:=w) (ka:=ka) (g:=Builtin.max2) (f:=c6s) (fun k j a b=>rfl) hk hf
     simp[execOp,ho,resolve,invoke,builtin,eu,h1,Builtin.max_];erw[r];rfl
    |have r:=MJ (P:=P) (w:=w) (ka:=ka) (g:=Builtin.min2) (f:=c6t) (fun k j a b=>rfl) hk hf
     simp[execOp,ho,resolve,invoke,builtin,eu,h1,Builtin.min_];erw[r];rfl
end
end
section
set_option linter.unusedSimpArgs false
set_option linter.unusedVariables false
section
variable {P:Program} {E:Env} {ρ:Nat->Res} {W w:World}
theorem nX (b:Nat):∀ (vs:List Value) (o:Nat) (w:World),(w.setCells b o vs).heap.size=w.heap.size/\(w.setCells b o vs).os=w.os/\(w.setCells b o vs).tape=w.tape/\(w.setCells b o vs).output=w.output/\∀ q,q≠b->(w.setCells b o vs).heap[q]?=w.heap[q]?:=by
 intro vs
 induction vs with
 | nil=>intro o w;exact⟨rfl,rfl,rfl,rfl,fun _ _=>rfl⟩
 | cons v vs ih =>
  intro o w;obtain⟨h1,h2,h3,h4,h5⟩:=ih (o+1) (w.setCell ⟨b,o,none⟩ v);exact⟨h1.trans (by simp[World.setCell]),h2,h3,h4,fun q hq=>(h5 q hq).trans (Below.heap_setCell _ _ _ _ hq)⟩
theorem xP {S:Nat->Prop} {r j b:Nat} {cs vs:List Value} {e:TypeId} {o:Nat} (hS:S r) (hr:E.has r j b) (hb:w.heap[b]?=some (.cells cs.toArray e (0,0))) (hn:∀ v ∈ cs,fF v=true):lH E w (w.setCells b o vs) S:=by
 obtain⟨h1,h2,h3,h4,h5⟩:=nX b vs o w;refine⟨h2,h3,h4,by omega,fun q hq hne=>h5 q (fun e=>hne r j hS (by rw[e];exact hr)),fun q i n hc=>?_⟩;by_cases e9:q=b
 ·subst e9;rw[yg _ _ _ _ _ _ hb] at hc;have:=hn (.int .u32 n) (by simp at hc;exact Dh hc);simp[fF] at this
 ·rw[<-hc];exact Dz (w:=w) (h5 q e9)
theorem owns_block {e:TypeId} {n m:Nat} {v:Value} {cs:List Value} (h:w.ownsRow 0 e n v m cs) {g:Nat} (hg:bK v=some g):∃ cap rest,v=.slice (some ⟨g,0,none⟩) m cap/\m<=cap/\cap<=maxLen/\w.heap[g]?=some (.cells (cs++rest).toArray e (0,0))/\(cs++rest).length=cap*n:=by
 rcases h.2 with⟨rfl,_⟩|⟨g',cap,cur,rfl,_,e3,e4,e5,e6,e7⟩
 ·cases hg
 ·cases hg;refine⟨cap,cur.toList.drop (m*n),rfl,e4,e5,?_,?_⟩
  ·rw[<-e7,yu,Array.toArray_toList];exact e3
  ·rw[<-e7,yu,Array.length_toList];exact e6
theorem KT {e:TypeId} {n m g i:Nat} {v:Value} {cs ds:List Value} (h:w.ownsRow 0 e n v m cs) (hg:bK v=some g) (hi:i<m) (hl:ds.length=n) :
  (w.setCells g (i*n) ds).ownsRow 0 e n v m (cs.take (i*n)++ds++cs.drop (i*n+n)):=by
 obtain⟨cap,rest,rfl,h1,h2,h3,h4⟩:=owns_block h hg;have hlen:=h.1;have hb:i*n+n<=m*n:=by rw[<-Aa];exact jl _ hi
 have hh:=jW g ds (i*n) w (cs++rest) e h3 (by rw[dh];omega);have e1:(cs++rest).take (i*n)++ds++(cs++rest).drop (i*n+ds.length)=(cs.take (i*n)++ds++cs.drop (i*n+n))++rest:=by rw[hl,List.take_append_of_le_length (by omega),List.drop_append_of_le_length (by omega)];simp[Ar]
 rw[e1] at hh;have hln:(cs.take (i*n)++ds++cs.drop (i*n+n)).length=m*n:=by simp only[dh,jk,Bc];omega
 refine⟨hln,.inr ⟨g,cap,_,rfl,ru _,hh,h1,h2,?_,?_⟩⟩
 ·rw[Dk,dh,hln,<-h4,dh];omega
 ·show List.take (m*n) _=_;rw[<-hln];exact Di
theorem GR {α:Type} {R:List Value->α->Prop} {n:Nat} (h:∀ c y,R c y->c.length=n) {ds:List Value} {x:α} (hd:R ds x):∀ (xs:List α) (cs:List Value) (i:Nat),chunks R cs xs->i<xs.length->chunks R (cs.take (i*n)++ds++cs.drop (i*n+n)) (xs.set i x)
 | [],cs,i,_,hi=>by simp at hi
 | y::ys,_,0,⟨c1,c2,h1,h2,h3⟩,_=>by rw[h1,Nat.zero_mul,List.take_zero,qg,<-h _ _ h2,Au];exact⟨ds,c2,rfl,hd,h3⟩
 | y::ys,_,i+1,⟨c1,c2,h1,h2,h3⟩,hi=>by have ih:=GR h hd ys c2 i h3 (by simpa using hi);refine⟨c1,_,?_,h2,ih⟩;have hl:=h _ _ h2;rw[h1,show (i+1)*n=c1.length+i*n by rw[Aa,hl,Fb],List.take_length_add_append,Nat.add_assoc,<-Ej,Au];simp[Ar]
theorem SK {g o:Nat} {v:Value} {cs ds rest:List Value} {e:TypeId} (h:CAv dB w v) (hg:bK v=some g) (hb:w.heap[g]?=some (.cells (cs++rest).toArray e (0,0))) (hl:o+ds.length<=(cs++rest).length) (hd:∀ u ∈ ds,dB u=true):CAv dB (w.setCells g o ds) v:=by
 intro g' hg';have e9:g'=g:=by have:=(mM v).symm.trans hg;rw[hg'] at this;cases this;rfl
 subst e9;have hold:=CA.cells hb (h g' hg');refine CA.of_cells (jW g' ds o w _ e hb hl) (fun u hu=>?_);simp only[tu] at hu;rcases hu with(hu|hu)|hu
 ·exact hold u (Dx hu)
 ·exact hd u hu
 ·exact hold u (List.mem_of_mem_drop hu)
theorem EY {e:TypeId} {n m g i:Nat} {v:Value} {cs:List Value} (h:w.ownsRow 0 e n v m cs) (hg:bK v=some g) (hi:i<m):w.there g (i*n) n:=by
 obtain⟨cap,rest,rfl,h1,h2,h3,h4⟩:=owns_block h hg;have hlen:=h.1;have hb:i*n+n<=m*n:=by rw[<-Aa];exact jl _ hi
 intro j hj;refine⟨?_,by simp[World.frozen?,h3]⟩;rw[yg _ _ _ _ _ _ h3];have:i*n+j<(cs++rest).length:=by rw[dh];omega
 simp only[List.getElem?_toArray];rw[dw this];rfl
theorem vM {e:TypeId} {g:Nat} {v:Value} {cs rest:List Value} (h:CAv dB w v) (hg:bK v=some g) (hb:w.heap[g]?=some (.cells (cs++rest).toArray e (0,0))):∀ u ∈ cs++rest,fF u=true:=fun u hu=>by have:=CA.cells hb (h g ((mM v).symm.trans hg)) u (by simpa using hu);simp only[dB,ay] at this;exact this.2
theorem b7h {r v i g:Nat} {e:TypeId} {ty:Ty} {xs:List ty.den} {x:ty.den} {ds:List Value} (hM:Mem E ρ W w) (hr:ρ r=.row e ty xs v) (hg:bK (E.sl r)=some g) (hi:i<xs.length) (hd:rep (fz w E) w ty ds x) :
  Mem (E.put r (E.blk r) (E.sl r)) (bJ ρ r (.row e ty (xs.set i x) v)) W (w.setCells g (i*ty.n) ds)/\Ext E ρ w (E.put r (E.blk r) (E.sl r)) (bJ ρ r (.row e ty (xs.set i x) v)) (w.setCells g (i*ty.n) ds)/\w.there g (i*ty.n) ds.length/\ty.still=true:=by
 have h1:=hM.res r;rw[hr] at h1;obtain⟨k1,k2,cs,k3,k4,k5,k6n⟩:=h1;have hl:=dL _ _ _ hd;obtain⟨cap,rest,e1,e2,e3,e4,e5⟩:=owns_block k3 hg;have hgo:=xP (S:=fun q=>q=r) (vs:=ds) (o:=i*ty.n) rfl (show E.has r 0 g from k1.trans hg) e4 (vM k5 hg e4);have hb9:E.blk r=none\/E.blk r=E.blk r\/E.blk r=some w.heap.size:=.inr (.inl rfl);have hF:=AU (ρ:=ρ) (w':=w.setCells g (i*ty.n) ds) (E:=E) (r:=r) (s:=E.sl r) hgo.size hb9;have a0Y:i*ty.n+ds.length<=(cs++rest).length:=by
  have:=k3.1;have hb:i*ty.n+ty.n<=xs.length*ty.n:=by rw[<-Aa];exact jl _ hi
  rw[dh];omega
 obtain⟨m1,m2⟩:=hM.turn (w':=w.setCells g (i*ty.n) ds) r hgo (E.blk r) (E.sl r) (.row e ty (xs.set i x) v)
  ⟨by show bJ E.blk r _ r=bK (bJ E.sl r _ r);rw[aF,aF];exact k1,k2,_,by show World.ownsRow _ _ _ _ (bJ E.sl r _ r) _ _;rw[aF,qp];exact KT k3 hg hi hl,aZ (fun c y=>bY hF hgo.stay ty c y) _ _ (GR (fun c y=>dL ty c y) hd _ _ i k4 hi),by
   show CAv _ _ (bJ E.sl r _ r)/\nnS _ (bJ E.sl r _ r);rw[aF];exact⟨SK k5 hg e4 a0Y (yV ty k2 _ _ hd),k6n⟩⟩
  hb9 rfl (fun k e=>by cases e) (fun h=>by rw[hr] at h;exact h.elim) (fun h=>by rw[hr] at h;exact h.elim) (fun v' h=>by rw[hr] at h;exact h) (fun v' h h'=>by
   refine⟨by rw[hr];exact h',rfl,by rw[hr];rfl⟩) (fun v h=>h.elim)
 exact⟨m1,m2,by rw[hl];exact EY k3 hg hi,k2⟩
theorem b6J {r v id i g:Nat} {e e2:TypeId} {ty:Ty} {ids:Option (List Nat)} {xss:List (List ty.den)} {x:ty.den} {ds:List Value} (hM:Mem E ρ W w) (hr:ρ r=.mat e e2 ty ids xss v) (hid:id<xss.length) (hg:bK (E.inn r id)=some g) (hi:i<(rowAt xss id).length) (hd:rep (fz w E) w ty ds x) :
  ∃ E',Mem E' (bJ ρ r (.mat e e2 ty ids (xss.set id ((rowAt xss id).set i x)) v)) W (w.setCells g (i*ty.n) ds)/\Ext E ρ w E' (bJ ρ r (.mat e e2 ty ids (xss.set id ((rowAt xss id).set i x)) v)) (w.setCells g (i*ty.n) ds)/\w.there g (i*ty.n) ds.length/\ty.still=true:=by
 have h1:=hM.res r;rw[hr] at h1;obtain⟨k1,k2,⟨cs0,k3,k4,k5⟩,k6,k7,k8⟩:=h1;obtain⟨cs,q1,q2,q3⟩:=nU hM hr hid;have hl:=dL _ _ _ hd;obtain⟨cap,rest,e1,e2',e3,e4,e5⟩:=owns_block q1 hg;have hhas:E.has r (id+1) g:=hg;have hgo:=xP (S:=fun q=>q=r) (vs:=ds) (o:=i*ty.n) rfl hhas e4 (vM q3 hg e4);have hF:∀ q,fz w E q->fz (w.setCells g (i*ty.n) ds) (E.sN r (E.blk r) (E.sl r) (E.inn r)) q:=vG (S:=fun q=>q=r) hgo.size rfl (fun q hq=>⟨aS _ _ hq,aS _ _ hq⟩) (fun r' j q e hh=>by
  subst e;rw[nS,dn rfl] at hh;cases j with
  | zero=>exact .inl ⟨r',0,hh⟩
  | succ j=>exact .inl ⟨r',j+1,hh⟩)
 have a0Y:i*ty.n+ds.length<=(cs++rest).length:=by
  have:=q1.1;have hb:i*ty.n+ty.n<=(rowAt xss id).length*ty.n:=by rw[<-Aa];exact jl _ hi
  rw[dh];omega
 have hne:∀ j q,E.has r j q->j≠id+1->(w.setCells g (i*ty.n) ds).heap[q]?=w.heap[q]?:=fun j q hh hj=>(nX g ds _ w).2.2.2.2 q (fun e=>hj ((hM.inj _ _ _ _ _ hh (by subst e;exact hhas)).2));have hlen:(bW ids (xss.set id ((rowAt xss id).set i x)))=bW ids xss:=by
  cases ids with
  | none=>simp[bW]
  | some l=>rfl
 have AY:(E.sN r (E.blk r) (E.sl r) (E.inn r)).inn r=E.inn r:=aF _ _ _;have hsl:(E.sN r (E.blk r) (E.sl r) (E.inn r)).sl r=E.sl r:=aF _ _ _;have hx:nD (E.sN r (E.blk r) (E.sl r) (E.inn r)) (w.setCells g (i*ty.n) ds) r (.mat e e2 ty ids (xss.set id ((rowAt xss id).set i x)) v):=by
  have hb0:∀ b,bK (E.sl r)=some b->(w.setCells g (i*ty.n) ds).heap[b]?=w.heap[b]?:=fun b hb=>hne 0 b (k1.trans hb) (by simp);refine⟨by rw[hsl];show bJ E.blk r _ r=_;rw[aF];exact k1,k2,⟨cs0,?_,by rw[AY,hlen];exact k4,by rw[hsl];exact jM k5 hb0⟩,by rw[hlen,qp];exact k6,by rw[AY,qp];exact k7,fun j ys hj=>?_⟩
  ·rw[hsl,hlen];exact dU k3 hb0
  ·rw[AY];rw[List.getElem?_set] at hj;split at hj
   ·rename_i ej;subst ej;simp only[hid,Du,ah] at hj;subst hj;exact⟨_,by rw[qp];exact KT q1 hg hi hl,aZ (fun c y=>bY hF hgo.stay ty c y) _ _ (GR (fun c y=>dL ty c y) hd _ _ i q2 hi),SK q3 hg e4 a0Y (yV ty k2 _ _ hd)⟩
   ·rename_i ej;obtain⟨cs9,r1,r2,r3⟩:=k8 j ys hj;have hb1:∀ b,bK (E.inn r j)=some b->(w.setCells g (i*ty.n) ds).heap[b]?=w.heap[b]?:=fun b hb=>hne (j+1) b hb (by omega);exact⟨cs9,dU r1 hb1,aZ (fun c y=>bY hF hgo.stay ty c y) _ _ r2,jM r3 hb1⟩
 obtain⟨m1,m2⟩:=hM.GK (w':=w.setCells g (i*ty.n) ds) r hgo (E.blk r) (E.sl r) (E.inn r) _ hx (fun q hq=>.inl (by
   rcases hq with hq|⟨j,hq⟩
   ·exact⟨0,hq⟩
   ·exact⟨j+1,hq⟩)) (fun q j h1 h2=>by have:=(hM.inj r 0 r (j+1) q h1 h2).2;omega) (fun j j' q h1 h2=>by have:=(hM.inj r (j+1) r (j'+1) q h1 h2).2;omega) (fun j hj=>hM.inner r j (by rw[hr];simpa [Res.cnt] using hj))
  (fun h=>by rw[hr] at h;exact h.elim) (fun h=>by rw[hr] at h;exact h.elim) (fun v' h=>by rw[hr] at h;exact h) (fun v' h h'=>⟨by rw[hr];exact h',rfl,by rw[hr];rfl⟩) (fun v' h h'=>⟨by rw[hr];exact h',by rw[hr];rfl,by rw[hr];simp[Res.cnt],fun _ _=>rfl⟩) (fun _ k e=>by cases e)
 exact⟨_,m1,m2,by rw[hl];exact EY q1 hg hi,k2⟩
theorem a3I {α:Type} (cs:List α) (i:Nat) (u:α) (h:i<cs.length):cs.take (i*1)++[u]++cs.drop (i*1+1)=cs.set i u:=by rw[Nat.mul_one,List.set_eq_take_append_cons_drop,dn h];simp
theorem LD {p:Option Addr} {n c:Nat}:dB (.slice p n c)=true:=by simp[dB,fF,Value.oneCell']
theorem a7a {F:Nat->Prop} {e:TypeId} {t:Ty} {v:Value} {xs:List t.den} {cs:List Value} (h:w.ownsRow 0 e t.n v xs.length cs) (hc:chunks (rep F w t) cs xs):rep (fun _=>True) w (.list t) [v] xs:=by
 obtain⟨ds,e1,e2⟩:=lD (E:=⟨fun _=>none,fun _=>undef,fun _=>True,fun _ _=>undef,fun _=>False,fun _=>undef⟩) (F:=fun _=>True) h (aZ (fun c y=>bY (fun _ _=>trivial) ⟨fun _ _=>rfl,fun _ _ _ h=>h,aj _⟩ t c y) _ _ hc) (fun _ _=>trivial);obtain⟨p,c,e3,e4⟩:=e2;have:v=.slice p xs.length c:=by rw[e1,e3];rfl
 exact⟨p,c,by rw[this],e4⟩
theorem c0l {r v id i g:Nat} {e e2:TypeId} {ty:Ty} {ids:Option (List Nat)} {xss:List (List ty.den)} (hM:Mem E ρ W w) (hr:ρ r=.mat e e2 ty ids xss v) (hid:id<xss.length) (hg:bK (E.sl r)=some g) (hi:i<aW ids xss) :
  ∃ E',Mem E' (bJ ρ r (.mat e e2 ty (some ((bW ids xss).set i id)) xss v)) W (w.setCells g (i*1) [E.inn r id])/\Ext E ρ w E' (bJ ρ r (.mat e e2 ty (some ((bW ids xss).set i id)) xss v)) (w.setCells g (i*1) [E.inn r id])/\w.there g (i*1) 1:=by
 have h1:=hM.res r;rw[hr] at h1;obtain⟨k1,k2,⟨cs0,k3,k4,k5⟩,k6,k7,k8⟩:=h1;rw[<-AL] at hi;obtain⟨cap,rest,e1,e2',e3,e4,e5⟩:=owns_block k3 hg;have hhas:E.has r 0 g:=k1.trans hg;have hgo:=xP (S:=fun q=>q=r) (vs:=[E.inn r id]) (o:=i*1) rfl hhas e4 (vM k5 hg e4);have hF:∀ q,fz w E q->fz (w.setCells g (i*1) [E.inn r id]) (E.sN r (E.blk r) (E.sl r) (E.inn r)) q:=vG (S:=fun q=>q=r) hgo.size rfl (fun q hq=>⟨aS _ _ hq,aS _ _ hq⟩) (fun r' j q e hh=>by
  subst e;rw[nS,dn rfl] at hh;cases j with
  | zero=>exact .inl ⟨r',0,hh⟩
  | succ j=>exact .inl ⟨r',j+1,hh⟩)
 have hcl:i<cs0.length:=by rw[k4,ny];exact hi
 have a0Y:i*1+[E.inn r id].length<=(cs0++rest).length:=by rw[dh];simp only[List.length_singleton];omega
 have hne:∀ j q,E.has r j q->j≠0->(w.setCells g (i*1) [E.inn r id]).heap[q]?=w.heap[q]?:=fun j q hh hj=>(nX g _ _ w).2.2.2.2 q (fun e=>hj ((hM.inj _ _ _ _ _ hh (by subst e;exact hhas)).2));have AY:(E.sN r (E.blk r) (E.sl r) (E.inn r)).inn r=E.inn r:=aF _ _ _;have hsl:(E.sN r (E.blk r) (E.sl r) (E.inn r)).sl r=E.sl r:=aF _ _ _;have hok:∀ u ∈ [E.inn r id],dB u=true:=fun u hu=>by obtain⟨cs,q1,_⟩:=nU hM hr hid;obtain⟨p,c,e1⟩:=rC q1;rw[mg.1 hu,e1];exact LD
 have hx:nD (E.sN r (E.blk r) (E.sl r) (E.inn r)) (w.setCells g (i*1) [E.inn r id]) r (.mat e e2 ty (some ((bW ids xss).set i id)) xss v):=by
  refine⟨by rw[hsl];show bJ E.blk r _ r=_;rw[aF];exact k1,k2,⟨cs0.set i (E.inn r id),?_,?_,by rw[hsl];exact SK k5 hg e4 a0Y hok⟩,fun x hx=>?_,by rw[AY];exact k7,fun j ys hj=>?_⟩
  ·rw[hsl];have:=KT (ds:=[E.inn r id]) k3 hg hi rfl;rw[a3I _ _ _ hcl] at this;simpa [bW] using this
  ·rw[AY,k4];simp only[bW];rw[List.map_set]
  ·rcases List.mem_or_eq_of_mem_set hx with hx|rfl
   ·exact k6 x hx
   ·exact hid
  ·rw[AY];obtain⟨cs9,r1,r2,r3⟩:=k8 j ys hj;have hb1:∀ b,bK (E.inn r j)=some b->(w.setCells g (i*1) [E.inn r id]).heap[b]?=w.heap[b]?:=fun b hb=>hne (j+1) b hb (by omega);exact⟨cs9,dU r1 hb1,aZ (fun c y=>bY hF hgo.stay ty c y) _ _ r2,jM r3 hb1⟩
 obtain⟨m1,m2⟩:=hM.GK (w':=w.setCells g (i*1) [E.inn r id]) r hgo (E.blk r) (E.sl r) (E.inn r) _ hx (fun q hq=>.inl (by
   rcases hq with hq|⟨j,hq⟩
   ·exact⟨0,hq⟩
   ·exact⟨j+1,hq⟩)) (fun q j h1 h2=>by have:=(hM.inj r 0 r (j+1) q h1 h2).2;omega) (fun j j' q h1 h2=>by have:=(hM.inj r (j+1) r (j'+1) q h1 h2).2;omega) (fun j hj=>hM.inner r j (by rw[hr];simpa [Res.cnt] using hj))
  (fun h=>by rw[hr] at h;exact h.elim) (fun h=>by rw[hr] at h;exact h.elim) (fun v' h=>by rw[hr] at h;exact h) (fun v' h h'=>⟨by rw[hr];exact h',rfl,by rw[hr];rfl⟩) (fun v' h h'=>⟨by rw[hr];exact h',by rw[hr];rfl,by rw[hr];exact aj _,fun _ _=>rfl⟩) (fun _ k e=>by cases e)
 exact⟨_,m1,m2,EY (n:=1) k3 hg hi⟩
theorem c0k {r r2 v v2 i g:Nat} {e e2:TypeId} {ty:Ty} {ids:Option (List Nat)} {xss:List (List ty.den)} {ys:List ty.den} (hM:Mem E ρ W w) (hr:ρ r=.mat e e2 ty ids xss v) (hr2:ρ r2=.row e2 ty ys v2) (hne:r2≠r) (hg:bK (E.sl r)=some g) (hi:i<aW ids xss) :
  ∃ E',Mem E' (bJ (bJ ρ r (.mat e e2 ty (some ((bW ids xss).set i xss.length)) (xss++[ys]) v)) r2 (.row e2 ty [] (nx v2))) W (w.setCells g (i*1) [E.sl r2])/\Ext E ρ w E' (bJ (bJ ρ r (.mat e e2 ty (some ((bW ids xss).set i xss.length)) (xss++[ys]) v)) r2 (.row e2 ty [] (nx v2))) (w.setCells g (i*1) [E.sl r2])/\w.there g (i*1) 1:=by
 have h1:=hM.res r;rw[hr] at h1;obtain⟨k1,k2,⟨cs0,k3,k4,k5⟩,k6,k7,k8⟩:=h1;have h2:=hM.res r2;rw[hr2] at h2;obtain⟨p1,p2,cs2,p3,p4,p5,_⟩:=h2;rw[<-AL] at hi;obtain⟨cap,rest,e1,e2',e3,e4,e5⟩:=owns_block k3 hg;have hhas:E.has r 0 g:=k1.trans hg;have hgo:=xP (S:=fun q=>q=r\/q=r2) (vs:=[E.sl r2]) (o:=i*1) (.inl rfl) hhas e4 (vM k5 hg e4)
 let w':=w.setCells g (i*1) [E.sl r2]
 let E':Env:=(E.sN r (E.blk r) (E.sl r) (bJ (E.inn r) xss.length (E.sl r2))).put r2 none (.slice none 0 0)
 have hcl:i<cs0.length:=by rw[k4,ny];exact hi
 have a0Y:i*1+[E.sl r2].length<=(cs0++rest).length:=by rw[dh];simp only[List.length_singleton];omega
 have hnr:r≠r2:=fun e=>hne e.symm;have a2K:E'.blk r=E.blk r:=by show bJ (bJ E.blk r _) r2 _ r=_;rw[aS _ _ hnr,aF]
 have a0W:E'.sl r=E.sl r:=by show bJ (bJ E.sl r _) r2 _ r=_;rw[aS _ _ hnr,aF]
 have zL:E'.inn r=bJ (E.inn r) xss.length (E.sl r2):=by show bJ (bJ E.inn r _) r2 _ r=_;rw[aS _ _ hnr,aF]
 have a0:E'.blk r2=none:=aF _ _ _;have TT:E'.sl r2=.slice none 0 0:=aF _ _ _;have b0:E'.inn r2=fun _=>undef:=aF _ _ _;have hE:∀ q,¬ (q=r\/q=r2)->E'.blk q=E.blk q/\E'.sl q=E.sl q/\E'.inn q=E.inn q/\(bJ (bJ ρ r (.mat e e2 ty (some ((bW ids xss).set i xss.length)) (xss++[ys]) v)) r2 (.row e2 ty [] (nx v2))) q=ρ q:=fun q hq=>by have n1:q≠r:=fun e=>hq (.inl e);have n2:q≠r2:=fun e=>hq (.inr e);exact⟨(aS _ _ n2).trans (aS _ _ n1),(aS _ _ n2).trans (aS _ _ n1),(aS _ _ n2).trans (aS _ _ n1),(aS _ _ n2).trans (aS _ _ n1)⟩
 have a1a:∀ j b,¬ E'.has r2 j b:=fun j b hh=>by
  cases j with
  | zero=>have hh:E'.blk r2=some b:=hh;rw[a0] at hh;cases hh
  | succ j=>have hh:bK (E'.inn r2 j)=some b:=hh;rw[b0] at hh;cases hh
 have hmap:∀ j b,E'.has r j b->(j=xss.length+1/\E.has r2 0 b)\/(j≠xss.length+1/\E.has r j b):=fun j b hh=>by
  cases j with
  | zero=>exact .inr ⟨by omega,by show E.blk r=some b;rw[<-a2K];exact hh⟩
  | succ j =>
   have hh:bK (E'.inn r j)=some b:=hh;rw[zL] at hh;by_cases ej:j=xss.length
   ·subst ej;rw[aF] at hh;exact .inl ⟨rfl,p1.trans hh⟩
   ·rw[aS _ _ ej] at hh;exact .inr ⟨by omega,hh⟩
 have hF:∀ q,fz w E q->fz w' E' q:=vG (S:=fun q=>q=r\/q=r2) hgo.size rfl (fun q hq=>⟨(hE q hq).1,(hE q hq).2.2.1⟩) (fun r' j q e hh=>by
  rcases e with rfl|rfl
  ·rcases hmap j q hh with⟨_,h⟩|⟨_,h⟩
   ·exact .inl ⟨_,_,h⟩
   ·exact .inl ⟨_,_,h⟩
  ·exact(a1a j q hh).elim)
 have hnb:∀ r' j q,E.has r' j q->(r'≠r\/j≠0)->w'.heap[q]?=w.heap[q]?:=fun r' j q hh hj=>(nX g _ _ w).2.2.2.2 q (fun e=>by
  have:=hM.inj _ _ _ _ _ hh (by subst e;exact hhas);rcases hj with hj|hj
  ·exact hj this.1
  ·exact hj this.2)
 have hok:∀ u ∈ [E.sl r2],dB u=true:=fun u hu=>by obtain⟨p,c,e1⟩:=rC p3;rw[mg.1 hu,e1];exact LD
 have MS:(bJ (bJ ρ r (.mat e e2 ty (some ((bW ids xss).set i xss.length)) (xss++[ys]) v)) r2 (.row e2 ty [] (nx v2))) r=.mat e e2 ty (some ((bW ids xss).set i xss.length)) (xss++[ys]) v:=(aS _ _ hnr).trans (aF _ _ _);have AZ:(bJ (bJ ρ r (.mat e e2 ty (some ((bW ids xss).set i xss.length)) (xss++[ys]) v)) r2 (.row e2 ty [] (nx v2))) r2=.row e2 ty [] (nx v2):=aF _ _ _;have hx:nD E' w' r (.mat e e2 ty (some ((bW ids xss).set i xss.length)) (xss++[ys]) v):=by
  refine⟨by rw[a0W,a2K];exact k1,k2,⟨cs0.set i (E.sl r2),?_,?_,by rw[a0W];exact SK k5 hg e4 a0Y hok⟩,fun x hx=>?_,fun j hj=>?_,fun j zs hj=>?_⟩
  ·rw[a0W];have:=KT (ds:=[E.sl r2]) k3 hg hi rfl;rw[a3I _ _ _ hcl] at this;show w'.ownsRow 0 e 1 (E.sl r) ((bW ids xss).set i xss.length).length _;rw[qp];exact this
  ·rw[zL,k4];simp only[bW];rw[List.map_set,aF];congr 1;refine og (fun x hx=>?_);have:=k6 x hx;rw[aS _ _ (by omega)]
  ·rw[dh];rcases List.mem_or_eq_of_mem_set hx with hx|rfl
   ·have:=k6 x hx;simp;omega
   ·simp
  ·rw[dh,List.length_singleton] at hj;rw[zL,aS _ _ (by omega)];exact k7 j (by omega)
  ·rw[zL];by_cases ej:j=xss.length
   ·subst ej;rw[List.getElem?_append_right (aj _),Nat.sub_self] at hj;cases hj;rw[aF];have hb1:∀ b,bK (E.sl r2)=some b->w'.heap[b]?=w.heap[b]?:=fun b hb=>hnb r2 0 b (p1.trans hb) (.inl hne);exact⟨cs2,dU p3 hb1,aZ (fun c y=>bY hF hgo.stay ty c y) _ _ p4,jM p5 hb1⟩
   ·have hj2:xss[j]?=some zs:=by
     by_cases hjl:j<xss.length
     ·rwa [Ak hjl] at hj
     ·rw[qm (by rw[dh,List.length_singleton];omega)] at hj;cases hj
    rw[aS _ _ ej];obtain⟨cs9,r1,r2,r3⟩:=k8 j zs hj2;have hb1:∀ b,bK (E.inn r j)=some b->w'.heap[b]?=w.heap[b]?:=fun b hb=>hnb r (j+1) b hb (.inr (by omega));exact⟨cs9,dU r1 hb1,aZ (fun c y=>bY hF hgo.stay ty c y) _ _ r2,jM r3 hb1⟩
 have hx2:nD E' w' r2 (.row e2 ty [] (nx v2)):=by refine⟨by rw[a0,TT];rfl,p2,[],by rw[TT];exact Bg _ _ _ _,rfl,by rw[TT];exact⟨fun g hg=>(by cases hg),a6Q _ _⟩⟩
 obtain⟨m1,m2⟩:=hM.turns (E':=E') (w':=w') (fun q=>q=r\/q=r2) hgo hE rfl rfl rfl (fun r' j b e hh=>by
   rcases e with rfl|rfl
   ·rcases hmap j b hh with⟨_,h⟩|⟨_,h⟩
    ·exact .inl ⟨_,_,.inr rfl,h⟩
    ·exact .inl ⟨_,_,.inl rfl,h⟩
   ·exact(a1a j b hh).elim) (fun r' j r'' j' b e' e'' hh hh'=>by
   rcases e' with rfl|rfl
   ·rcases e'' with rfl|rfl
    ·refine⟨rfl,?_⟩;rcases hmap j b hh with⟨q1,q2⟩|⟨q1,q2⟩<;>rcases hmap j' b hh' with⟨q3,q4⟩|⟨q3,q4⟩
     ·omega
     ·exact absurd (hM.inj _ _ _ _ _ q2 q4).1 hne
     ·exact absurd (hM.inj _ _ _ _ _ q4 q2).1 hne
     ·exact(hM.inj _ _ _ _ _ q2 q4).2
    ·exact(a1a j' b hh').elim
   ·exact(a1a j b hh).elim) (fun r' i' e' hc=>by
   rcases e' with rfl|rfl
   ·rw[MS] at hc;have hc:(xss++[ys]).length<=i':=hc;rw[dh,List.length_singleton] at hc;rw[zL,aS _ _ (by omega)];exact k7 i' (by omega)
   ·rw[b0];rfl) (fun r' e' h=>by rcases e' with rfl|rfl<;>first|(rw[hr] at h;exact h.elim)|(rw[hr2] at h;exact h.elim)) (fun r' e' h=>by rcases e' with rfl|rfl<;>first|(rw[hr] at h;exact h.elim)|(rw[hr2] at h;exact h.elim)) (fun r' v' e' h=>by
   rcases e' with rfl|rfl
   ·rw[hr] at h;rw[MS];exact h
   ·rw[hr2] at h;rw[AZ];exact au h (a2Y _)) (fun r' v' e' h h'=>by
   rcases e' with rfl|rfl
   ·rw[MS] at h' ⊢;exact⟨by rw[hr];exact h',a0W,by rw[hr];rfl⟩
   ·rw[hr2] at h;rw[AZ] at h';have h:v'<=v2:=h;have h':gv (nx v2)=gv v':=h';have:=JW h;have:=YP v2;omega) (fun r' v' e' h h'=>by
   rcases e' with rfl|rfl
   ·rw[MS] at h' ⊢;refine⟨by rw[hr];exact h',by rw[hr];rfl,by rw[hr];simp[Res.cnt],fun i' hi'=>?_⟩;rw[hr] at hi';have hi':i'<xss.length:=hi';rw[zL,aS _ _ (by omega)]
   ·rw[AZ] at h';exact h'.elim) (fun r' e'=>by
   rcases e' with rfl|rfl
   ·rw[MS];exact hx
   ·rw[AZ];exact hx2) (fun _ r' k e' h=>by
   rcases e' with rfl|rfl
   ·rw[MS] at h;cases h
   ·rw[AZ] at h;cases h)
 exact⟨E',m1,m2,EY (n:=1) k3 hg hi⟩
end
end
end Go.Proofs.YtbkocjmmbkifjaaGreat
