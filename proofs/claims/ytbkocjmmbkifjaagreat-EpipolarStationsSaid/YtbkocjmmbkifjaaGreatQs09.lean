/-
  Lemmas for the theorem vstations28_holds, part 9 of 34.
-/
import Derived.Test.YtbkocjmmbkifjaaGreatQs08
namespace Go.Proofs.YtbkocjmmbkifjaaGreat
open Go Go.RowKit
theorem jg:type_of% @and_true:=@and_true
theorem ny:type_of% @decide_eq_false:=@decide_eq_false
theorem Bo:type_of% @Option.isSome_iff_exists:=@Option.isSome_iff_exists
theorem Dk:type_of% @Array.ext':=@Array.ext'
theorem uw:type_of% @List.mem_map:=@List.mem_map
set_option linter.unusedSimpArgs false
set_option linter.unusedVariables false
def eU (x:Rat):aH:=⟨true,x,dig x.num.natAbs,dig x.den⟩
def c5j (x:Int):gW:=⟨true,x,dig x.natAbs⟩
structure Coe (a b:Ty) where
 c:a.den->List Cd
 f:a.den->b.den
def MZ:(a b:Lf)->Option (Coe (.lf a) (.lf b))
 | .iL,.rat=>some ⟨fun x=>[aH.ok x=true],fun x=>aH.x x⟩
 | .FI,.big=>some ⟨fun x=>[gW.ok x=true],fun x=>gW.x x⟩
 | .rat,.iL=>some ⟨fun _=>[],fun x=>eU x⟩
 | .big,.FI=>some ⟨fun _=>[],fun x=>c5j x⟩
 | _,_=>none
def kM {α:Type} (p:α->Prop):List α->Prop
 | []=>True
 | x::xs=>p x/\kM p xs
instance FV {α:Type} {p:α->Prop} [h:∀ x,Decidable (p x)]:(l:List α)->Decidable (kM p l)
 | []=>.isTrue trivial
 | x::xs=>match h x with
  | .isTrue h1=>match FV xs with
   | .isTrue h2=>.isTrue ⟨h1,h2⟩
   | .isFalse h2=>.isFalse fun q=>h2 q.2
  | .isFalse h1=>.isFalse fun q=>h1 q.1
def pO (a b:Ty):Option (Coe a b):=if h:a=b then some ⟨fun _=>[],fun x=>h ▸ x⟩ else none
def orC {α:Type}:Option α->Option α->Option α
 | some x,_=>some x
 | none,y=>y
def a5Z {a b a' b':Ty}:Option (Coe a a')->Option (Coe b b')->Option (Coe (.pair a b) (.pair a' b'))
 | some p,some q=>some ⟨fun x=>p.c x.1++q.c x.2,fun x=>(p.f x.1,q.f x.2)⟩
 | _,_=>none
def b0P {a b:Ty} (q:Coe a b):Coe (.list a) (.list b):=⟨fun xs=>[⟨kM (fun x=>dJ (q.c x)) xs,FV xs⟩],fun xs=>List.map q.f xs⟩
def c3O {n:Nat} {a b:Ty} (q:Coe a b):Coe (.arr n a) (.arr n b):=⟨fun xs=>[⟨kM (fun x=>dJ (q.c x)) xs,FV xs⟩],fun xs=>List.map q.f xs⟩
def c5k {a b:Ty} (q:Coe a b):Coe (.ref a) (.ref b):=⟨q.c,q.f⟩
def c4C {f:Nat} {a b:Ty} (q:Coe a b):Coe (.clo f a) (.clo f b):=⟨q.c,q.f⟩
def b7S:(a b:Ty)->(l:Lf)->Option (Coe (.pair a b) (.lf l))
 | .lf .big,.pair (.lf .big) .unit,.rat=>some ⟨fun x=>[(0:Int)<(show Int from x.2.1),Int.gcd x.1 x.2.1=1],fun x=>Rat.divInt x.1 x.2.1⟩
 | _,_,_=>none
def b6X:(t:Ty)->(l:Lf)->Option (Coe (.list t) (.lf l))
 | .int .u32,.gsl=>some ⟨fun xs=>[List.length (α:=Int) xs≠0,⟨kM (α:=Int) (fun x=>0<=x) xs,FV (α:=Int) xs⟩],fun xs=>List.map Int.toNat xs⟩
 | _,_=>none
theorem a0k {n d:Int} (h1:0<d) (h2:Int.gcd n d=1):(Rat.divInt n d).num=n/\((Rat.divInt n d).den:Int)=d:=by
 obtain⟨k,rfl⟩:=uy (Int.le_of_lt h1)
 have hk:k≠0:=by omega
 have h3:n.natAbs.gcd k=1:=h2
 have e:Rat.divInt n (k:Int)=⟨n,k,hk,h3⟩:=Rat.mk_eq_divInt.symm
 rw[e];exact⟨rfl,rfl⟩
def jL:(a b:Ty)->Option (Coe a b)
 | .pair a b,.lf l=>b7S a b l
 | .list t,.lf l=>b6X t l
 | .lf a,.lf b=>orC (pO (.lf a) (.lf b)) (MZ a b)
 | .list a,.list b=>orC (pO (.list a) (.list b)) ((jL a b).map b0P)
 | .arr n a,.arr m b=>if h:n=m then orC (pO (.arr n a) (.arr m b)) ((jL a b).map fun q=>h ▸ c3O q) else none
 | .ref a,.ref b=>orC (pO (.ref a) (.ref b)) ((jL a b).map c5k)
 | .pair a b,.pair a' b'=>orC (pO (.pair a b) (.pair a' b')) (a5Z (jL a a') (jL b b'))
 | .clo f a,.clo g b=>if h:f=g then orC (pO (.clo f a) (.clo g b)) ((jL a b).map fun q=>h ▸ c4C q) else none
 | .nls a,.nls b=>pO (.nls a) (.nls b)
 | .nls a,.list b=>if h:a=b then some ⟨fun _=>[],fun x=>h ▸ Option.getD (α:=List a.den) x []⟩ else none
 | a,b=>pO a b
theorem b1G {w:World} {v:Value} {x:Rat} (h:RQ w v x):∃ b p c b' p' c',v=.agg #[.bool b,.slice p (dig x.num.natAbs).length c,.bool b',.slice p' (dig x.den).length c']/\Rd w (.slice p (dig x.num.natAbs).length c) (dig x.num.natAbs)/\Rd w (.slice p' (dig x.den).length c') (dig x.den):=by
 obtain⟨b,s,c,t,h1,⟨s',e1,r1⟩,⟨t',e2,r2⟩⟩:=h
 simp only[Value.agg.injEq,Array.mk.injEq,List.cons.injEq,jg] at e1 e2
 obtain⟨p,q,k1,_⟩:=r1.form
 obtain⟨p',q',k2,_⟩:=r2.form
 rw[k1] at r1
 rw[k2] at r2
 rw[h1,e1.1,e1.2,e2.1,e2.2,k1,k2]
 exact⟨_,_,_,_,_,_,rfl,r1,r2⟩
theorem a4R {w:World} {v:Value} {x:Int} (h:dX w v x):∃ b p c,v=.agg #[.bool b,.slice p (dig x.natAbs).length c]/\Rd w (.slice p (dig x.natAbs).length c) (dig x.natAbs):=by
 obtain⟨s,h1,h2⟩:=h
 obtain⟨p,q,k1,_⟩:=h2.form
 rw[k1] at h2
 rw[h1,k1]
 exact⟨_,_,_,rfl,h2⟩
theorem a9f {F:Nat->Prop} {w:World} {a b:Lf} {q:Coe (.lf a) (.lf b)} (h:MZ a b=some q) (cs:List Value) (x:a.den) (hr:Lf.rep w cs a x) (hc:dJ (q.c x)):Lf.rep w cs b (q.f x):=by
 cases a<;>cases b<;>first|(simp[MZ] at h;done)|skip
 ·simp only[MZ,ak] at h
  subst h
  have hr:RQ w (.agg cs.toArray) x:=hr
  obtain⟨b,p,c,b',p',c',h1,h2,h3⟩:=b1G hr
  have e9:cs=[.bool b,.slice p (dig (Rat.num x).natAbs).length c,.bool b',.slice p' (dig (Rat.den x)).length c']:=by simpa using h1
  exact⟨b,p,c,b',p',c',e9,hr.raw,h2,h3⟩
 ·simp only[MZ,ak] at h
  subst h
  have hr:dX w (.agg cs.toArray) x:=hr
  obtain⟨b,p,c,h1,h2⟩:=a4R hr
  have e9:cs=[.bool b,.slice p (dig (Int.natAbs x)).length c]:=by simpa using h1
  exact⟨b,p,c,e9,hr.a7P,h2⟩
 ·simp only[MZ,ak] at h
  subst h
  obtain⟨b,p,c,b',p',c',h1,h2,_⟩:=hr
  have hc:aH.ok x=true:=hc.1
  rw[hc] at h2
  exact h2.rq
 ·simp only[MZ,ak] at h
  subst h
  obtain⟨b,p,c,h1,h2,_⟩:=hr
  have hc:gW.ok x=true:=hc.1
  rw[hc] at h2
  exact h2.int
theorem wW {α β:Type} {R:List Value->α->Prop} {S:List Value->β->Prop} {p:α->Prop} {f:α->β} (h:∀ c x,R c x->p x->S c (f x)):∀ (xs:List α) (cs:List Value),chunks R cs xs->kM p xs->chunks S cs (xs.map f)
 | [],_,hc,_=>hc
 | x::xs,_,⟨c1,c2,h1,h2,h3⟩,hp=>⟨c1,c2,h1,h _ _ h2 hp.1,wW h xs c2 h3 hp.2⟩
theorem OU {α β:Type} (f:α->β) (xs:List α):(xs.map f).length=xs.length:=by simp
theorem lY {F:Nat->Prop} {w:World} {a b:Ty} {q:Coe a b} (h:pO a b=some q) (cs:List Value) (x:a.den) (hr:rep F w a cs x):rep F w b cs (q.f x):=by
 unfold pO at h
 split at h
 ·rename_i e
  subst e
  simp only[ak] at h
  subst h
  exact hr
 ·cases h
theorem xK {α:Type} {x y:Option α} {z:α} (h:orC x y=some z):x=some z\/y=some z:=by
 cases x with
 | none=>exact .inr h
 | some a=>exact .inl h
theorem a8U {w:World} {b o:Nat} {v:Value} (h:w.cell? ⟨b,o,none⟩=some v):b<w.heap.size:=by
 simp only[World.cell?] at h
 by_cases hb:b<w.heap.size
 ·exact hb
 ·rw[Array.getElem?_eq_none (by omega)] at h;cases h
theorem b2V {F:Nat->Prop} {w:World} {b o:Nat}:∀ {ds:List Value} {x:List Int},w.rangeAt b o ds->chunks (rep F w (.int .u32)) ds x->kM (fun x:Int=>0<=x) x->∀ i,i<x.length->w.cell? ⟨b,o+i,none⟩=some (.int .u32 (gr (List.map Int.toNat x) i:Nat)):=by
 intro ds x
 induction x generalizing ds o with
 | nil=>intro _ _ _ i hi;exact absurd hi (Nat.not_lt_zero i)
 | cons y ys ih =>
  intro hr hc hp i hi
  obtain⟨c1,c2,rfl,h1,h2⟩:=hc
  have h1:c1=[.int .u32 y]:=h1
  subst h1
  cases i with
  | zero =>
   have:=hr 0 _ rfl
   rw[this]
   show some (Value.int .u32 y)=some (.int .u32 ((y.toNat:Nat):Int))
   rw[Int.toNat_of_nonneg hp.1]
  | succ i =>
   have hr2:w.rangeAt b (o+1) c2:=fun j v hv=>by
    have:=hr (j+1) v (by simpa using hv)
    rw[show o+1+j=o+(j+1) by omega];exact this
   have:=ih hr2 h2 hp.2 i (by simpa using hi)
   rw[show o+(i+1)=o+1+i by omega,this];rfl
theorem uV {F:Nat->Prop} {w:World}:(a b:Ty)->(q:Coe a b)->jL a b=some q->(cs:List Value)->(x:a.den)->rep F w a cs x->dJ (q.c x)->rep F w b cs (q.f x):=by
 intro a
 induction a with
 | lf a =>
  intro b q h cs x hr hc
  cases b<;>try (simp[jL,pO] at h;done)
  rcases xK h with h|h
  ·exact lY h cs x hr
  ·exact a9f (F:=F) h cs x hr hc
 | list a ih =>
  intro b q h cs x hr hc
  cases b<;>try (simp[jL,pO] at h;done)
  case lf l =>
   simp only[jL] at h
   unfold b6X at h
   split at h<;>try(cases h;done)
   simp only[ak] at h
   subst h
   obtain⟨p,c,rfl,k2,k3,k4⟩:=hr
   refine⟨_,rfl,?_⟩
   rcases k4 with k4|⟨b,o,ds,rfl,j2,j3,j4⟩
   ·exact absurd (by rw[k4];rfl) hc.1
   ·have hz:∀ i,i<List.length (α:=Int) x->w.cell? ⟨b,o+i,none⟩=some (.int .u32 (gr (List.map Int.toNat x) i:Nat)):=b2V j3 j4 hc.2.1
    have hl:(List.map Int.toNat x).length=List.length (α:=Int) x:=OU _ _
    have hb:b<w.heap.size:=by
     have:=hz 0 (Nat.pos_of_ne_zero hc.1)
     exact a8U this
    exact .inr ⟨b,o,c,by rw[hl];rfl,by rw[hl];exact k2,k3,hb,fun i hi=>hz i (by rw[<-hl];exact hi)⟩
  rcases xK h with h|h
  ·exact lY h cs x hr
  obtain⟨q',h1,rfl⟩:=jw.1 h
  obtain⟨p,c,k1,k2,k3,k4⟩:=hr
  have hl:(List.map q'.f x).length=List.length (α:=a.den) x:=OU q'.f x
  refine⟨p,c,?_,?_,k3,?_⟩
  ·show cs=[.slice p (List.map q'.f x).length c];rw[hl];exact k1
  ·show (List.map q'.f x).length<=c;rw[hl];exact k2
  ·rcases k4 with k4|⟨bb,o,ds,j1,j2,j3,j4⟩
   ·left;show List.map q'.f x=[];rw[k4];rfl
   ·exact .inr ⟨bb,o,ds,j1,j2,j3,wW (fun c x hx hp=>ih _ q' h1 c x hx hp) _ _ j4 hc.1⟩
 | arr n a ih =>
  intro b q h cs x hr hc
  cases b<;>try (simp[jL,pO] at h;done)
  rename_i m b
  simp only[jL] at h
  split at h<;>try(cases h;done)
  rename_i e
  subst e
  rcases xK h with h|h
  ·exact lY h cs x hr
  obtain⟨q',h1,rfl⟩:=jw.1 h
  obtain⟨k1,k2⟩:=hr
  exact⟨(OU q'.f x).trans k1,wW (fun c x hx hp=>ih b q' h1 c x hx hp) _ _ k2 hc.1⟩
 | ref a ih =>
  intro b q h cs x hr hc
  cases b<;>try (simp[jL,pO] at h;done)
  rcases xK h with h|h
  ·exact lY h cs x hr
  obtain⟨q',h1,rfl⟩:=jw.1 h
  obtain⟨bb,o,ds,k1,k2,k3,k4⟩:=hr
  exact⟨bb,o,ds,k1,k2,k3,ih _ q' h1 ds x k4 hc⟩
 | pair a1 a2 ih1 ih2 =>
  intro b q h cs x hr hc
  cases b<;>try (simp[jL,pO] at h;done)
  case lf l =>
   simp only[jL] at h
   unfold b7S at h
   split at h<;>try(cases h;done)
   simp only[ak] at h
   subst h
   obtain⟨c1,c2,rfl,k2,c3,c4,rfl,k4,k5⟩:=hr
   have k5:c4=[]:=k5
   subst k5
   have k2:dX w (.agg c1.toArray) x.1:=k2
   have k4:dX w (.agg c3.toArray) x.2.1:=k4
   obtain⟨p1,p2⟩:=a0k hc.1 hc.2.1
   obtain⟨s1,e1,r1⟩:=id k2
   obtain⟨s2,e2,r2⟩:=id k4
   have e1:c1=[.bool (decide ((show Int from x.1)<0)),s1]:=by simpa using e1
   have e2:c3=[.bool (decide ((show Int from x.2.1)<0)),s2]:=by simpa using e2
   subst e1 e2
   exact RQ.mk' k2 k4 p1.symm p2.symm
  rename_i b1 b2
  rcases xK h with h|h
  ·exact lY h cs x hr
  cases h1:jL a1 b1 with
  | none=>rw[h1] at h;simp[a5Z] at h
  | some p1 =>
   cases h2:jL a2 b2 with
   | none=>rw[h1,h2] at h;simp[a5Z] at h
   | some p2 =>
    rw[h1,h2] at h
    simp only[a5Z,ak] at h
    subst h
    obtain⟨c1,c2,k1,k2,k3⟩:=hr
    obtain⟨n1,n2⟩:=dB.1 hc
    exact⟨c1,c2,k1,ih1 b1 p1 h1 c1 x.1 k2 n1,ih2 b2 p2 h2 c2 x.2 k3 n2⟩
 | bool=>intro b q h cs x hr hc;exact lY (by simpa only[jL] using h) cs x hr
 | int k=>intro b q h cs x hr hc;exact lY (by simpa only[jL] using h) cs x hr
 | unit=>intro b q h cs x hr hc;exact lY (by simpa only[jL] using h) cs x hr
 | clo f a ih =>
  intro b q h cs x hr hc
  cases b<;>try (simp[jL,pO] at h;done)
  rename_i m b
  simp only[jL] at h
  split at h<;>try(cases h;done)
  rename_i e
  subst e
  rcases xK h with h|h
  ·exact lY h cs x hr
  obtain⟨q',h1,rfl⟩:=jw.1 h
  obtain⟨ds,k1,k2⟩:=hr
  exact⟨ds,k1,ih b q' h1 ds x k2 hc⟩
 | nls t ih =>
  intro b q h cs x hr hc
  cases b<;>try (exact lY (by simpa only[jL] using h) cs x hr)
  simp only[jL] at h
  split at h<;>try(cases h;done)
  rename_i e
  subst e
  simp only[ak] at h
  subst h
  rcases hr with⟨rfl,rfl⟩|⟨ys,b,o,c,ds,rfl,rfl,k1,k2,k3⟩
  ·exact⟨none,0,rfl,ay _,by omega,.inl rfl⟩
  ·exact⟨_,c,rfl,k1,k2,k3.imp id fun⟨j1,j2,j3⟩=>⟨b,o,ds,rfl,j1,j2,j3⟩⟩
theorem wB:(a b:Ty)->(q:Coe a b)->jL a b=some q->a.agg=b.agg:=by
 intro a b q h
 cases a<;>cases b<;>first|rfl|(simp[jL,pO] at h;done)|skip
 ·rename_i a b
  cases a<;>cases b<;>first|rfl|(simp[jL,pO,orC,MZ] at h;done)
 ·simp only[jL] at h
  unfold b6X at h
  split at h<;>first|(cases h;done)|rfl
 ·simp only[jL] at h
  unfold b7S at h
  split at h<;>first|(cases h;done)|rfl
section
def seen (F:Nat->Prop) (w:World) (t:Ty) (v:Value) (ys:List t.den):Prop:=∃ p cap,v=.slice p ys.length cap/\ys.length<=cap/\cap<=9223372036854775807/\(ys=[]\/∃ b o ds,p=some ⟨b,o,none⟩/\w.rangeAt b o ds/\chunks (rep F w t) ds ys)
def a6t (F:Nat->Prop) (w:World) (v:Value):Part->Prop
 | ⟨.list t,ys⟩=>seen F w t v ys
 | _=>True
def WA (ρ:Nat->Res):K->Option Part
 | .val (.list t) ys=>some ⟨.list t,ys⟩
 | .own r v=>match ρ r with
  | .row _ t xs v'=>if gv v=gv v' then some ⟨.list t,xs⟩ else none
  | .fro t xs v'=>if gv v=gv v' then some ⟨.list t,xs⟩ else none
  | _=>none
 | .mrow r v i=>match ρ r with
  | .mat _ _ t _ xss v'=>if v=v' then some ⟨.list t,List.getD (α:=List t.den) xss i []⟩ else none
  | _=>none
 | _=>none
def a4y (ρ:Nat->Res) (t:Option Ty) (k:K):Option (Part × List (Nat × Res)):=match WA ρ k with
 | some p=>some (p,[])
 | none=>vJ ρ t k
inductive kK {α β:Type} (R:α->β->Prop):List α->List β->Prop
 | nil:kK R [] []
 | cons {a:α} {b:β} {l:List α} {m:List β} (h:R a b) (k:kK R l m):kK R (a::l) (b::m)
def ED (ρ:Nat->Res) (t:Option Ty):List K->Option (List Part × List (Nat × Res))
 | []=>some ([],[])
 | k::ks=>match vJ ρ t k with
  | some (p,l)=>(ED (after ρ l) t ks).map fun q=>(p::q.1,l++q.2)
  | none=>none
def lF (t:Ty):List Part->Option (List t.den)
 | []=>some []
 | p::ps=>match fU p.t t p.x,lF t ps with
  | some x,some xs=>some (x::xs)
  | _,_=>none
def idxFrom:Nat->List (Nat × Operand)->Bool
 | _,[]=>true
 | i,(j,_)::l=>j==i&&idxFrom (i+1) l
def sliceB (P:Program) (t:TypeId) (ty:Ty) (len:Nat):Option TypeId:=match P.underlying t with
 | some (.slice e)=>if fitsT P e ty&&decide (len*ty.n<=16777216)&&decide (0<ty.n)&&((P.info? e).bind (·.zero)).isSome then some e else none
 | _=>none
def DV (P:Program) (e:TypeId):Bool:=match P.info? e with
 | some i=>decide (i.bytes<=100000)
 | none=>false
def a1F (P:Program) (T:Told) (t:TypeId):Option Ty:=match P.underlying t with
 | some (.slice e)=>T.el e
 | _=>none
def WB (P:Program) (e:TypeId) (n:Nat):Bool:=match P.info? e with
 | some i=>match i.zero with
  | some z=>z.cells.toList.all cO&&z.cells.size==n
  | none=>false
 | none=>false
def wI (ty:Ty) (xs ys:List ty.den):List ty.den:=xs++ys
def a5t (e:TypeId) (ty:Ty) (r:Nat) (xs ys:List ty.den) (ver:Nat) (l:List (Nat × Res)) (vc:List Cd):MK :=
 some ((xs.length+ys.length<=1000000000:Cd)::vc,.own r (nxf ver),l++[(r,.row e ty (wI ty xs ys) (nxf ver))])
def a4U (ty:Ty):Part->Option (List Cd × List ty.den)
 | ⟨.list t,ys⟩=>match fU (.list t) (.list ty) ys with
  | some zs=>some ([],zs)
  | none=>(jL t ty).map fun q=>((b0P q).c ys,(b0P q).f ys)
 | _=>none
def AZ (P:Program) (T:Told) (ρ:Nat->Res) (k:Operand->K) (d:Option Nat):Op->MK
 | .buildSlice t len parts=>if parts.size=len&&idxFrom 0 parts.toList then
   (match len,d with
   | 0,some r=>match a1F P T t with
    | some ty=>match sliceB P t ty 0 with
     | some e=>if (ρ r).isNone&&ty.still then some ([],.own r 1,[(r,.row e ty [] 1)]) else none
     | none=>none
    | none=>none
   | n+1,_=>match ED ρ (a1F P T t) (parts.toList.map fun q=>k q.2) with
    | some (p::ps,l)=>match lF p.t ps,sliceB P t p.t (n+1) with
     | some xs,some _=>some ([],.val (.list p.t) (p.x::xs),l)
     | _,_=>none
    | _=>none
   | _,_=>none) else none
 | .call { callee:=.builtin .append,args:=xs,argTypes:=ts }=>match xs.toList,ts.toList with
  | [s,x],[t,t']=>if t=t' then (match k s,d with
   | .own r v,_=>match ρ r with
    | .row e ty xs v'=>match a4y ρ (some (.list ty)) (k x) with
     | some (p,l)=>match a4U ty p with
      | some (vc,ys)=>if gv v==gv v'&&(sliceB P t ty 0==some e)&&DV P e&&WB P e ty.n&&l.all (fun q=>q.1 != r) then a5t e ty r xs ys v' l vc else none
      | none=>none
     | none=>none
    | _=>none
   | .nil,some r=>match a4y ρ none (k x) with
    | some (⟨.list ty,ys⟩,l)=>match sliceB P t ty 0 with
     | some e=>if (ρ r).isNone&&ty.still&&DV P e&&WB P e ty.n&&l.all (fun q=>q.1 != r) then a5t e ty r [] ys 0 l [] else none
     | none=>none
    | _=>none
   | _,_=>none) else none
  | _,_=>none
 | _=>none
section
variable {P:Program} {E:Env} {ρ:Nat->Res} {W w:World}
theorem sJ {F:Nat->Prop} {t:Ty} {v:Value} {ys:List t.den} (h:iY F w (.list t) v ys):seen F w t v ys:=by
 obtain⟨cs,rfl,p,c,h1,h2,h3,h4⟩:=h
 exact⟨p,c,by rw[h1];rfl,h2,h3,h4.imp id (fun⟨b,o,ds,k1,_,k3,k4⟩=>⟨b,o,ds,k1,k3,k4⟩)⟩
theorem YK {F:Nat->Prop} {e:TypeId} {t:Ty} {v:Value} {xs:List t.den} {cs:List Value} (h:w.ownsRow 0 e t.n v xs.length cs) (hc:chunks (rep F w t) cs xs):seen F w t v xs:=by
 obtain⟨j1,j2⟩:=h
 rcases j2 with⟨j2,j3⟩|⟨g,cap,cur,e1,e2,e3,e4,e5,e6,e7⟩
 ·have:xs=[]:=qp j3
  subst this
  exact⟨none,0,j2,by simp,by omega,.inl rfl⟩
 ·refine⟨some ⟨g,0,none⟩,cap,e1,e4,by simp only[maxLen] at e5;omega,.inr ⟨g,0,cs,rfl,fun j u hu=>?_,hc⟩⟩
  rw[tu,yu w g j cur _ _ e3]
  rw[<-e7] at hu
  have hlt:j<xs.length*t.n:=by
   have:=(ql.1 hu).1
   rw[ni] at this;omega
  rw[List.getElem?_take,jm hlt] at hu
  simpa using hu
theorem a4F {F:Nat->Prop} {p:Part} {v:Value} (h:iY F w p.t v p.x):a6t F w v p:=by
 obtain⟨t,x⟩:=p
 cases t<;>first|trivial|exact sJ h
theorem b5s {k:K} {p:Part} {v:Value} (h:WA ρ k=some p) (hM:Mem E ρ W w) (hw:k.wf ρ) (hk:k.holds E ρ w v):a6t (fz w E) w v p:=by
 cases k<;>try (simp[WA] at h;done)
 case val t x =>
  cases t<;>simp only[WA,ak] at h<;>try(cases h;done)
  subst h
  exact sJ hk
 case own r ver =>
  simp only[WA] at h
  have h1:=hM.res r
  split at h<;>try(cases h;done)
  all_goals
   rename_i hr
   split at h<;>try(cases h;done)
   rename_i hv0
   simp only[ak] at h
   subst h
   have hv:v=E.sl r:=hk (by rw[hr];exact hv0.symm)
   rw[hr] at h1
   rw[hv]
  ·obtain⟨k1,k2,cs,k3,k4,k5⟩:=h1
   exact YK k3 k4
  ·exact sJ h1.2
 case mrow r ver i =>
  simp only[WA] at h
  have h1:=hM.res r
  split at h<;>try(cases h;done)
  rename_i hr
  split at h<;>try(cases h;done)
  rename_i hv
  subst hv
  simp only[ak] at h
  subst h
  have hv:v=E.inn r i:=hk (by rw[hr];rfl)
  have hi:=hw.2 (by rw[hr];rfl)
  rw[hr] at hi h1
  obtain⟨cs,q1,q2,q3⟩:=h1.2.2.2.2.2 i _ (getD_at _ [] _ hi)
  rw[hv]
  exact YK q1 q2
theorem a6z {k:K} {t:Option Ty} {p:Part} {l:List (Nat × Res)} {v:Value} (h:a4y ρ t k=some (p,l)) (hM:Mem E ρ W w) (hw:k.wf ρ) (hk:k.holds E ρ w v) :
  ∃ E',Mem E' (after ρ l) W w/\Ext E ρ w E' (after ρ l) w/\a6t (fz w E') w v p:=by
 unfold a4y at h
 split at h
 ·rename_i p' hp
  simp only[ak,dh] at h
  obtain⟨rfl,rfl⟩:=h
  exact⟨E,hM,Ext.refl _ _ _,b5s hp hM hw hk⟩
 ·obtain⟨E',h1,h2,h3⟩:=mP h hM hw hk
  exact⟨E',h1,h2,a4F h3⟩
theorem a8S {F:Nat->Prop} {v:Value} {p:Part} {ty:Ty} {vc:List Cd} {ys:List ty.den} (h:a4U ty p=some (vc,ys)) (hv:dJ vc) (hs:a6t F w v p):seen F w ty v ys:=by
 obtain⟨t,x⟩:=p
 cases t<;>try (simp[a4U] at h;done)
 rename_i t
 simp only[a4U] at h
 split at h
 ·rename_i zs hc
  simp only[ak,dh] at h
  obtain⟨rfl,rfl⟩:=h
  obtain⟨e9,rfl⟩:=dL hc
  cases e9
  exact hs
 ·obtain⟨q,hq,h⟩:=jw.1 h
  cases h
  obtain⟨p,c,k1,k2,k3,k4⟩:=hs
  have hl:(List.map q.f x).length=List.length (α:=t.den) x:=OU q.f x
  refine⟨p,c,?_,?_,k3,?_⟩
  ·show v=.slice p (List.map q.f x).length c;rw[hl];exact k1
  ·show (List.map q.f x).length<=c;rw[hl];exact k2
  ·rcases k4 with k4|⟨bb,o,ds,j1,j2,j3⟩
   ·left;show List.map q.f x=[];rw[k4];rfl
   ·exact .inr ⟨bb,o,ds,j1,j2,wW (fun c x hx hp=>uV _ _ q hq c x hx hp) _ _ j3 hv.1⟩
theorem a1w:∀ {ks:List K} {t:Option Ty} {ρ:Nat->Res} {E:Env} {ps:List Part} {l:List (Nat × Res)} {vs:List Value},ED ρ t ks=some (ps,l)->Mem E ρ W w->(∀ k ∈ ks,k.wf ρ)->kK (fun k v=>k.holds E ρ w v) ks vs ->
  ∃ E',Mem E' (after ρ l) W w/\Ext E ρ w E' (after ρ l) w/\kK (fun(p:Part) v=>iY (fz w E') w p.t v p.x) ps vs
 | [],t,ρ,E,ps,l,vs,h,hM,hw,hk=>by
  simp only[ED,ak,dh] at h
  obtain⟨rfl,rfl⟩:=h
  cases hk
  exact⟨E,hM,Ext.refl _ _ _,.nil⟩
 | k::ks,t,ρ,E,ps,l,vs,h,hM,hw,hk=>by
  simp only[ED] at h
  split at h<;>try(cases h;done)
  rename_i p l1 h1
  simp only[jw,dh] at h
  obtain⟨⟨ps2,l2⟩,h2,rfl,rfl⟩:=h
  cases hk
  rename_i v vs hv hvs
  obtain⟨E1,m1,m2,m3⟩:=mP h1 hM (hw k (mg ..)) hv
  have b7p:kK (fun k v=>k.holds E1 (after ρ l1) w v) ks vs:=by
   have hw':∀ k ∈ ks,k.wf ρ:=fun k hk=>hw k (ku _ hk)
   clear h2 hw
   induction hvs with
   | nil=>exact .nil
   | cons a b ih=>exact .cons (m2.holds _ _ (hw' _ (mg ..)) a) (ih (fun k hk=>hw' k (ku _ hk)))
  obtain⟨E2,n1,n2,n3⟩:=a1w h2 m1 (fun k hk=>m2.wf k (hw k (ku _ hk))) b7p
  exact⟨E2,by rw[fQ];exact n1,by rw[fQ];exact m2.trans n2,.cons (fJ n2.fz n2.stay m3) n3⟩
theorem a1S (c:List Value):∀ (o j:Nat) (a:Array Value),o+j+c.length<=a.size->((c.zipIdx j).foldl (fun cs (p:Value × Nat)=>cs.setIfInBounds (o+p.2) p.1) a).toList=a.toList.take (o+j)++c++a.toList.drop (o+j+c.length):=by
 induction c with
 | nil=>intro o j a h;simp
 | cons v c ih =>
  intro o j a h
  simp only[List.length_cons] at h
  rw[List.zipIdx_cons,List.foldl_cons,ih o (j+1) _ (by simp;omega)]
  have ha:a.toList.length=a.size:=Array.length_toList
  have la:(a.toList.take (o+j)).length=o+j:=by rw[ni];omega
  have e9:a.toList.set (o+j) v=a.toList.take (o+j)++([v]++a.toList.drop (o+j+1)):=by rw[List.set_eq_take_append_cons_drop,jm (by omega)];rfl
  have e1:(a.toList.set (o+j) v).take (o+j+1)=a.toList.take (o+j)++[v]:=by
   rw[e9,List.take_append,la,jv (by omega),Dv];rfl
  have e2:(a.toList.set (o+j) v).drop (o+j+1+c.length)=a.toList.drop (o+j+(c.length+1)):=by
   rw[List.drop_set_of_lt (by omega)];congr 1;omega
  simp only[Array.toList_setIfInBounds,List.length_cons]
  rw[show o+(j+1)=o+j+1 by omega,e1,e2]
  simp
theorem a1N {n:Nat}:∀ (vs:List Value) (css:List (List Value)) (i:Nat) (a:Array Value),kK (fun v cs=>v.cells=List.toArray cs/\cs.length=n) vs css->a.size=(i+vs.length)*n ->
  ∃ a',Instr.fill (fun i=>some (i*n,n)) a ((vs.zipIdx i).map fun p=>(p.2,p.1))=some a'/\a'.toList=a.toList.take (i*n)++css.flatten
 | [],css,i,a,h,hs=>by
  cases h
  refine⟨a,rfl,?_⟩
  rw[List.flatten_nil,Ba,jv (by simp at hs ⊢;omega)]
 | v::vs,css,i,a,h,hs=>by
  cases h
  rename_i cs css h1 h2
  obtain⟨h3,h4⟩:=h1
  have hs2:i*n+n+vs.length*n=a.size:=by rw[hs,List.length_cons,Au,Aa];omega
  have hz:v.cells.size=n:=by rw[h3];simpa using h4
  have hfold:=a1S cs (i*n) 0 a (by omega)
  rw[Nat.add_zero,h4] at hfold
  have key:(v.cells.zipIdx.foldl (fun cs (p:Value × Nat)=>cs.setIfInBounds (i*n+p.2) p.1) a)=((cs.zipIdx 0).foldl (fun cs (p:Value × Nat)=>cs.setIfInBounds (i*n+p.2) p.1) a):=by
   rw[h3,<-Array.foldl_toList];congr 1
   simp
  obtain⟨a',k1,k2⟩:=a1N (n:=n) vs css (i+1) ((cs.zipIdx 0).foldl (fun cs (p:Value × Nat)=>cs.setIfInBounds (i*n+p.2) p.1) a) h2 (by
   rw[<-Array.length_toList,hfold]
   have:a.toList.length=a.size:=Array.length_toList
   simp only[jl,ni,zl,h4]
   rw[Au,Aa];omega)
  refine⟨a',?_,?_⟩
  ·rw[List.zipIdx_cons,zf,Instr.fill]
   simp only[hz,ne_eq,not_true_eq_false,false_or]
   have hc9:¬ (i*n+n > a.size):=by omega
   rw[ji (by simp only[ny hc9];decide)]
   rw[show (v.cells.zipIdx.foldl (fun cs x=>match x with|(c,j)=>cs.setIfInBounds (i*n+j) c) a)=_ from key]
   exact k1
  ·rw[k2,hfold,Aa]
   have la:(a.toList.take (i*n)).length=i*n:=by
    have:a.toList.length=a.size:=Array.length_toList
    rw[ni];omega
   rw[List.take_append_of_le_length (by simp only[jl,la,h4];omega),jv (by simp only[jl,la,h4];omega)]
   simp
theorem YS {F:Nat->Prop} {t:Ty}:∀ {ps:List Part} {xs:List t.den} {vs:List Value},lF t ps=some xs->kK (fun(p:Part) v=>iY F w p.t v p.x) ps vs->kK (fun v cs=>v=t.toV cs) vs (vs.map fun v=>v.cells.toList)/\chunks (rep F w t) (vs.map fun v=>v.cells.toList).flatten xs/\vs.length=ps.length
 | [],xs,vs,h,hv=>by
  simp only[lF,ak] at h
  subst h
  cases hv
  exact⟨.nil,rfl,rfl⟩
 | p::ps,xs,vs,h,hv=>by
  simp only[lF] at h
  split at h<;>try(cases h;done)
  rename_i x xs' h1 h2
  simp only[ak] at h
  subst h
  cases hv
  rename_i v vs h3 h4
  obtain⟨k1,k2,k3⟩:=YS h2 h4
  obtain⟨pt,px⟩:=p
  obtain⟨e,rfl⟩:=dL h1
  simp only at e
  subst e
  obtain⟨cs,rfl,hr⟩:=h3
  have hc:(pt.toV cs).cells.toList=cs:=by rw[nS pt cs _ hr]
  refine⟨.cons (by show pt.toV cs=pt.toV (pt.toV cs).cells.toList;rw[hc]) k1,?_,by simp[k3]⟩
  rw[zf,List.flatten_cons,hc]
  exact⟨cs,_,rfl,hr,k2⟩
theorem QE {F:Nat->Prop} {t:Ty}:∀ {ps:List Part} {xs:List t.den} {vs:List Value},lF t ps=some xs->kK (fun(p:Part) v=>iY F w p.t v p.x) ps vs->kK (fun v cs=>v.cells=List.toArray cs/\cs.length=t.n) vs (vs.map fun v=>v.cells.toList)
 | [],xs,vs,h,hv=>by cases hv;exact .nil
 | p::ps,xs,vs,h,hv=>by
  simp only[lF] at h
  split at h<;>try(cases h;done)
  rename_i x xs' h1 h2
  cases hv
  rename_i v vs h3 h4
  have ih:=QE h2 h4
  obtain⟨pt,px⟩:=p
  obtain⟨e,_⟩:=dL h1
  simp only at e
  subst e
  obtain⟨cs,rfl,hr⟩:=h3
  exact .cons ⟨by simp,by show (pt.toV cs).cells.toList.length=_;rw[nS pt cs _ hr];simpa using dI pt _ _ hr⟩ ih
theorem SB (ev:Operand->Value):∀ (l:List (Nat × Operand)) (i:Nat),idxFrom i l=true->l.map (fun q=>(q.1,ev q.2))=((l.map fun q=>ev q.2).zipIdx i).map fun p=>(p.2,p.1)
 | [],_,_=>rfl
 | (j,x)::l,i,h=>by
  simp only[idxFrom,au,jf] at h
  obtain⟨rfl,h2⟩:=h
  rw[zf,zf,List.zipIdx_cons,zf,SB ev l _ h2]
theorem iW {t:TypeId} {ty:Ty} {n:Nat} {e:TypeId} (h:sliceB P t ty n=some e):P.underlying t=some (.slice e)/\fitsT P e ty=true/\n*ty.n<=16777216/\0<ty.n/\∃ i z,P.info? e=some i/\i.zero=some z/\i.size=ty.n:=by
 unfold sliceB at h
 split at h<;>try(cases h;done)
 rename_i e' hu
 split at h<;>try(cases h;done)
 rename_i hb
 simp only[ak] at h
 subst h
 simp only[au,aj] at hb
 obtain⟨⟨⟨h1,h2⟩,h3⟩,h4⟩:=hb
 obtain⟨⟨i,h5,h6⟩,_⟩:=fF h1
 rw[h5] at h4
 simp only[Option.bind_some,Bo] at h4
 obtain⟨z,hz⟩:=h4
 exact⟨hu,h1,h2,h3,i,z,h5,hz,h6⟩
theorem run_buildSlice {t e:TypeId} {ty:Ty} {xs:List ty.den} {vs:List Value} {ps:List Part} {n:Nat} (hb:sliceB P t ty n=some e) (hn:vs.length=n) (hv:kK (fun v cs=>v.cells=List.toArray cs/\cs.length=ty.n) vs (vs.map fun v=>v.cells.toList)) :
  (Instr.buildSlice t n ((vs.zipIdx 0).map fun p=>(p.2,p.1)).toArray).run P w=.ok (.slice (some ⟨w.heap.size,0,none⟩) n n) (w.alloc (.cells ((vs.map fun v=>v.cells.toList).flatten).toArray e)):=by
 obtain⟨h1,h2,h3,h4,i,z,h5,h6,h7⟩:=iW hb
 obtain⟨a',k1,k2⟩:=a1N (n:=ty.n) vs _ 0 ((Array.range (n*ty.n)).map (fun q=>(if n*ty.n=0 then #[] else z.cells)[q%(if n*ty.n=0 then #[] else z.cells).size]!)) hv (by simp[hn])
 have k3:a'=((vs.map fun v=>v.cells.toList).flatten).toArray:=by
  apply Dk
  rw[k2];simp
 subst k3
 have hle:¬ (2 ^ 24<n*ty.n):=by omega
 by_cases hz:n*ty.n=0
 ·have hn0:n=0:=by
   rcases Nat.mul_eq_zero.1 hz with h|h
   ·exact h
   ·omega
  subst hn0
  have hvs:vs=[]:=qp hn
  subst hvs
  simp[Instr.buildSlice,qo h1 w,jq,run_sizeOf h5,h7,Instr.fill,newRow]
  have hr0:∀ f:Nat->Value,Array.map f (Array.range 0)=#[]:=fun f=>by apply Dk;simp
  rw[hr0]
 ·rw[ji hz] at k1
  simp only[Instr.buildSlice,qo h1 w,jq,Result.andThen_ok,run_sizeOf h5,h7]
  simp[hle,hz,zeroValue,typeInfo,h5,h6,k1,newRow,jq]
theorem a4O {k:Operand->K} {ev:Operand->Value} {R:K->Value->Prop} (hk:∀ x,R (k x) (ev x)):∀ (l:List (Nat × Operand)),kK R (l.map fun q=>k q.2) (l.map fun q=>ev q.2)
 | []=>.nil
 | q::l=>.cons (hk q.2) (a4O hk l)
theorem a0b {F:Nat->Prop} {t:Ty} (hs:t.still=true) {cs:List Value} {xs:List t.den} (h:chunks (rep F w t) cs xs):∀ u ∈ cs,cO u=true:=CB (fun c y=>xR t hs c y) _ _ h
theorem OM {e t:TypeId} {ty:Ty} {n0:Nat} {xs ys:List ty.den} {r:Nat} {v0:Nat} {s x:Value} {cs:List Value} (hM:Mem E ρ W w)
  (hb:sliceB P t ty n0=some e) (hfew:DV P e=true) (hz:WB P e ty.n=true) (hst:ty.still=true)
  (hblk:E.blk r=s.ownBlock) (hown:w.ownsRow 0 e ty.n s xs.length cs) (hch:chunks (rep (fz w E) w ty) cs xs) (hca:CAv cO w s) (hnn:nnS v0 s)
  (hx:seen (fz w E) w ty x ys) (hlen:xs.length+ys.length<=1000000000) (hr:ρ r=.none\/∃ e' t' xs' v',ρ r=.row e' t' xs' v'/\v'<=v0/\gv v'<gv v0) (T0:TypeId) :
  ∃ s' w' E',(Builtin.append_ #[t,t] T0 #[s,x]).run P w=.ok s' w'/\Mem E' (bH ρ r (.row e ty (wI ty xs ys) v0)) W w'/\Ext E ρ w E' (bH ρ r (.row e ty (wI ty xs ys) v0)) w'/\s'=E'.sl r:=by
 obtain⟨h1,h2,h3,h4,i,z,h5,h6,h7⟩:=iW hb
 have hzk:(∀ u ∈ z.cells.toList,cO u=true)/\z.cells.size=ty.n:=by
  unfold WB at hz
  rw[h5] at hz
  simp only[h6,au,Bz,jf] at hz
  exact hz
 have a1Y:i.bytes<=100000:=by
  unfold DV at hfew
  rw[h5] at hfew
  simpa using hfew
 obtain⟨p,cap,hvx,hx2,hx3,hx4⟩:=hx
 have hr1:(ρ r).nN->Res.nN (.row e ty (wI ty xs ys) v0)/\s.ownBlock=E.blk r:=fun h=>by
  rcases hr with hr|⟨e',t',xs',v',hr,hlt⟩
  ·rw[hr] at h;exact h.elim
  ·rw[hr] at h;exact h.elim
 have hr4:(ρ r).nN->False:=fun h=>by
  rcases hr with hr|⟨e',t',xs',v',hr,hlt⟩
  ·rw[hr] at h;exact h.elim
  ·rw[hr] at h;exact h.elim
 have hr2:∀ v,Res.dW v (ρ r)->Res.dW v (.row e ty (wI ty xs ys) v0):=fun v h=>by
  rcases hr with hr|⟨e',t',xs',v',hr,hlt⟩
  ·rw[hr] at h;exact h.elim
  ·rw[hr] at h
   have h:v<=v':=h
   show v<=v0
   omega
 have hkg:¬ (ρ r).DX:=fun h=>by
  rcases hr with hr|⟨e',t',xs',v',hr,hlt⟩
  ·rw[hr] at h;exact h.elim
  ·rw[hr] at h;exact h.elim
 have hr3:∀ (s':Value) v,Res.dW v (ρ r)->Res.isRow v (.row e ty (wI ty xs ys) v0)->Res.isRow v (ρ r)/\s'=E.sl r/\(Res.row e ty (wI ty xs ys) v0).esz=(ρ r).esz:=fun s' v h h'=>by
  rcases hr with hr|⟨e',t',xs',v',hr,hlt⟩
  ·rw[hr] at h;exact h.elim
  ·rw[hr] at h
   have h:v<=v':=h
   have h':gv v0=gv v:=h'
   have:=IC h
   omega
 by_cases hy:ys=[]
 ·subst hy
  refine⟨s,w,E.put r s.ownBlock s,?_,?_⟩
  ·rw[hvx]
   have hsl:∃ sp sc,s=.slice sp xs.length sc/\xs.length<=sc:=by
    rcases hown.2 with⟨rfl,hn⟩|⟨g,cap',cur,rfl,_,_,k4,_⟩
    ·exact⟨none,0,by rw[hn],by omega⟩
    ·exact⟨_,_,rfl,k4⟩
   obtain⟨sp,sc,rfl,hle⟩:=hsl
   cases p with
   | none=>cases sp<;>simp[Builtin.append_,qo h1 w,sizeOf,typeInfo,h5,Builtin.lenOf,hle,Builtin.firstCells,jq,storeCells]
   | some a=>cases sp<;>simp[Builtin.append_,qo h1 w,sizeOf,typeInfo,h5,Builtin.lenOf,hle,Builtin.firstCells,loadCells,loadCellsFrom,jq,storeCells]
  ·have hb9:s.ownBlock=none\/s.ownBlock=E.blk r\/s.ownBlock=some w.heap.size:=.inr (.inl hblk.symm)
   have hE9:=zG (ρ:=ρ) (w':=w) (E:=E) (r:=r) (s:=s) (ay _) hb9
   obtain⟨m1,m2⟩:=hM.turn (w':=w) r ⟨rfl,rfl,rfl,ay _,fun _ _ _=>rfl,fun _ _ _ h=>h⟩ s.ownBlock s (.row e ty (wI ty xs []) v0)
    ⟨by show bH E.blk r _ r=bI (bH E.sl r s r);rw[aG,aG,lJ],hst,cs,by show w.ownsRow _ _ _ (bH E.sl r s r) _ _;rw[aG,wI,Ba];exact hown,by rw[wI,Ba];exact aW (fun c y=>bW hE9 (iP.refl _ _) ty c y) _ _ hch,by show CAv _ _ (bH E.sl r s r)/\nnS _ (bH E.sl r s r);rw[aG];exact⟨hca,hnn⟩⟩
    hb9 rfl (fun k e=>by cases e) hkg hr1 hr2 (hr3 s) (fun v h=>h.elim)
   exact⟨m1,m2,by show _=bH E.sl r s r;rw[aG]⟩
 ·have hlp:0<ys.length:=yj.2 hy
  rcases hx4 with hx4|⟨b,o,ds,rfl,hrg,hds⟩
  ·exact absurd hx4 hy
  have hdl:ds.length=ys.length*ty.n:=mX (fun c y=>dI ty c y) _ _ hds
  have hok:=a0b hst hds
  have hbytes:(xs.length+ys.length)*i.bytes<=140737488355328:=by
   have h9:(xs.length+ys.length)*i.bytes<=1000000000*100000:=xq hlen a1Y
   omega
  obtain⟨g,cap',w',hrun,k1,k2,k3,k4⟩:=EL (P:=P) (p:=cO) w 0 t T0 e i z ty.n i.bytes h1 h5 h6 h7 rfl hzk.2 h4 hzk.1 s xs.length cs hown hca ⟨b,o,none⟩ ys.length cap ds hdl (fun j u hu=>by rw[Bc];exact hrg j u hu) (fun u hu=>by
    have:=hok u hu
    simp only[cO,au] at this
    exact this.1) hok hlp (by simp only[maxLen];omega) hbytes (uq _)
  have hg:jI E w w' (fun q=>q=r):=⟨k2.os,k2.tape,k2.output,k2.size,fun q hq hne=>k2.block q hq (fun e9=>hne r 0 rfl (by show E.blk r=some q;rw[hblk,<-e9])),fun q o' n hc=>by
   by_cases e9:s.ownBlock=some q
   ·have:=hca q e9 _ _ hc
    simp[cO,dA] at this
   ·rw[<-hc]
    exact Dp (w:=w) (k2.block q (cell_lt hc) (fun e8=>e9 e8.symm))⟩
  have hb9:some g=none\/some g=E.blk r\/some g=some w.heap.size:=by
   rcases k4 with k4|k4
   ·exact .inr (.inl (by rw[<-k4,hblk]))
   ·exact .inr (.inr (by rw[k4]))
  have hF9:=zG (ρ:=ρ) (w':=w') (E:=E) (r:=r) (s:=.slice (some ⟨g,0,none⟩) (xs.length+ys.length) cap') hg.size hb9
  obtain⟨m1,m2⟩:=hM.turn (w':=w') r hg (some g) (.slice (some ⟨g,0,none⟩) (xs.length+ys.length) cap') (.row e ty (wI ty xs ys) v0)
   ⟨by show bH E.blk r _ r=bI (bH E.sl r _ r);rw[aG,aG];rfl,hst,cs++ds,by show w'.ownsRow _ _ _ (bH E.sl r _ r) _ _;rw[aG,wI,jl];exact k1,pU (aW (fun c y=>bW hF9 hg.stay ty c y) _ _ hch) (aW (fun c y=>bW hF9 hg.stay ty c y) _ _ hds),by
    show CAv _ _ (bH E.sl r _ r)/\nnS _ (bH E.sl r _ r);rw[aG]
    refine⟨?_,fun _ h=>by cases h⟩
    intro g' hg'
    cases hg'
    exact k3⟩
   hb9 rfl (fun k e=>by cases e) hkg (fun h=>((hr4 h).elim)) hr2 (hr3 _) (fun v h=>h.elim)
  exact⟨_,w',_,by rw[hvx];exact hrun,m1,m2,by show _=bH E.sl r _ r;rw[aG]⟩
end
end
section
section
variable {P:Program} {E:Env} {ρ:Nat->Res} {W w:World}
theorem qO:∀ (l:List (Nat × Res)) (ρ:Nat->Res) (r:Nat),l.all (fun q=>q.1 != r)=true->after ρ l r=ρ r
 | [],_,_,_=>rfl
 | (q,x)::l,ρ,r,h=>by
  simp only[List.all_cons,au,jy,ne_eq] at h
  rw[after,qO l _ r h.2,aQ _ _ (fun e=>h.1 e.symm)]
theorem jR {o:Oper} {ev:Operand->Value} {s x:Operand} {t:TypeId} (ho:o.op=.call { callee:=.builtin .append,args:=#[s,x],argTypes:=#[t,t] }):execOp ev o=(do pure (.value (<-Builtin.append_ #[t,t] o.type #[ev s,ev x]))):=by
 simp[execOp,ho,resolve,invoke,builtin]
theorem b2b {T:Told} {k:Operand->K} {ev:Operand->Value} {o:Oper} {vc:List Cd} {kk:K} {l:List (Nat × Res)} (h:AZ P T ρ k o.dst o.op=some (vc,kk,l)) (hv:dJ vc) (hM:Mem E ρ W w) (hw:∀ x,(k x).wf ρ) (hk:∀ x,(k x).holds E ρ w (ev x)):dV P E ρ W w o ev kk l:=by
 cases ho:o.op<;>rw[ho] at h<;>try (simp[AZ] at h;done)
 case buildSlice t len parts =>
  simp only[AZ] at h
  split at h<;>try(cases h;done)
  rename_i hidx
  simp only[au,jf,aj] at hidx
  have hlen:parts.size=len:=by simpa using hidx.1
  have b6i:execOp ev o=(do pure (.value (<-Instr.buildSlice t len ((((parts.toList.map fun q=>ev q.2).zipIdx 0).map fun p=>(p.2,p.1)).toArray)))):=by
   have:parts.map (fun q=>(q.1,ev q.2))=((((parts.toList.map fun q=>ev q.2).zipIdx 0).map fun p=>(p.2,p.1)).toArray):=by
    apply Dk
    rw[Array.toList_map,SB ev parts.toList 0 hidx.2]
   simp only[execOp,ho,<-this]
  split at h
  ·split at h<;>try(cases h;done)
   rename_i r hd _ ty het
   split at h<;>try(cases h;done)
   rename_i e hsb
   split at h<;>try(cases h;done)
   rename_i hc
   simp only[au] at hc
   simp only[ak,dh] at h
   obtain⟨_,rfl,rfl⟩:=h
   have hρ:=Res.lN hc.1
   have hp0:parts.toList=[]:=qp (by simpa using hlen)
   have hb:Below w.heap.size w (w.alloc (.cells #[] e)):=(jo _ _).alloc (ay _) _
   have hcell:(w.alloc (.cells #[] e)).heap[w.heap.size]?=some (.cells #[] e (0,0)):=Ci w _
   have hrun:=run_buildSlice (P:=P) (w:=w) (t:=t) (ty:=ty) (xs:=[]) (vs:=[]) (ps:=[]) (n:=0) hsb rfl .nil
   obtain⟨m1,m2⟩:=hM.turn (w':=w.alloc (.cells #[] e)) r (jI.below hb _) (some w.heap.size) (.slice (some ⟨w.heap.size,0,none⟩) 0 0) (.row e ty [] 1)
    ⟨by show bH E.blk r _ r=bI (bH E.sl r _ r);rw[aG,aG];rfl,hc.2,[],by
     show World.ownsRow _ _ _ _ (bH E.sl r _ r) _ _
     rw[aG]
     exact⟨by simp,.inr ⟨w.heap.size,0,#[],rfl,uq _,hcell,ay _,by omega,by simp,by simp⟩⟩,rfl,by
     show CAv _ _ (bH E.sl r _ r)/\nnS _ (bH E.sl r _ r)
     rw[aG]
     refine⟨?_,fun _ h=>by cases h⟩
     intro g hg i u hu
     cases hg
     rw[yu _ _ _ _ _ _ hcell] at hu
     simp at hu⟩ (.inr (.inr rfl)) rfl (fun k e=>by cases e) (fun h=>by rw[hρ] at h;exact h.elim) (fun h=>by rw[hρ] at h;exact h.elim) (fun v h=>by rw[hρ] at h;exact h.elim) (fun v h=>by rw[hρ] at h;exact h.elim) (fun v h=>h.elim)
   refine dV.of b6i ⟨.slice (some ⟨w.heap.size,0,none⟩) 0 0,w.alloc (.cells #[] e),_,?_,m1,m2,?_,?_⟩
   ·rw[hp0];exact hrun
   ·show Res.dW 1 (bH ρ r _ r);rw[aG];exact ay _
   ·intro _
    show _=bH E.sl r _ r
    rw[aG]
  ·split at h<;>try(cases h;done)
   rename_i n dd p ps l' hts
   split at h<;>try(cases h;done)
   rename_i xs e hst hsb
   simp only[ak,dh] at h
   obtain⟨_,rfl,rfl⟩:=h
   have b3G:kK (fun k v=>K.holds E ρ w k v) (parts.toList.map fun q=>k q.2) (parts.toList.map fun q=>ev q.2):=a4O (R:=fun k v=>K.holds E ρ w k v) hk parts.toList
   obtain⟨E1,m1,m2,m3⟩:=a1w hts hM (fun k9 hk9=>by
    obtain⟨q,_,rfl⟩:=uw.1 hk9
    exact hw q.2) b3G
   have hst2:lF p.t (p::ps)=some (p.x::xs):=by
    simp only[lF,hst]
    have:fU p.t p.t p.x=some p.x:=by simp[fU]
    rw[this]
   have hv2:=QE hst2 m3
   have hvl:(parts.toList.map fun q=>ev q.2).length=n+1:=by simpa using hlen
   have hrun:=run_buildSlice (P:=P) (w:=w) (t:=t) (ty:=p.t) (xs:=p.x::xs) (ps:=p::ps) hsb hvl hv2
   obtain⟨q1,q2,q3⟩:=YS hst2 m3
   generalize hcs:((parts.toList.map fun q=>ev q.2).map fun v=>v.cells.toList).flatten=cs at *
   have hb:Below w.heap.size w (w.alloc (.cells cs.toArray e)):=(jo _ _).alloc (ay _) _
   have hcell:(w.alloc (.cells cs.toArray e)).heap[w.heap.size]?=some (.cells cs.toArray e (0,0)):=Ci w _
   obtain⟨n1,n2⟩:=m1.grows hb
   have hxl:(p.x::xs).length=n+1:=by
    have hal:∀ {ps:List Part} {xs:List p.t.den},lF p.t ps=some xs->xs.length=ps.length:=by
     intro ps
     induction ps with
     | nil=>intro xs h;simp only[lF,ak] at h;subst h;rfl
     | cons a b ih =>
      intro xs h
      simp only[lF] at h
      split at h<;>try(cases h;done)
      rename_i x xs' h1 h2
      simp only[ak] at h
      subst h
      simp[ih h2]
    rw[hal hst2,<-q3];exact hvl
   refine dV.of b6i ⟨_,_,E1,hrun,n1,m2.trans n2,trivial,[.slice (some ⟨w.heap.size,0,none⟩) (n+1) (n+1)],rfl,some ⟨w.heap.size,0,none⟩,n+1,by rw[hxl],Nat.le_of_eq hxl,?_,.inr ⟨w.heap.size,0,cs,rfl,qW (by simp) (m1.base _ (.inr m1.below.size)) (fun r' j9 e9=>?_),fun j u hu=>?_,aW (fun c y=>bW n2.fz n2.stay p.t c y) _ _ q2⟩⟩
   ·obtain⟨_,_,z3,z4,_⟩:=iW hsb
    have:n+1<=(n+1)*p.t.n:=Nat.le_mul_of_pos_right _ z4
    omega
   ·have:=m1.lt e9;omega
   ·rw[tu,yu _ _ _ _ _ _ hcell];simpa using hu
  ·cases h
 case call c =>
  obtain⟨cl,xs,ts⟩:=c
  cases cl<;>try (simp[AZ] at h;done)
  rename_i bi
  cases bi<;>try (simp[AZ] at h;done)
  simp only[AZ] at h
  split at h<;>try(cases h;done)
  rename_i s x t t' hxs hts
  have exs:xs=#[s,x]:=by rw[<-Array.toArray_toList (xs:=xs),hxs]
  have ets:ts=#[t,t']:=by rw[<-Array.toArray_toList (xs:=ts),hts]
  subst exs ets
  split at h<;>try(cases h;done)
  rename_i htt
  subst htt
  split at h<;>try(cases h;done)
  ·rename_i _ r v hks
   split at h<;>try(cases h;done)
   rename_i e ty ys0 v' hr
   split at h<;>try(cases h;done)
   rename_i p l' hat
   split at h<;>try(cases h;done)
   rename_i vcx ys hcast
   split at h<;>try(cases h;done)
   rename_i hc
   simp only[au,jf,aj] at hc
   obtain⟨⟨⟨⟨hvv,hsb⟩,hfew⟩,hzb⟩,hall⟩:=hc
   simp only[a5t,ak,dh] at h
   obtain⟨rfl,rfl,rfl⟩:=h
   have hs:ev s=E.sl r:=by
    have:=hk s
    rw[hks] at this
    exact this (by rw[hr];exact hvv.symm)
   obtain⟨E1,m1,m2,m3⟩:=a6z hat hM (hw x) (hk x)
   have hr1:after ρ l' r=.row e ty ys0 v':=by rw[qO l' ρ r hall];exact hr
   have hsl1:E1.sl r=E.sl r:=(m2.own r v' (by rw[hr];exact ay _) (by rw[hr1];rfl)).2.1
   have hres:=m1.res r
   rw[hr1] at hres
   obtain⟨k1,k2,cs,k3,k4,k5⟩:=hres
   obtain⟨s',w',E',g1,g2,g3,g4⟩:=OM (P:=P) (t:=t) (s:=E1.sl r) (x:=ev x) (v0:=nxf v') m1 hsb hfew hzb k2 (k1.trans (lJ _)) k3 k4 k5.1 (b1h k5.2) (a8S hcast hv.2 m3) hv.1 (.inr ⟨e,ty,ys0,v',hr1,b0N _,a9W _⟩) o.type
   refine dV.of (jR ho) ⟨s',w',E',?_,by rw[fQ];exact g2,by rw[fQ];exact m2.trans g3,?_,?_⟩
   ·rw[hs,<-hsl1];exact g1
   ·rw[fQ];show Res.dW _ (bH _ r _ r);rw[aG];exact ay _
   ·intro _;exact g4
  ·rename_i r hks hd
   split at h<;>try(cases h;done)
   rename_i ty ys l' hat
   split at h<;>try(cases h;done)
   rename_i e hsb
   split at h<;>try(cases h;done)
   rename_i hc
   simp only[au,jf,aj] at hc
   obtain⟨⟨⟨⟨hrn,hst⟩,hfew⟩,hzb⟩,hall⟩:=hc
   simp only[a5t,ak,dh] at h
   obtain⟨rfl,rfl,rfl⟩:=h
   have hs:ev s=.slice none 0 0:=by
    have:=hk s
    rw[hks] at this
    exact this
   obtain⟨E1,m1,m2,m3⟩:=a6z hat hM (hw x) (hk x)
   have hr1:after ρ l' r=.none:=by rw[qO l' ρ r hall];exact Res.lN hrn
   have hblk:E1.blk r=none:=by
    have:=m1.res r
    rw[hr1] at this
    exact this
   obtain⟨s',w',E',g1,g2,g3,g4⟩:=OM (P:=P) (t:=t) (s:=.slice none 0 0) (x:=ev x) (xs:=[]) (cs:=[]) (v0:=nxf 0) m1 hsb hfew hzb hst hblk (Bd w _ _ _) rfl (fun g hg=>by cases hg) (fun h=>by cases h) m3 hv.1 (.inl hr1) o.type
   refine dV.of (jR ho) ⟨s',w',E',?_,by rw[fQ];exact g2,by rw[fQ];exact m2.trans g3,?_,?_⟩
   ·rw[hs];exact g1
   ·rw[fQ];show Res.dW _ (bH _ r _ r);rw[aG];exact ay _
   ·intro _;exact g4
end
end
structure Ctr where
 args:List Ty
 res:List Ty
 pre:(nest args).den->Prop
 fn:(nest args).den->(nest res).den
 [dec:∀ x,Dc (pre x)]
def qH (F:Nat->Prop) (w:World):(ts:List Ty)->Value->(nest ts).den->Prop
 | [t],v,x=>iY F w t v x.1
 | ts,v,x=>∃ vs,v=.tuple vs.toArray/\iO F w ts vs x
def newF (F:Nat->Prop) (w w':World) (q:Nat):Prop:=(F q\/w.heap.size<=q)/\q<w'.heap.size
def aI (P:Program) (f:FuncId) (c:Ctr):Prop:=∀ (F:Nat->Prop) (w:World) (vs:List Value) (x:(nest c.args).den),(∀ q,F q->q<w.heap.size)->iO F w c.args vs x->c.pre x ->
 Calls P f vs.toArray w fun e w'=>∃ v,e=.returned v/\qH (newF F w w') w' c.res v (c.fn x)/\Below w.heap.size w w'
def b1R:(ts:List Ty)->(nest ts).den->K
 | [t],x=>.val t x.1
 | ts,x=>.tup ts x
end Go.Proofs.YtbkocjmmbkifjaaGreat
