/-
  Lemmas for the theorem vtransforms_holds, part 9 of 39.
-/
import Derived.Deep.OwnRows
import Derived.Laws.Cover3
import Derived.Laws.Small
import Derived.Test.YtgplhbhfdgempaaGreatTr08
namespace Go.Proofs.YtgplhbhfdgempaaGreat
open Go Go.RowKit
theorem dh:type_of% @Prod.mk.injEq:=@Prod.mk.injEq
theorem Ce:type_of% @Addr.add_mid:=@Addr.add_mid
theorem qh:type_of% @Int.natCast_nonneg:=@Int.natCast_nonneg
theorem zy:type_of% @cell_of_row:=@cell_of_row
theorem Dv:type_of% @heap_alloc_new:=@heap_alloc_new
section
set_option linter.unusedSimpArgs false
set_option linter.unusedVariables false
section
variable {P:Program} {E:Env} {ρ:Nat->Res} {w:World}
theorem sK {v:Value} {b:Bool} (h:(K.val .bool b).holds E ρ w v):v=.bool b:=by
 obtain⟨cs,rfl,h2⟩:=h
 rw[show cs=_ from h2];rfl
theorem lX {v:Value} {k:IntKind} {n:Int} (h:(K.val (.int k) n).holds E ρ w v):v=.int k n:=by
 obtain⟨cs,rfl,h2⟩:=h
 rw[show cs=_ from h2];rfl
theorem kQ (b:Bool):(K.val .bool b).holds E ρ w (.bool b):=⟨[.bool b],rfl,rfl⟩
theorem lV (k:IntKind) (n:Int):(K.val (.int k) n).holds E ρ w (.int k n):=⟨[.int k n],rfl,rfl⟩
theorem DY {v:Value} {t:Ty} {xs:List t.den} (h:(K.val (.list t) xs).holds E ρ w v) :
  ∃ p c,v=.slice p xs.length c/\xs.length<=c/\c<=9223372036854775807/\(xs=[]\/∃ b o ds,p=some ⟨b,o,none⟩/\fz w E b/\w.rangeAt b o ds/\chunks (rep (fz w E) w t) ds xs):=by
 obtain⟨cs,rfl,p,c,h1,h2,h3,h4⟩:=h
 exact⟨p,c,by rw[h1];rfl,h2,h3,h4⟩
theorem FM {v:Value} {t:Ty} {x:t.den} (h:(K.val (.ref t) x).holds E ρ w v):∃ b o ds,v=.pointer (some ⟨b,o,none⟩)/\fz w E b/\w.rangeAt b o ds/\rep (fz w E) w t ds x:=by
 obtain⟨cs,rfl,b,o,ds,h1,h2⟩:=h
 exact⟨b,o,ds,by rw[h1];rfl,h2⟩
theorem QF {t:Ty} {x:t.den} {b o:Nat} {ds:List Value} (h1:fz w E b) (h2:w.rangeAt b o ds) (h3:rep (fz w E) w t ds x):(K.val (.ref t) x).holds E ρ w (.pointer (some ⟨b,o,none⟩)):=⟨[.pointer (some ⟨b,o,none⟩)],rfl,b,o,ds,rfl,h1,h2,h3⟩
theorem a6N {v:Value} {t:Ty} {x:Option (List t.den)} (h:(K.val (.nls t) x).holds E ρ w v) :
  ∃ p c,v=.slice p (x.getD []).length c/\p.isNone=!x.isSome:=by
 obtain⟨cs,rfl,⟨rfl,rfl⟩|⟨ys,b,o,c,ds,rfl,rfl,_⟩⟩:=h
 ·exact⟨none,0,rfl,rfl⟩
 ·exact⟨_,c,rfl,rfl⟩
theorem OB {s:TypeId} {i o:Nat} {ty:Ty} (h:a3R P s i o ty=true):∃ fs f,P.underlying s=some (.struct fs)/\fs[i]?=some f/\f.offset=o/\fitsT P f.type ty=true/\0<ty.n:=by
 unfold a3R at h
 split at h
 ·rename_i fs hu
  split at h
  ·rename_i f hf
   simp only[ak,ji,ay] at h
   exact⟨fs,f,hu,hf,h.1.1,h.1.2,h.2⟩
  ·cases h
 ·cases h
theorem a7n {s:TypeId} {i:Nat} {ty:Ty} {y:ty.den} {vc:List Prop} {kk:K} {v:Value} (h:BR false P s i ty y=some (vc,kk)) (hv:kC (fz w E) w ty v y):∃ u,(Instr.field s v i).run P w=.ok u w/\kk.holds E ρ w u:=by
 unfold BR at h
 split at h
 ·rename_i o p hf
  split at h
  ·rename_i hb
   simp only[ak] at hb
   simp only[ah,dh,zq,if_false] at h
   obtain⟨_,rfl⟩:=h
   obtain⟨cs,rfl,hr⟩:=hv
   obtain⟨fs,f,h1,h2,rfl,h4,h5⟩:=OB hb.1
   have hr2:=vW ty y i _ p cs hf hr
   refine⟨_,?_,_,rfl,hr2⟩
   simp only[Instr.field,jc,qj h1 w,Result.andThen_ok,h2,Ty.toV,hb.2,Dk,asAgg,Sem.run_pure]
   exact wG h4 hr2
  ·cases h
 ·cases h
theorem a1P {s:TypeId} {i:Nat} {ty:Ty} {y:ty.den} {vc:List Prop} {kk:K} {v:Value} (h:BR true P s i ty y=some (vc,kk)) (hv:(K.val (.ref ty) y).holds E ρ w v):∃ u,(Instr.fieldAt s v i).run P w=.ok u w/\kk.holds E ρ w u:=by
 unfold BR at h
 split at h
 ·rename_i o p hf
  split at h
  ·rename_i hb
   simp only[ak] at hb
   simp only[ah,dh,Dk] at h
   obtain⟨_,rfl⟩:=h
   obtain⟨b,oo,ds,rfl,h1,h2,h3⟩:=FM (ρ:=ρ) hv
   obtain⟨fs,f,k1,k2,rfl,k4,k5⟩:=OB hb.1
   have hr2:=vW ty y i _ p ds hf h3
   refine⟨.pointer (some ⟨b,oo+f.offset,none⟩),?_,QF h1 (zC h2 _ _) hr2⟩
   obtain⟨⟨i2,hi,hn⟩,_⟩:=iI k4
   have hz:¬ i2.size=0:=by omega
   simp[Instr.fieldAt,jc,qj k1 w,k2,Instr.sureAddr,fieldPlace,run_sizeOf hi,hz,Ce]
  ·cases h
 ·cases h
theorem vU {s:TypeId} {ty:Ty} (h:qO P s none ty=true):∃ e,P.underlying s=some (.slice e)/\fitsT P e ty=true:=by
 unfold qO at h
 split at h<;>try(cases h;done)
 ·rename_i e hu _;exact⟨e,hu,h⟩
 ·rename_i hx;cases hx
theorem LX {s:TypeId} {m:Nat} {ty:Ty} (h:qO P s (some m) ty=true):∃ e,P.underlying s=some (.array m e)/\fitsT P e ty=true:=by
 unfold qO at h
 split at h<;>try(cases h;done)
 ·rename_i hx;cases hx
 ·rename_i m' e k hu hx
  cases hx
  simp only[ak,ji] at h
  obtain⟨rfl,h2⟩:=h
  exact⟨e,hu,h2⟩
theorem JI {F:Nat->Prop} {ty:Ty} {ys:List ty.den} {ds:List Value} (h:chunks (rep F w ty) ds ys) {n:Nat} (hn:n<ys.length):rep F w ty ((ds.drop (n*ty.n)).take ty.n) (ys.getD n ty.zero):=by
 obtain⟨c,rfl,h2⟩:=WU (fun c y=>dZ ty c y) ys ds h n ty.zero hn
 exact h2
theorem CQ {s:TypeId} {ty:Ty} {ys:List ty.den} {n:Int} {kd:IntKind} {vc:List Prop} {kk:K} {v:Value} (hb:qO P s none ty=true) (h:JO ty ys ys.length n=some (vc,kk)) (hc:bY vc) (hv:(K.val (.list ty) ys).holds E ρ w v):∃ u,(Instr.indexAt s v (.int kd n)).run P w=.ok u w/\kk.holds E ρ w u:=by
 simp only[JO,ah,dh] at h
 obtain⟨rfl,rfl⟩:=h
 obtain⟨h0,h1,_⟩:=hc
 have hn:n.toNat<ys.length:=by omega
 obtain⟨p,c,rfl,_,_,hx|⟨b,o,ds,rfl,k1,k2,k3⟩⟩:=DY (ρ:=ρ) hv
 ·rw[hx] at hn;simp at hn
 obtain⟨e,k4,k5⟩:=vU hb
 obtain⟨⟨i2,hi,hsz⟩,_⟩:=iI k5
 refine⟨.pointer (some ⟨b,o+n.toNat*ty.n,none⟩),?_,QF k1 (zC k2 _ _) (JI k3 hn)⟩
 simp[Instr.indexAt,asIntOf,jc,qj k4 w,h0,h1,run_sizeOf hi,hsz,Ce]
theorem WA {s:TypeId} {ty:Ty} {m:Nat} {ys:List ty.den} {n:Int} {kd:IntKind} {vc:List Prop} {kk:K} {v:Value} (hb:qO P s (some m) ty=true) (h:JO ty ys m n=some (vc,kk)) (hc:bY vc) (hv:(K.val (.ref (.arr m ty)) ys).holds E ρ w v):∃ u,(Instr.indexAt s v (.int kd n)).run P w=.ok u w/\kk.holds E ρ w u:=by
 simp only[JO,ah,dh] at h
 obtain⟨rfl,rfl⟩:=h
 obtain⟨h0,h1,_⟩:=hc
 obtain⟨b,o,ds,rfl,k1,k2,kl,k3⟩:=FM (ρ:=ρ) hv
 have hn:n.toNat<ys.length:=by have:ys.length=m:=kl;omega
 obtain⟨e,k4,k5⟩:=LX hb
 obtain⟨⟨i2,hi,hsz⟩,_⟩:=iI k5
 refine⟨.pointer (some ⟨b,o+n.toNat*ty.n,none⟩),?_,QF k1 (zC k2 _ _) (JI k3 hn)⟩
 simp[Instr.indexAt,asIntOf,jc,qj k4 w,h0,h1,run_sizeOf hi,hsz,Ce,Instr.sureAddr]
theorem a7x {s:TypeId} {ty:Ty} {m:Nat} {ys:List ty.den} {n:Int} {kd:IntKind} {vc:List Prop} {kk:K} {v:Value} (hb:qO P s (some m) ty=true) (h:b3f ty ys m n=some (vc,kk)) (hc:bY vc) (hv:(K.val (.arr m ty) ys).holds E ρ w v):∃ u,(Instr.index s v (.int kd n)).run P w=.ok u w/\kk.holds E ρ w u:=by
 simp only[b3f,ah,dh] at h
 obtain⟨rfl,rfl⟩:=h
 obtain⟨h0,h1,_⟩:=hc
 obtain⟨cs,rfl,kl,k3⟩:=hv
 have hn:n.toNat<List.length (α:=ty.den) ys:=by have:List.length (α:=ty.den) ys=m:=kl;omega
 obtain⟨e,k4,k5⟩:=LX hb
 obtain⟨⟨i2,hi,hsz⟩,_⟩:=iI k5
 have hr:=JI k3 hn
 refine⟨_,?_,_,rfl,hr⟩
 have:=wG k5 hr
 change (Instr.index s (.agg cs.toArray) (.int kd n)).run P w=_
 simp[Instr.index,asIntOf,qj k4 w,h0,h1,run_sizeOf hi,hsz,jc,this]
theorem b3h {op:BinOp} {t:TypeId} {k:IntKind} {a b:Int} {x y:Operand} {vc:List Prop} {kk:K} (h:a9Y op k a b=some (vc,kk)) (hc:bY vc):∃ u,(do eqGuard op t x y (.int k a) (.int k b);binOp op t (.int k a) (.int k b):Sem Value).run P w=.ok u w/\kk.holds E ρ w u:=by
 cases op<;>simp only[a9Y,ah,dh] at h<;>first|(cases h;done)|obtain⟨rfl,rfl⟩:=h
 case quo=>exact⟨.int k (k.wrap (a.tdiv b)),by have:=hc.1;simp[eqGuard,binOp,Op.intDiv,jc,this],lV _ _⟩
 case rem=>exact⟨.int k (a.tmod b),by have:=hc.1;simp[eqGuard,binOp,Op.intDiv,jc,this],lV _ _⟩
 case eql=>exact⟨.bool (a==b),by simp[eqGuard,binOp,Op.intCmp,jc],kQ _⟩
 case neq=>exact⟨.bool (a != b),by simp[eqGuard,binOp,Op.intCmp,jc],kQ _⟩
 case add=>exact⟨.int k (k.wrap (a+b)),by simp[eqGuard,binOp,Op.intArith,jc],lV _ _⟩
 case sub=>exact⟨.int k (k.wrap (a-b)),by simp[eqGuard,binOp,Op.intArith,jc],lV _ _⟩
 case mul=>exact⟨.int k (k.wrap (a*b)),by simp[eqGuard,binOp,Op.intArith,jc],lV _ _⟩
 case lss=>exact⟨.bool (decide (a<b)),by simp[eqGuard,binOp,Op.intCmp,jc],kQ _⟩
 case leq=>exact⟨.bool (decide (a<=b)),by simp[eqGuard,binOp,Op.intCmp,jc],kQ _⟩
 case gtr=>exact⟨.bool (decide (a > b)),by simp[eqGuard,binOp,Op.intCmp,jc],kQ _⟩
 case geq=>exact⟨.bool (decide (a ≥ b)),by simp[eqGuard,binOp,Op.intCmp,jc],kQ _⟩
theorem b3E {op:BinOp} {t e:TypeId} {b:Bool} {p:Option Addr} {n c:Nat} {x y:Operand} {vc:List Prop} {kk:K} (hu:P.underlying t=some (.slice e)) (hp:p.isNone=!b) (h:b3D op b=some (vc,kk)):∃ u,(do eqGuard op t x y (.slice p n c) (.slice none 0 0);binOp op t (.slice p n c) (.slice none 0 0):Sem Value).run P w=.ok u w/\kk.holds E ρ w u:=by
 cases op<;>simp only[b3D,ah,dh] at h<;>first|(cases h;done)|obtain⟨rfl,rfl⟩:=h
 ·exact⟨.bool (!b),by simp[eqGuard,binOp,jc,run_equal_slice_nil w t e p n c hu,hp],kQ _⟩
 ·exact⟨.bool b,by simp[eqGuard,binOp,jc,run_equal_slice_nil w t e p n c hu,hp],kQ _⟩
theorem WC {t:TypeId} (hsl:rZ P t=true):∃ e,P.underlying t=some (.slice e):=by
 unfold rZ at hsl
 split at hsl
 ·rename_i e he;exact⟨e,he⟩
 ·cases hsl
theorem b5C {op:BinOp} {t:TypeId} {a b:Bool} {x y:Operand} {vc:List Prop} {kk:K} (hu:P.underlying t=some .bool) (h:eqB op a b=some (vc,kk)):∃ u,(do eqGuard op t x y (.bool a) (.bool b);binOp op t (.bool a) (.bool b):Sem Value).run P w=.ok u w/\kk.holds E ρ w u:=by
 cases op<;>simp only[eqB,ah,dh] at h<;>first|(cases h;done)|obtain⟨rfl,rfl⟩:=h
 ·exact⟨.bool (a==b),by simp[eqGuard,binOp,jc,run_equal_bool w t a b hu],kQ _⟩
 ·exact⟨.bool (a != b),by simp[eqGuard,binOp,jc,run_equal_bool w t a b hu];cases a<;>cases b<;>rfl,kQ _⟩
theorem iK {s:Sem Value} {o:Oper} {ev:Operand->Value} {kk:K} (he:execOp ev o=(do pure (.value (<-s)))) (h:∃ u,s.run P w=.ok u w/\kk.holds E ρ w u):BF P E ρ w o ev kk:=by
 obtain⟨u,h1,h2⟩:=h
 exact⟨u,by rw[he,jc,h1];simp,h2⟩
theorem b0s {F:Nat->Prop}:∀ {ks:List K0} {vs:List Value} {i:Nat} {k:K0},oU F E ρ w ks vs->ks[i]?=some k->∃ v,vs[i]?=some v/\a5O F E ρ w k v
 | [],_,i,k,_,h=>by simp at h
 | k'::ks,_,0,k,⟨v,vs',h1,h2,_⟩,h=>by
  simp at h
  subst h
  exact⟨v,by rw[h1];rfl,h2⟩
 | k'::ks,_,i+1,k,⟨v,vs',h1,h2,h3⟩,h=>by
  obtain⟨u,k1,k2⟩:=b0s (i:=i) h3 (by simpa using h)
  exact⟨u,by rw[h1];exact k1,k2⟩
theorem a3P {s:TypeId} (h:a5B P s=true):∃ e,P.underlying s=some (.slice e)/\fitsT P e (.int .u32)=true:=by
 unfold a5B at h
 split at h<;>try(cases h;done)
 rename_i e he
 exact⟨e,he,h⟩
theorem WB {s:TypeId} {l:List Nat} {n:Int} {kd:IntKind} {vc:List Prop} {kk:K} {v:Value} (hb:a5B P s=true) (h:a5y l n=some (vc,kk)) (hc:bY vc) (hv:(K.val (.lf .gsl) l).holds E ρ w v):∃ u,(Instr.indexAt s v (.int kd n)).run P w=.ok u w/\kk.holds E ρ w u:=by
 simp only[a5y,ah,dh] at h
 obtain⟨rfl,rfl⟩:=h
 obtain⟨h0,h1,_⟩:=hc
 obtain⟨e,he,hf⟩:=a3P hb
 obtain⟨⟨i,hi,hs⟩,_⟩:=iI hf
 obtain⟨cs,rfl,sv,rfl,hr⟩:=hv
 obtain⟨n',rfl⟩:∃ n':Nat,n=n':=⟨n.toNat,by omega⟩
 have hlt:n'<l.length:=by omega
 rcases hr with⟨_,_,hl⟩|⟨b,o,c,rfl,k2,k3,k4,k5⟩
 ·rw[hl] at hlt;simp at hlt
 ·refine⟨.pointer (some ⟨b,o+n',none⟩),?_,[.pointer (some ⟨b,o+n',none⟩)],rfl,b,o+n',rfl,?_⟩
  ·have hs:i.size=1:=hs
   simp[Instr.indexAt,asIntOf,jc,qj he w,Ty.toV,Ty.agg,Lf.agg,run_sizeOf hi,hs,Ce,hlt,show (0:Int)<=(n':Int) from qh _,show (n':Int)<(l.length:Int) from by omega]
  ·have:=k5 n' hlt
   rw[this,Int.toNat_natCast]
   rfl
theorem a7O {k:Operand->K} {ev:Operand->Value} {o:Oper} {vc:List Prop} {kk:K} (h:gI P k o.op=some (vc,kk)) (hv:bY vc) (hk:∀ x,(k x).holds E ρ w (ev x)):BF P E ρ w o ev kk:=by
 cases ho:o.op<;>rw[ho] at h<;>try (simp[gI] at h;done)
 case move x =>
  simp only[gI,ah,dh] at h
  obtain⟨_,rfl⟩:=h
  exact⟨ev x,by simp[execOp,ho],hk x⟩
 case assign x =>
  simp only[gI,ah,dh] at h
  obtain⟨_,rfl⟩:=h
  exact⟨ev x,by simp[execOp,ho],hk x⟩
 case pick c a b =>
  simp only[gI] at h
  split at h<;>try(cases h;done)
  rename_i cb hcb
  have h1:=hk c
  rw[hcb] at h1
  have h2:=sK h1
  exact⟨_,by simp[execOp,ho,h2,asBool,jc];rfl,b0M h hv (hk a) (hk b)⟩
 case load t x =>
  simp only[gI] at h
  split at h<;>try(cases h;done)
  ·rename_i ty y hx
   split at h<;>try(cases h;done)
   rename_i hf
   simp only[ah,dh] at h
   obtain⟨_,rfl⟩:=h
   have h1:=hk x
   rw[hx] at h1
   obtain⟨b,oo,ds,h2,k1,k2,k3⟩:=FM h1
   refine iK (by simp only[execOp,ho];rfl) ⟨_,?_,ds,rfl,k3⟩
   rw[h2]
   simp only[Instr.loadAt,Instr.sureAddr,jc,Sem.run_pure,Result.andThen_ok]
   exact kT hf k2 k3
  ·rename_i y hx
   split at h<;>try(cases h;done)
   rename_i hf
   simp only[ah,dh] at h
   obtain⟨_,rfl⟩:=h
   have h1:=hk x
   rw[hx] at h1
   obtain⟨cs,h2,b,oo,rfl,k2⟩:=h1
   refine iK (by simp only[execOp,ho];rfl) ⟨_,?_,[.int .u32 (Nat.cast (R:=Int) y)],rfl,rfl⟩
   rw[h2]
   simp only[Instr.loadAt,Ty.toV,Ty.agg,Lf.agg,zq,if_false,List.headD_cons,Instr.sureAddr,jc,Sem.run_pure,Result.andThen_ok]
   exact kT (F:=fun _=>True) (x:=(Nat.cast (R:=Int) y)) hf (fun j v hv=>by
    cases j with
    | zero=>simp at hv;rw[<-hv];exact k2
    | succ j=>simp at hv) rfl
 case fieldAddr s x i =>
  simp only[gI] at h
  split at h<;>try(cases h;done)
  rename_i ty y hx
  have h1:=hk x
  rw[hx] at h1
  exact iK (by simp only[execOp,ho]) (a1P h h1)
 case field s x i =>
  simp only[gI] at h
  split at h<;>try(cases h;done)
  rename_i ty y hx
  have h1:=hk x
  rw[hx] at h1
  exact iK (by simp only[execOp,ho]) (a7n h h1)
 case indexAddr s x i =>
  simp only[gI] at h
  have h1:=hk x
  have h2:=hk i
  split at h<;>try(cases h;done)
  all_goals
   rename_i hx hi
   split at h<;>try(cases h;done)
   rename_i hb
   rw[hx] at h1
   rw[hi] at h2
   refine iK (by simp only[execOp,ho];rfl) ?_
   rw[lX h2]
  ·exact CQ hb h hv h1
  ·exact WA hb h hv h1
  ·exact WB hb h hv h1
 case index s x i =>
  simp only[gI] at h
  have h1:=hk x
  have h2:=hk i
  split at h<;>try(cases h;done)
  rename_i hx hi
  split at h<;>try(cases h;done)
  rename_i hb
  rw[hx] at h1
  rw[hi] at h2
  refine iK (by simp only[execOp,ho];rfl) ?_
  rw[lX h2]
  exact a7x hb h hv h1
 case extract x i =>
  simp only[gI] at h
  have h1:=hk x
  split at h<;>try(cases h;done)
  ·rename_i ts y hx
   split at h<;>try(cases h;done)
   rename_i p hp
   simp only[ah,dh] at h
   obtain⟨_,rfl⟩:=h
   rw[hx] at h1
   obtain⟨vs,h2,h3⟩:=h1
   obtain⟨u,k1,k2⟩:=YW ts y i p vs hp h3
   refine iK (by simp only[execOp,ho];rfl) ⟨u,?_,k2⟩
   rw[h2]
   simp[Instr.extract,k1]
  ·rename_i ks hx
   rw[hx] at h1
   obtain⟨vs,h2,h3⟩:=h1
   split at h<;>try(cases h;done)
   rename_i hks
   simp only[ah,dh] at h
   obtain⟨_,rfl⟩:=h
   obtain⟨u,k1,k2⟩:=b0s h3 hks
   refine iK (by simp only[execOp,ho];rfl) ⟨u,?_,EX.1 k2⟩
   rw[h2]
   simp[Instr.extract,k1]
 case binOp op t x y yt =>
  simp only[gI] at h
  have h1:=hk x
  have h2:=hk y
  split at h<;>try(cases h;done)
  ·rename_i ka a kb b hx hy
   split at h<;>try(cases h;done)
   rename_i he
   subst he
   rw[hx] at h1
   rw[hy] at h2
   refine iK (by simp only[execOp,ho];rfl) ?_
   rw[lX h1,lX h2]
   exact b3h h hv
  ·rename_i a b hx hy
   split at h<;>try(cases h;done)
   rename_i hb
   rw[hx] at h1
   rw[hy] at h2
   have hu:P.underlying t=some .bool:=by
    unfold a5M at hb
    split at hb
    ·assumption
    ·cases hb
   refine iK (by simp only[execOp,ho];rfl) ?_
   rw[sK h1,sK h2]
   exact b5C hu h
  ·rename_i ty z hx hy
   split at h<;>try(cases h;done)
   rename_i hb
   rw[hx] at h1
   rw[hy] at h2
   obtain⟨e,hu⟩:=WC hb
   obtain⟨p,c,e1,e2⟩:=a6N h1
   refine iK (by simp only[execOp,ho];rfl) ?_
   rw[e1,show ev y=.slice none 0 0 from h2]
   exact b3E hu e2 h
 case unOp op t x =>
  have h1:=hk x
  cases op<;>simp only[gI] at h<;>try(cases h;done)
  case not =>
   split at h<;>try(cases h;done)
   rename_i b hx
   simp only[b6w,ah,dh] at h
   obtain⟨_,rfl⟩:=h
   rw[hx] at h1
   refine iK (by simp only[execOp,ho];rfl) ⟨_,?_,kQ _⟩
   rw[sK h1]
   rfl
  case neg =>
   split at h<;>try(cases h;done)
   rename_i kd n hx
   simp only[b6t,ZB,ah,dh] at h
   obtain⟨_,rfl⟩:=h
   rw[hx] at h1
   refine iK (by simp only[execOp,ho];rfl) ⟨_,?_,lV _ _⟩
   rw[lX h1]
   rfl
 case convert s t x =>
  simp only[gI] at h
  have h1:=hk x
  split at h<;>try(cases h;done)
  rename_i kd n kk' hx hi
  simp only[ZB,ah,dh] at h
  obtain⟨_,rfl⟩:=h
  rw[hx] at h1
  refine iK (by simp only[execOp,ho];rfl) ⟨_,?_,lV _ _⟩
  rw[lX h1]
  unfold c1Q at hi
  split at hi<;>first|(cases hi;done)|skip
  rename_i d k' hs ht
  cases hi
  simp[convert,jc,qj hs w,qj ht w,Conv.intToInt]
 case nilCheck x =>
  simp only[gI] at h
  have h1:=hk x
  split at h<;>try(cases h;done)
  ·rename_i t y hx
   simp only[ah,dh] at h
   obtain⟨_,rfl⟩:=h
   rw[hx] at h1
   obtain⟨b,oo,ds,h2,k⟩:=FM h1
   exact⟨ev x,by simp[execOp,ho,h2],h1⟩
  ·rename_i f t y hx
   simp only[ah,dh] at h
   obtain⟨_,rfl⟩:=h
   rw[hx] at h1
   obtain⟨cs,h2,ds,h3,k⟩:=h1
   exact⟨ev x,by simp[execOp,ho,h2,h3,Ty.toV,Ty.agg],cs,h2,ds,h3,k⟩
 case call c =>
  obtain⟨cl,xs,ts⟩:=c
  cases cl<;>try (simp[gI] at h;done)
  rename_i bi
  cases bi<;>try (simp[gI] at h;done)
  simp only[gI] at h
  split at h<;>try(cases h;done)
  rename_i x t hxs hts
  have exs:xs=#[x]:=by rw[<-Array.toArray_toList (xs:=xs),hxs]
  have ets:ts=#[t]:=by rw[<-Array.toArray_toList (xs:=ts),hts]
  subst exs ets
  have h1:=hk x
  split at h<;>try(cases h;done)
  rename_i hsl
  have hu:∃ e,P.underlying t=some (.slice e):=by
   unfold rZ at hsl
   split at hsl
   ·rename_i e he;exact⟨e,he⟩
   ·cases hsl
  obtain⟨e,hu⟩:=hu
  split at h<;>try(cases h;done)
  ·rename_i ty ys hx
   simp only[MW,ah,dh] at h
   obtain⟨_,rfl⟩:=h
   rw[hx] at h1
   obtain⟨p,c,h2,_⟩:=DY h1
   exact⟨_,by simp[execOp,ho,resolve,invoke,builtin,jc,h2,Builtin.len_,qj hu w,goInt],lV _ _⟩
  ·rename_i l hx
   simp only[b6j,ah,dh] at h
   obtain⟨_,rfl⟩:=h
   rw[hx] at h1
   obtain⟨cs,h2,sv,rfl,hr⟩:=h1
   obtain⟨p,c,rfl,_,_⟩:=hr.form
   have h2:ev x=.slice p l.length c:=h2
   exact⟨_,by simp[execOp,ho,resolve,invoke,builtin,jc,h2,Builtin.len_,qj hu w,goInt],lV _ _⟩
  ·rename_i hx
   simp only[MW,ah,dh] at h
   obtain⟨_,rfl⟩:=h
   rw[hx] at h1
   have h2:ev x=.slice none 0 0:=h1
   exact⟨_,by simp[execOp,ho,resolve,invoke,builtin,jc,h2,Builtin.len_,qj hu w,goInt],lV _ _⟩
  ·rename_i ty ys hx
   simp only[MW,ah,dh] at h
   obtain⟨_,rfl⟩:=h
   rw[hx] at h1
   obtain⟨p,c,h2,_⟩:=a6N h1
   exact⟨_,by simp[execOp,ho,resolve,invoke,builtin,jc,h2,Builtin.len_,qj hu w,goInt],lV _ _⟩
end
end
set_option linter.unusedSimpArgs false
set_option linter.unusedVariables false
set_option maxRecDepth 20000
def QC (w:World) (u0 u1 u2 u3:Value) (K:Nat) (ok:Bool) (q:Rat):Prop :=
 ∃ g p n c h p' n' c',u0=.bool g/\u1=.slice p n c/\u2=.bool h/\u3=.slice p' n' c'/\iD w (.agg #[.bool g,.slice p n c,.bool h,.slice p' n' c']) ok q/\n<=K/\n'<=K
theorem QC.below {w w':World} {u0 u1 u2 u3:Value} {K:Nat} {ok:Bool} {q:Rat} (h:QC w u0 u1 u2 u3 K ok q) (hb:Below w.heap.size w w'):QC w' u0 u1 u2 u3 K ok q:=by
 obtain⟨g,p,n,c,h,p',n',c',e0,e1,e2,e3,hq,k⟩:=h
 exact⟨g,p,n,c,h,p',n',c',e0,e1,e2,e3,hq.below hb,k⟩
theorem QC.iW {w:World} {u0 u1 u2 u3:Value} {K:Nat} {ok:Bool} {q:Rat} (h:QC w u0 u1 u2 u3 K ok q) {a:Addr} {u:Value} (hc:w.cell? a=some u) (hu:bK u=true) (u':Value):QC (w.setCell a u') u0 u1 u2 u3 K ok q:=by
 obtain⟨g,p,n,c,h,p',n',c',e0,e1,e2,e3,hq,k⟩:=h
 exact⟨g,p,n,c,h,p',n',c',e0,e1,e2,e3,hq.iW hc hu u',k⟩
theorem QC.nu {w:World} {u0 u1 u2 u3:Value} {K:Nat} {ok:Bool} {q:Rat} (h:QC w u0 u1 u2 u3 K ok q):bK u0=true/\bK u1=true/\bK u2=true/\bK u3=true:=by
 obtain⟨g,p,n,c,h,p',n',c',rfl,rfl,rfl,rfl,hq,k⟩:=h
 exact⟨rfl,rfl,rfl,rfl⟩
theorem QC.mono {w:World} {u0 u1 u2 u3:Value} {K K':Nat} {ok:Bool} {q:Rat} (h:QC w u0 u1 u2 u3 K ok q) (hK:K<=K'):QC w u0 u1 u2 u3 K' ok q:=by
 obtain⟨g,p,n,c,h,p',n',c',e0,e1,e2,e3,hq,k,k'⟩:=h
 exact⟨g,p,n,c,h,p',n',c',e0,e1,e2,e3,hq,by omega,by omega⟩
theorem QC.of {w:World} {g h:Bool} {p p':Option Addr} {n c n' c' K:Nat} {q:Rat} (hq:RQ w (.agg #[.bool g,.slice p n c,.bool h,.slice p' n' c']) q) (hK:rsz q<=K):QC w (.bool g) (.slice p n c) (.bool h) (.slice p' n' c') K true q:=by
 have hn:=hq.qn hK
 obtain⟨_,_,_,_,_,_,_,_,e,l1,l2⟩:=hn
 simp only[Value.agg.injEq,Array.mk.injEq,List.cons.injEq,Value.slice.injEq,Value.bool.injEq] at e
 obtain⟨rfl,⟨rfl,rfl,rfl⟩,rfl,⟨rfl,rfl,rfl⟩,_⟩:=e
 exact⟨g,p,_,c,h,p',_,c',rfl,rfl,rfl,rfl,hq.raw,l1,l2⟩
theorem QC.zero (w:World) (K:Nat):QC w (.bool false) (.slice none 0 0) (.bool false) (.slice none 0 0) K false 0:=by
 refine⟨false,none,0,0,false,none,0,0,rfl,rfl,rfl,rfl,⟨_,_,_,_,true,true,0,0,rfl,?_,?_,?_,by simp⟩,by omega,by omega⟩
 ·exact⟨false,_,[],rfl,.inl ⟨none,rfl,rfl⟩,by simp,by simp[cnt,yD],by simp[yD]⟩
 ·exact⟨false,_,[],rfl,.inl ⟨none,rfl,rfl⟩,by simp,by simp[cnt,yD],by simp[yD]⟩
 ·simp
theorem QC.open {w:World} {u0 u1 u2 u3:Value} {K:Nat} {ok:Bool} {q:Rat} (h:QC w u0 u1 u2 u3 K ok q):∃ g p n c h p' n' c',u0=.bool g/\u1=.slice p n c/\u2=.bool h/\u3=.slice p' n' c'/\iD w (.agg #[.bool g,.slice p n c,.bool h,.slice p' n' c']) ok q/\Qn (.agg #[.bool g,.slice p n c,.bool h,.slice p' n' c']) K:=by
 obtain⟨g,p,n,c,h,p',n',c',e0,e1,e2,e3,hq,k,k'⟩:=h
 exact⟨g,p,n,c,h,p',n',c',e0,e1,e2,e3,hq,⟨_,_,_,_,_,_,_,_,rfl,k,k'⟩⟩
def vK (w:World) (s:Value) (n K:Nat) (ok:Nat->Bool) (e:Nat->Rat):Prop :=
 ∃ p c,s=.slice p n c/\n<=c/\c<=9223372036854775807/\(0<n->∃ b o,p=some ⟨b,o,none⟩/\b<w.heap.size/\∀ i,i<n->∃ u0 u1 u2 u3,w.cell? ⟨b,o+i*4,none⟩=some u0/\w.cell? ⟨b,o+i*4+1,none⟩=some u1/\w.cell? ⟨b,o+i*4+2,none⟩=some u2/\w.cell? ⟨b,o+i*4+3,none⟩=some u3/\QC w u0 u1 u2 u3 K (ok i) (e i))
theorem vK.below {w w':World} {s:Value} {n K:Nat} {ok:Nat->Bool} {e:Nat->Rat} (h:vK w s n K ok e) (hb:Below w.heap.size w w'):vK w' s n K ok e:=by
 obtain⟨p,c,hs,h1,h2,h3⟩:=h
 refine⟨p,c,hs,h1,h2,fun hn=>?_⟩
 obtain⟨b,o,hp,hlt,hi⟩:=h3 hn
 have hc:=(gU hb).1
 refine⟨b,o,hp,ku hlt hb.size,fun i hin=>?_⟩
 obtain⟨u0,u1,u2,u3,c0,c1,c2,c3,hq⟩:=hi i hin
 exact⟨u0,u1,u2,u3,by rw[hc _ _ hlt];exact c0,by rw[hc _ _ hlt];exact c1,by rw[hc _ _ hlt];exact c2,by rw[hc _ _ hlt];exact c3,hq.below hb⟩
theorem vK.form {w:World} {s:Value} {n K:Nat} {ok:Nat->Bool} {e:Nat->Rat} (h:vK w s n K ok e):∃ p c,s=.slice p n c/\n<=c/\c<=9223372036854775807:=by
 obtain⟨p,c,hs,h1,h2,h3⟩:=h
 exact⟨p,c,hs,h1,h2⟩
theorem vK.congr {w:World} {s:Value} {n K:Nat} {ok ok':Nat->Bool} {e e':Nat->Rat} (h:vK w s n K ok e) (h1:∀ i,i<n->ok i=ok' i) (h2:∀ i,i<n->e i=e' i):vK w s n K ok' e':=by
 obtain⟨p,c,hs,k1,k2,h3⟩:=h
 refine⟨p,c,hs,k1,k2,fun hn=>?_⟩
 obtain⟨b,o,hp,hlt,hi⟩:=h3 hn
 refine⟨b,o,hp,hlt,fun i hin=>?_⟩
 rw[<-h1 i hin,<-h2 i hin]
 exact hi i hin
theorem vK.mono {w:World} {s:Value} {n K K':Nat} {ok:Nat->Bool} {e:Nat->Rat} (h:vK w s n K ok e) (hK:K<=K'):vK w s n K' ok e:=by
 obtain⟨p,c,hs,k1,k2,h3⟩:=h
 refine⟨p,c,hs,k1,k2,fun hn=>?_⟩
 obtain⟨b,o,hp,hlt,hi⟩:=h3 hn
 refine⟨b,o,hp,hlt,fun i hin=>?_⟩
 obtain⟨u0,u1,u2,u3,c0,c1,c2,c3,hq⟩:=hi i hin
 exact⟨u0,u1,u2,u3,c0,c1,c2,c3,hq.mono hK⟩
theorem vK.at_ {w:World} {p:Option Addr} {n c K:Nat} {ok:Nat->Bool} {e:Nat->Rat} (h:vK w (.slice p n c) n K ok e) {k:Nat} (hk:k<n) :
  ∃ b o g q m d g' q' m' d',p=some ⟨b,o,none⟩/\b<w.heap.size/\w.cell? ⟨b,o+k*4,none⟩=some (.bool g)/\w.cell? ⟨b,o+k*4+1,none⟩=some (.slice q m d)/\w.cell? ⟨b,o+k*4+2,none⟩=some (.bool g')/\w.cell? ⟨b,o+k*4+3,none⟩=some (.slice q' m' d') /\
   iD w (.agg #[.bool g,.slice q m d,.bool g',.slice q' m' d']) (ok k) (e k)/\Qn (.agg #[.bool g,.slice q m d,.bool g',.slice q' m' d']) K:=by
 obtain⟨p',c',hs,h1,h2,h3⟩:=h
 cases hs
 obtain⟨b,o,hp,hlt,hi⟩:=h3 (by omega)
 obtain⟨u0,u1,u2,u3,c0,c1,c2,c3,hq⟩:=hi k hk
 obtain⟨g,q,m,d,g',q',m',d',rfl,rfl,rfl,rfl,hr,hn⟩:=hq.open
 exact⟨b,o,g,q,m,d,g',q',m',d',hp,hlt,c0,c1,c2,c3,hr,hn⟩
def BD (w:World) (v:Value) (R:Nat) (L:Nat->Nat) (K:Nat) (ok:Nat->Nat->Bool) (e:Nat->Nat->Rat):Prop :=
 ∃ p c,v=.slice p R c/\R<=c/\c<=9223372036854775807/\(0<R->∃ b o,p=some ⟨b,o,none⟩/\b<w.heap.size/\∀ i,i<R->∃ s,w.cell? ⟨b,o+i,none⟩=some s/\vK w s (L i) K (ok i) (e i))
theorem BD.below {w w':World} {v:Value} {R K:Nat} {L:Nat->Nat} {ok:Nat->Nat->Bool} {e:Nat->Nat->Rat} (h:BD w v R L K ok e) (hb:Below w.heap.size w w'):BD w' v R L K ok e:=by
 obtain⟨p,c,hs,h1,h2,h3⟩:=h
 refine⟨p,c,hs,h1,h2,fun hn=>?_⟩
 obtain⟨b,o,hp,hlt,hi⟩:=h3 hn
 have hc:=(gU hb).1
 refine⟨b,o,hp,ku hlt hb.size,fun i hin=>?_⟩
 obtain⟨s,c0,hr⟩:=hi i hin
 exact⟨s,by rw[hc _ _ hlt];exact c0,hr.below hb⟩
theorem BD.form {w:World} {v:Value} {R K:Nat} {L:Nat->Nat} {ok:Nat->Nat->Bool} {e:Nat->Nat->Rat} (h:BD w v R L K ok e):∃ p c,v=.slice p R c/\R<=c/\c<=9223372036854775807:=by
 obtain⟨p,c,hs,h1,h2,h3⟩:=h
 exact⟨p,c,hs,h1,h2⟩
theorem BD.congr {w:World} {v:Value} {R K:Nat} {L L':Nat->Nat} {ok ok':Nat->Nat->Bool} {e e':Nat->Nat->Rat} (h:BD w v R L K ok e) (hL:∀ i,i<R->L i=L' i) (h1:∀ i,i<R->∀ j,j<L i->ok i j=ok' i j) (h2:∀ i,i<R->∀ j,j<L i->e i j=e' i j):BD w v R L' K ok' e':=by
 obtain⟨p,c,hs,k1,k2,h3⟩:=h
 refine⟨p,c,hs,k1,k2,fun hn=>?_⟩
 obtain⟨b,o,hp,hlt,hi⟩:=h3 hn
 refine⟨b,o,hp,hlt,fun i hin=>?_⟩
 obtain⟨s,c0,hr⟩:=hi i hin
 rw[<-hL i hin]
 exact⟨s,c0,hr.congr (h1 i hin) (h2 i hin)⟩
theorem BD.mono {w:World} {v:Value} {R K K':Nat} {L:Nat->Nat} {ok:Nat->Nat->Bool} {e:Nat->Nat->Rat} (h:BD w v R L K ok e) (hK:K<=K'):BD w v R L K' ok e:=by
 obtain⟨p,c,hs,k1,k2,h3⟩:=h
 refine⟨p,c,hs,k1,k2,fun hn=>?_⟩
 obtain⟨b,o,hp,hlt,hi⟩:=h3 hn
 refine⟨b,o,hp,hlt,fun i hin=>?_⟩
 obtain⟨s,c0,hr⟩:=hi i hin
 exact⟨s,c0,hr.mono hK⟩
theorem BD.at_ {w:World} {p:Option Addr} {R c K:Nat} {L:Nat->Nat} {ok:Nat->Nat->Bool} {e:Nat->Nat->Rat} (h:BD w (.slice p R c) R L K ok e) {k:Nat} (hk:k<R) :
  ∃ b o q d,p=some ⟨b,o,none⟩/\b<w.heap.size/\w.cell? ⟨b,o+k,none⟩=some (.slice q (L k) d)/\vK w (.slice q (L k) d) (L k) K (ok k) (e k):=by
 obtain⟨p',c',hs,h1,h2,h3⟩:=h
 cases hs
 obtain⟨b,o,hp,hlt,hi⟩:=h3 (by omega)
 obtain⟨s,c0,hr⟩:=hi k hk
 obtain⟨q,d,rfl,_,_⟩:=hr.form
 exact⟨b,o,q,d,hp,hlt,c0,hr⟩
def a3D (w:World) (v:Value) (R C K:Nat) (e:Nat->Nat->Rat):Prop:=BD w v R (fun _=>C) K (fun _ _=>true) e
def VQ (w:World) (v:Value) (n K:Nat) (e:Nat->Rat):Prop:=vK w v n K (fun _=>true) e
def qJ (w:World) (b n K:Nat) (ok:Nat->Bool) (e:Nat->Rat):Prop :=
 ∃ f,w.rowIs b 64 (n*4) f/\∀ j,j<n->QC w (f (j*4)) (f (j*4+1)) (f (j*4+2)) (f (j*4+3)) K (ok j) (e j)
theorem qJ.lt {w:World} {b n K:Nat} {ok:Nat->Bool} {e:Nat->Rat} (h:qJ w b n K ok e):b<w.heap.size:=by
 obtain⟨f,h1,h2⟩:=h;exact h1.lt
theorem qJ.below {w w':World} {b n K m:Nat} {ok:Nat->Bool} {e:Nat->Rat} (h:qJ w b n K ok e) (hb:Below w.heap.size w w'):qJ w' b n K ok e:=by
 obtain⟨f,h1,h2⟩:=h
 exact⟨f,h1.of_block (hb.block b h1.lt),fun j hj=>(h2 j hj).below hb⟩
theorem qJ.cells {w:World} {b n K:Nat} {ok:Nat->Bool} {e:Nat->Rat} (h:qJ w b n K ok e) {k:Nat} (hk:k<n) :
  ∃ g q m d g' q' m' d',w.cell? ⟨b,k*4,none⟩=some (.bool g)/\w.cell? ⟨b,k*4+1,none⟩=some (.slice q m d)/\w.cell? ⟨b,k*4+2,none⟩=some (.bool g')/\w.cell? ⟨b,k*4+3,none⟩=some (.slice q' m' d') /\
   iD w (.agg #[.bool g,.slice q m d,.bool g',.slice q' m' d']) (ok k) (e k)/\Qn (.agg #[.bool g,.slice q m d,.bool g',.slice q' m' d']) K:=by
 obtain⟨f,h1,h2⟩:=h
 obtain⟨g,q,m,d,g',q',m',d',e0,e1,e2,e3,hr,hn⟩:=(h2 k hk).open
 exact⟨g,q,m,d,g',q',m',d',by rw[<-e0];exact h1.cell (by omega),by rw[<-e1];exact h1.cell (by omega),by rw[<-e2];exact h1.cell (by omega),by rw[<-e3];exact h1.cell (by omega),hr,hn⟩
theorem qJ.frozen {w:World} {b n K:Nat} {ok:Nat->Bool} {e:Nat->Rat} (h:qJ w b n K ok e) (i:Nat):w.frozen? ⟨b,i,none⟩=false:=by
 obtain⟨f,h1,h2⟩:=h;exact h1.frozen i
theorem qJ.other {w:World} {b n K:Nat} {ok:Nat->Bool} {e:Nat->Rat} (h:qJ w b n K ok e) {b' o':Nat} (hne:b≠b') {u:Value} (hc:w.cell? ⟨b',o',none⟩=some u) (hu:bK u=true) (x:Value):qJ (w.setCell ⟨b',o',none⟩ x) b n K ok e:=by
 obtain⟨f,h1,h2⟩:=h
 exact⟨f,h1.setOther (by simpa using hne) x,fun j hj=>(h2 j hj).iW hc hu x⟩
def st4 (w:World) (b o:Nat) (x0 x1 x2 x3:Value):World:=(((w.setCell ⟨b,o,none⟩ x0).setCell ⟨b,o+1,none⟩ x1).setCell ⟨b,o+2,none⟩ x2).setCell ⟨b,o+3,none⟩ x3
theorem QC.b4h {w:World} {y0 y1 y2 y3:Value} {K:Nat} {ok:Bool} {q:Rat} (h:QC w y0 y1 y2 y3 K ok q) {b o:Nat} {u0 u1 u2 u3:Value} (c0:w.cell? ⟨b,o,none⟩=some u0) (c1:w.cell? ⟨b,o+1,none⟩=some u1) (c2:w.cell? ⟨b,o+2,none⟩=some u2) (c3:w.cell? ⟨b,o+3,none⟩=some u3)
  (n0:bK u0=true) (n1:bK u1=true) (n2:bK u2=true) (n3:bK u3=true) (x0 x1 x2 x3:Value):QC (st4 w b o x0 x1 x2 x3) y0 y1 y2 y3 K ok q:=by
 refine(((h.iW c0 n0 x0).iW (a:=⟨b,o+1,none⟩) (u:=u1) ?_ n1 x1).iW (a:=⟨b,o+2,none⟩) (u:=u2) ?_ n2 x2).iW (a:=⟨b,o+3,none⟩) (u:=u3) ?_ n3 x3
 ·rw[tq _ _ _ _ (by simp)];exact c1
 ·rw[tq _ _ _ _ (by simp),tq _ _ _ _ (by simp)];exact c2
 ·rw[tq _ _ _ _ (by simp),tq _ _ _ _ (by simp),tq _ _ _ _ (by simp)];exact c3
theorem qJ.b4h {w:World} {b n K:Nat} {ok:Nat->Bool} {e:Nat->Rat} (h:qJ w b n K ok e) {k:Nat} (hk:k<n) {x0 x1 x2 x3:Value} {q:Rat} (hq:QC w x0 x1 x2 x3 K true q) :
  qJ (st4 w b (k*4) x0 x1 x2 x3) b n K (fun j=>if j=k then true else ok j) (fun j=>if j=k then q else e j):=by
 obtain⟨f,h1,h2⟩:=h
 refine⟨_,(((h1.set (k*4) x0).set (k*4+1) x1).set (k*4+2) x2).set (k*4+3) x3,fun j hj=>?_⟩
 have N:=(h2 k hk).nu
 have hc:∀ i,i<4->w.cell? ⟨b,k*4+i,none⟩=some (f (k*4+i)):=fun i hi=>h1.cell (by omega)
 have S:=fun {y0 y1 y2 y3:Value} {ok':Bool} {q':Rat} (g:QC w y0 y1 y2 y3 K ok' q')=>g.b4h (b:=b) (o:=k*4) (hc 0 (by omega)) (hc 1 (by omega)) (hc 2 (by omega)) (hc 3 (by omega)) N.1 N.2.1 N.2.2.1 N.2.2.2 x0 x1 x2 x3
 by_cases e1:j=k
 ·subst e1
  simp only[gy]
  have:=S hq
  simpa [show ∀ a:Nat,¬ a=a+1 from fun a=>by omega,show ∀ a:Nat,¬ a=a+2 from fun a=>by omega,show ∀ a:Nat,¬ a=a+3 from fun a=>by omega] using this
 ·simp only[ig e1]
  have:=S (h2 j hj)
  have a0:∀ x y,x<4->y<4->¬ j*4+x=k*4+y:=fun x y hx hy=>by omega
  have a1:=a0 0
  have a2:=fun y=>a0 y 0
  simpa [a0 0 0 (by omega) (by omega),a0 0 1 (by omega) (by omega),a0 0 2 (by omega) (by omega),a0 0 3 (by omega) (by omega),a0 1 0 (by omega) (by omega),a0 1 1 (by omega) (by omega),a0 1 2 (by omega) (by omega),a0 1 3 (by omega) (by omega),
   a0 2 0 (by omega) (by omega),a0 2 1 (by omega) (by omega),a0 2 2 (by omega) (by omega),a0 2 3 (by omega) (by omega),a0 3 0 (by omega) (by omega),a0 3 1 (by omega) (by omega),a0 3 2 (by omega) (by omega),a0 3 3 (by omega) (by omega),
   show ¬ j*4=k*4 by omega,show ¬ j*4=k*4+1 by omega,show ¬ j*4=k*4+2 by omega,show ¬ j*4=k*4+3 by omega,show ¬ j*4+1=k*4 by omega,show ¬ j*4+2=k*4 by omega,show ¬ j*4+3=k*4 by omega,e1] using this
theorem qJ.fD {w:World} {b n K:Nat} {ok:Nat->Bool} {e:Nat->Rat} (h:qJ w b n K ok e) {b' n' K':Nat} {ok':Nat->Bool} {e':Nat->Rat} (h':qJ w b' n' K' ok' e') (hne:b≠b') {k:Nat} (hk:k<n') (x0 x1 x2 x3:Value):qJ (st4 w b' (k*4) x0 x1 x2 x3) b n K ok e:=by
 obtain⟨f,h1,h2⟩:=h
 obtain⟨g,h3,h4⟩:=h'
 refine⟨f,(((h1.setOther (by simpa using hne) x0).setOther (by simpa using hne) x1).setOther (by simpa using hne) x2).setOther (by simpa using hne) x3,fun j hj=>?_⟩
 have N:=(h4 k hk).nu
 have hc:∀ i,i<4->w.cell? ⟨b',k*4+i,none⟩=some (g (k*4+i)):=fun i hi=>h3.cell (by omega)
 exact(h2 j hj).b4h (b:=b') (o:=k*4) (hc 0 (by omega)) (hc 1 (by omega)) (hc 2 (by omega)) (hc 3 (by omega)) N.1 N.2.1 N.2.2.1 N.2.2.2 x0 x1 x2 x3
structure a3C (w:World) (base b R C K m:Nat) (rb:Nat->Nat) (e:Nat->Nat->Rat):Prop where
 outer:w.rowIs b 32 R (fun i=>if i<m then .slice (some ⟨rb i,0,none⟩) C C else .slice none 0 0)
 hb:base<=b
 rows:∀ i,i<m->qJ w (rb i) C K (fun _=>true) (e i)
 hrb:∀ i,i<m->base<=rb i/\rb i≠b
 inj:∀ i j,i<m->j<m->rb i=rb j->i=j
theorem a3C.below {w w':World} {base b R C K m:Nat} {rb:Nat->Nat} {e:Nat->Nat->Rat} (h:a3C w base b R C K m rb e) (hb:Below w.heap.size w w'):a3C w' base b R C K m rb e :=
 ⟨h.outer.of_block (hb.block b h.outer.lt),h.hb,fun i hi=>(h.rows i hi).below (m:=0) hb,h.hrb,h.inj⟩
theorem qJ.congr {w:World} {b n K:Nat} {ok ok':Nat->Bool} {e e':Nat->Rat} (h:qJ w b n K ok e) (h1:∀ i,i<n->ok i=ok' i) (h2:∀ i,i<n->e i=e' i):qJ w b n K ok' e':=by
 obtain⟨f,k1,k2⟩:=h
 exact⟨f,k1,fun j hj=>by rw[<-h1 j hj,<-h2 j hj];exact k2 j hj⟩
theorem vK.rsz {w:World} {s:Value} {n K:Nat} {ok:Nat->Bool} {e:Nat->Rat} (h:vK w s n K ok e) {i:Nat} (hi:i<n) (ho:ok i=true):rsz (e i)<=K:=by
 obtain⟨p,c,rfl,_,_⟩:=h.form
 obtain⟨b,o,g,q,m,d,g',q',m',d',_,_,_,_,_,_,hr,hn⟩:=h.at_ hi
 rw[ho] at hr
 exact hr.rq.kS hn
theorem VQ.rsz {w:World} {s:Value} {n K:Nat} {e:Nat->Rat} (h:VQ w s n K e) {i:Nat} (hi:i<n):Go.Proofs.YtgplhbhfdgempaaGreat.rsz (e i)<=K:=vK.rsz h hi rfl
theorem VQ.below {w w':World} {s:Value} {n K:Nat} {e:Nat->Rat} (h:VQ w s n K e) (hb:Below w.heap.size w w'):VQ w' s n K e:=vK.below h hb
theorem VQ.at_ {w:World} {p:Option Addr} {n c K:Nat} {e:Nat->Rat} (h:VQ w (.slice p n c) n K e) {k:Nat} (hk:k<n) :
 ∃ b o g q m d g' q' m' d',p=some ⟨b,o,none⟩/\b<w.heap.size/\w.cell? ⟨b,o+k*4,none⟩=some (.bool g)/\w.cell? ⟨b,o+k*4+1,none⟩=some (.slice q m d)/\w.cell? ⟨b,o+k*4+2,none⟩=some (.bool g')/\w.cell? ⟨b,o+k*4+3,none⟩=some (.slice q' m' d') /\
  iD w (.agg #[.bool g,.slice q m d,.bool g',.slice q' m' d']) true (e k)/\Qn (.agg #[.bool g,.slice q m d,.bool g',.slice q' m' d']) K:=vK.at_ h hk
theorem VQ.form {w:World} {s:Value} {n K:Nat} {e:Nat->Rat} (h:VQ w s n K e):∃ p c,s=.slice p n c/\n<=c/\c<=9223372036854775807:=vK.form h
theorem a3D.below {w w':World} {v:Value} {R C K:Nat} {e:Nat->Nat->Rat} (h:a3D w v R C K e) (hb:Below w.heap.size w w'):a3D w' v R C K e:=BD.below h hb
theorem a3D.form {w:World} {v:Value} {R C K:Nat} {e:Nat->Nat->Rat} (h:a3D w v R C K e):∃ p c,v=.slice p R c/\R<=c/\c<=9223372036854775807:=BD.form h
theorem a3D.at_ {w:World} {p:Option Addr} {R C c K:Nat} {e:Nat->Nat->Rat} (h:a3D w (.slice p R c) R C K e) {k:Nat} (hk:k<R) :
 ∃ b o q d,p=some ⟨b,o,none⟩/\b<w.heap.size/\w.cell? ⟨b,o+k,none⟩=some (.slice q C d)/\VQ w (.slice q C d) C K (e k):=BD.at_ h hk
def Z4:Array Value:=#[.bool false,.slice none 0 0,.bool false,.slice none 0 0]
theorem qJ.made (w:World) (C K:Nat):qJ (w.alloc (.cells (madeCells Z4 (C*4)) 64)) w.heap.size C K (fun _=>false) (fun _=>0):=by
 have hs:(madeCells Z4 (C*4)).size=C*4:=size_madeCells _ _
 refine⟨fun i=>Z4[i%4]!,?_,fun j hj=>?_⟩
 ·have:=World.rowIs_alloc w (madeCells Z4 (C*4)) 64 (fun i=>Z4[i%4]!) (fun i hi=>by
   rw[hs] at hi
   simp[madeCells,hi,Z4])
  rw[hs] at this
  exact this
 ·have e0:j*4%4=0:=by omega
  have e1:(j*4+1)%4=1:=by omega
  have e2:(j*4+2)%4=2:=by omega
  have e3:(j*4+3)%4=3:=by omega
  simp only[e0,e1,e2,e3]
  exact QC.zero _ _
theorem a3C.start (w:World) (R C K:Nat) (rb:Nat->Nat) (e:Nat->Nat->Rat) (base:Nat) (hb:base<=w.heap.size):a3C (w.alloc (.cells (madeCells #[.slice none 0 0] R) 32)) base w.heap.size R C K 0 rb e :=
 ⟨(World.rowIs_made w (.slice none 0 0) R 32).congr (fun i _=>by rw[ig (by omega)]),hb,fun i hi=>by omega,fun i hi=>by omega,fun i j hi=>by omega⟩
structure OX (w:World) (base b R C K k j:Nat) (rb:Nat->Nat) (e:Nat->Nat->Rat):Prop where
 outer:w.rowIs b 32 R (fun i=>if i<k+1 then .slice (some ⟨rb i,0,none⟩) C C else .slice none 0 0)
 hb:base<=b
 rows:∀ i,i<k->qJ w (rb i) C K (fun _=>true) (e i)
 row:qJ w (rb k) C K (fun c=>decide (c<j)) (fun c=>if c<j then e k c else 0)
 hrb:∀ i,i<k+1->base<=rb i/\rb i≠b
 inj:∀ i j,i<k+1->j<k+1->rb i=rb j->i=j
theorem OX.below {w w':World} {base b R C K k j:Nat} {rb:Nat->Nat} {e:Nat->Nat->Rat} (h:OX w base b R C K k j rb e) (hb:Below w.heap.size w w'):OX w' base b R C K k j rb e :=
 ⟨h.outer.of_block (hb.block b h.outer.lt),h.hb,fun i hi=>(h.rows i hi).below (m:=0) hb,h.row.below (m:=0) hb,h.hrb,h.inj⟩
theorem OX.start {w:World} {base b R C K k:Nat} {rb:Nat->Nat} {e:Nat->Nat->Rat} (h:a3C w base b R C K k rb e) (hk:k<R) (hbase:base<=w.heap.size) :
  OX ((w.alloc (.cells (madeCells Z4 (C*4)) 64)).setCell ⟨b,k,none⟩ (.slice (some ⟨w.heap.size,0,none⟩) C C)) base b R C K k 0 (fun i=>if i=k then w.heap.size else rb i) e:=by
 have hlt:=h.outer.lt
 have hne:w.heap.size≠b:=by omega
 have hc:(w.alloc (.cells (madeCells Z4 (C*4)) 64)).cell? ⟨b,k,none⟩=some (.slice none 0 0):=by
  have:=(h.outer.alloc (.cells (madeCells Z4 (C*4)) 64)).cell hk
  rw[ig (by omega)] at this
  exact this
 refine⟨((h.outer.alloc _).set k _).congr (fun i hi=>?_),h.hb,fun i hi=>?_,?_,fun i hi=>?_,fun i j hi hj=>?_⟩
 ·by_cases e1:i=k
  ·subst e1;simp
  ·simp only[ig e1]
   by_cases e2:i<k
   ·rw[gy e2,gy (by omega)]
   ·rw[ig e2,ig (by omega)]
 ·rw[ig (by omega)]
  exact((h.rows i hi).below (m:=0) ((dn _ _).alloc (aj _) _)).other (h.hrb i hi).2 hc rfl _
 ·simp only[Dk]
  exact((qJ.made w C K).other hne hc rfl _).congr (fun i _=>by simp) (fun i _=>by simp)
 ·by_cases e1:i=k
  ·rw[gy e1];exact⟨hbase,hne⟩
  ·rw[ig e1];exact h.hrb i (by omega)
 ·by_cases e1:i=k
  ·by_cases e2:j=k
   ·intro _;omega
   ·rw[gy e1,ig e2];intro e3;have:=(h.rows j (by omega)).lt;omega
  ·by_cases e2:j=k
   ·rw[ig e1,gy e2];intro e3;have:=(h.rows i (by omega)).lt;omega
   ·rw[ig e1,ig e2];exact h.inj i j (by omega) (by omega)
theorem OX.step {w:World} {base b R C K k j:Nat} {rb:Nat->Nat} {e:Nat->Nat->Rat} (h:OX w base b R C K k j rb e) (hj:j<C) {x0 x1 x2 x3:Value} (hq:QC w x0 x1 x2 x3 K true (e k j)) :
  OX (st4 w (rb k) (j*4) x0 x1 x2 x3) base b R C K k (j+1) rb e:=by
 have hne:b≠rb k:=fun e1=>(h.hrb k (by omega)).2 e1.symm
 refine⟨(((h.outer.setOther (by simpa using hne) x0).setOther (by simpa using hne) x1).setOther (by simpa using hne) x2).setOther (by simpa using hne) x3,h.hb,fun i hi=>?_,?_,h.hrb,h.inj⟩
 ·exact(h.rows i hi).fD h.row (fun e1=>by have:=h.inj i k (by omega) (by omega) e1;omega) hj x0 x1 x2 x3
 ·refine(h.row.b4h hj hq).congr (fun c _=>?_) (fun c _=>?_)
  ·by_cases e1:c=j
   ·subst e1;simp
   ·rw[ig e1];simp;omega
  ·by_cases e1:c=j
   ·subst e1;simp
   ·rw[ig e1]
    by_cases e2:c<j
    ·rw[gy e2,gy (by omega)]
    ·rw[ig e2,ig (by omega)]
theorem OX.done {w:World} {base b R C K k:Nat} {rb:Nat->Nat} {e:Nat->Nat->Rat} (h:OX w base b R C K k C rb e):a3C w base b R C K (k+1) rb e:=by
 refine⟨h.outer,h.hb,fun i hi=>?_,h.hrb,h.inj⟩
 by_cases e1:i=k
 ·subst e1
  exact h.row.congr (fun c hc=>by simp[hc]) (fun c hc=>by simp[hc])
 ·exact h.rows i (by omega)
theorem OX.low {w:World} {base b R C K k j:Nat} {rb:Nat->Nat} {e:Nat->Nat->Rat} (h:OX w base b R C K k j rb e) {w0:World} (hb:Below base w0 w) (x0 x1 x2 x3:Value) (o:Nat):Below base w0 (st4 w (rb k) o x0 x1 x2 x3):=by
 have:=(h.hrb k (by omega)).1
 exact(((hb.setCell (p:=⟨rb k,o,none⟩) this x0).setCell (p:=⟨rb k,o+1,none⟩) this x1).setCell (p:=⟨rb k,o+2,none⟩) this x2).setCell (p:=⟨rb k,o+3,none⟩) this x3
section
def CA (p:Value->Bool) (w:World) (g:Nat):Prop:=∀ i u,w.cell? ⟨g,i,none⟩=some u->p u=true
section
variable {P:Program} {p:Value->Bool} (w:World)
def CAv (p:Value->Bool) (w:World) (v:Value):Prop:=∀ g,v.ownBlock=some g->CA p w g
theorem CA.of_cells {p:Value->Bool} {w:World} {g:Nat} {cur:Array Value} {e:TypeId} (hg:w.heap[g]?=some (.cells cur e (0,0))) (h:∀ u ∈ cur.toList,p u=true):CA p w g:=by
 intro i u hc
 rw[zy w g i cur e (0,0) hg] at hc
 exact h u (by rw[Array.mem_toList_iff];exact Array.mem_of_getElem? hc)
theorem CA.cells {w:World} {g:Nat} {cur:Array Value} {e:TypeId} (hg:w.heap[g]?=some (.cells cur e (0,0))) (h:CA p w g):∀ u ∈ cur.toList,p u=true:=by
 intro u hu
 rw[Array.mem_toList_iff] at hu
 obtain⟨i,hi,rfl⟩:=Array.mem_iff_getElem.1 hu
 exact h i _ (by rw[zy w g i cur e (0,0) hg];exact Am hi)
theorem a1n {z:Array Value} (hz:∀ u ∈ z.toList,p u=true) (n:Nat):∀ u ∈ (Builtin.zeroCells z n).toList,p u=true:=by
 intro u hu
 rw[Array.mem_toList_iff] at hu
 obtain⟨i,hi,rfl⟩:=Array.mem_iff_getElem.1 hu
 simp only[Builtin.zeroCells,Array.size_map,Array.size_range] at hi
 simp only[Builtin.zeroCells,Array.getElem_map,Array.getElem_range]
 have hs:0<z.size:=by
  rcases yj z.size with h|h
  ·rw[h] at hi;simp at hi
  ·exact h
 have hlt:i%z.size<z.size:=yg _ hs
 rw[getElem!_pos z (i%z.size) hlt]
 exact hz _ (by rw[Array.mem_toList_iff];exact Array.getElem_mem hlt)
theorem GI (base:Nat) (t ty e:TypeId) (i:TypeInfo) (z:Value) (size bytes:Nat) (ht:P.underlying t=some (.slice e)) (hi:P.info? e=some i) (hz:i.zero=some z)
  (hsize:i.size=size) (hby:i.bytes=bytes) (hzs:z.cells.size=size) (hsz:0<size) (hzn:∀ u ∈ z.cells.toList,p u=true)
  (v:Value) (n:Nat) (xs:List Value) (hown:w.ownsRow base e size v n xs) (hv:CAv p w v)
  (a:Addr) (m c:Nat) (news:List Value) (hl:news.length=m*size) (hnews:∀ j u,news[j]?=some u->w.cell? (a.add j)=some u) (h1:∀ u ∈ news,u.oneCell'=true) (hnn:∀ u ∈ news,p u=true) (hm:0<m)
  (h63:n+m<=maxLen) (hbytes:(n+m)*bytes<=140737488355328) (hbase:base<=w.heap.size) :
  ∃ g cap w',(Builtin.append_ #[t,t] ty #[v,.slice (some a) m c]).run P w=.ok (.slice (some ⟨g,0,none⟩) (n+m) cap) w'/\w'.ownsRow base e size (.slice (some ⟨g,0,none⟩) (n+m) cap) (n+m) (xs++news)/\w.grownBy w' v.ownBlock/\CA p w' g/\(v.ownBlock=some g\/g=w.heap.size):=by
 obtain⟨v',w',hr,h2,h3,h4⟩:=run_append_own (P:=P) w base t ty e i z size bytes ht hi hz hsize hby hzs hsz v n xs hown a m c news hl hnews h1 h63 hbytes hbase
 subst hsize
 subst hby
 have hsmall:n+m<=9223372036854775807:=by simp only[maxLen] at h63;omega
 have hz0:=fun k=>a1n (z:=z.cells) hzn k
 rcases hown.2 with⟨rfl,rfl⟩|⟨g,cap,cur,rfl,hbg,hg,hnc,hcm,hcs,htake⟩
 ·have hrun:=run_append_nil (P:=P) w t ty e i z ht hi hz a m c news hl hnews hm (by omega) (by have hb:=hbytes;simp only[uo] at hb;omega)
  rw[hrun] at hr
  simp only[Result.ok.injEq] at hr
  obtain⟨rfl,rfl⟩:=hr
  refine⟨w.heap.size,_,_,by rw[uo];exact hrun,by simpa using h2,h3,?_,.inr rfl⟩
  refine CA.of_cells (Dv w.drew _) (fun u hu=>?_)
  simp only[Array.toList_append,uq] at hu
  rcases hu with hu|hu
  ·exact hnn u hu
  ·exact hz0 _ u hu
 ·by_cases hroom:n+m<=cap
  ·have hfit:n*i.size+news.length<=cur.size:=by rw[hl,hcs,<-Aq];exact jq _ hroom
   have hrun:=run_append_room (P:=P) w t ty e i ht hi g n cap cur hg a m c news hl hnews h1 hroom hfit
   rw[hrun] at hr
   simp only[Result.ok.injEq] at hr
   obtain⟨rfl,rfl⟩:=hr
   refine⟨g,cap,_,hrun,h2,h3,?_,.inl rfl⟩
   have hcn:=CA.cells hg (hv g rfl)
   refine CA.of_cells (setRow_heap w g cur _ e _ hg) (fun u hu=>?_)
   simp only[uq] at hu
   rcases hu with(hu|hu)|hu
   ·exact hcn u (Dp hu)
   ·exact hnn u hu
   ·exact hcn u (List.mem_of_mem_drop hu)
  ·have holds:∀ j u,xs[j]?=some u->w.cell? ((⟨g,0,none⟩:Addr).add j)=some u:=hown.cells (g:=g) rfl
   have hrun:=run_append_grow (P:=P) w t ty e i z ht hi hz ⟨g,0,none⟩ n cap xs hown.1 holds a m c news hl hnews (by omega) (by omega) (growslice_fits (by omega) hbytes)
   rw[hrun] at hr
   simp only[Result.ok.injEq] at hr
   obtain⟨rfl,rfl⟩:=hr
   refine⟨w.heap.size,_,_,hrun,h2,h3,?_,.inr rfl⟩
   have hcn:=CA.cells hg (hv g rfl)
   refine CA.of_cells (Dv w.drew _) (fun u hu=>?_)
   simp only[Array.toList_append,uq] at hu
   rcases hu with(hu|hu)|hu
   ·rw[<-htake] at hu;exact hcn u (Dp hu)
   ·exact hnn u hu
   ·exact hz0 _ u hu
end
end
end Go.Proofs.YtgplhbhfdgempaaGreat
