/-
  Lemmas for the statements about datums, part 9 of 37.
-/
import Derived.Deep.OwnRows
import Derived.Laws.Cover3
import Derived.Laws.Small
import Derived.Test.YtgplhbhfdgempaaGreatDb08
namespace Go.Proofs.YtgplhbhfdgempaaGreat
open Go Go.RowKit
theorem bI:type_of% @Prod.mk.injEq:=@Prod.mk.injEq
theorem zu:type_of% @Addr.add_mid:=@Addr.add_mid
theorem jv:type_of% @Int.natCast_nonneg:=@Int.natCast_nonneg
theorem um:type_of% @cell_of_row:=@cell_of_row
theorem Au:type_of% @heap_alloc_new:=@heap_alloc_new
section
set_option linter.unusedSimpArgs false
set_option linter.unusedVariables false
section
variable {P:Program} {E:Env} {ρ:Nat->Res} {w:World}
theorem uN {v:Value} {b:Bool} (h:(K.val .bool b).holds E ρ w v):v=.bool b:=by
 obtain⟨cs,rfl,h2⟩:=h
 rw[show cs=_ from h2];rfl
theorem mY {v:Value} {k:IntKind} {n:Int} (h:(K.val (.int k) n).holds E ρ w v):v=.int k n:=by
 obtain⟨cs,rfl,h2⟩:=h
 rw[show cs=_ from h2];rfl
theorem lH (b:Bool):(K.val .bool b).holds E ρ w (.bool b):=⟨[.bool b],rfl,rfl⟩
theorem mX (k:IntKind) (n:Int):(K.val (.int k) n).holds E ρ w (.int k n):=⟨[.int k n],rfl,rfl⟩
theorem FT {v:Value} {t:Ty} {xs:List t.den} (h:(K.val (.list t) xs).holds E ρ w v) :
  ∃ p c,v=.slice p xs.length c/\xs.length<=c/\c<=9223372036854775807/\(xs=[]\/∃ b o ds,p=some ⟨b,o,none⟩/\fz w E b/\w.rangeAt b o ds/\chunks (rep (fz w E) w t) ds xs):=by
 obtain⟨cs,rfl,p,c,h1,h2,h3,h4⟩:=h
 exact⟨p,c,by rw[h1];rfl,h2,h3,h4⟩
theorem IU {v:Value} {t:Ty} {x:t.den} (h:(K.val (.ref t) x).holds E ρ w v):∃ b o ds,v=.pointer (some ⟨b,o,none⟩)/\fz w E b/\w.rangeAt b o ds/\rep (fz w E) w t ds x:=by
 obtain⟨cs,rfl,b,o,ds,h1,h2⟩:=h
 exact⟨b,o,ds,by rw[h1];rfl,h2⟩
theorem TI {t:Ty} {x:t.den} {b o:Nat} {ds:List Value} (h1:fz w E b) (h2:w.rangeAt b o ds) (h3:rep (fz w E) w t ds x):(K.val (.ref t) x).holds E ρ w (.pointer (some ⟨b,o,none⟩)):=⟨[.pointer (some ⟨b,o,none⟩)],rfl,b,o,ds,rfl,h1,h2,h3⟩
theorem a8s {v:Value} {t:Ty} {x:Option (List t.den)} (h:(K.val (.nls t) x).holds E ρ w v) :
  ∃ p c,v=.slice p (x.getD []).length c/\p.isNone=!x.isSome:=by
 obtain⟨cs,rfl,⟨rfl,rfl⟩|⟨ys,b,o,c,ds,rfl,rfl,_⟩⟩:=h
 ·exact⟨none,0,rfl,rfl⟩
 ·exact⟨_,c,rfl,rfl⟩
theorem QU {s:TypeId} {i o:Nat} {ty:Ty} (h:a5f P s i o ty=true):∃ fs f,P.underlying s=some (.struct fs)/\fs[i]?=some f/\f.offset=o/\fitsT P f.type ty=true/\0<ty.n:=by
 unfold a5f at h
 split at h
 ·rename_i fs hu
  split at h
  ·rename_i f hf
   simp only[ak,jd,dh] at h
   exact⟨fs,f,hu,hf,h.1.1,h.1.2,h.2⟩
  ·cases h
 ·cases h
theorem a8R {s:TypeId} {i:Nat} {ty:Ty} {y:ty.den} {vc:List Prop} {kk:K} {v:Value} (h:EC false P s i ty y=some (vc,kk)) (hv:kM (fz w E) w ty v y):∃ u,(Instr.field s v i).run P w=.ok u w/\kk.holds E ρ w u:=by
 unfold EC at h
 split at h
 ·rename_i o p hf
  split at h
  ·rename_i hb
   simp only[ak] at hb
   simp only[ah,bI,ug,if_false] at h
   obtain⟨_,rfl⟩:=h
   obtain⟨cs,rfl,hr⟩:=hv
   obtain⟨fs,f,h1,h2,rfl,h4,h5⟩:=QU hb.1
   have hr2:=xC ty y i _ p cs hf hr
   refine⟨_,?_,_,rfl,hr2⟩
   simp only[Instr.field,ig,jy h1 w,Result.andThen_ok,h2,Ty.toV,hb.2,Ai,asAgg,Sem.run_pure]
   exact xO h4 hr2
  ·cases h
 ·cases h
theorem a2Z {s:TypeId} {i:Nat} {ty:Ty} {y:ty.den} {vc:List Prop} {kk:K} {v:Value} (h:EC true P s i ty y=some (vc,kk)) (hv:(K.val (.ref ty) y).holds E ρ w v):∃ u,(Instr.fieldAt s v i).run P w=.ok u w/\kk.holds E ρ w u:=by
 unfold EC at h
 split at h
 ·rename_i o p hf
  split at h
  ·rename_i hb
   simp only[ak] at hb
   simp only[ah,bI,Ai] at h
   obtain⟨_,rfl⟩:=h
   obtain⟨b,oo,ds,rfl,h1,h2,h3⟩:=IU (ρ:=ρ) hv
   obtain⟨fs,f,k1,k2,rfl,k4,k5⟩:=QU hb.1
   have hr2:=xC ty y i _ p ds hf h3
   refine⟨.pointer (some ⟨b,oo+f.offset,none⟩),?_,TI h1 (AX h2 _ _) hr2⟩
   obtain⟨⟨i2,hi,hn⟩,_⟩:=iP k4
   have hz:¬ i2.size=0:=by omega
   simp[Instr.fieldAt,ig,jy k1 w,k2,Instr.sureAddr,fieldPlace,run_sizeOf hi,hz,zu]
  ·cases h
 ·cases h
theorem xA {s:TypeId} {ty:Ty} (h:rU P s none ty=true):∃ e,P.underlying s=some (.slice e)/\fitsT P e ty=true:=by
 unfold rU at h
 split at h<;>try(cases h;done)
 ·rename_i e hu _;exact⟨e,hu,h⟩
 ·rename_i hx;cases hx
theorem OL {s:TypeId} {m:Nat} {ty:Ty} (h:rU P s (some m) ty=true):∃ e,P.underlying s=some (.array m e)/\fitsT P e ty=true:=by
 unfold rU at h
 split at h<;>try(cases h;done)
 ·rename_i hx;cases hx
 ·rename_i m' e k hu hx
  cases hx
  simp only[ak,jd] at h
  obtain⟨rfl,h2⟩:=h
  exact⟨e,hu,h2⟩
theorem LC {F:Nat->Prop} {ty:Ty} {ys:List ty.den} {ds:List Value} (h:chunks (rep F w ty) ds ys) {n:Nat} (hn:n<ys.length):rep F w ty ((ds.drop (n*ty.n)).take ty.n) (ys.getD n ty.zero):=by
 obtain⟨c,rfl,h2⟩:=YZ (fun c y=>fC ty c y) ys ds h n ty.zero hn
 exact h2
theorem EL {s:TypeId} {ty:Ty} {ys:List ty.den} {n:Int} {kd:IntKind} {vc:List Prop} {kk:K} {v:Value} (hb:rU P s none ty=true) (h:LP ty ys ys.length n=some (vc,kk)) (hc:aW vc) (hv:(K.val (.list ty) ys).holds E ρ w v):∃ u,(Instr.indexAt s v (.int kd n)).run P w=.ok u w/\kk.holds E ρ w u:=by
 simp only[LP,ah,bI] at h
 obtain⟨rfl,rfl⟩:=h
 obtain⟨h0,h1,_⟩:=hc
 have hn:n.toNat<ys.length:=by omega
 obtain⟨p,c,rfl,_,_,hx|⟨b,o,ds,rfl,k1,k2,k3⟩⟩:=FT (ρ:=ρ) hv
 ·rw[hx] at hn;simp at hn
 obtain⟨e,k4,k5⟩:=xA hb
 obtain⟨⟨i2,hi,hsz⟩,_⟩:=iP k5
 refine⟨.pointer (some ⟨b,o+n.toNat*ty.n,none⟩),?_,TI k1 (AX k2 _ _) (LC k3 hn)⟩
 simp[Instr.indexAt,asIntOf,ig,jy k4 w,h0,h1,run_sizeOf hi,hsz,zu]
theorem YL {s:TypeId} {ty:Ty} {m:Nat} {ys:List ty.den} {n:Int} {kd:IntKind} {vc:List Prop} {kk:K} {v:Value} (hb:rU P s (some m) ty=true) (h:LP ty ys m n=some (vc,kk)) (hc:aW vc) (hv:(K.val (.ref (.arr m ty)) ys).holds E ρ w v):∃ u,(Instr.indexAt s v (.int kd n)).run P w=.ok u w/\kk.holds E ρ w u:=by
 simp only[LP,ah,bI] at h
 obtain⟨rfl,rfl⟩:=h
 obtain⟨h0,h1,_⟩:=hc
 obtain⟨b,o,ds,rfl,k1,k2,kl,k3⟩:=IU (ρ:=ρ) hv
 have hn:n.toNat<ys.length:=by have:ys.length=m:=kl;omega
 obtain⟨e,k4,k5⟩:=OL hb
 obtain⟨⟨i2,hi,hsz⟩,_⟩:=iP k5
 refine⟨.pointer (some ⟨b,o+n.toNat*ty.n,none⟩),?_,TI k1 (AX k2 _ _) (LC k3 hn)⟩
 simp[Instr.indexAt,asIntOf,ig,jy k4 w,h0,h1,run_sizeOf hi,hsz,zu,Instr.sureAddr]
theorem a9a {s:TypeId} {ty:Ty} {m:Nat} {ys:List ty.den} {n:Int} {kd:IntKind} {vc:List Prop} {kk:K} {v:Value} (hb:rU P s (some m) ty=true) (h:b4I ty ys m n=some (vc,kk)) (hc:aW vc) (hv:(K.val (.arr m ty) ys).holds E ρ w v):∃ u,(Instr.index s v (.int kd n)).run P w=.ok u w/\kk.holds E ρ w u:=by
 simp only[b4I,ah,bI] at h
 obtain⟨rfl,rfl⟩:=h
 obtain⟨h0,h1,_⟩:=hc
 obtain⟨cs,rfl,kl,k3⟩:=hv
 have hn:n.toNat<List.length (α:=ty.den) ys:=by have:List.length (α:=ty.den) ys=m:=kl;omega
 obtain⟨e,k4,k5⟩:=OL hb
 obtain⟨⟨i2,hi,hsz⟩,_⟩:=iP k5
 have hr:=LC k3 hn
 refine⟨_,?_,_,rfl,hr⟩
 have:=xO k5 hr
 change (Instr.index s (.agg cs.toArray) (.int kd n)).run P w=_
 simp[Instr.index,asIntOf,jy k4 w,h0,h1,run_sizeOf hi,hsz,ig,this]
theorem b4L {op:BinOp} {t:TypeId} {k:IntKind} {a b:Int} {x y:Operand} {vc:List Prop} {kk:K} (h:b1K op k a b=some (vc,kk)) (hc:aW vc):∃ u,(do eqGuard op t x y (.int k a) (.int k b);binOp op t (.int k a) (.int k b):Sem Value).run P w=.ok u w/\kk.holds E ρ w u:=by
 cases op<;>simp only[b1K,ah,bI] at h<;>first|(cases h;done)|obtain⟨rfl,rfl⟩:=h
 case quo=>exact⟨.int k (k.wrap (a.tdiv b)),by have:=hc.1;simp[eqGuard,binOp,Op.intDiv,ig,this],mX _ _⟩
 case rem=>exact⟨.int k (a.tmod b),by have:=hc.1;simp[eqGuard,binOp,Op.intDiv,ig,this],mX _ _⟩
 case eql=>exact⟨.bool (a==b),by simp[eqGuard,binOp,Op.intCmp,ig],lH _⟩
 case neq=>exact⟨.bool (a != b),by simp[eqGuard,binOp,Op.intCmp,ig],lH _⟩
 case add=>exact⟨.int k (k.wrap (a+b)),by simp[eqGuard,binOp,Op.intArith,ig],mX _ _⟩
 case sub=>exact⟨.int k (k.wrap (a-b)),by simp[eqGuard,binOp,Op.intArith,ig],mX _ _⟩
 case mul=>exact⟨.int k (k.wrap (a*b)),by simp[eqGuard,binOp,Op.intArith,ig],mX _ _⟩
 case lss=>exact⟨.bool (decide (a<b)),by simp[eqGuard,binOp,Op.intCmp,ig],lH _⟩
 case leq=>exact⟨.bool (decide (a<=b)),by simp[eqGuard,binOp,Op.intCmp,ig],lH _⟩
 case gtr=>exact⟨.bool (decide (a > b)),by simp[eqGuard,binOp,Op.intCmp,ig],lH _⟩
 case geq=>exact⟨.bool (decide (a ≥ b)),by simp[eqGuard,binOp,Op.intCmp,ig],lH _⟩
theorem b5d {op:BinOp} {t e:TypeId} {b:Bool} {p:Option Addr} {n c:Nat} {x y:Operand} {vc:List Prop} {kk:K} (hu:P.underlying t=some (.slice e)) (hp:p.isNone=!b) (h:b5c op b=some (vc,kk)):∃ u,(do eqGuard op t x y (.slice p n c) (.slice none 0 0);binOp op t (.slice p n c) (.slice none 0 0):Sem Value).run P w=.ok u w/\kk.holds E ρ w u:=by
 cases op<;>simp only[b5c,ah,bI] at h<;>first|(cases h;done)|obtain⟨rfl,rfl⟩:=h
 ·exact⟨.bool (!b),by simp[eqGuard,binOp,ig,run_equal_slice_nil w t e p n c hu,hp],lH _⟩
 ·exact⟨.bool b,by simp[eqGuard,binOp,ig,run_equal_slice_nil w t e p n c hu,hp],lH _⟩
theorem YN {t:TypeId} (hsl:tZ P t=true):∃ e,P.underlying t=some (.slice e):=by
 unfold tZ at hsl
 split at hsl
 ·rename_i e he;exact⟨e,he⟩
 ·cases hsl
theorem b7f {op:BinOp} {t:TypeId} {a b:Bool} {x y:Operand} {vc:List Prop} {kk:K} (hu:P.underlying t=some .bool) (h:eqB op a b=some (vc,kk)):∃ u,(do eqGuard op t x y (.bool a) (.bool b);binOp op t (.bool a) (.bool b):Sem Value).run P w=.ok u w/\kk.holds E ρ w u:=by
 cases op<;>simp only[eqB,ah,bI] at h<;>first|(cases h;done)|obtain⟨rfl,rfl⟩:=h
 ·exact⟨.bool (a==b),by simp[eqGuard,binOp,ig,run_equal_bool w t a b hu],lH _⟩
 ·exact⟨.bool (a != b),by simp[eqGuard,binOp,ig,run_equal_bool w t a b hu];cases a<;>cases b<;>rfl,lH _⟩
theorem iR {s:Sem Value} {o:Oper} {ev:Operand->Value} {kk:K} (he:execOp ev o=(do pure (.value (<-s)))) (h:∃ u,s.run P w=.ok u w/\kk.holds E ρ w u):DI P E ρ w o ev kk:=by
 obtain⟨u,h1,h2⟩:=h
 exact⟨u,by rw[he,ig,h1];simp,h2⟩
theorem b2c {F:Nat->Prop}:∀ {ks:List K0} {vs:List Value} {i:Nat} {k:K0},qE F E ρ w ks vs->ks[i]?=some k->∃ v,vs[i]?=some v/\a7k F E ρ w k v
 | [],_,i,k,_,h=>by simp at h
 | k'::ks,_,0,k,⟨v,vs',h1,h2,_⟩,h=>by
  simp at h
  subst h
  exact⟨v,by rw[h1];rfl,h2⟩
 | k'::ks,_,i+1,k,⟨v,vs',h1,h2,h3⟩,h=>by
  obtain⟨u,k1,k2⟩:=b2c (i:=i) h3 (by simpa using h)
  exact⟨u,by rw[h1];exact k1,k2⟩
theorem a5d {s:TypeId} (h:a6V P s=true):∃ e,P.underlying s=some (.slice e)/\fitsT P e (.int .u32)=true:=by
 unfold a6V at h
 split at h<;>try(cases h;done)
 rename_i e he
 exact⟨e,he,h⟩
theorem YM {s:TypeId} {l:List Nat} {n:Int} {kd:IntKind} {vc:List Prop} {kk:K} {v:Value} (hb:a6V P s=true) (h:a6S l n=some (vc,kk)) (hc:aW vc) (hv:(K.val (.lf .gsl) l).holds E ρ w v):∃ u,(Instr.indexAt s v (.int kd n)).run P w=.ok u w/\kk.holds E ρ w u:=by
 simp only[a6S,ah,bI] at h
 obtain⟨rfl,rfl⟩:=h
 obtain⟨h0,h1,_⟩:=hc
 obtain⟨e,he,hf⟩:=a5d hb
 obtain⟨⟨i,hi,hs⟩,_⟩:=iP hf
 obtain⟨cs,rfl,sv,rfl,hr⟩:=hv
 obtain⟨n',rfl⟩:∃ n':Nat,n=n':=⟨n.toNat,by omega⟩
 have hlt:n'<l.length:=by omega
 rcases hr with⟨_,_,hl⟩|⟨b,o,c,rfl,k2,k3,k4,k5⟩
 ·rw[hl] at hlt;simp at hlt
 ·refine⟨.pointer (some ⟨b,o+n',none⟩),?_,[.pointer (some ⟨b,o+n',none⟩)],rfl,b,o+n',rfl,?_⟩
  ·have hs:i.size=1:=hs
   simp[Instr.indexAt,asIntOf,ig,jy he w,Ty.toV,Ty.agg,Lf.agg,run_sizeOf hi,hs,zu,hlt,show (0:Int)<=(n':Int) from jv _,show (n':Int)<(l.length:Int) from by omega]
  ·have:=k5 n' hlt
   rw[this,Int.toNat_natCast]
   rfl
theorem a9s {k:Operand->K} {ev:Operand->Value} {o:Oper} {vc:List Prop} {kk:K} (h:gQ P k o.op=some (vc,kk)) (hv:aW vc) (hk:∀ x,(k x).holds E ρ w (ev x)):DI P E ρ w o ev kk:=by
 cases ho:o.op<;>rw[ho] at h<;>try (simp[gQ] at h;done)
 case move x =>
  simp only[gQ,ah,bI] at h
  obtain⟨_,rfl⟩:=h
  exact⟨ev x,by simp[execOp,ho],hk x⟩
 case assign x =>
  simp only[gQ,ah,bI] at h
  obtain⟨_,rfl⟩:=h
  exact⟨ev x,by simp[execOp,ho],hk x⟩
 case pick c a b =>
  simp only[gQ] at h
  split at h<;>try(cases h;done)
  rename_i cb hcb
  have h1:=hk c
  rw[hcb] at h1
  have h2:=uN h1
  exact⟨_,by simp[execOp,ho,h2,asBool,ig];rfl,b2v h hv (hk a) (hk b)⟩
 case load t x =>
  simp only[gQ] at h
  split at h<;>try(cases h;done)
  ·rename_i ty y hx
   split at h<;>try(cases h;done)
   rename_i hf
   simp only[ah,bI] at h
   obtain⟨_,rfl⟩:=h
   have h1:=hk x
   rw[hx] at h1
   obtain⟨b,oo,ds,h2,k1,k2,k3⟩:=IU h1
   refine iR (by simp only[execOp,ho];rfl) ⟨_,?_,ds,rfl,k3⟩
   rw[h2]
   simp only[Instr.loadAt,Instr.sureAddr,ig,Sem.run_pure,Result.andThen_ok]
   exact lK hf k2 k3
  ·rename_i y hx
   split at h<;>try(cases h;done)
   rename_i hf
   simp only[ah,bI] at h
   obtain⟨_,rfl⟩:=h
   have h1:=hk x
   rw[hx] at h1
   obtain⟨cs,h2,b,oo,rfl,k2⟩:=h1
   refine iR (by simp only[execOp,ho];rfl) ⟨_,?_,[.int .u32 (Nat.cast (R:=Int) y)],rfl,rfl⟩
   rw[h2]
   simp only[Instr.loadAt,Ty.toV,Ty.agg,Lf.agg,ug,if_false,List.headD_cons,Instr.sureAddr,ig,Sem.run_pure,Result.andThen_ok]
   exact lK (F:=fun _=>True) (x:=(Nat.cast (R:=Int) y)) hf (fun j v hv=>by
    cases j with
    | zero=>simp at hv;rw[<-hv];exact k2
    | succ j=>simp at hv) rfl
 case fieldAddr s x i =>
  simp only[gQ] at h
  split at h<;>try(cases h;done)
  rename_i ty y hx
  have h1:=hk x
  rw[hx] at h1
  exact iR (by simp only[execOp,ho]) (a2Z h h1)
 case field s x i =>
  simp only[gQ] at h
  split at h<;>try(cases h;done)
  rename_i ty y hx
  have h1:=hk x
  rw[hx] at h1
  exact iR (by simp only[execOp,ho]) (a8R h h1)
 case indexAddr s x i =>
  simp only[gQ] at h
  have h1:=hk x
  have h2:=hk i
  split at h<;>try(cases h;done)
  all_goals
   rename_i hx hi
   split at h<;>try(cases h;done)
   rename_i hb
   rw[hx] at h1
   rw[hi] at h2
   refine iR (by simp only[execOp,ho];rfl) ?_
   rw[mY h2]
  ·exact EL hb h hv h1
  ·exact YL hb h hv h1
  ·exact YM hb h hv h1
 case index s x i =>
  simp only[gQ] at h
  have h1:=hk x
  have h2:=hk i
  split at h<;>try(cases h;done)
  rename_i hx hi
  split at h<;>try(cases h;done)
  rename_i hb
  rw[hx] at h1
  rw[hi] at h2
  refine iR (by simp only[execOp,ho];rfl) ?_
  rw[mY h2]
  exact a9a hb h hv h1
 case extract x i =>
  simp only[gQ] at h
  have h1:=hk x
  split at h<;>try(cases h;done)
  ·rename_i ts y hx
   split at h<;>try(cases h;done)
   rename_i p hp
   simp only[ah,bI] at h
   obtain⟨_,rfl⟩:=h
   rw[hx] at h1
   obtain⟨vs,h2,h3⟩:=h1
   obtain⟨u,k1,k2⟩:=a0B ts y i p vs hp h3
   refine iR (by simp only[execOp,ho];rfl) ⟨u,?_,k2⟩
   rw[h2]
   simp[Instr.extract,k1]
  ·rename_i ks hx
   rw[hx] at h1
   obtain⟨vs,h2,h3⟩:=h1
   split at h<;>try(cases h;done)
   rename_i hks
   simp only[ah,bI] at h
   obtain⟨_,rfl⟩:=h
   obtain⟨u,k1,k2⟩:=b2c h3 hks
   refine iR (by simp only[execOp,ho];rfl) ⟨u,?_,IB.1 k2⟩
   rw[h2]
   simp[Instr.extract,k1]
 case binOp op t x y yt =>
  simp only[gQ] at h
  have h1:=hk x
  have h2:=hk y
  split at h<;>try(cases h;done)
  ·rename_i ka a kb b hx hy
   split at h<;>try(cases h;done)
   rename_i he
   subst he
   rw[hx] at h1
   rw[hy] at h2
   refine iR (by simp only[execOp,ho];rfl) ?_
   rw[mY h1,mY h2]
   exact b4L h hv
  ·rename_i a b hx hy
   split at h<;>try(cases h;done)
   rename_i hb
   rw[hx] at h1
   rw[hy] at h2
   have hu:P.underlying t=some .bool:=by
    unfold a7h at hb
    split at hb
    ·assumption
    ·cases hb
   refine iR (by simp only[execOp,ho];rfl) ?_
   rw[uN h1,uN h2]
   exact b7f hu h
  ·rename_i ty z hx hy
   split at h<;>try(cases h;done)
   rename_i hb
   rw[hx] at h1
   rw[hy] at h2
   obtain⟨e,hu⟩:=YN hb
   obtain⟨p,c,e1,e2⟩:=a8s h1
   refine iR (by simp only[execOp,ho];rfl) ?_
   rw[e1,show ev y=.slice none 0 0 from h2]
   exact b5d hu e2 h
 case unOp op t x =>
  have h1:=hk x
  cases op<;>simp only[gQ] at h<;>try(cases h;done)
  case not =>
   split at h<;>try(cases h;done)
   rename_i b hx
   simp only[b8a,ah,bI] at h
   obtain⟨_,rfl⟩:=h
   rw[hx] at h1
   refine iR (by simp only[execOp,ho];rfl) ⟨_,?_,lH _⟩
   rw[uN h1]
   rfl
  case neg =>
   split at h<;>try(cases h;done)
   rename_i kd n hx
   simp only[b7X,a0F,ah,bI] at h
   obtain⟨_,rfl⟩:=h
   rw[hx] at h1
   refine iR (by simp only[execOp,ho];rfl) ⟨_,?_,mX _ _⟩
   rw[mY h1]
   rfl
 case convert s t x =>
  simp only[gQ] at h
  have h1:=hk x
  split at h<;>try(cases h;done)
  rename_i kd n kk' hx hi
  simp only[a0F,ah,bI] at h
  obtain⟨_,rfl⟩:=h
  rw[hx] at h1
  refine iR (by simp only[execOp,ho];rfl) ⟨_,?_,mX _ _⟩
  rw[mY h1]
  unfold c3r at hi
  split at hi<;>first|(cases hi;done)|skip
  rename_i d k' hs ht
  cases hi
  simp[convert,ig,jy hs w,jy ht w,Conv.intToInt]
 case nilCheck x =>
  simp only[gQ] at h
  have h1:=hk x
  split at h<;>try(cases h;done)
  ·rename_i t y hx
   simp only[ah,bI] at h
   obtain⟨_,rfl⟩:=h
   rw[hx] at h1
   obtain⟨b,oo,ds,h2,k⟩:=IU h1
   exact⟨ev x,by simp[execOp,ho,h2],h1⟩
  ·rename_i f t y hx
   simp only[ah,bI] at h
   obtain⟨_,rfl⟩:=h
   rw[hx] at h1
   obtain⟨cs,h2,ds,h3,k⟩:=h1
   exact⟨ev x,by simp[execOp,ho,h2,h3,Ty.toV,Ty.agg],cs,h2,ds,h3,k⟩
 case call c =>
  obtain⟨cl,xs,ts⟩:=c
  cases cl<;>try (simp[gQ] at h;done)
  rename_i bi
  cases bi<;>try (simp[gQ] at h;done)
  simp only[gQ] at h
  split at h<;>try(cases h;done)
  rename_i x t hxs hts
  have exs:xs=#[x]:=by rw[<-Array.toArray_toList (xs:=xs),hxs]
  have ets:ts=#[t]:=by rw[<-Array.toArray_toList (xs:=ts),hts]
  subst exs ets
  have h1:=hk x
  split at h<;>try(cases h;done)
  rename_i hsl
  have hu:∃ e,P.underlying t=some (.slice e):=by
   unfold tZ at hsl
   split at hsl
   ·rename_i e he;exact⟨e,he⟩
   ·cases hsl
  obtain⟨e,hu⟩:=hu
  split at h<;>try(cases h;done)
  ·rename_i ty ys hx
   simp only[PN,ah,bI] at h
   obtain⟨_,rfl⟩:=h
   rw[hx] at h1
   obtain⟨p,c,h2,_⟩:=FT h1
   exact⟨_,by simp[execOp,ho,resolve,invoke,builtin,ig,h2,Builtin.len_,jy hu w,goInt],mX _ _⟩
  ·rename_i l hx
   simp only[b7N,ah,bI] at h
   obtain⟨_,rfl⟩:=h
   rw[hx] at h1
   obtain⟨cs,h2,sv,rfl,hr⟩:=h1
   obtain⟨p,c,rfl,_,_⟩:=hr.form
   have h2:ev x=.slice p l.length c:=h2
   exact⟨_,by simp[execOp,ho,resolve,invoke,builtin,ig,h2,Builtin.len_,jy hu w,goInt],mX _ _⟩
  ·rename_i hx
   simp only[PN,ah,bI] at h
   obtain⟨_,rfl⟩:=h
   rw[hx] at h1
   have h2:ev x=.slice none 0 0:=h1
   exact⟨_,by simp[execOp,ho,resolve,invoke,builtin,ig,h2,Builtin.len_,jy hu w,goInt],mX _ _⟩
  ·rename_i ty ys hx
   simp only[PN,ah,bI] at h
   obtain⟨_,rfl⟩:=h
   rw[hx] at h1
   obtain⟨p,c,h2,_⟩:=a8s h1
   exact⟨_,by simp[execOp,ho,resolve,invoke,builtin,ig,h2,Builtin.len_,jy hu w,goInt],mX _ _⟩
end
end
set_option linter.unusedSimpArgs false
set_option linter.unusedVariables false
set_option maxRecDepth 20000
def QC (w:World) (u0 u1 u2 u3:Value) (K:Nat) (ok:Bool) (q:Rat):Prop :=
 ∃ g p n c h p' n' c',u0=.bool g/\u1=.slice p n c/\u2=.bool h/\u3=.slice p' n' c'/\iI w (.agg #[.bool g,.slice p n c,.bool h,.slice p' n' c']) ok q/\n<=K/\n'<=K
theorem QC.below {w w':World} {u0 u1 u2 u3:Value} {K:Nat} {ok:Bool} {q:Rat} (h:QC w u0 u1 u2 u3 K ok q) (hb:Below w.heap.size w w'):QC w' u0 u1 u2 u3 K ok q:=by
 obtain⟨g,p,n,c,h,p',n',c',e0,e1,e2,e3,hq,k⟩:=h
 exact⟨g,p,n,c,h,p',n',c',e0,e1,e2,e3,hq.below hb,k⟩
theorem QC.jE {w:World} {u0 u1 u2 u3:Value} {K:Nat} {ok:Bool} {q:Rat} (h:QC w u0 u1 u2 u3 K ok q) {a:Addr} {u:Value} (hc:w.cell? a=some u) (hu:bU u=true) (u':Value):QC (w.setCell a u') u0 u1 u2 u3 K ok q:=by
 obtain⟨g,p,n,c,h,p',n',c',e0,e1,e2,e3,hq,k⟩:=h
 exact⟨g,p,n,c,h,p',n',c',e0,e1,e2,e3,hq.jE hc hu u',k⟩
theorem QC.nu {w:World} {u0 u1 u2 u3:Value} {K:Nat} {ok:Bool} {q:Rat} (h:QC w u0 u1 u2 u3 K ok q):bU u0=true/\bU u1=true/\bU u2=true/\bU u3=true:=by
 obtain⟨g,p,n,c,h,p',n',c',rfl,rfl,rfl,rfl,hq,k⟩:=h
 exact⟨rfl,rfl,rfl,rfl⟩
theorem QC.mono {w:World} {u0 u1 u2 u3:Value} {K K':Nat} {ok:Bool} {q:Rat} (h:QC w u0 u1 u2 u3 K ok q) (hK:K<=K'):QC w u0 u1 u2 u3 K' ok q:=by
 obtain⟨g,p,n,c,h,p',n',c',e0,e1,e2,e3,hq,k,k'⟩:=h
 exact⟨g,p,n,c,h,p',n',c',e0,e1,e2,e3,hq,by omega,by omega⟩
theorem QC.of {w:World} {g h:Bool} {p p':Option Addr} {n c n' c' K:Nat} {q:Rat} (hq:RQ w (.agg #[.bool g,.slice p n c,.bool h,.slice p' n' c']) q) (hK:rsz q<=K):QC w (.bool g) (.slice p n c) (.bool h) (.slice p' n' c') K true q:=by
 have hn:=hq.qn hK
 obtain⟨_,_,_,_,_,_,_,_,e,l1,l2⟩:=hn
 simp only[Value.agg.injEq,Array.mk.injEq,List.cons.injEq,Value.slice.injEq,Value.bool.injEq] at e
 obtain⟨rfl,⟨rfl,rfl,rfl⟩,rfl,⟨rfl,rfl,rfl⟩,_⟩:=e
 exact⟨g,p,_,c,h,p',_,c',rfl,rfl,rfl,rfl,hq.raw,l1,l2⟩
theorem QC.zero (w:World) (K:Nat):QC w (.bool false) (.slice none 0 0) (.bool false) (.slice none 0 0) K false 0:=by
 refine⟨false,none,0,0,false,none,0,0,rfl,rfl,rfl,rfl,⟨_,_,_,_,true,true,0,0,rfl,?_,?_,?_,by simp⟩,by omega,by omega⟩
 ·exact⟨false,_,[],rfl,.inl ⟨none,rfl,rfl⟩,by simp,by simp[cnt,zH],by simp[zH]⟩
 ·exact⟨false,_,[],rfl,.inl ⟨none,rfl,rfl⟩,by simp,by simp[cnt,zH],by simp[zH]⟩
 ·simp
theorem QC.open {w:World} {u0 u1 u2 u3:Value} {K:Nat} {ok:Bool} {q:Rat} (h:QC w u0 u1 u2 u3 K ok q):∃ g p n c h p' n' c',u0=.bool g/\u1=.slice p n c/\u2=.bool h/\u3=.slice p' n' c'/\iI w (.agg #[.bool g,.slice p n c,.bool h,.slice p' n' c']) ok q/\Qn (.agg #[.bool g,.slice p n c,.bool h,.slice p' n' c']) K:=by
 obtain⟨g,p,n,c,h,p',n',c',e0,e1,e2,e3,hq,k,k'⟩:=h
 exact⟨g,p,n,c,h,p',n',c',e0,e1,e2,e3,hq,⟨_,_,_,_,_,_,_,_,rfl,k,k'⟩⟩
def wV (w:World) (s:Value) (n K:Nat) (ok:Nat->Bool) (e:Nat->Rat):Prop :=
 ∃ p c,s=.slice p n c/\n<=c/\c<=9223372036854775807/\(0<n->∃ b o,p=some ⟨b,o,none⟩/\b<w.heap.size/\∀ i,i<n->∃ u0 u1 u2 u3,w.cell? ⟨b,o+i*4,none⟩=some u0/\w.cell? ⟨b,o+i*4+1,none⟩=some u1/\w.cell? ⟨b,o+i*4+2,none⟩=some u2/\w.cell? ⟨b,o+i*4+3,none⟩=some u3/\QC w u0 u1 u2 u3 K (ok i) (e i))
theorem wV.below {w w':World} {s:Value} {n K:Nat} {ok:Nat->Bool} {e:Nat->Rat} (h:wV w s n K ok e) (hb:Below w.heap.size w w'):wV w' s n K ok e:=by
 obtain⟨p,c,hs,h1,h2,h3⟩:=h
 refine⟨p,c,hs,h1,h2,fun hn=>?_⟩
 obtain⟨b,o,hp,hlt,hi⟩:=h3 hn
 have hc:=(iC hb).1
 refine⟨b,o,hp,jl hlt hb.size,fun i hin=>?_⟩
 obtain⟨u0,u1,u2,u3,c0,c1,c2,c3,hq⟩:=hi i hin
 exact⟨u0,u1,u2,u3,by rw[hc _ _ hlt];exact c0,by rw[hc _ _ hlt];exact c1,by rw[hc _ _ hlt];exact c2,by rw[hc _ _ hlt];exact c3,hq.below hb⟩
theorem wV.form {w:World} {s:Value} {n K:Nat} {ok:Nat->Bool} {e:Nat->Rat} (h:wV w s n K ok e):∃ p c,s=.slice p n c/\n<=c/\c<=9223372036854775807:=by
 obtain⟨p,c,hs,h1,h2,h3⟩:=h
 exact⟨p,c,hs,h1,h2⟩
theorem wV.congr {w:World} {s:Value} {n K:Nat} {ok ok':Nat->Bool} {e e':Nat->Rat} (h:wV w s n K ok e) (h1:∀ i,i<n->ok i=ok' i) (h2:∀ i,i<n->e i=e' i):wV w s n K ok' e':=by
 obtain⟨p,c,hs,k1,k2,h3⟩:=h
 refine⟨p,c,hs,k1,k2,fun hn=>?_⟩
 obtain⟨b,o,hp,hlt,hi⟩:=h3 hn
 refine⟨b,o,hp,hlt,fun i hin=>?_⟩
 rw[<-h1 i hin,<-h2 i hin]
 exact hi i hin
theorem wV.mono {w:World} {s:Value} {n K K':Nat} {ok:Nat->Bool} {e:Nat->Rat} (h:wV w s n K ok e) (hK:K<=K'):wV w s n K' ok e:=by
 obtain⟨p,c,hs,k1,k2,h3⟩:=h
 refine⟨p,c,hs,k1,k2,fun hn=>?_⟩
 obtain⟨b,o,hp,hlt,hi⟩:=h3 hn
 refine⟨b,o,hp,hlt,fun i hin=>?_⟩
 obtain⟨u0,u1,u2,u3,c0,c1,c2,c3,hq⟩:=hi i hin
 exact⟨u0,u1,u2,u3,c0,c1,c2,c3,hq.mono hK⟩
theorem wV.at_ {w:World} {p:Option Addr} {n c K:Nat} {ok:Nat->Bool} {e:Nat->Rat} (h:wV w (.slice p n c) n K ok e) {k:Nat} (hk:k<n) :
  ∃ b o g q m d g' q' m' d',p=some ⟨b,o,none⟩/\b<w.heap.size/\w.cell? ⟨b,o+k*4,none⟩=some (.bool g)/\w.cell? ⟨b,o+k*4+1,none⟩=some (.slice q m d)/\w.cell? ⟨b,o+k*4+2,none⟩=some (.bool g')/\w.cell? ⟨b,o+k*4+3,none⟩=some (.slice q' m' d') /\
   iI w (.agg #[.bool g,.slice q m d,.bool g',.slice q' m' d']) (ok k) (e k)/\Qn (.agg #[.bool g,.slice q m d,.bool g',.slice q' m' d']) K:=by
 obtain⟨p',c',hs,h1,h2,h3⟩:=h
 cases hs
 obtain⟨b,o,hp,hlt,hi⟩:=h3 (by omega)
 obtain⟨u0,u1,u2,u3,c0,c1,c2,c3,hq⟩:=hi k hk
 obtain⟨g,q,m,d,g',q',m',d',rfl,rfl,rfl,rfl,hr,hn⟩:=hq.open
 exact⟨b,o,g,q,m,d,g',q',m',d',hp,hlt,c0,c1,c2,c3,hr,hn⟩
def DC (w:World) (v:Value) (R:Nat) (L:Nat->Nat) (K:Nat) (ok:Nat->Nat->Bool) (e:Nat->Nat->Rat):Prop :=
 ∃ p c,v=.slice p R c/\R<=c/\c<=9223372036854775807/\(0<R->∃ b o,p=some ⟨b,o,none⟩/\b<w.heap.size/\∀ i,i<R->∃ s,w.cell? ⟨b,o+i,none⟩=some s/\wV w s (L i) K (ok i) (e i))
theorem DC.below {w w':World} {v:Value} {R K:Nat} {L:Nat->Nat} {ok:Nat->Nat->Bool} {e:Nat->Nat->Rat} (h:DC w v R L K ok e) (hb:Below w.heap.size w w'):DC w' v R L K ok e:=by
 obtain⟨p,c,hs,h1,h2,h3⟩:=h
 refine⟨p,c,hs,h1,h2,fun hn=>?_⟩
 obtain⟨b,o,hp,hlt,hi⟩:=h3 hn
 have hc:=(iC hb).1
 refine⟨b,o,hp,jl hlt hb.size,fun i hin=>?_⟩
 obtain⟨s,c0,hr⟩:=hi i hin
 exact⟨s,by rw[hc _ _ hlt];exact c0,hr.below hb⟩
theorem DC.form {w:World} {v:Value} {R K:Nat} {L:Nat->Nat} {ok:Nat->Nat->Bool} {e:Nat->Nat->Rat} (h:DC w v R L K ok e):∃ p c,v=.slice p R c/\R<=c/\c<=9223372036854775807:=by
 obtain⟨p,c,hs,h1,h2,h3⟩:=h
 exact⟨p,c,hs,h1,h2⟩
theorem DC.congr {w:World} {v:Value} {R K:Nat} {L L':Nat->Nat} {ok ok':Nat->Nat->Bool} {e e':Nat->Nat->Rat} (h:DC w v R L K ok e) (hL:∀ i,i<R->L i=L' i) (h1:∀ i,i<R->∀ j,j<L i->ok i j=ok' i j) (h2:∀ i,i<R->∀ j,j<L i->e i j=e' i j):DC w v R L' K ok' e':=by
 obtain⟨p,c,hs,k1,k2,h3⟩:=h
 refine⟨p,c,hs,k1,k2,fun hn=>?_⟩
 obtain⟨b,o,hp,hlt,hi⟩:=h3 hn
 refine⟨b,o,hp,hlt,fun i hin=>?_⟩
 obtain⟨s,c0,hr⟩:=hi i hin
 rw[<-hL i hin]
 exact⟨s,c0,hr.congr (h1 i hin) (h2 i hin)⟩
theorem DC.mono {w:World} {v:Value} {R K K':Nat} {L:Nat->Nat} {ok:Nat->Nat->Bool} {e:Nat->Nat->Rat} (h:DC w v R L K ok e) (hK:K<=K'):DC w v R L K' ok e:=by
 obtain⟨p,c,hs,k1,k2,h3⟩:=h
 refine⟨p,c,hs,k1,k2,fun hn=>?_⟩
 obtain⟨b,o,hp,hlt,hi⟩:=h3 hn
 refine⟨b,o,hp,hlt,fun i hin=>?_⟩
 obtain⟨s,c0,hr⟩:=hi i hin
 exact⟨s,c0,hr.mono hK⟩
theorem DC.at_ {w:World} {p:Option Addr} {R c K:Nat} {L:Nat->Nat} {ok:Nat->Nat->Bool} {e:Nat->Nat->Rat} (h:DC w (.slice p R c) R L K ok e) {k:Nat} (hk:k<R) :
  ∃ b o q d,p=some ⟨b,o,none⟩/\b<w.heap.size/\w.cell? ⟨b,o+k,none⟩=some (.slice q (L k) d)/\wV w (.slice q (L k) d) (L k) K (ok k) (e k):=by
 obtain⟨p',c',hs,h1,h2,h3⟩:=h
 cases hs
 obtain⟨b,o,hp,hlt,hi⟩:=h3 (by omega)
 obtain⟨s,c0,hr⟩:=hi k hk
 obtain⟨q,d,rfl,_,_⟩:=hr.form
 exact⟨b,o,q,d,hp,hlt,c0,hr⟩
def a4Q (w:World) (v:Value) (R C K:Nat) (e:Nat->Nat->Rat):Prop:=DC w v R (fun _=>C) K (fun _ _=>true) e
def YE (w:World) (v:Value) (n K:Nat) (e:Nat->Rat):Prop:=wV w v n K (fun _=>true) e
def rJ (w:World) (b n K:Nat) (ok:Nat->Bool) (e:Nat->Rat):Prop :=
 ∃ f,w.rowIs b 64 (n*4) f/\∀ j,j<n->QC w (f (j*4)) (f (j*4+1)) (f (j*4+2)) (f (j*4+3)) K (ok j) (e j)
theorem rJ.lt {w:World} {b n K:Nat} {ok:Nat->Bool} {e:Nat->Rat} (h:rJ w b n K ok e):b<w.heap.size:=by
 obtain⟨f,h1,h2⟩:=h;exact h1.lt
theorem rJ.below {w w':World} {b n K m:Nat} {ok:Nat->Bool} {e:Nat->Rat} (h:rJ w b n K ok e) (hb:Below w.heap.size w w'):rJ w' b n K ok e:=by
 obtain⟨f,h1,h2⟩:=h
 exact⟨f,h1.of_block (hb.block b h1.lt),fun j hj=>(h2 j hj).below hb⟩
theorem rJ.cells {w:World} {b n K:Nat} {ok:Nat->Bool} {e:Nat->Rat} (h:rJ w b n K ok e) {k:Nat} (hk:k<n) :
  ∃ g q m d g' q' m' d',w.cell? ⟨b,k*4,none⟩=some (.bool g)/\w.cell? ⟨b,k*4+1,none⟩=some (.slice q m d)/\w.cell? ⟨b,k*4+2,none⟩=some (.bool g')/\w.cell? ⟨b,k*4+3,none⟩=some (.slice q' m' d') /\
   iI w (.agg #[.bool g,.slice q m d,.bool g',.slice q' m' d']) (ok k) (e k)/\Qn (.agg #[.bool g,.slice q m d,.bool g',.slice q' m' d']) K:=by
 obtain⟨f,h1,h2⟩:=h
 obtain⟨g,q,m,d,g',q',m',d',e0,e1,e2,e3,hr,hn⟩:=(h2 k hk).open
 exact⟨g,q,m,d,g',q',m',d',by rw[<-e0];exact h1.cell (by omega),by rw[<-e1];exact h1.cell (by omega),by rw[<-e2];exact h1.cell (by omega),by rw[<-e3];exact h1.cell (by omega),hr,hn⟩
theorem rJ.frozen {w:World} {b n K:Nat} {ok:Nat->Bool} {e:Nat->Rat} (h:rJ w b n K ok e) (i:Nat):w.frozen? ⟨b,i,none⟩=false:=by
 obtain⟨f,h1,h2⟩:=h;exact h1.frozen i
theorem rJ.other {w:World} {b n K:Nat} {ok:Nat->Bool} {e:Nat->Rat} (h:rJ w b n K ok e) {b' o':Nat} (hne:b≠b') {u:Value} (hc:w.cell? ⟨b',o',none⟩=some u) (hu:bU u=true) (x:Value):rJ (w.setCell ⟨b',o',none⟩ x) b n K ok e:=by
 obtain⟨f,h1,h2⟩:=h
 exact⟨f,h1.setOther (by simpa using hne) x,fun j hj=>(h2 j hj).jE hc hu x⟩
def st4 (w:World) (b o:Nat) (x0 x1 x2 x3:Value):World:=(((w.setCell ⟨b,o,none⟩ x0).setCell ⟨b,o+1,none⟩ x1).setCell ⟨b,o+2,none⟩ x2).setCell ⟨b,o+3,none⟩ x3
theorem QC.b5F {w:World} {y0 y1 y2 y3:Value} {K:Nat} {ok:Bool} {q:Rat} (h:QC w y0 y1 y2 y3 K ok q) {b o:Nat} {u0 u1 u2 u3:Value} (c0:w.cell? ⟨b,o,none⟩=some u0) (c1:w.cell? ⟨b,o+1,none⟩=some u1) (c2:w.cell? ⟨b,o+2,none⟩=some u2) (c3:w.cell? ⟨b,o+3,none⟩=some u3)
  (n0:bU u0=true) (n1:bU u1=true) (n2:bU u2=true) (n3:bU u3=true) (x0 x1 x2 x3:Value):QC (st4 w b o x0 x1 x2 x3) y0 y1 y2 y3 K ok q:=by
 refine(((h.jE c0 n0 x0).jE (a:=⟨b,o+1,none⟩) (u:=u1) ?_ n1 x1).jE (a:=⟨b,o+2,none⟩) (u:=u2) ?_ n2 x2).jE (a:=⟨b,o+3,none⟩) (u:=u3) ?_ n3 x3
 ·rw[nY _ _ _ _ (by simp)];exact c1
 ·rw[nY _ _ _ _ (by simp),nY _ _ _ _ (by simp)];exact c2
 ·rw[nY _ _ _ _ (by simp),nY _ _ _ _ (by simp),nY _ _ _ _ (by simp)];exact c3
theorem rJ.b5F {w:World} {b n K:Nat} {ok:Nat->Bool} {e:Nat->Rat} (h:rJ w b n K ok e) {k:Nat} (hk:k<n) {x0 x1 x2 x3:Value} {q:Rat} (hq:QC w x0 x1 x2 x3 K true q) :
  rJ (st4 w b (k*4) x0 x1 x2 x3) b n K (fun j=>if j=k then true else ok j) (fun j=>if j=k then q else e j):=by
 obtain⟨f,h1,h2⟩:=h
 refine⟨_,(((h1.set (k*4) x0).set (k*4+1) x1).set (k*4+2) x2).set (k*4+3) x3,fun j hj=>?_⟩
 have N:=(h2 k hk).nu
 have hc:∀ i,i<4->w.cell? ⟨b,k*4+i,none⟩=some (f (k*4+i)):=fun i hi=>h1.cell (by omega)
 have S:=fun {y0 y1 y2 y3:Value} {ok':Bool} {q':Rat} (g:QC w y0 y1 y2 y3 K ok' q')=>g.b5F (b:=b) (o:=k*4) (hc 0 (by omega)) (hc 1 (by omega)) (hc 2 (by omega)) (hc 3 (by omega)) N.1 N.2.1 N.2.2.1 N.2.2.2 x0 x1 x2 x3
 by_cases e1:j=k
 ·subst e1
  simp only[eY]
  have:=S hq
  simpa [show ∀ a:Nat,¬ a=a+1 from fun a=>by omega,show ∀ a:Nat,¬ a=a+2 from fun a=>by omega,show ∀ a:Nat,¬ a=a+3 from fun a=>by omega] using this
 ·simp only[dw e1]
  have:=S (h2 j hj)
  have a0:∀ x y,x<4->y<4->¬ j*4+x=k*4+y:=fun x y hx hy=>by omega
  have a1:=a0 0
  have a2:=fun y=>a0 y 0
  simpa [a0 0 0 (by omega) (by omega),a0 0 1 (by omega) (by omega),a0 0 2 (by omega) (by omega),a0 0 3 (by omega) (by omega),a0 1 0 (by omega) (by omega),a0 1 1 (by omega) (by omega),a0 1 2 (by omega) (by omega),a0 1 3 (by omega) (by omega),
   a0 2 0 (by omega) (by omega),a0 2 1 (by omega) (by omega),a0 2 2 (by omega) (by omega),a0 2 3 (by omega) (by omega),a0 3 0 (by omega) (by omega),a0 3 1 (by omega) (by omega),a0 3 2 (by omega) (by omega),a0 3 3 (by omega) (by omega),
   show ¬ j*4=k*4 by omega,show ¬ j*4=k*4+1 by omega,show ¬ j*4=k*4+2 by omega,show ¬ j*4=k*4+3 by omega,show ¬ j*4+1=k*4 by omega,show ¬ j*4+2=k*4 by omega,show ¬ j*4+3=k*4 by omega,e1] using this
theorem rJ.fK {w:World} {b n K:Nat} {ok:Nat->Bool} {e:Nat->Rat} (h:rJ w b n K ok e) {b' n' K':Nat} {ok':Nat->Bool} {e':Nat->Rat} (h':rJ w b' n' K' ok' e') (hne:b≠b') {k:Nat} (hk:k<n') (x0 x1 x2 x3:Value):rJ (st4 w b' (k*4) x0 x1 x2 x3) b n K ok e:=by
 obtain⟨f,h1,h2⟩:=h
 obtain⟨g,h3,h4⟩:=h'
 refine⟨f,(((h1.setOther (by simpa using hne) x0).setOther (by simpa using hne) x1).setOther (by simpa using hne) x2).setOther (by simpa using hne) x3,fun j hj=>?_⟩
 have N:=(h4 k hk).nu
 have hc:∀ i,i<4->w.cell? ⟨b',k*4+i,none⟩=some (g (k*4+i)):=fun i hi=>h3.cell (by omega)
 exact(h2 j hj).b5F (b:=b') (o:=k*4) (hc 0 (by omega)) (hc 1 (by omega)) (hc 2 (by omega)) (hc 3 (by omega)) N.1 N.2.1 N.2.2.1 N.2.2.2 x0 x1 x2 x3
structure a4P (w:World) (base b R C K m:Nat) (rb:Nat->Nat) (e:Nat->Nat->Rat):Prop where
 outer:w.rowIs b 32 R (fun i=>if i<m then .slice (some ⟨rb i,0,none⟩) C C else .slice none 0 0)
 hb:base<=b
 rows:∀ i,i<m->rJ w (rb i) C K (fun _=>true) (e i)
 hrb:∀ i,i<m->base<=rb i/\rb i≠b
 inj:∀ i j,i<m->j<m->rb i=rb j->i=j
theorem a4P.below {w w':World} {base b R C K m:Nat} {rb:Nat->Nat} {e:Nat->Nat->Rat} (h:a4P w base b R C K m rb e) (hb:Below w.heap.size w w'):a4P w' base b R C K m rb e :=
 ⟨h.outer.of_block (hb.block b h.outer.lt),h.hb,fun i hi=>(h.rows i hi).below (m:=0) hb,h.hrb,h.inj⟩
theorem rJ.congr {w:World} {b n K:Nat} {ok ok':Nat->Bool} {e e':Nat->Rat} (h:rJ w b n K ok e) (h1:∀ i,i<n->ok i=ok' i) (h2:∀ i,i<n->e i=e' i):rJ w b n K ok' e':=by
 obtain⟨f,k1,k2⟩:=h
 exact⟨f,k1,fun j hj=>by rw[<-h1 j hj,<-h2 j hj];exact k2 j hj⟩
theorem wV.rsz {w:World} {s:Value} {n K:Nat} {ok:Nat->Bool} {e:Nat->Rat} (h:wV w s n K ok e) {i:Nat} (hi:i<n) (ho:ok i=true):rsz (e i)<=K:=by
 obtain⟨p,c,rfl,_,_⟩:=h.form
 obtain⟨b,o,g,q,m,d,g',q',m',d',_,_,_,_,_,_,hr,hn⟩:=h.at_ hi
 rw[ho] at hr
 exact hr.rq.lJ hn
theorem YE.rsz {w:World} {s:Value} {n K:Nat} {e:Nat->Rat} (h:YE w s n K e) {i:Nat} (hi:i<n):Go.Proofs.YtgplhbhfdgempaaGreat.rsz (e i)<=K:=wV.rsz h hi rfl
theorem YE.below {w w':World} {s:Value} {n K:Nat} {e:Nat->Rat} (h:YE w s n K e) (hb:Below w.heap.size w w'):YE w' s n K e:=wV.below h hb
theorem YE.at_ {w:World} {p:Option Addr} {n c K:Nat} {e:Nat->Rat} (h:YE w (.slice p n c) n K e) {k:Nat} (hk:k<n) :
 ∃ b o g q m d g' q' m' d',p=some ⟨b,o,none⟩/\b<w.heap.size/\w.cell? ⟨b,o+k*4,none⟩=some (.bool g)/\w.cell? ⟨b,o+k*4+1,none⟩=some (.slice q m d)/\w.cell? ⟨b,o+k*4+2,none⟩=some (.bool g')/\w.cell? ⟨b,o+k*4+3,none⟩=some (.slice q' m' d') /\
  iI w (.agg #[.bool g,.slice q m d,.bool g',.slice q' m' d']) true (e k)/\Qn (.agg #[.bool g,.slice q m d,.bool g',.slice q' m' d']) K:=wV.at_ h hk
theorem YE.form {w:World} {s:Value} {n K:Nat} {e:Nat->Rat} (h:YE w s n K e):∃ p c,s=.slice p n c/\n<=c/\c<=9223372036854775807:=wV.form h
theorem a4Q.below {w w':World} {v:Value} {R C K:Nat} {e:Nat->Nat->Rat} (h:a4Q w v R C K e) (hb:Below w.heap.size w w'):a4Q w' v R C K e:=DC.below h hb
theorem a4Q.form {w:World} {v:Value} {R C K:Nat} {e:Nat->Nat->Rat} (h:a4Q w v R C K e):∃ p c,v=.slice p R c/\R<=c/\c<=9223372036854775807:=DC.form h
theorem a4Q.at_ {w:World} {p:Option Addr} {R C c K:Nat} {e:Nat->Nat->Rat} (h:a4Q w (.slice p R c) R C K e) {k:Nat} (hk:k<R) :
 ∃ b o q d,p=some ⟨b,o,none⟩/\b<w.heap.size/\w.cell? ⟨b,o+k,none⟩=some (.slice q C d)/\YE w (.slice q C d) C K (e k):=DC.at_ h hk
def Z4:Array Value:=#[.bool false,.slice none 0 0,.bool false,.slice none 0 0]
theorem rJ.made (w:World) (C K:Nat):rJ (w.alloc (.cells (madeCells Z4 (C*4)) 64)) w.heap.size C K (fun _=>false) (fun _=>0):=by
 have hs:(madeCells Z4 (C*4)).size=C*4:=size_madeCells _ _
 refine⟨fun i=>Z4[i%4]!,?_,fun j hj=>?_⟩
 ·have:=World.rowIs_alloc w (madeCells Z4 (C*4)) 64 (fun i=>Z4[i%4]!) (fun i hi=>by
   rw[hs] at hi
   simp[madeCells,hi,Z4])
  rw[hs] at this
  exact this
 ·have e0:j*4%4=0:=by omega
  have e1:(j*4+1)%4=1:=by omega
  have e2:(j*4+2)%4=2:=by omega
  have e3:(j*4+3)%4=3:=by omega
  simp only[e0,e1,e2,e3]
  exact QC.zero _ _
theorem a4P.start (w:World) (R C K:Nat) (rb:Nat->Nat) (e:Nat->Nat->Rat) (base:Nat) (hb:base<=w.heap.size):a4P (w.alloc (.cells (madeCells #[.slice none 0 0] R) 32)) base w.heap.size R C K 0 rb e :=
 ⟨(World.rowIs_made w (.slice none 0 0) R 32).congr (fun i _=>by rw[dw (by omega)]),hb,fun i hi=>by omega,fun i hi=>by omega,fun i j hi=>by omega⟩
structure RX (w:World) (base b R C K k j:Nat) (rb:Nat->Nat) (e:Nat->Nat->Rat):Prop where
 outer:w.rowIs b 32 R (fun i=>if i<k+1 then .slice (some ⟨rb i,0,none⟩) C C else .slice none 0 0)
 hb:base<=b
 rows:∀ i,i<k->rJ w (rb i) C K (fun _=>true) (e i)
 row:rJ w (rb k) C K (fun c=>decide (c<j)) (fun c=>if c<j then e k c else 0)
 hrb:∀ i,i<k+1->base<=rb i/\rb i≠b
 inj:∀ i j,i<k+1->j<k+1->rb i=rb j->i=j
theorem RX.below {w w':World} {base b R C K k j:Nat} {rb:Nat->Nat} {e:Nat->Nat->Rat} (h:RX w base b R C K k j rb e) (hb:Below w.heap.size w w'):RX w' base b R C K k j rb e :=
 ⟨h.outer.of_block (hb.block b h.outer.lt),h.hb,fun i hi=>(h.rows i hi).below (m:=0) hb,h.row.below (m:=0) hb,h.hrb,h.inj⟩
theorem RX.start {w:World} {base b R C K k:Nat} {rb:Nat->Nat} {e:Nat->Nat->Rat} (h:a4P w base b R C K k rb e) (hk:k<R) (hbase:base<=w.heap.size) :
  RX ((w.alloc (.cells (madeCells Z4 (C*4)) 64)).setCell ⟨b,k,none⟩ (.slice (some ⟨w.heap.size,0,none⟩) C C)) base b R C K k 0 (fun i=>if i=k then w.heap.size else rb i) e:=by
 have hlt:=h.outer.lt
 have hne:w.heap.size≠b:=by omega
 have hc:(w.alloc (.cells (madeCells Z4 (C*4)) 64)).cell? ⟨b,k,none⟩=some (.slice none 0 0):=by
  have:=(h.outer.alloc (.cells (madeCells Z4 (C*4)) 64)).cell hk
  rw[dw (by omega)] at this
  exact this
 refine⟨((h.outer.alloc _).set k _).congr (fun i hi=>?_),h.hb,fun i hi=>?_,?_,fun i hi=>?_,fun i j hi hj=>?_⟩
 ·by_cases e1:i=k
  ·subst e1;simp
  ·simp only[dw e1]
   by_cases e2:i<k
   ·rw[eY e2,eY (by omega)]
   ·rw[dw e2,dw (by omega)]
 ·rw[dw (by omega)]
  exact((h.rows i hi).below (m:=0) ((bf _ _).alloc (aj _) _)).other (h.hrb i hi).2 hc rfl _
 ·simp only[Ai]
  exact((rJ.made w C K).other hne hc rfl _).congr (fun i _=>by simp) (fun i _=>by simp)
 ·by_cases e1:i=k
  ·rw[eY e1];exact⟨hbase,hne⟩
  ·rw[dw e1];exact h.hrb i (by omega)
 ·by_cases e1:i=k
  ·by_cases e2:j=k
   ·intro _;omega
   ·rw[eY e1,dw e2];intro e3;have:=(h.rows j (by omega)).lt;omega
  ·by_cases e2:j=k
   ·rw[dw e1,eY e2];intro e3;have:=(h.rows i (by omega)).lt;omega
   ·rw[dw e1,dw e2];exact h.inj i j (by omega) (by omega)
theorem RX.step {w:World} {base b R C K k j:Nat} {rb:Nat->Nat} {e:Nat->Nat->Rat} (h:RX w base b R C K k j rb e) (hj:j<C) {x0 x1 x2 x3:Value} (hq:QC w x0 x1 x2 x3 K true (e k j)) :
  RX (st4 w (rb k) (j*4) x0 x1 x2 x3) base b R C K k (j+1) rb e:=by
 have hne:b≠rb k:=fun e1=>(h.hrb k (by omega)).2 e1.symm
 refine⟨(((h.outer.setOther (by simpa using hne) x0).setOther (by simpa using hne) x1).setOther (by simpa using hne) x2).setOther (by simpa using hne) x3,h.hb,fun i hi=>?_,?_,h.hrb,h.inj⟩
 ·exact(h.rows i hi).fK h.row (fun e1=>by have:=h.inj i k (by omega) (by omega) e1;omega) hj x0 x1 x2 x3
 ·refine(h.row.b5F hj hq).congr (fun c _=>?_) (fun c _=>?_)
  ·by_cases e1:c=j
   ·subst e1;simp
   ·rw[dw e1];simp;omega
  ·by_cases e1:c=j
   ·subst e1;simp
   ·rw[dw e1]
    by_cases e2:c<j
    ·rw[eY e2,eY (by omega)]
    ·rw[dw e2,dw (by omega)]
theorem RX.done {w:World} {base b R C K k:Nat} {rb:Nat->Nat} {e:Nat->Nat->Rat} (h:RX w base b R C K k C rb e):a4P w base b R C K (k+1) rb e:=by
 refine⟨h.outer,h.hb,fun i hi=>?_,h.hrb,h.inj⟩
 by_cases e1:i=k
 ·subst e1
  exact h.row.congr (fun c hc=>by simp[hc]) (fun c hc=>by simp[hc])
 ·exact h.rows i (by omega)
theorem RX.low {w:World} {base b R C K k j:Nat} {rb:Nat->Nat} {e:Nat->Nat->Rat} (h:RX w base b R C K k j rb e) {w0:World} (hb:Below base w0 w) (x0 x1 x2 x3:Value) (o:Nat):Below base w0 (st4 w (rb k) o x0 x1 x2 x3):=by
 have:=(h.hrb k (by omega)).1
 exact(((hb.setCell (p:=⟨rb k,o,none⟩) this x0).setCell (p:=⟨rb k,o+1,none⟩) this x1).setCell (p:=⟨rb k,o+2,none⟩) this x2).setCell (p:=⟨rb k,o+3,none⟩) this x3
section
def CA (p:Value->Bool) (w:World) (g:Nat):Prop:=∀ i u,w.cell? ⟨g,i,none⟩=some u->p u=true
section
variable {P:Program} {p:Value->Bool} (w:World)
def CAv (p:Value->Bool) (w:World) (v:Value):Prop:=∀ g,v.ownBlock=some g->CA p w g
theorem CA.of_cells {p:Value->Bool} {w:World} {g:Nat} {cur:Array Value} {e:TypeId} (hg:w.heap[g]?=some (.cells cur e (0,0))) (h:∀ u ∈ cur.toList,p u=true):CA p w g:=by
 intro i u hc
 rw[um w g i cur e (0,0) hg] at hc
 exact h u (by rw[Array.mem_toList_iff];exact Array.mem_of_getElem? hc)
theorem CA.cells {w:World} {g:Nat} {cur:Array Value} {e:TypeId} (hg:w.heap[g]?=some (.cells cur e (0,0))) (h:CA p w g):∀ u ∈ cur.toList,p u=true:=by
 intro u hu
 rw[Array.mem_toList_iff] at hu
 obtain⟨i,hi,rfl⟩:=Array.mem_iff_getElem.1 hu
 exact h i _ (by rw[um w g i cur e (0,0) hg];exact wu hi)
theorem a2z {z:Array Value} (hz:∀ u ∈ z.toList,p u=true) (n:Nat):∀ u ∈ (Builtin.zeroCells z n).toList,p u=true:=by
 intro u hu
 rw[Array.mem_toList_iff] at hu
 obtain⟨i,hi,rfl⟩:=Array.mem_iff_getElem.1 hu
 simp only[Builtin.zeroCells,Array.size_map,Array.size_range] at hi
 simp only[Builtin.zeroCells,Array.getElem_map,Array.getElem_range]
 have hs:0<z.size:=by
  rcases qp z.size with h|h
  ·rw[h] at hi;simp at hi
  ·exact h
 have hlt:i%z.size<z.size:=qm _ hs
 rw[getElem!_pos z (i%z.size) hlt]
 exact hz _ (by rw[Array.mem_toList_iff];exact Array.getElem_mem hlt)
theorem JG (base:Nat) (t ty e:TypeId) (i:TypeInfo) (z:Value) (size bytes:Nat) (ht:P.underlying t=some (.slice e)) (hi:P.info? e=some i) (hz:i.zero=some z)
  (hsize:i.size=size) (hby:i.bytes=bytes) (hzs:z.cells.size=size) (hsz:0<size) (hzn:∀ u ∈ z.cells.toList,p u=true)
  (v:Value) (n:Nat) (xs:List Value) (hown:w.ownsRow base e size v n xs) (hv:CAv p w v)
  (a:Addr) (m c:Nat) (news:List Value) (hl:news.length=m*size) (hnews:∀ j u,news[j]?=some u->w.cell? (a.add j)=some u) (h1:∀ u ∈ news,u.oneCell'=true) (hnn:∀ u ∈ news,p u=true) (hm:0<m)
  (h63:n+m<=maxLen) (hbytes:(n+m)*bytes<=140737488355328) (hbase:base<=w.heap.size) :
  ∃ g cap w',(Builtin.append_ #[t,t] ty #[v,.slice (some a) m c]).run P w=.ok (.slice (some ⟨g,0,none⟩) (n+m) cap) w'/\w'.ownsRow base e size (.slice (some ⟨g,0,none⟩) (n+m) cap) (n+m) (xs++news)/\w.grownBy w' v.ownBlock/\CA p w' g/\(v.ownBlock=some g\/g=w.heap.size):=by
 obtain⟨v',w',hr,h2,h3,h4⟩:=run_append_own (P:=P) w base t ty e i z size bytes ht hi hz hsize hby hzs hsz v n xs hown a m c news hl hnews h1 h63 hbytes hbase
 subst hsize
 subst hby
 have hsmall:n+m<=9223372036854775807:=by simp only[maxLen] at h63;omega
 have hz0:=fun k=>a2z (z:=z.cells) hzn k
 rcases hown.2 with⟨rfl,rfl⟩|⟨g,cap,cur,rfl,hbg,hg,hnc,hcm,hcs,htake⟩
 ·have hrun:=run_append_nil (P:=P) w t ty e i z ht hi hz a m c news hl hnews hm (by omega) (by have hb:=hbytes;simp only[ou] at hb;omega)
  rw[hrun] at hr
  simp only[Result.ok.injEq] at hr
  obtain⟨rfl,rfl⟩:=hr
  refine⟨w.heap.size,_,_,by rw[ou];exact hrun,by simpa using h2,h3,?_,.inr rfl⟩
  refine CA.of_cells (Au w.drew _) (fun u hu=>?_)
  simp only[Array.toList_append,qA] at hu
  rcases hu with hu|hu
  ·exact hnn u hu
  ·exact hz0 _ u hu
 ·by_cases hroom:n+m<=cap
  ·have hfit:n*i.size+news.length<=cur.size:=by rw[hl,hcs,<-xg];exact jh _ hroom
   have hrun:=run_append_room (P:=P) w t ty e i ht hi g n cap cur hg a m c news hl hnews h1 hroom hfit
   rw[hrun] at hr
   simp only[Result.ok.injEq] at hr
   obtain⟨rfl,rfl⟩:=hr
   refine⟨g,cap,_,hrun,h2,h3,?_,.inl rfl⟩
   have hcn:=CA.cells hg (hv g rfl)
   refine CA.of_cells (setRow_heap w g cur _ e _ hg) (fun u hu=>?_)
   simp only[qA] at hu
   rcases hu with(hu|hu)|hu
   ·exact hcn u (Am hu)
   ·exact hnn u hu
   ·exact hcn u (List.mem_of_mem_drop hu)
  ·have holds:∀ j u,xs[j]?=some u->w.cell? ((⟨g,0,none⟩:Addr).add j)=some u:=hown.cells (g:=g) rfl
   have hrun:=run_append_grow (P:=P) w t ty e i z ht hi hz ⟨g,0,none⟩ n cap xs hown.1 holds a m c news hl hnews (by omega) (by omega) (growslice_fits (by omega) hbytes)
   rw[hrun] at hr
   simp only[Result.ok.injEq] at hr
   obtain⟨rfl,rfl⟩:=hr
   refine⟨w.heap.size,_,_,hrun,h2,h3,?_,.inr rfl⟩
   have hcn:=CA.cells hg (hv g rfl)
   refine CA.of_cells (Au w.drew _) (fun u hu=>?_)
   simp only[Array.toList_append,qA] at hu
   rcases hu with(hu|hu)|hu
   ·rw[<-htake] at hu;exact hcn u (Am hu)
   ·exact hnn u hu
   ·exact hz0 _ u hu
end
end
end Go.Proofs.YtgplhbhfdgempaaGreat
