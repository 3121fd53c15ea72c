/-
  Lemmas for the theorem vrelative28_holds, part 11 of 35.
-/
import Derived.Test.YtbkocjmmbkifjaaGreatQr10
namespace Go.Proofs.YtbkocjmmbkifjaaGreat
open Go Go.RowKit
theorem Az:type_of% @List.map_append:=@List.map_append
theorem Bo:type_of% @List.length_replicate:=@List.length_replicate
theorem wz:type_of% @List.range_succ:=@List.range_succ
theorem Ci:type_of% @List.not_mem_nil:=@List.not_mem_nil
section
set_option linter.unusedSimpArgs false
set_option linter.unusedVariables false
def CX (v:Nat):Res->Bool
 | .row _ _ _ v'=>gv v'==gv v
 | .fro _ _ v'=>gv v'==gv v
 | .mat _ _ _ _ _ v'=>gv v'==gv v
 | _=>false
theorem vS {v:Nat} {x:Res} (h:CX v x=true):Res.isRow v x:=by cases x<;>simp_all [CX,Res.isRow]
def b6C (P:Program) (t:TypeId):Bool:=sZ P t==some false&&(P.info? t).map (·.size)==some 1
def ownB (ρ:Nat->Res):K->Bool
 | .own r v=>CX v (ρ r)
 | _=>true
def c6w (r:Nat) (l:List (Nat × Res)):Bool:=l.all fun q=>q.1 != r
def setRow (r v i:Nat) (e:TypeId) (ty:Ty) (xs:List ty.den) (x:ty.den) (vc:List Cd) (l:List (Nat × Res)):MK:=some (([i<xs.length]:List Cd)++vc,.any,l++[(r,.row e ty (xs.set i x) v)])
def setPos (r v id i:Nat) (e e2:TypeId) (ty:Ty) (ids:Option (List Nat)) (xss:List (List ty.den)) (x:ty.den) (vc:List Cd) (l:List (Nat × Res)):MK:=some (([i<(rowAt xss id).length]:List Cd)++vc,.any,l++[(r,.mat e e2 ty ids (xss.set id ((rowAt xss id).set i x)) v)])
def b8N (r v id i:Nat) (e e2:TypeId) (ty:Ty) (ids:Option (List Nat)) (xss:List (List ty.den)):MK:=some ([i<aW ids xss],.any,[(r,.mat e e2 ty (some ((bW ids xss).set i id)) xss v)])
def b8M (r r2 v v2 i:Nat) (e e2:TypeId) (ty:Ty) (ids:Option (List Nat)) (xss:List (List ty.den)) (ys:List ty.den):MK:=some ([i<aW ids xss],.any,[(r,.mat e e2 ty (some ((bW ids xss).set i xss.length)) (xss++[ys]) v),(r2,.row e2 ty [] (nx v2))])
def a6O (r:Nat) (e:TypeId) (ty:Ty) (a b:Int):MK:=some ([a=b,0<=a,a<=1000000000],.own r 0,[(r,.row e ty (List.replicate a.toNat ty.zero) 0)])
def a6N (r:Nat) (e e2:TypeId) (ty:Ty) (a b:Int):MK:=some ([a=b,0<=a,a<=1000000000],.own r 0,[(r,.mat e e2 ty none (List.replicate a.toNat []) 0)])
def c5H (P:Program) (T:Told) (t:TypeId):Option Ty:=match P.underlying t with
 | some (.slice e)=>T.ty e
 | _=>none
def a1R (P:Program) (T:Told) (ρ:Nat->Res) (k:Operand->K) (d:Option Nat):Op->MK
 | .store t x y=>match k x with
  | .cell r v i=>match ρ r with
   | .row e ty xs v'=>match wR ρ (some ty) (k y) with
    | some (p,l)=>match kN p.t ty with
     | some q=>if gv v==gv v'&&fitsT P t ty&&c6w r l then setRow r v' i e ty xs (q.f p.x) (q.c p.x) l else none
     | none=>none
    | none=>none
   | .mat e e2 ty ids xss v'=>match k y with
    | .mrow r' vv id=>if r==r'&&gv v==gv v'&&vv==v'&&fitsT P t (.list ty) then b8N r v' id i e e2 ty ids xss else none
    | .own r2 v2=>match ρ r2 with
     | .row e2' ty' ys v2'=>match gK (.list ty') (.list ty) ys with
      | some zs=>if r2 != r&&gv v==gv v'&&gv v2==gv v2'&&e2'==e2&&fitsT P t (.list ty) then b8M r r2 v' v2' i e e2 ty ids xss zs else none
      | none=>none
     | _=>none
    | _=>none
   | _=>none
  | .mpos r v id i=>match ρ r with
   | .mat e e2 ty ids xss v'=>match wR ρ (some ty) (k y) with
    | some (p,l)=>match kN p.t ty with
     | some q=>if v==v'&&fitsT P t ty&&c6w r l then setPos r v id i e e2 ty ids xss (q.f p.x) (q.c p.x) l else none
     | none=>none
    | none=>none
   | _=>none
  | .mW r=>match ρ r with
   | .lG _=>if (k y).one&&ownB ρ (k y)&&b6C P t then some ([],.any,[(r,.lG (k y))]) else none
   | _=>none
  | _=>none
 | .makeSlice t n m=>match k n,k m,d with
  | .val (.int _) a,.val (.int _) b,some r=>match T.mt r with
   | some ty=>match sliceB P t (.list ty) 0 with
    | some e=>match sliceB P e ty 0 with
     | some e2=>if (ρ r).isNone&&ty.still&&FN P e&&a0q P e (.list ty) then a6N r e e2 ty a b else none
     | none=>none
    | none=>none
   | none=>match c5H P T t with
    | some ty=>match sliceB P t ty 0 with
     | some e=>if (ρ r).isNone&&ty.still&&FN P e&&a0q P e ty then a6O r e ty a b else none
     | none=>none
    | none=>none
  | _,_,_=>none
 | _=>none
section
variable {P:Program} {E:Env} {ρ:Nat->Res} {W w:World}
theorem a5V {a b:Ty} {q:Coe a b} (h:kN a b=some q) (cs:List Value):a.toV cs=b.toV cs:=by unfold Ty.toV;rw[xH _ _ _ h]
theorem a4V (z:Array Value) (s:Nat) (hs:z.size=s):∀ n,((Array.range (n*s)).map (fun q=>z[q%z.size]!)).toList=(List.replicate n z.toList).flatten:=by
 intro n;rw[Array.toList_map,Array.toList_range]
 induction n with
 | zero=>simp
 | succ n ih =>
  rw[Aa,List.range_add,Az,ih,List.replicate_succ',List.flatten_append];congr 1;simp only[List.flatten_cons,List.flatten_nil,Aj,List.map_map];apply List.ext_getElem?;intro j;rw[qo];by_cases hj:j<s
  ·rw[Ae hj];have hm:(n*s+j)%z.size=j:=by rw[hs,Fb,Nat.add_mul_mod_self_right,Ef hj]
   have hj2:j<z.size:=by omega
   simp only[Option.map_some,Function.comp,hm];rw[getElem!_pos z j hj2,Array.getElem?_toList,Ap hj2]
  ·rw[qm (by simpa using hj),qm (by rw[Array.length_toList];omega)];rfl
theorem run_make {t e:TypeId} {i:TypeInfo} {z:Value} {s n:Nat} {kl kc:IntKind} (h1:P.underlying t=some (.slice e)) (h2:P.info? e=some i) (h3:i.zero=some z) (h4:i.size=s) (h5:z.cells.size=s) (h6:0<s) (h7:i.bytes<=100000) (h8:n<=1000000000) :
  (Instr.makeSlice t (.int kl (n:Int)) (.int kc (n:Int))).run P w=.ok (.slice (some ⟨w.heap.size,0,none⟩) n n) (w.alloc (.cells ((List.replicate n z.cells.toList).flatten).toArray e)):=by
 have hb:i.bytes*n<=100000*1000000000:=uy h7 h8;have wl:IntKind.i64.wrap (n:Int)=n:=by rw[IntKind.wrap_i64];omega
 have n1:¬ ((n:Int)<0):=by omega
 have n2:¬ (281474976710656<(i.bytes:Int)*(n:Int)):=by rw[<-Int.natCast_mul];omega
 have n5:¬ (n*i.bytes > roomBytes):=by rw[vw];simp only[roomBytes];omega
 have key:((Array.range (n*s)).map (fun q=>(if n*s=0 then #[] else z.cells)[q%(if n*s=0 then #[] else z.cells).size]!))=((List.replicate n z.cells.toList).flatten).toArray:=by
  apply Dw;by_cases hz:n*s=0
  ·have hn0:n=0:=by
    rcases Nat.mul_eq_zero.1 hz with h|h
    ·exact h
    ·omega
   subst hn0;simp
  ·rw[bn hz];exact a4V z.cells s h5 n
 by_cases hz:n*s=0
 ·rw[dn hz] at key;simp[Instr.makeSlice,ku h1 w,eu,asInt,asIntOf,typeInfo,h2,wl,n1,n2,n5,askRoom,sizeOf,h4,hz,newRow];simp only[hz,Du] at key;simpa using qw (fun c=>w.alloc (.cells c e)) key
 ·rw[bn hz] at key;simp[Instr.makeSlice,ku h1 w,eu,asInt,asIntOf,typeInfo,h2,wl,n1,n2,n5,askRoom,sizeOf,h4,hz,zeroValue,h3,newRow];exact qw (fun c=>w.alloc (.cells c e)) key
theorem EX {o:Oper} {ev:Operand->Value} {t:TypeId} {ty:Ty} {x y:Operand} {b off:Nat} {ds:List Value} {F:Nat->Prop} {u:ty.den} (ho:o.op=.store t x y) (hf:fitsT P t ty=true) (hs:ty.still=true) (hx:ev x=.pointer (some ⟨b,off,none⟩)) (hy:ev y=ty.toV ds) (hc:w.there b off ds.length) (hr:rep F w ty ds u):(execOp ev o).run P w=.ok .skip (w.setCells b off ds):=by simp only[execOp,ho,eu,hx,hy,Instr.storeAt,Instr.sureAddr,Sem.run_pure,Result.andThen_ok];rw[zM hf hs hc hr];rfl
theorem ZL {t:Ty}:(Ty.list t).still=true:=rfl
theorem a8U {t:TypeId} (h:b6C P t=true):sZ P t=some false/\∃ i,P.info? t=some i/\i.size=1:=by
 unfold b6C at h;simp only[ay,jo] at h;refine⟨h.1,?_⟩;cases hi:P.info? t with
 | none=>rw[hi] at h;simp at h
 | some i=>rw[hi] at h;exact⟨i,rfl,by simpa using h.2⟩
theorem XB {t:TypeId} {b:Nat} {v:Value} (h:b6C P t=true) (hc:w.there b 0 1) (hok:dB v=true) (hcells:v.cells=#[v]):(storeVar t ⟨b,0,none⟩ v).run P w=.ok () (w.setCells b 0 [v]):=by obtain⟨_,i,hi,hn⟩:=a8U h;have hst:=run_storeCells_cells (P:=P) b 0 [v] 0 w (fun j hj=>by simpa using (hc j hj).1) (fun j hj=>by simpa using (hc j hj).2) (fun u hu=>by rw[mg.1 hu];simp only[dB,ay] at hok;exact hok.1);simp only[Nat.add_zero] at hst;unfold storeVar;rw[eu,run_sizeOf hi];simp[hcells,hn,hst]
theorem b2a {r b:Nat} {k k':K} {v:Value} (hM:Mem E ρ W w) (hr:ρ r=.lG k) (hb:E.blk r=some b) (ho:k'.one=true) (hok:dB v=true) (hw:k'.wf ρ) (hk:k'.holds E ρ w v) :
  ∃ E',Mem E' (bJ ρ r (.lG k')) W (w.setCells b 0 [v])/\Ext E ρ w E' (bJ ρ r (.lG k')) (w.setCells b 0 [v])/\w.there b 0 1:=by
 obtain⟨q1,q2,b',u,e,q3,q4,q5,q6⟩:=hM.kbx r k hr;rw[hb] at q3;cases q3;have hu:fF u=true:=by simp only[dB,ay] at q5;exact q5.2
 have hgo:=xP (E:=E) (S:=fun q=>q=r) (vs:=[v]) (o:=0) (cs:=[u]) (e:=e) rfl (show E.has r 0 b from hb) q4 (fun x hx=>by rw[mg.1 hx];exact hu);have hh:=jW b [v] 0 w [u] e q4 (by simp);have hcnt:(ρ r).cnt=0:=by rw[hr];rfl
 obtain⟨m1,m2⟩:=hM.GK (w':=w.setCells b 0 [v]) r hgo (some b) (E.sl r) (E.inn r) (.lG k') trivial (fun q hq=>.inl (by
   rcases hq with hq|⟨j,hq⟩
   ·cases hq;exact⟨0,hb⟩
   ·rw[hM.inner r j (by rw[hcnt];exact ru _)] at hq;cases hq)) (fun q j h1 h2=>by rw[hM.inner r j (by rw[hcnt];exact ru _)] at h2;cases h2) (fun j j' q h1 h2=>by rw[hM.inner r j (by rw[hcnt];exact ru _)] at h1;cases h1) (fun j hj=>hM.inner r j (by rw[hcnt];exact ru _))
  (fun h=>by rw[hr] at h;exact h.elim) (fun _=>⟨trivial,fun _=>⟨by rw[hr];trivial,hb.symm⟩⟩) (fun v' h=>by rw[hr] at h;exact h.elim) (fun v' h=>by rw[hr] at h;exact h.elim) (fun v' h=>by rw[hr] at h;exact h.elim) (fun hX k9 e9=>by
   cases e9;exact⟨hX.wf k' hw,ho,b,v,e,aF _ _ _,by simpa using hh,hok,hX.holds k' v hw hk⟩)
 refine⟨_,m1,m2,fun j hj=>⟨?_,by simp[World.frozen?,q4]⟩⟩;have:j=0:=by omega
 subst this;rw[yg _ _ _ _ _ _ q4];rfl
theorem OL {α:Type} {R:List Value->α->Prop} {c:List Value} {x:α} (h:R c x):∀ n,chunks R ((List.replicate n c).flatten) (List.replicate n x)
 | 0=>rfl
 | n+1=>⟨c,_,by rw[List.replicate_succ,List.flatten_cons],h,OL h n⟩
theorem IC {e:TypeId} {n m:Nat} {L:List Value} (hL:L.length=n*m) (hn:n<=1000000000) (hok:∀ u ∈ L,dB u=true) :
  Below w.heap.size w (w.alloc (.cells L.toArray e))/\(w.alloc (.cells L.toArray e)).ownsRow 0 e m (.slice (some ⟨w.heap.size,0,none⟩) n n) n L/\CAv dB (w.alloc (.cells L.toArray e)) (.slice (some ⟨w.heap.size,0,none⟩) n n):=by
 have hc:(w.alloc (.cells L.toArray e)).heap[w.heap.size]?=some (.cells L.toArray e (0,0)):=Dj w _;refine⟨(gy _ _).alloc (aj _) _,⟨hL,.inr ⟨w.heap.size,n,L.toArray,rfl,ru _,hc,aj _,by simp only[maxLen];omega,by simpa using hL,by rw[<-hL];simp⟩⟩,fun g hg=>?_⟩;cases hg;exact CA.of_cells hc (fun u hu=>hok u (by simpa using hu))
theorem b7G {T:Told} {k:Operand->K} {ev:Operand->Value} {o:Oper} {vc:List Cd} {kk:K} {l:List (Nat × Res)} (h:a1R P T ρ k o.dst o.op=some (vc,kk,l)) (hv:dH vc) (hM:Mem E ρ W w) (hw:∀ x,(k x).wf ρ) (hk:∀ x,(k x).holds E ρ w (ev x)):dV P E ρ W w o ev kk l:=by
 cases ho:o.op<;>rw[ho] at h<;>try (simp[a1R] at h;done)
 case store t x y =>
  simp only[a1R] at h;have hkx:=hk x;have hwx:=hw x;split at h<;>try(cases h;done)
  ·rename_i r v i hx;rw[hx] at hkx hwx;split at h<;>try(cases h;done)
   ·rename_i e ty xs v' hr;split at h<;>try(cases h;done)
    rename_i p l1 hat;split at h<;>try(cases h;done)
    rename_i q hq;split at h<;>try(cases h;done)
    rename_i hb;simp only[ay,jo] at hb;obtain⟨⟨hb1,hb2⟩,hb3⟩:=hb;simp only[setRow,ah,ak] at h;obtain⟨rfl,rfl,rfl⟩:=h;obtain⟨hi,hvq⟩:=hv;obtain⟨E1,m1,m2,cs,hyv,hyr⟩:=oC hat hM (hw y) (hk y);have hr1:after ρ l1 r=.row e ty xs v':=by rw[rZ l1 ρ r hb3];exact hr
    obtain⟨g,g1,g2⟩:=m2.holds _ _ hwx hkx (by rw[hr1];exact hb1.symm);rw[hr1] at g2;have b1F:=tX _ _ _ hq cs _ hyr hvq;obtain⟨n1,n2,n3,n4⟩:=b7h m1 hr1 g1 hi b1F;exact⟨.skip,undef,_,_,EX ho hb2 n4 g2 (by rw[hyv];exact a5V hq cs) n3 b1F,.inr ⟨rfl,rfl⟩,by rw[gG];exact n1,by rw[gG];exact m2.trans n2,trivial,trivial⟩
   ·rename_i e e2 ty ids xss v' hr;have JX:gv v=gv v'->∃ b,bK (E.sl r)=some b/\ev x=.pointer (some ⟨b,i*1,none⟩):=fun e1=>by have:=hkx (by rw[hr];exact e1.symm);rw[hr] at this;exact this
    split at h<;>try(cases h;done)
    ·rename_i r' vv id hy;split at h<;>try(cases h;done)
     rename_i hb;simp only[ay,jo] at hb;obtain⟨⟨⟨hb1,hb2⟩,hb3⟩,hb4⟩:=hb;subst hb1 hb3;simp only[b8N,ah,ak] at h;obtain⟨rfl,rfl,rfl⟩:=h;have hky:=hk y;have hwy:=hw y;rw[hy] at hky hwy;have hid:=hwy.2 (by rw[hr];rfl);rw[hr] at hid;obtain⟨g,g1,g2⟩:=JX hb2;have hyv:ev y=E.inn r id:=hky (by rw[hr];rfl);obtain⟨cs,q1,q2,_⟩:=nU hM hr hid;obtain⟨E',n1,n2,n3⟩:=c0l hM hr hid g1 hv.1;exact⟨.skip,undef,_,E',EX (ds:=[E.inn r id]) ho hb4 ZL g2 (by rw[hyv];rfl) n3 (a7a q1 q2),.inr ⟨rfl,rfl⟩,n1,n2,trivial,trivial⟩
    ·rename_i r2 v2 hy;split at h<;>try(cases h;done)
     rename_i e2' ty' ys v2' hr2;split at h<;>try(cases h;done)
     rename_i zs hcast;split at h<;>try(cases h;done)
     rename_i hb;simp only[ay,jo,Eu,ne_eq] at hb;obtain⟨⟨⟨⟨hb1,hb2⟩,hb3⟩,hb4⟩,hb5⟩:=hb;subst hb4;obtain⟨e9,hcast⟩:=dO hcast;simp only[Ty.list.injEq] at e9;subst e9;have hcast:ys=zs:=hcast;subst hcast;simp only[b8M,ah,ak] at h;obtain⟨rfl,rfl,rfl⟩:=h;have hky:=hk y;rw[hy] at hky;obtain⟨g,g1,g2⟩:=JX hb2;have hyv:ev y=E.sl r2:=hky (by rw[hr2];exact hb3.symm);have h2:=hM.res r2;rw[hr2] at h2;obtain⟨_,_,cs2,p3,p4,_⟩:=h2;obtain⟨E',n1,n2,n3⟩:=c0k hM hr hr2 hb1 g1 hv.1;exact⟨.skip,undef,_,E',EX (ds:=[E.sl r2]) ho hb5 ZL g2 (by rw[hyv];rfl) n3 (a7a p3 p4),.inr ⟨rfl,rfl⟩,n1,n2,trivial,trivial⟩
  ·rename_i r v id i hx;rw[hx] at hkx hwx;split at h<;>try(cases h;done)
   rename_i e e2 ty ids xss v' hr;split at h<;>try(cases h;done)
   rename_i p l1 hat;split at h<;>try(cases h;done)
   rename_i q hq;split at h<;>try(cases h;done)
   rename_i hb;simp only[ay,jo] at hb;obtain⟨⟨hb1,hb2⟩,hb3⟩:=hb;subst hb1;simp only[setPos,ah,ak] at h;obtain⟨rfl,rfl,rfl⟩:=h;obtain⟨hi,hvq⟩:=hv;obtain⟨E1,m1,m2,cs,hyv,hyr⟩:=oC hat hM (hw y) (hk y);have hr1:after ρ l1 r=.mat e e2 ty ids xss v:=by rw[rZ l1 ρ r hb3];exact hr
   obtain⟨g,g1,g2⟩:=m2.holds _ _ hwx hkx (by rw[hr1];rfl);rw[hr1] at g2;have hid:=(m2.wf _ hwx).2 (by rw[hr1];rfl);rw[hr1] at hid;have b1F:=tX _ _ _ hq cs _ hyr hvq;obtain⟨E',n1,n2,n3,n4⟩:=b6J m1 hr1 hid g1 hi b1F;exact⟨.skip,undef,_,E',EX ho hb2 n4 g2 (by rw[hyv];exact a5V hq cs) n3 b1F,.inr ⟨rfl,rfl⟩,by rw[gG];exact n1,by rw[gG];exact m2.trans n2,trivial,trivial⟩
  ·rename_i r hx;rw[hx] at hkx hwx;split at h<;>try(cases h;done)
   rename_i k9 hr;split at h<;>try(cases h;done)
   rename_i hb;simp only[ay] at hb;obtain⟨⟨hb1,hb2⟩,hb3⟩:=hb;simp only[ah,ak] at h;obtain⟨rfl,rfl,rfl⟩:=h;obtain⟨b,g1,g2⟩:=hkx (by rw[hr];trivial);obtain⟨hok,hcells⟩:=one_cell hb1 (hk y) (fun r' ver e=>by rw[e] at hb2;exact vS hb2) hM;obtain⟨E',n1,n2,n3⟩:=b2a hM hr g1 hb1 hok (hw y) (hk y);refine⟨.skip,undef,_,E',?_,.inr ⟨rfl,rfl⟩,n1,n2,trivial,trivial⟩;simp only[execOp,ho,eu,g2,Instr.storeAt,Instr.sureAddr,Sem.run_pure,Result.andThen_ok];rw[XB hb3 n3 hok hcells];rfl
 case makeSlice t n m =>
  simp only[a1R] at h;split at h<;>try(cases h;done)
  rename_i kn a kb b r hn hm hd;have hkn:=hk n;have hkm:=hk m;rw[hn] at hkn;rw[hm] at hkm;have hkn:=kT hkn;have hkm:=kT hkm;have hfew:∀ {e i},FN P e=true->P.info? e=some i->i.bytes<=100000:=fun {e i} h1 h2=>by unfold FN at h1;rw[h2] at h1;simpa using h1
  split at h<;>try(cases h;done)
  ·rename_i ty hty;split at h<;>try(cases h;done)
   rename_i e hsb;split at h<;>try(cases h;done)
   rename_i e2 c8O;split at h<;>try(cases h;done)
   rename_i hb;simp only[ay] at hb;obtain⟨⟨⟨hrn,hst⟩,hfw⟩,hz⟩:=hb;simp only[a6N,ah,ak] at h;obtain⟨rfl,rfl,rfl⟩:=h;obtain⟨hab,h0,hle,_⟩:=hv;subst hab;obtain⟨n9,rfl⟩:=uf h0;have hρ:=Res.mV hrn;obtain⟨u1,u2,u3,u4,_⟩:=jS hsb;obtain⟨i,z,c,z1,z2,z3,z4,z5⟩:=zG hz;simp only[Ty.zc,ah] at z3;subst z3;have hrun:=run_make (w:=w) (n:=n9) (kl:=kn) (kc:=kb) u1 z1 z2 z5 (by rw[<-Array.length_toList,z4];rfl) u4 (hfew hfw z1) (by omega);rw[z4] at hrun;have hLe:(List.replicate n9 [Value.slice none 0 0]).flatten=List.replicate n9 (Value.slice none 0 0):=by
    have:∀ m,(List.replicate m [Value.slice none 0 0]).flatten=List.replicate m (Value.slice none 0 0):=by
     intro m
     induction m with
     | zero=>rfl
     | succ m ih=>rw[List.replicate_succ,List.flatten_cons,ih,List.replicate_succ];rfl
    exact this n9
   obtain⟨w1,w2,w3⟩:=IC (w:=w) (e:=e) (n:=n9) (m:=1) (L:=(List.replicate n9 [Value.slice none 0 0]).flatten) (by rw[hLe];simp) (by omega) (fun u hu=>by
    rw[hLe] at hu;rw[(Em.1 hu).2];exact LD)
   have hsl:(E.sN r (some w.heap.size) (.slice (some ⟨w.heap.size,0,none⟩) n9 n9) (fun _=>.slice none 0 0)).sl r=.slice (some ⟨w.heap.size,0,none⟩) n9 n9:=aF _ _ _;have hin:(E.sN r (some w.heap.size) (.slice (some ⟨w.heap.size,0,none⟩) n9 n9) (fun _=>.slice none 0 0)).inn r=fun _=>.slice none 0 0:=aF _ _ _;have a4s:bW (α:=List ty.den) none (List.replicate n9 [])=List.range n9:=by simp[bW]
   obtain⟨m1,m2⟩:=hM.GK (w':=w.alloc (.cells ((List.replicate n9 [Value.slice none 0 0]).flatten).toArray e)) r (lH.below w1 _) (some w.heap.size) (.slice (some ⟨w.heap.size,0,none⟩) n9 n9) (fun _=>.slice none 0 0) (.mat e e2 ty none (List.replicate n9 []) 0)
    ⟨by rw[hsl];show bJ E.blk r _ r=_;rw[aF];rfl,hst,⟨_,by rw[hsl,a4s,jr];exact w2,by
     rw[hin,a4s,hLe];apply List.ext_getElem?;intro j;rw[qo,List.getElem?_replicate];by_cases hj:j<n9
     ·rw[Ae hj,dn hj];rfl
     ·rw[qm (by simpa using hj),bn hj];rfl,by rw[hsl];exact w3⟩,fun x hx=>by
     rw[a4s] at hx;simpa using hx,fun j _=>by rw[hin];rfl,fun j xs hj=>by
     rw[List.getElem?_replicate] at hj;split at hj<;>first|(cases hj;done)|skip
     simp only[ah] at hj;subst hj;exact⟨[],by rw[hin];exact Bg _ _ _ _,rfl,by rw[hin];intro g hg;cases hg⟩⟩ (fun q hq=>by
     rcases hq with hq|⟨j,hq⟩
     ·cases hq;exact .inr (aj _)
     ·cases hq) (fun q j _ hq=>by cases hq) (fun j j' q hq=>by cases hq) (fun j _=>rfl) (fun h=>by rw[hρ] at h;exact h.elim) (fun h=>by rw[hρ] at h;exact h.elim) (fun v h=>by rw[hρ] at h;exact h.elim) (fun v h=>by rw[hρ] at h;exact h.elim) (fun v h=>by rw[hρ] at h;exact h.elim) (fun _ k e=>by cases e)
   refine dV.of (s:=Instr.makeSlice t (ev n) (ev m)) (by simp only[execOp,ho]) ⟨_,_,_,by rw[hkn,hkm];exact hrun,m1,m2,?_,fun _=>hsl.symm⟩;show Res.dW 0 (bJ ρ r _ r);rw[aF];exact aj 0
  ·split at h<;>try(cases h;done)
   rename_i ty hty;split at h<;>try(cases h;done)
   rename_i e hsb;split at h<;>try(cases h;done)
   rename_i hb;simp only[ay] at hb;obtain⟨⟨⟨hrn,hst⟩,hfw⟩,hz⟩:=hb;simp only[a6O,ah,ak] at h;obtain⟨rfl,rfl,rfl⟩:=h;obtain⟨hab,h0,hle,_⟩:=hv;subst hab;obtain⟨n9,rfl⟩:=uf h0;have hρ:=Res.mV hrn;obtain⟨u1,u2,u3,u4,_⟩:=jS hsb;obtain⟨i,z,c,z1,z2,z3,z4,z5⟩:=zG hz;have hrc:∀ (F:Nat->Prop) (w:World),rep F w ty c ty.zero:=fun F w=>DR ty c z3;have hcl:c.length=ty.n:=dL _ _ _ (hrc (fun _=>True) w);have hrun:=run_make (w:=w) (n:=n9) (kl:=kn) (kc:=kb) u1 z1 z2 z5 (by rw[<-Array.length_toList,z4,hcl]) u4 (hfew hfw z1) (by omega);rw[z4] at hrun;have hch:∀ (F:Nat->Prop) (w:World),chunks (rep F w ty) ((List.replicate n9 c).flatten) (List.replicate n9 ty.zero):=fun F w=>OL (hrc F w) n9;obtain⟨w1,w2,w3⟩:=IC (w:=w) (e:=e) (n:=n9) (m:=ty.n) (L:=(List.replicate n9 c).flatten) (by
    have:=oL (fun c y=>dL ty c y) _ _ (hch (fun _=>True) w);rw[this,Bo]) (by omega) (a0H hst (hch (fun _=>True) w))
   have hsl:(E.put r (some w.heap.size) (.slice (some ⟨w.heap.size,0,none⟩) n9 n9)).sl r=.slice (some ⟨w.heap.size,0,none⟩) n9 n9:=aF _ _ _;obtain⟨m1,m2⟩:=hM.turn (w':=w.alloc (.cells ((List.replicate n9 c).flatten).toArray e)) r (lH.below w1 _) (some w.heap.size) (.slice (some ⟨w.heap.size,0,none⟩) n9 n9) (.row e ty (List.replicate n9 ty.zero) 0)
    ⟨by rw[hsl];show bJ E.blk r _ r=_;rw[aF];rfl,hst,_,by rw[hsl,Bo];exact w2,hch _ _,by rw[hsl];exact⟨w3,a3k _⟩⟩ (.inr (.inr rfl)) rfl (fun k e=>by cases e) (fun h=>by rw[hρ] at h;exact h.elim) (fun h=>by rw[hρ] at h;exact h.elim) (fun v h=>by rw[hρ] at h;exact h.elim) (fun v h=>by rw[hρ] at h;exact h.elim) (fun v h=>h.elim)
   refine dV.of (s:=Instr.makeSlice t (ev n) (ev m)) (by simp only[execOp,ho]) ⟨_,_,_,by rw[hkn,hkm];exact hrun,m1,m2,?_,fun _=>hsl.symm⟩;show Res.dW 0 (bJ ρ r _ r);rw[aF];exact aj 0
end
end
section
set_option linter.unusedSimpArgs false
set_option linter.unusedVariables false
def BD (ids:Option (List Nat)) (n:Nat):Option (List Nat):=match ids with
 | none=>none
 | some l=>some (l++[n])
def a0A (r r2 v v2:Nat) (e e2:TypeId) (ty:Ty) (ids:Option (List Nat)) (xss:List (List ty.den)) (zs:List ty.den):MK:=some ([aW ids xss+1<=1000000000],.own r (nx v),[(r,.mat e e2 ty (BD ids xss.length) (xss++[zs]) (nx v)),(r2,.row e2 ty [] (nx v2))])
def UO (P:Program) (T:Told) (ρ:Nat->Res) (k:Operand->K) (d:Option Nat):Op->MK
 | .buildSlice t len parts=>match len,parts.toList with
  | 2,[(0,x),(1,y)]=>match k x,k y with
   | .ptr r o,.ptr r' o'=>match sliceB P t (.list .unit) 2 with
    | some _=>some ([],.pls [.ptr r o,.ptr r' o'],[])
    | none=>none
   | _,_=>none
  | _,_=>match d with
   | some r=>match T.mt r with
    | some ty=>match sliceB P t (.list ty) 0 with
     | some e=>match sliceB P e ty 0 with
      | some e2=>match len,parts.toList with
       | 0,[]=>if (ρ r).isNone&&ty.still then some ([],.own r 0,[(r,.mat e e2 ty none [] 0)]) else none
       | 1,[(0,y)]=>match k y with
        | .own r2 v2=>match ρ r2 with
         | .row _ _ _ v2'=>if gv v2==gv v2'&&sliceB P t (.list ty) 1==some e then some ([],.sng r2 v2,[]) else none
         | _=>none
        | _=>none
       | _,_=>none
      | none=>none
     | none=>none
    | none=>none
   | none=>none
 | .call { callee:=.builtin .append,args:=xs,argTypes:=ts }=>match xs.toList,ts.toList with
  | [s,x],[t,t']=>if t=t' then (match k x with
   | .sng r2 v2=>match ρ r2 with
    | .row e2' ty' ys v2'=>match k s,d with
     | .own r v,_=>match ρ r with
      | .mat e e2 ty ids xss v'=>match gK (.list ty') (.list ty) ys with
       | some zs=>if r2 != r&&gv v==gv v'&&gv v2==gv v2'&&e2'==e2&&sliceB P t (.list ty) 0==some e&&FN P e&&XD P e 1 then a0A r r2 v' v2' e e2 ty ids xss zs else none
       | none=>none
      | _=>none
     | .nil,some r=>match sliceB P t (.list ty') 0 with
      | some e=>if r2 != r&&gv v2==gv v2'&&(ρ r).isNone&&FN P e&&XD P e 1 then a0A r r2 0 v2' e e2' ty' none [] ys else none
      | none=>none
     | _,_=>none
    | _=>none
   | _=>none) else none
  | _,_=>none
 | _=>none
section
variable {P:Program} {E:Env} {ρ:Nat->Res} {W w:World}
theorem MV {α:Type} (ids:Option (List Nat)) (xss:List α) (y:α):bW (BD ids xss.length) (xss++[y])=bW ids xss++[xss.length]:=by
 cases ids with
 | none=>simp[BD,bW,wz]
 | some l=>rfl
theorem a6F {e e2 t:TypeId} {ty:Ty} {ids:Option (List Nat)} {xss:List (List ty.den)} {ys:List ty.den} {r r2 v v2 b:Nat} {s:Value} {cs0:List Value} {T0:TypeId} (hM:Mem E ρ W w)
  (hb:sliceB P t (.list ty) 0=some e) (hfew:FN P e=true) (hz:XD P e 1=true) (hne:r2≠r)
  (hr2:ρ r2=.row e2 ty ys v2) (hrv:ρ r=.none\/ρ r=.mat e e2 ty ids xss v)
  (k1:E.blk r=bK s) (k3:w.ownsRow 0 e 1 s (bW ids xss).length cs0) (k4:cs0=(bW ids xss).map (E.inn r)) (k5:CAv dB w s) (k6:∀ i ∈ bW ids xss,i<xss.length) (k7:∀ i,xss.length<=i->bK (E.inn r i)=none)
  (k8:∀ i xs,xss[i]?=some xs->∃ cs,w.ownsRow 0 e2 ty.n (E.inn r i) xs.length cs/\chunks (rep (fz w E) w ty) cs xs/\CAv dB w (E.inn r i))
  (hbF:fz w E b) (hbr:w.rangeAt b 0 [E.sl r2]) (hlen:aW ids xss+1<=1000000000) :
  ∃ s' w' E',(Builtin.append_ #[t,t] T0 #[s,.slice (some ⟨b,0,none⟩) 1 1]).run P w=.ok s' w'/\Mem E' (bJ (bJ ρ r (.mat e e2 ty (BD ids xss.length) (xss++[ys]) (nx v))) r2 (.row e2 ty [] (nx v2))) W w'/\Ext E ρ w E' (bJ (bJ ρ r (.mat e e2 ty (BD ids xss.length) (xss++[ys]) (nx v))) r2 (.row e2 ty [] (nx v2))) w'/\s'=E'.sl r:=by
 obtain⟨h1,h2,h3,h4,i,z,h5,h6,h7⟩:=jS hb;have h7:i.size=1:=h7;have hzk:(∀ u ∈ z.cells.toList,dB u=true)/\z.cells.size=1:=by unfold XD at hz;rw[h5] at hz;simp only[h6,ay,zh,jo] at hz;exact hz
 have a2L:i.bytes<=100000:=by unfold FN at hfew;rw[h5] at hfew;simpa using hfew
 rw[<-AL] at hlen;have q2:=hM.res r2;rw[hr2] at q2;obtain⟨p1,p2,cs2,p3,p4,p5,_⟩:=q2;obtain⟨sp,sc,hsl2⟩:=rC p3;have hok2:dB (E.sl r2)=true:=by rw[hsl2];exact LD
 have hbytes:((bW ids xss).length+1)*i.bytes<=140737488355328:=by have h9:((bW ids xss).length+1)*i.bytes<=1000000000*100000:=uy hlen a2L;omega
 obtain⟨g,cap',w',hrun,a1,a2,a3,a4⟩:=GI (P:=P) (p:=dB) w 0 t T0 e i z 1 i.bytes h1 h5 h6 h7 rfl hzk.2 (by omega) hzk.1 s (bW ids xss).length cs0 k3 k5 ⟨b,0,none⟩ 1 1 [E.sl r2] rfl (fun j u hu=>by
   have:=hbr j u hu;rw[Ba];exact this) (fun u hu=>by
   rw[mg.1 hu];simp only[dB,ay] at hok2;exact hok2.1) (fun u hu=>by rw[mg.1 hu];exact hok2) (by omega) (by simp only[maxLen];omega) hbytes (ru _)
 have hcnt:(ρ r).cnt<=xss.length:=by
  rcases hrv with h|h
  ·rw[h];exact ru _
  ·rw[h];exact aj _
 have hgo:lH E w w' (fun q=>q=r\/q=r2):=⟨a2.os,a2.tape,a2.output,a2.size,fun q hq hn=>a2.block q hq (fun e9=>hn r 0 (.inl rfl) (by show E.blk r=some q;rw[k1,mM,<-e9])),fun q o' n hc=>by
  by_cases e9:s.ownBlock=some q
  ·have:=k5 q e9 _ _ hc;simp[dB,fF] at this
  ·rw[<-hc];exact Dz (w:=w) (a2.block q (cell_lt hc) (fun e8=>e9 e8.symm))⟩
 have hg:E.has r 0 g\/w.heap.size<=g:=by
  rcases a4 with h|h
  ·exact .inl (by show E.blk r=some g;rw[k1,mM];exact h)
  ·exact .inr (by omega)
 let s':Value:=.slice (some ⟨g,0,none⟩) ((bW ids xss).length+1) cap'
 let E':Env:=(E.sN r (some g) s' (bJ (E.inn r) xss.length (E.sl r2))).put r2 none (.slice none 0 0)
 let ρ':=bJ (bJ ρ r (.mat e e2 ty (BD ids xss.length) (xss++[ys]) (nx v))) r2 (.row e2 ty [] (nx v2))
 have hnr:r≠r2:=fun e=>hne e.symm;have a2K:E'.blk r=some g:=by show bJ (bJ E.blk r _) r2 _ r=_;rw[aS _ _ hnr,aF]
 have a0W:E'.sl r=s':=by show bJ (bJ E.sl r _) r2 _ r=_;rw[aS _ _ hnr,aF]
 have zL:E'.inn r=bJ (E.inn r) xss.length (E.sl r2):=by show bJ (bJ E.inn r _) r2 _ r=_;rw[aS _ _ hnr,aF]
 have a0:E'.blk r2=none:=aF _ _ _;have TT:E'.sl r2=.slice none 0 0:=aF _ _ _;have b0:E'.inn r2=fun _=>undef:=aF _ _ _;have hE:∀ q,¬ (q=r\/q=r2)->E'.blk q=E.blk q/\E'.sl q=E.sl q/\E'.inn q=E.inn q/\ρ' q=ρ q:=fun q hq=>by have n1:q≠r:=fun e=>hq (.inl e);have n2:q≠r2:=fun e=>hq (.inr e);exact⟨(aS _ _ n2).trans (aS _ _ n1),(aS _ _ n2).trans (aS _ _ n1),(aS _ _ n2).trans (aS _ _ n1),(aS _ _ n2).trans (aS _ _ n1)⟩
 have a1a:∀ j b,¬ E'.has r2 j b:=fun j b hh=>by
  cases j with
  | zero=>have hh:E'.blk r2=some b:=hh;rw[a0] at hh;cases hh
  | succ j=>have hh:bK (E'.inn r2 j)=some b:=hh;rw[b0] at hh;cases hh
 have hmap:∀ j b,E'.has r j b->(j=0/\b=g)\/(j=xss.length+1/\E.has r2 0 b)\/(j≠0/\j≠xss.length+1/\E.has r j b):=fun j b hh=>by
  cases j with
  | zero=>have hh:E'.blk r=some b:=hh;rw[a2K] at hh;cases hh;exact .inl ⟨rfl,rfl⟩
  | succ j =>
   have hh:bK (E'.inn r j)=some b:=hh;rw[zL] at hh;by_cases ej:j=xss.length
   ·subst ej;rw[aF] at hh;exact .inr (.inl ⟨rfl,p1.trans hh⟩)
   ·rw[aS _ _ ej] at hh;exact .inr (.inr ⟨by omega,by omega,hh⟩)
 have hF:∀ q,fz w E q->fz w' E' q:=vG (S:=fun q=>q=r\/q=r2) hgo.size rfl (fun q hq=>⟨(hE q hq).1,(hE q hq).2.2.1⟩) (fun r' j q e hh=>by
  rcases e with rfl|rfl
  ·rcases hmap j q hh with⟨_,rfl⟩|⟨_,h⟩|⟨_,_,h⟩
   ·exact hg.imp (fun h=>⟨_,_,h⟩) id
   ·exact .inl ⟨_,_,h⟩
   ·exact .inl ⟨_,_,h⟩
  ·exact(a1a j q hh).elim)
 have hnb:∀ r' j q,E.has r' j q->(r'≠r\/j≠0)->w'.heap[q]?=w.heap[q]?:=fun r' j q hh hj=>a2.block q (hM.lt hh) (fun e9=>by
  have h0:E.has r 0 q:=by show E.blk r=some q;rw[k1,mM,<-e9]
  have:=hM.inj _ _ _ _ _ hh h0;rcases hj with hj|hj
  ·exact hj this.1
  ·exact hj this.2)
 have MS:ρ' r=.mat e e2 ty (BD ids xss.length) (xss++[ys]) (nx v):=(aS _ _ hnr).trans (aF _ _ _);have AZ:ρ' r2=.row e2 ty [] (nx v2):=aF _ _ _;have hx:nD E' w' r (.mat e e2 ty (BD ids xss.length) (xss++[ys]) (nx v)):=by
  refine⟨by rw[a0W,a2K];rfl,p2,⟨cs0++[E.sl r2],?_,?_,by rw[a0W];intro g' hg';cases hg';exact a3⟩,fun x hx=>?_,fun j hj=>?_,fun j zs hj=>?_⟩
  ·rw[a0W,MV,dh];exact a1
  ·rw[zL,k4,MV,Az,yw,List.map_nil,aF];congr 1;refine og (fun x hx=>?_);have:=k6 x hx;rw[aS _ _ (by omega)]
  ·rw[MV] at hx;rw[dh];rcases tu.1 hx with hx|hx
   ·have:=k6 x hx;simp;omega
   ·rw[mg.1 hx];simp
  ·rw[dh,List.length_singleton] at hj;rw[zL,aS _ _ (by omega)];exact k7 j (by omega)
  ·rw[zL];by_cases ej:j=xss.length
   ·subst ej;rw[List.getElem?_append_right (aj _),Nat.sub_self] at hj;cases hj;rw[aF];have hb1:∀ b,bK (E.sl r2)=some b->w'.heap[b]?=w.heap[b]?:=fun b hb=>hnb r2 0 b (p1.trans hb) (.inl hne);exact⟨cs2,dU p3 hb1,aZ (fun c y=>bY hF hgo.stay ty c y) _ _ p4,jM p5 hb1⟩
   ·have hj2:xss[j]?=some zs:=by
     by_cases hjl:j<xss.length
     ·rwa [Ak hjl] at hj
     ·rw[qm (by rw[dh,List.length_singleton];omega)] at hj;cases hj
    rw[aS _ _ ej];obtain⟨cs9,r1,r2,r3⟩:=k8 j zs hj2;have hb1:∀ b,bK (E.inn r j)=some b->w'.heap[b]?=w.heap[b]?:=fun b hb=>hnb r (j+1) b hb (.inr (by omega));exact⟨cs9,dU r1 hb1,aZ (fun c y=>bY hF hgo.stay ty c y) _ _ r2,jM r3 hb1⟩
 have hx2:nD E' w' r2 (.row e2 ty [] (nx v2)):=⟨by rw[a0,TT];rfl,p2,[],by rw[TT];exact Bg _ _ _ _,rfl,by rw[TT];exact⟨fun g hg=>(by cases hg),a6Q _ _⟩⟩;have hgl:∀ j b,j≠0->E.has r j b->b≠g:=fun j b hj hh e9=>by
  subst e9;rcases hg with h|h
  ·exact hj (hM.inj _ _ _ _ _ hh h).2
  ·have:=hM.lt hh;omega
 have c6a:∀ b,E.has r2 0 b->b≠g:=fun b hh e9=>by
  subst e9;rcases hg with h|h
  ·exact hne (hM.inj _ _ _ _ _ hh h).1
  ·have:=hM.lt hh;omega
 obtain⟨m1,m2⟩:=hM.turns (E':=E') (ρ':=ρ') (w':=w') (fun q=>q=r\/q=r2) hgo hE rfl rfl rfl (fun r' j b e hh=>by
   rcases e with rfl|rfl
   ·rcases hmap j b hh with⟨_,rfl⟩|⟨_,h⟩|⟨_,_,h⟩
    ·exact hg.imp (fun h=>⟨_,_,.inl rfl,h⟩) id
    ·exact .inl ⟨_,_,.inr rfl,h⟩
    ·exact .inl ⟨_,_,.inl rfl,h⟩
   ·exact(a1a j b hh).elim) (fun r' j r'' j' b e' e'' hh hh'=>by
   rcases e' with rfl|rfl
   ·rcases e'' with rfl|rfl
    ·refine⟨rfl,?_⟩;rcases hmap j b hh with⟨q1,q2⟩|⟨q1,q2⟩|⟨q1,q0,q2⟩<;>rcases hmap j' b hh' with⟨q3,q4⟩|⟨q3,q4⟩|⟨q3,q5,q4⟩
     ·omega
     ·exact absurd q2 (c6a _ q4)
     ·exact absurd q2 (hgl _ _ q3 q4)
     ·exact absurd q4 (c6a _ q2)
     ·omega
     ·exact absurd (hM.inj _ _ _ _ _ q2 q4).1 hne
     ·exact absurd q4 (hgl _ _ q1 q2)
     ·exact absurd (hM.inj _ _ _ _ _ q4 q2).1 hne
     ·exact(hM.inj _ _ _ _ _ q2 q4).2
    ·exact(a1a j' b hh').elim
   ·exact(a1a j b hh).elim) (fun r' i' e' hc=>by
   rcases e' with rfl|rfl
   ·rw[MS] at hc;have hc:(xss++[ys]).length<=i':=hc;rw[dh,List.length_singleton] at hc;rw[zL,aS _ _ (by omega)];exact k7 i' (by omega)
   ·rw[b0];rfl) (fun r' e' h=>by
   rcases e' with rfl|rfl
   ·rcases hrv with h9|h9<;>(rw[h9] at h;exact h.elim)
   ·rw[hr2] at h;exact h.elim) (fun r' e' h=>by
   rcases e' with rfl|rfl
   ·rcases hrv with h9|h9<;>(rw[h9] at h;exact h.elim)
   ·rw[hr2] at h;exact h.elim) (fun r' v' e' h=>by
   rcases e' with rfl|rfl
   ·rw[MS];rcases hrv with h9|h9
    ·rw[h9] at h;exact h.elim
    ·rw[h9] at h;exact au h (a2Y _)
   ·rw[hr2] at h;rw[AZ];exact au h (a2Y _)) (fun r' v' e' h h'=>by
   rcases e' with rfl|rfl
   ·rw[MS] at h';have h':gv (nx v)=gv v':=h';rcases hrv with h9|h9
    ·rw[h9] at h;exact h.elim
    ·rw[h9] at h;have h:v'<=v:=h;have:=JW h;have:=YP v;omega
   ·rw[hr2] at h;rw[AZ] at h';have h:v'<=v2:=h;have h':gv (nx v2)=gv v':=h';have:=JW h;have:=YP v2;omega) (fun r' v' e' h h'=>by
   rcases e' with rfl|rfl
   ·rw[MS] at h';have h':nx v=v':=h';rcases hrv with h9|h9
    ·rw[h9] at h;exact h.elim
    ·rw[h9] at h;have h:v'<=v:=h;have:=JW h;have:=YP v;rw[<-h'] at h;have:=JW h;omega
   ·rw[AZ] at h';exact h'.elim) (fun r' e'=>by
   rcases e' with rfl|rfl
   ·rw[MS];exact hx
   ·rw[AZ];exact hx2) (fun _ r' k e' h=>by
   rcases e' with rfl|rfl
   ·rw[MS] at h;cases h
   ·rw[AZ] at h;cases h)
 exact⟨s',w',E',hrun,m1,m2,a0W.symm⟩
theorem b5W {T:Told} {k:Operand->K} {ev:Operand->Value} {o:Oper} {vc:List Cd} {kk:K} {l:List (Nat × Res)} (h:UO P T ρ k o.dst o.op=some (vc,kk,l)) (hv:dH vc) (hM:Mem E ρ W w) (hw:∀ x,(k x).wf ρ) (hk:∀ x,(k x).holds E ρ w (ev x)):dV P E ρ W w o ev kk l:=by
 cases ho:o.op<;>rw[ho] at h<;>try (simp[UO] at h;done)
 case buildSlice t len parts =>
  simp only[UO] at h;split at h
  ·rename_i x y hp;have hp:parts=#[(0,x),(1,y)]:=by apply Dw;simpa using hp
   subst hp;split at h<;>try(cases h;done)
   rename_i r o r' o' hx hy;split at h<;>try(cases h;done)
   rename_i e he;simp only[ah,ak] at h;obtain⟨_,rfl,rfl⟩:=h;have hkx:=hk x;have hky:=hk y;have hwx:=hw x;have hwy:=hw y;rw[hx] at hkx hwx;rw[hy] at hky hwy;obtain⟨b1,g1,e1⟩:=hkx;obtain⟨b2,g2,e2⟩:=hky;have hrun:=run_buildSlice (P:=P) (w:=w) (t:=t) (ty:=.list .unit) (xs:=[]) (vs:=[ev x,ev y]) (ps:=[]) (n:=2) he rfl (.cons ⟨by simp,by rw[e1];rfl⟩ (.cons ⟨by simp,by rw[e2];rfl⟩ .nil));have hL:(List.map (fun v=>Value.cells v |>.toList) [ev x,ev y]).flatten=[ev x,ev y]:=by rw[e1,e2];rfl
   rw[hL] at hrun;have hb:Below w.heap.size w (w.alloc (.cells [ev x,ev y].toArray e)):=(gy _ _).alloc (aj _) _;have hcell:(w.alloc (.cells [ev x,ev y].toArray e)).heap[w.heap.size]?=some (.cells [ev x,ev y].toArray e (0,0)):=Dj w _;obtain⟨m1,m2⟩:=hM.grows hb;refine dV.of (s:=Instr.buildSlice t 2 #[(0,ev x),(1,ev y)]) (by simp[execOp,ho]) ⟨_,_,E,hrun,m1,m2,?_,w.heap.size,[ev x,ev y],rfl,sH (by simp) (hM.base _ (.inr hM.below.size)) (fun r' j hh=>by have:=hM.lt hh;omega),fun j u hu=>?_,ev x,[ev y],rfl,⟨b1,g1,e1⟩,ev y,[],rfl,⟨b2,g2,e2⟩,rfl⟩
   ·intro k hk;simp only[jh,Ci,or_false] at hk;rcases hk with rfl|rfl
    ·exact hwx
    ·exact hwy
   ·rw[qg,yg _ _ _ _ _ _ hcell];simpa using hu
  split at h<;>try(cases h;done)
  rename_i r hd;split at h<;>try(cases h;done)
  rename_i ty hty;split at h<;>try(cases h;done)
  rename_i e hsb;split at h<;>try(cases h;done)
  rename_i e2 c8O;split at h<;>try(cases h;done)
  ·rename_i hp _;have hp:parts=#[]:=by apply Dw;simpa using hp
   subst hp;split at h<;>try(cases h;done)
   rename_i hc;simp only[ay] at hc;simp only[ah,ak] at h;obtain⟨_,rfl,rfl⟩:=h;have hρ:=Res.mV hc.1;have hrun:=run_buildSlice (P:=P) (w:=w) (t:=t) (ty:=.list ty) (xs:=[]) (vs:=[]) (ps:=[]) (n:=0) hsb rfl .nil;obtain⟨w1,w2,w3⟩:=IC (w:=w) (e:=e) (n:=0) (m:=1) (L:=[]) rfl (by omega) (fun u hu=>by cases hu);have hsl:(E.sN r (some w.heap.size) (.slice (some ⟨w.heap.size,0,none⟩) 0 0) (fun _=>undef)).sl r=.slice (some ⟨w.heap.size,0,none⟩) 0 0:=aF _ _ _;have hin:(E.sN r (some w.heap.size) (.slice (some ⟨w.heap.size,0,none⟩) 0 0) (fun _=>undef)).inn r=fun _=>undef:=aF _ _ _;obtain⟨m1,m2⟩:=hM.GK (w':=w.alloc (.cells ([]:List Value).toArray e)) r (lH.below w1 _) (some w.heap.size) (.slice (some ⟨w.heap.size,0,none⟩) 0 0) (fun _=>undef) (.mat e e2 ty none [] 0)
    ⟨by rw[hsl];show bJ E.blk r _ r=_;rw[aF];rfl,hc.2,⟨[],by rw[hsl];exact w2,rfl,by rw[hsl];exact w3⟩,fun x hx=>by simp[bW] at hx,fun j _=>by rw[hin];rfl,fun j xs hj=>by simp at hj⟩ (fun q hq=>by
     rcases hq with hq|⟨j,hq⟩
     ·cases hq;exact .inr (aj _)
     ·cases hq) (fun q j _ hq=>by cases hq) (fun j j' q hq=>by cases hq) (fun j _=>rfl) (fun h=>by rw[hρ] at h;exact h.elim) (fun h=>by rw[hρ] at h;exact h.elim) (fun v h=>by rw[hρ] at h;exact h.elim) (fun v h=>by rw[hρ] at h;exact h.elim) (fun v h=>by rw[hρ] at h;exact h.elim) (fun _ k e=>by cases e)
   refine dV.of (s:=Instr.buildSlice t 0 #[]) (by simp[execOp,ho]) ⟨_,_,_,hrun,m1,m2,?_,fun _=>hsl.symm⟩;show Res.dW 0 (bJ ρ r _ r);rw[aF];exact aj 0
  ·rename_i y hp _;have hp:parts=#[(0,y)]:=by apply Dw;simpa using hp
   subst hp;split at h<;>try(cases h;done)
   rename_i r2 v2 hy;split at h<;>try(cases h;done)
   rename_i e9 t9 xs9 v9 hr2;split at h<;>try(cases h;done)
   rename_i hc;simp only[ay,jo] at hc;obtain⟨hv9,c8N⟩:=hc;simp only[ah,ak] at h;obtain⟨_,rfl,rfl⟩:=h;have hky:=hk y;have hwy:=hw y;rw[hy] at hky hwy;have hyv:ev y=E.sl r2:=hky (by rw[hr2];exact hv9.symm);have h2:=hM.res r2;rw[hr2] at h2;obtain⟨_,_,cs2,p3,p4,_⟩:=h2;obtain⟨sp,sc,hsl2⟩:=rC p3;have hcells:(ev y).cells.toList=[E.sl r2]:=by rw[hyv,hsl2];rfl
   have hrun:=run_buildSlice (P:=P) (w:=w) (t:=t) (ty:=.list ty) (xs:=[]) (vs:=[ev y]) (ps:=[]) (n:=1) c8N rfl (.cons ⟨by simp,by show (ev y).cells.toList.length=1;rw[hcells];rfl⟩ .nil);have hL:(List.map (fun v=>Value.cells v |>.toList) [ev y]).flatten=[E.sl r2]:=by simp[hcells]
   rw[hL] at hrun;have hb:Below w.heap.size w (w.alloc (.cells [E.sl r2].toArray e)):=(gy _ _).alloc (aj _) _;have hcell:(w.alloc (.cells [E.sl r2].toArray e)).heap[w.heap.size]?=some (.cells [E.sl r2].toArray e (0,0)):=Dj w _;obtain⟨m1,m2⟩:=hM.grows hb;refine dV.of (s:=Instr.buildSlice t 1 #[(0,ev y)]) (by simp[execOp,ho]) ⟨_,_,E,hrun,m1,m2,hwy,fun _=>⟨w.heap.size,rfl,sH (by simp) (hM.base _ (.inr hM.below.size)) (fun r' j hh=>by have:=hM.lt hh;omega),fun j u hu=>?_⟩⟩;rw[qg,yg _ _ _ _ _ _ hcell];simpa using hu
 case call c =>
  obtain⟨cl,xs,ts⟩:=c;cases cl<;>try (simp[UO] at h;done)
  rename_i bi;cases bi<;>try (simp[UO] at h;done)
  simp only[UO] at h;split at h<;>try(cases h;done)
  rename_i s x t t' hxs hts;have exs:xs=#[s,x]:=by rw[<-Array.toArray_toList (xs:=xs),hxs]
  have ets:ts=#[t,t']:=by rw[<-Array.toArray_toList (xs:=ts),hts]
  subst exs ets;split at h<;>try(cases h;done)
  rename_i htt;subst htt;split at h<;>try(cases h;done)
  rename_i r2 v2 hx;split at h<;>try(cases h;done)
  rename_i e2' ty' ys v2' hr2;have hkx:=hk x;rw[hx] at hkx;split at h<;>try(cases h;done)
  ·rename_i _ r v hs;have hks:=hk s;rw[hs] at hks;split at h<;>try(cases h;done)
   rename_i e e2 ty ids xss v' hr;split at h<;>try(cases h;done)
   rename_i zs hcast;split at h<;>try(cases h;done)
   rename_i hc;simp only[ay,jo,Eu,ne_eq] at hc;obtain⟨⟨⟨⟨⟨⟨c1,c2⟩,c3⟩,c4⟩,c5⟩,c6⟩,c7⟩:=hc;subst c4;obtain⟨e9,hcast⟩:=dO hcast;simp only[Ty.list.injEq] at e9;subst e9;have hcast:ys=zs:=hcast;subst hcast;simp only[a0A,ah,ak] at h;obtain⟨rfl,rfl,rfl⟩:=h;obtain⟨b,hxv,hbF,hbr⟩:=hkx (by rw[hr2];exact c3.symm);have hsv:ev s=E.sl r:=hks (by rw[hr];exact c2.symm);have h1:=hM.res r;rw[hr] at h1;obtain⟨k1,k2,⟨cs0,k3,k4,k5⟩,k6,k7,k8⟩:=h1;obtain⟨s',w',E',g1,g2,g3,g4⟩:=a6F (T0:=o.type) hM c5 c6 c7 c1 hr2 (.inr hr) k1 k3 k4 k5 k6 k7 k8 hbF hbr hv.1;refine dV.of (kS ho) ⟨s',w',E',by rw[hsv,hxv];exact g1,g2,g3,?_,fun _=>g4⟩;show Res.dW (nx v') (bJ (bJ ρ r _) r2 _ r);rw[aS _ _ (fun e=>c1 e.symm),aF];exact aj _
  ·rename_i r hs hd;have hks:=hk s;rw[hs] at hks;split at h<;>try(cases h;done)
   rename_i e hsb;split at h<;>try(cases h;done)
   rename_i hc;simp only[ay,jo,Eu,ne_eq] at hc;obtain⟨⟨⟨⟨c1,c3⟩,c4⟩,c6⟩,c7⟩:=hc;simp only[a0A,ah,ak] at h;obtain⟨rfl,rfl,rfl⟩:=h;obtain⟨b,hxv,hbF,hbr⟩:=hkx (by rw[hr2];exact c3.symm);have hsv:ev s=.slice none 0 0:=hks;have hr:=Res.mV c4;have h1:=hM.res r;rw[hr] at h1;obtain⟨s',w',E',g1,g2,g3,g4⟩:=a6F (T0:=o.type) (ids:=none) (xss:=[]) (v:=0) (s:=.slice none 0 0) (cs0:=[]) hM hsb c6 c7 c1 hr2 (.inl hr) h1 (Bg w _ _ _) rfl (fun g hg=>by cases hg) (fun i hi=>by simp[bW] at hi) (fun i _=>hM.inner r i (by rw[hr];exact ru _)) (fun i xs hi=>by simp at hi) hbF hbr hv.1;refine dV.of (kS ho) ⟨s',w',E',by rw[hsv,hxv];exact g1,g2,g3,?_,fun _=>g4⟩;show Res.dW (nx 0) (bJ (bJ ρ r _) r2 _ r);rw[aS _ _ (fun e=>c1 e.symm),aF];exact aj _
end
end
end Go.Proofs.YtbkocjmmbkifjaaGreat
