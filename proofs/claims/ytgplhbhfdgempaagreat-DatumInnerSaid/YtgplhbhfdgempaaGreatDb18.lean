/-
  Lemmas for the statements about datums, part 18 of 37.
-/
import Derived.Test.YtgplhbhfdgempaaGreatDb17
namespace Go.Proofs.YtgplhbhfdgempaaGreat
open Go Go.RowKit
theorem uf:type_of% @List.mem_append_left:=@List.mem_append_left
theorem yh:type_of% @List.mem_append_right:=@List.mem_append_right
theorem xq:type_of% @List.mem_flatMap:=@List.mem_flatMap
theorem qZ:type_of% @Bool.or_eq_true:=@Bool.or_eq_true
section
set_option linter.unusedSimpArgs false
set_option linter.unusedVariables false
set_option maxRecDepth 20000
theorem a9T {P:Program} {md:Region.Mode} {ops:Array Oper} {Q:Exit->Act->World->Prop} (I:Array Bool->Act->World->Prop) (hd:vJ md ops=true)
  (hend:∀ L a w,I L a w->(∀ i,i<ops.size->L.getD i true=true)->Q .normal a w)
  (hstep:∀ L a w i o,I L a w->ops[i]?=some o->L.getD i true=false->(∀ e ∈ o.after,Region.binds md e=true->L.getD e.on false=true)->wpOp P ops Q i (I (L.setIfInBounds i true)) a w) :
  ∀ fuel L a w,KT L<=fuel->I L a w->wpAny P md ops Q fuel L a w:=by
 intro fuel
 induction fuel with
 | zero =>
  intro L a w hu hI
  have hn:Region.ready md ops L=[]:=by
   cases hr:Region.ready md ops L with
   | nil=>rfl
   | cons i r =>
    exfalso
    obtain⟨o,_,h2,_⟩:=IG (by rw[hr];exact jX)
    have:=BR h2
    omega
  exact⟨hn,hend L a w hI (qL hd hn)⟩
 | succ fuel ih =>
  intro L a w hu hI
  refine⟨fun hn=>hend L a w hI (qL hd hn),fun i hi=>?_⟩
  obtain⟨o,h1,h2,h3⟩:=IG hi
  refine wpOp_mono (fun a' w' h'=>ih _ _ _ ?_ h') (hstep L a w i o hI h1 h2 h3)
  have:=BR h2
  omega
def WA:K0->List Nat
 | .val _ _=>[]
 | .own r _=>[r]
 | .ptr r _=>[r]
 | .oG r=>[r]
def K.res:K->List Nat
 | .ptr r _=>[r]
 | .own r _=>[r]
 | .when _ k=>k.res
 | .cell r _ _=>[r]
 | .mrow r _ _=>[r]
 | .mpos r _ _ _=>[r]
 | .oG r=>[r]
 | .mix ks=>ks.flatMap WA
 | .fn _ ks=>ks.flatMap WA
 | .sng r _=>[r]
 | _=>[]
def c1u:Res->List Nat
 | .nJ k=>k.res
 | _=>[]
def rO (ρ:Nat->Res) (k:K):List Nat:=k.res++k.res.flatMap fun r=>c1u (ρ r)
section
variable {P:Program} {C:FuncId->List Ctr} {T:Told} {ρ ρ':Nat->Res}
theorem wX {α:Type} {f g:Nat->α} {r:Nat} (h:f r=g r):∀ (l:List (Nat × α)),jV f l r=jV g l r
 | []=>h
 | (q,x)::l=>by
  simp only[jV]
  refine wX ?_ l
  unfold cO;split
  ·rfl
  ·exact h
theorem lW {α:Type} {r:Nat}:∀ (l:List (Nat × α)) (f:Nat->α),r ∉ l.map (·.1)->jV f l r=f r
 | [],_,_=>rfl
 | (q,x)::l,f,h=>by
  simp only[ru,oq,not_or] at h
  simp only[jV]
  rw[lW l _ h.2,aT _ _ h.1]
theorem QI {k:K} (h:∀ r ∈ k.res,ρ r=ρ' r):wY ρ k=wY ρ' k:=by
 cases k<;>try rfl
 ·rename_i r v
  simp only[wY,h r (by simp[K.res])]
 ·rename_i r v i
  simp only[wY,h r (by simp[K.res])]
theorem rX {k:K} {t:Option Ty} (h:∀ r ∈ k.res,ρ r=ρ' r):zM ρ t k=zM ρ' t k:=by
 cases k<;>first|rfl|exact QI h
theorem a6h {k:K} {t:Option Ty} (h:∀ r ∈ k.res,ρ r=ρ' r):a6g ρ t k=a6g ρ' t k:=by
 have:YT ρ k=YT ρ' k:=by
  cases k<;>try rfl
  ·rename_i t x;cases t<;>rfl
  ·rename_i r v
   simp only[YT,h r (by simp[K.res])]
  ·rename_i r v i
   simp only[YT,h r (by simp[K.res])]
 unfold a6g
 rw[this,rX h]
theorem QH {t:Option Ty}:∀ {ks:List K} {ρ ρ':Nat->Res},(∀ k ∈ ks,∀ r ∈ k.res,ρ r=ρ' r)->JA ρ t ks=JA ρ' t ks
 | [],_,_,_=>rfl
 | k::ks,ρ,ρ',h=>by
  simp only[JA,rX (h k (jX ..))]
  split
  ·rename_i p l _
   rw[QH (ρ:=after ρ l) (ρ':=after ρ' l) (fun k' hk' r hr=>by rw[tJ,tJ];exact wX (h k' (iy _ hk') r hr) l)]
  ·rfl
theorem DL:∀ {ts:List Ty} {ks:List K} {ρ ρ':Nat->Res},(∀ k ∈ ks,∀ r ∈ k.res,ρ r=ρ' r)->DK ρ ts ks=DK ρ' ts ks
 | [],[],_,_,_=>rfl
 | [],_::_,_,_,_=>rfl
 | _::_,[],_,_,_=>rfl
 | t::ts,k::ks,ρ,ρ',h=>by
  simp only[DK,rX (h k (jX ..))]
  split
  ·rename_i p l _
   rw[DL (ρ:=after ρ l) (ρ':=after ρ' l) (fun k' hk' r hr=>by rw[tJ,tJ];exact wX (h k' (iy _ hk') r hr) l)]
  ·rfl
theorem a2I {k:Operand->K} {d:Option Nat} {op:Op} (hk:∀ x,∀ r ∈ (k x).res,ρ r=ρ' r) (hd:∀ r,d=some r->ρ r=ρ' r):tN P T ρ k d op=tN P T ρ' k d op:=by
 cases op<;>try rfl
 case alloc t =>
  simp only[tN]
  split
  ·rw[hd _ (by first|assumption|rfl)]
  ·rfl
 case box t x =>
  simp only[tN,rX (hk x)]
  split
  ·rw[hd _ (by first|assumption|rfl)]
  ·rfl
 case load t x =>
  simp only[tN]
  split
  ·rename_i r o hx;rw[hk x r (by rw[hx];simp[K.res])]
  ·rfl
 case store t x y =>
  simp only[tN,rX (hk y)]
  split
  ·rename_i r o _ _ hx _;rw[hk x r (by rw[hx];simp[K.res])]
  ·rfl
 case fieldAddr s x i =>
  simp only[tN]
  split
  ·rename_i r o hx;rw[hk x r (by rw[hx];simp[K.res])]
  ·rfl
 case indexAddr s x i =>
  simp only[tN]
  split
  ·rename_i r o _ _ hx _;rw[hk x r (by rw[hx];simp[K.res])]
  ·rfl
theorem a4h {k:Operand->K} {d:Option Nat} {op:Op} (hk:∀ x,∀ r ∈ (k x).res,ρ r=ρ' r) (hd:∀ r,d=some r->ρ r=ρ' r):FH P T ρ k d op=FH P T ρ' k d op:=by
 cases op<;>try rfl
 case buildSlice t len parts =>
  simp only[FH]
  have h1:JA ρ (a6U P T t) (parts.toList.map fun q=>k q.2)=JA ρ' (a6U P T t) (parts.toList.map fun q=>k q.2):=QH (fun k' hk' r hr=>by
   obtain⟨q,_,rfl⟩:=ni.1 hk'
   exact hk q.2 r hr)
  rw[h1]
  split
  ·split
   ·split
    ·split
     ·rw[hd _ (by first|assumption|rfl)]
     ·rfl
    ·rfl
   ·rfl
   ·rfl
  ·rfl
 case call c =>
  obtain⟨cl,xs,ts⟩:=c
  cases cl<;>try rfl
  rename_i bi
  cases bi<;>try rfl
  simp only[FH]
  split
  ·rename_i s x t t' _ _
   split
   ·simp only[a6h (hk x)]
    split
    ·rename_i r v hs;rw[hk s r (by rw[hs];simp[K.res])]
    ·split
     ·rw[hd _ (by first|assumption|rfl)]
     ·rfl
    ·rfl
   ·rfl
  ·rfl
theorem FC {k:K} {r:Nat} (h:r ∈ k.res):r ∈ rO ρ k:=uf _ h
theorem b2J {k k':K} {r q:Nat} (h:r ∈ k.res) (hr:ρ r=.nJ k') (hq:q ∈ k'.res):q ∈ rO ρ k:=yh _ (xq.2 ⟨r,h,by rw[hr];exact hq⟩)
theorem FX {k:K} {t:Option Ty} (h:∀ r ∈ k.res,ρ r=ρ' r):wR ρ t k=wR ρ' t k:=by
 cases k<;>try rfl
 ·rename_i r v
  simp only[wR,h r (by simp[K.res])]
 ·rename_i r v i
  simp only[wR,h r (by simp[K.res])]
theorem RV {k:K} {t:Option Ty} (h:∀ r ∈ rO ρ k,ρ r=ρ' r):JJ ρ t k=JJ ρ' t k:=by
 have h0:∀ r ∈ k.res,ρ r=ρ' r:=fun r hr=>h r (FC hr)
 cases k
 case ptr r o=>simp only[JJ,h0 r (by simp[K.res])]
 case oG r =>
  simp only[JJ,<-h0 r (by simp[K.res])]
  split
  ·rename_i k9 hr
   split
   ·rw[FX (ρ:=ρ) (ρ':=ρ') (fun q hq=>h q (b2J (k:=.oG r) (by simp[K.res]) hr hq))]
   ·rfl
  ·rfl
 all_goals exact FX (t:=t) h0
theorem b7H (k:K0):(k0K k).res=WA k:=by cases k<;>rfl
theorem FW:∀ {u:Ty} {ks:List K0},(∀ k ∈ ks,∀ r ∈ rO ρ (k0K k),ρ r=ρ' r)->jC ρ u ks=jC ρ' u ks
 | .unit,[],_=>rfl
 | .pair a b,k::ks,h=>by
  simp only[jC]
  rw[RV (h k (jX ..)),FW (fun k' hk'=>h k' (iy _ hk'))]
 | .unit,_::_,_=>rfl
 | .pair _ _,[],_=>rfl
 | .bool,_,_=>rfl
 | .int _,_,_=>rfl
 | .lf _,_,_=>rfl
 | .list _,_,_=>rfl
 | .arr _ _,_,_=>rfl
 | .ref _,_,_=>rfl
 | .clo _ _,_,_=>rfl
 | .nls _,_,_=>rfl
theorem a7W {g:FuncId} {ks:List K0} {k:K0} {r:Nat} (hk:k ∈ ks) (h:r ∈ rO ρ (k0K k)):r ∈ rO ρ (.fn g ks):=by
 have h1:∀ q ∈ (k0K k).res,q ∈ (K.fn g ks).res:=fun q hq=>xq.2 ⟨k,hk,by rw[<-b7H];exact hq⟩
 rcases qA.1 h with h|h
 ·exact FC (h1 r h)
 ·obtain⟨q,hq,h⟩:=xq.1 h
  exact yh _ (xq.2 ⟨q,h1 q hq,h⟩)
theorem a4C {k:K} {t:Ty} (h:∀ r ∈ rO ρ k,ρ r=ρ' r):YB ρ t k=YB ρ' t k:=by
 cases k
 case fn g ks =>
  simp only[YB]
  split
  ·rw[FW (fun k hk r hr=>h r (a7W hk hr))]
  ·rfl
 all_goals exact RV (t:=some t) h
theorem wQ:∀ {ts:List Ty} {ks:List K},(∀ k ∈ ks,∀ r ∈ rO ρ k,ρ r=ρ' r)->pR ρ ts ks=pR ρ' ts ks
 | [],[],_=>rfl
 | [],_::_,_=>rfl
 | _::_,[],_=>rfl
 | t::ts,k::ks,h=>by
  simp only[pR]
  rw[a4C (h k (jX ..)),wQ (fun k' hk'=>h k' (iy _ hk'))]
theorem DT {ks:List K} (h:∀ k ∈ ks,∀ r ∈ rO ρ k,ρ r=ρ' r):∀ cs:List Ctr,JB ρ ks cs=JB ρ' ks cs
 | []=>rfl
 | c::cs=>by
  have e:a2E ρ c ks=a2E ρ' c ks:=by
   unfold a2E
   rw[wQ h,DL (fun k hk r hr=>h k hk r (FC hr))]
  simp only[JB]
  rw[e,DT h cs]
theorem a1b {k:Operand->K} {op:Op} (hk:∀ x,∀ r ∈ rO ρ (k x),ρ r=ρ' r):xR P C ρ k op=xR P C ρ' k op:=by
 cases op<;>try rfl
 case makeFunc fn first caps=>cases fn<;>rfl
 case call c =>
  obtain⟨cl,xs,ts⟩:=c
  cases cl<;>try rfl
  rename_i f
  simp only[xR]
  have hcap:∀ (t:Ty) (x:t.den) (k':K),k' ∈ a2J t x->k'.res=[]:=by
   intro t
   induction t with
   | pair a b _ ih =>
    intro x k' h
    rcases oq.1 h with rfl|h
    ·rfl
    ·exact ih x.2 k' h
   | _=>intro x k' h;cases h
  split
  ·rename_i g t cx hf
   rw[DT (fun k' hk' r hr=>by
    rcases qA.1 hk' with h|h
    ·obtain⟨q,_,rfl⟩:=ni.1 h;exact hk q r hr
    ·exfalso
     unfold rO at hr
     rw[hcap t cx k' h] at hr
     simp at hr)]
  ·rename_i g l hf
   rw[DT (fun k' hk' r hr=>by
    rcases qA.1 hk' with h|h
    ·obtain⟨q,_,rfl⟩:=ni.1 h;exact hk q r hr
    ·obtain⟨q,hq,rfl⟩:=ni.1 h
     exact hk f r (by rw[hf];exact a7W hq hr))]
  ·rfl
theorem a5Q {k:Operand->K} {op:Op} (hk:∀ x,∀ r ∈ (k x).res,ρ r=ρ' r):PX P ρ k op=PX P ρ' k op:=by
 cases op<;>try rfl
 case indexAddr s x i =>
  simp only[PX]
  split
  ·rename_i r v _ _ hx _;rw[hk x r (by rw[hx];simp[K.res])]
  ·rename_i r v _ _ _ hx _;rw[hk x r (by rw[hx];simp[K.res])]
  ·rfl
 case load t x =>
  simp only[PX]
  split
  ·rename_i r v _ hx;rw[hk x r (by rw[hx];simp[K.res])]
  ·rename_i r v _ _ hx;rw[hk x r (by rw[hx];simp[K.res])]
  ·rename_i r hx;rw[hk x r (by rw[hx];simp[K.res])]
  ·rfl
 case call c =>
  obtain⟨cl,xs,ts⟩:=c
  cases cl<;>try rfl
  rename_i bi
  cases bi<;>try rfl
  simp only[PX]
  split
  ·rename_i x t _ _
   split
   ·split
    ·rename_i r v hx;rw[hk x r (by rw[hx];simp[K.res])]
    ·rename_i r v _ hx;rw[hk x r (by rw[hx];simp[K.res])]
    ·rfl
   ·rfl
  ·rfl
theorem a6w {k:Operand->K} {d:Option Nat} {op:Op} (hk:∀ x,∀ r ∈ (k x).res,ρ r=ρ' r) (hd:∀ r,d=some r->ρ r=ρ' r):a2w P T ρ k d op=a2w P T ρ' k d op:=by
 cases op<;>try rfl
 case store t x y =>
  have hown:ownB ρ (k y)=ownB ρ' (k y):=by
   cases hy:k y<;>try rfl
   rename_i r v
   simp only[ownB]
   rw[hk y r (by rw[hy];simp[K.res])]
  simp only[a2w,rX (hk y),hown]
  split
  ·rename_i r v i hx
   rw[hk x r (by rw[hx];simp[K.res])]
   split
   ·rfl
   ·split
    ·rfl
    ·rename_i r2 v2 hy
     rw[hk y r2 (by rw[hy];simp[K.res])]
    ·rfl
   ·rfl
  ·rename_i r v id i hx;rw[hk x r (by rw[hx];simp[K.res])]
  ·rename_i r hx;rw[hk x r (by rw[hx];simp[K.res])]
  ·rfl
 case makeSlice t n m =>
  simp only[a2w]
  split
  ·rw[hd _ (by first|assumption|rfl)]
  ·rfl
theorem a5v {k:Operand->K} {d:Option Nat} {op:Op} (hk:∀ x,∀ r ∈ (k x).res,ρ r=ρ' r) (hd:∀ r,d=some r->ρ r=ρ' r):WR P T ρ k d op=WR P T ρ' k d op:=by
 cases op<;>try rfl
 case buildSlice t len parts =>
  simp only[WR]
  split<;>try rfl
  rename_i r
  split<;>try rfl
  split<;>try rfl
  split<;>try rfl
  split
  ·rw[hd _ (by first|assumption|rfl)]
  ·rename_i y _
   split
   ·rename_i r2 v2 hy;rw[hk y r2 (by rw[hy];simp[K.res])]
   ·rfl
  ·rfl
 case call c =>
  obtain⟨cl,xs,ts⟩:=c
  cases cl<;>try rfl
  rename_i bi
  cases bi<;>try rfl
  simp only[WR]
  split
  ·rename_i s x t t' _ _
   split
   ·split
    ·rename_i r2 v2 hx
     rw[hk x r2 (by rw[hx];simp[K.res])]
     split
     ·split
      ·rename_i r v hs;rw[hk s r (by rw[hs];simp[K.res])]
      ·rw[hd _ (by first|assumption|rfl)]
      ·rfl
     ·rfl
    ·rfl
   ·rfl
  ·rfl
theorem RU {r:Nat} {row:Option Nat}:∀ {ts:List Ty} {ks:List K},(∀ k ∈ ks,∀ q ∈ k.res,ρ q=ρ' q)->NZ ρ r row ts ks=NZ ρ' r row ts ks
 | [],[],_=>rfl
 | [],_::_,_=>rfl
 | _::_,[],_=>rfl
 | t::ts,k::ks,h=>by
  simp only[NZ]
  rw[FX (h k (jX ..)),RU (fun k' hk'=>h k' (iy _ hk'))]
theorem a3B {k:LK} {k0:K} (h:∀ q ∈ k0.res,ρ q=ρ' q):a7o ρ k k0=a7o ρ' k k0:=by
 cases k with
 | row e t =>
  cases k0<;>try rfl
  case own r v=>exact rD (SY e t r v) (h r (by simp[K.res]))
  case mrow r v i=>exact rD (SX e t r v i) (h r (by simp[K.res]))
 | mat e e2 t =>
  cases k0<;>try rfl
  case own r v=>exact rD (SV e e2 t r v) (h r (by simp[K.res]))
theorem KY {d:Option Nat} {ks:List K} (h:∀ k ∈ ks,∀ r ∈ rO ρ k,ρ r=ρ' r) (hd:∀ r,d=some r->ρ r=ρ' r):∀ cs:List DF,DU ρ d ks cs=DU ρ' d ks cs
 | []=>rfl
 | c::cs=>by
  have e:JL ρ d ks c=JL ρ' d ks c:=by
   cases c with
   | mk k args pre made =>
    simp only[JL]
    split
    ·rw[hd _ (by first|assumption|rfl),wQ h]
    ·rfl
   | chg k args res pre out fn =>
    cases ks with
    | nil=>rfl
    | cons k0 ks =>
     have h0:∀ k ∈ k0::ks,∀ r ∈ k.res,ρ r=ρ' r:=fun k hk r hr=>h k hk r (FC hr)
     simp only[JL]
     rw[a3B (h0 k0 (jX ..)),DL (fun k hk=>h0 k (iy _ hk))]
     simp only[RU (ρ:=ρ) (ρ':=ρ') (ks:=ks) (fun k hk=>h0 k (iy _ hk))]
  simp only[DU]
  rw[e,KY h hd cs]
theorem a1a {k:Operand->K} {d:Option Nat} {op:Op} (hk:∀ x,∀ r ∈ rO ρ (k x),ρ r=ρ' r) (hd:∀ r,d=some r->ρ r=ρ' r):DV P T ρ k d op=DV P T ρ' k d op:=by
 cases op<;>try rfl
 case call c =>
  obtain⟨cl,xs,ts⟩:=c
  cases cl<;>try rfl
  rename_i f
  simp only[DV]
  have hcap:∀ (t:Ty) (x:t.den) (k':K),k' ∈ a2J t x->k'.res=[]:=by
   intro t
   induction t with
   | pair a b _ ih =>
    intro x k' h
    rcases oq.1 h with rfl|h
    ·rfl
    ·exact ih x.2 k' h
   | _=>intro x k' h;cases h
  split
  ·split
   ·refine KY (fun k9 hk9 r hr=>?_) hd _
    rcases qA.1 hk9 with hk9|hk9
    ·obtain⟨q,_,rfl⟩:=ni.1 hk9;exact hk q r hr
    ·exfalso
     unfold rO at hr
     rw[hcap _ _ _ hk9] at hr
     simp at hr
   ·rfl
  ·rfl
theorem a3f {k:Operand->K} {op:Op} (hk:∀ x,∀ r ∈ (k x).res,ρ r=ρ' r):ZP P ρ k op=ZP P ρ' k op:=by
 unfold ZP
 split
 ·rename_i t s lo hi
  have h:=QI (hk (.tmp s))
  split
  ·rename_i r v e
   rw[e] at h
   rw[h]
  ·rfl
 ·rfl
theorem a1g {k:Operand->K} {op:Op} (hk:∀ x,∀ r ∈ (k x).res,ρ r=ρ' r):xU P ρ k op=xU P ρ' k op:=by
 unfold xU
 split
 ·split
  ·split
   ·rename_i x y _ _ _ _ _ _ r v id ty1 ys hx hy
    rw[hk x r (by rw[hx];simp[K.res])]
   ·rfl
  ·rfl
 ·split
  ·split
   ·rename_i x y _ _ _ _ _ _ r v ty1 ys hx hy
    rw[hk x r (by rw[hx];simp[K.res])]
   ·rfl
  ·rfl
 ·rfl
theorem NU {k:Operand->K} {d:Option Nat} {op:Op} (hk:∀ x,∀ r ∈ rO ρ (k x),ρ r=ρ' r) (hd:∀ r,d=some r->ρ r=ρ' r):rF P C T ρ k d op=rF P C T ρ' k d op:=by
 have h0:∀ x,∀ r ∈ (k x).res,ρ r=ρ' r:=fun x r hr=>hk x r (FC hr)
 unfold rF
 rw[a2I h0 hd,a4h h0 hd,a5Q h0,a6w h0 hd,a5v h0 hd,a3f h0,a1a hk hd,a1g h0,a1b hk]
end
def ZR (ops:Array Oper) (o:Oper):Option Nat:=match o.guard with
 | some (j,_)=>(ops[j]?).bind (·.dst)
 | none=>none
def readsOf (ops:Array Oper) (o:Oper):List Nat:=tmpsOf o.op++(ZR ops o).toList
theorem b3J (ρ:Nat->Res) (k:K):rO ρ (unW k)=rO ρ k:=by cases k<;>rfl
theorem XC (ρ:Nat->Res) (v:Value):rO ρ (zQ v)=[]:=by unfold zQ;split<;>rfl
def moveB:Op->Bool
 | .move _=>true
 | _=>false
theorem RJ {P:Program} {C:FuncId->List Ctr} {T:Told} {ρ ρ':Nat->Res} {k:Operand->K} {d:Option Nat} {op:Op} (h:moveB op=true):rF P C T ρ k d op=rF P C T ρ' k d op:=by
 cases op<;>simp[moveB] at h
 rfl
def a4y (op:Op):List Nat:=if moveB op then [] else tmpsOf op
theorem a3N {B:Book} {G G':Nat->K} {ρ ρ':Nat->Res} {ops:Array Oper} {o:Oper} (hG:∀ s ∈ readsOf ops o,G s=G' s) (hρ:∀ s ∈ a4y o.op,∀ r ∈ rO ρ (G s),ρ r=ρ' r) (hd:∀ r,o.dst=some r->ρ r=ρ' r):yY B G ρ ops o=yY B G' ρ' ops o:=by
 have h1:lS (tmpsOf o.op) G=lS (tmpsOf o.op) G':=by
  funext s
  unfold lS
  split
  ·rename_i h;exact hG s (uf _ (by simpa using h))
  ·rfl
 have h2:lS (tmpsOf o.op) (unG o.op G)=lS (tmpsOf o.op) (unG o.op G'):=by
  funext s
  unfold lS
  split
  ·rename_i h;unfold unG;rw[hG s (uf _ (by simpa using h))]
  ·rfl
 have h3:(tmpsOf o.op).flatMap (fun s=>QM o.op s (G s))=(tmpsOf o.op).flatMap (fun s=>QM o.op s (G' s)):=by
  have:∀ l:List Nat,(∀ s ∈ l,G s=G' s)->l.flatMap (fun s=>QM o.op s (G s))=l.flatMap (fun s=>QM o.op s (G' s)):=by
   intro l
   induction l with
   | nil=>intro _;rfl
   | cons x l ih=>intro h;rw[List.flatMap_cons,List.flatMap_cons,h x (jX ..),ih (fun s hs=>h s (iy _ hs))]
  exact this _ (fun s hs=>hG s (uf _ hs))
 have k3:rF B.P B.C B.T ρ (opK (lS (tmpsOf o.op) G')) o.dst o.op=rF B.P B.C B.T ρ' (opK (lS (tmpsOf o.op) G')) o.dst o.op/\rF B.P B.C B.T ρ (opK (lS (tmpsOf o.op) (unG o.op G'))) o.dst o.op=rF B.P B.C B.T ρ' (opK (lS (tmpsOf o.op) (unG o.op G'))) o.dst o.op:=by
  by_cases hp:moveB o.op=true
  ·exact⟨RJ hp,RJ hp⟩
  unfold a4y at hρ
  rw[dw hp] at hρ
  have k1:∀ x,∀ r ∈ rO ρ (opK (lS (tmpsOf o.op) G') x),ρ r=ρ' r:=by
   rw[<-h1]
   intro x r hr
   cases x with
   | tmp s =>
    have hr:r ∈ rO ρ (lS (tmpsOf o.op) G s):=hr
    unfold lS at hr
    split at hr
    ·rename_i h;exact hρ s (by simpa using h) r hr
    ·cases hr
   | const v=>exfalso;have hr:r ∈ rO ρ (zQ v):=hr;rw[XC] at hr;cases hr
   | func f=>cases hr
   | global g=>cases hr
  have k2:∀ x,∀ r ∈ rO ρ (opK (lS (tmpsOf o.op) (unG o.op G')) x),ρ r=ρ' r:=by
   rw[<-h2]
   intro x r hr
   cases x with
   | tmp s =>
    have hr:r ∈ rO ρ (lS (tmpsOf o.op) (unG o.op G) s):=hr
    unfold lS at hr
    split at hr
    ·rename_i h
     refine hρ s (by simpa using h) r ?_
     unfold unG at hr
     split at hr
     ·exact hr
     ·rw[<-b3J];exact hr
    ·cases hr
   | const v=>exfalso;have hr:r ∈ rO ρ (zQ v):=hr;rw[XC] at hr;cases hr
   | func f=>cases hr
   | global g=>cases hr
  exact⟨NU k1 hd,NU k2 hd⟩
 unfold yY
 rw[h1,h2,h3,k3.1,k3.2]
 cases hg:o.guard with
 | none=>rfl
 | some jb =>
  obtain⟨j,b⟩:=jb
  simp only
  cases hs:(ops[j]?).bind (·.dst) with
  | none=>rfl
  | some s =>
   have:G s=G' s:=hG s (yh _ (by simp[ZR,hg,hs]))
   simp only[this]
end
section
set_option linter.unusedSimpArgs false
set_option linter.unusedVariables false
set_option maxRecDepth 20000
def gY {α:Type} (done:Nat->Bool):Nat->List (List (Nat × α))->(Nat->α)->Nat->α
 | _,[],f=>f
 | j,u::us,f=>gY done (j+1) us (if done j then jV f u else f)
theorem ED {α:Type} {d d':Nat->Bool} {r:Nat}:∀ (us:List (List (Nat × α))) (b:Nat) (f g:Nat->α),f r=g r->(∀ j u,us[j]?=some u->r ∈ u.map (·.1)->d (b+j)=d' (b+j))->gY d b us f r=gY d' b us g r
 | [],b,f,g,h,_=>h
 | u::us,b,f,g,h,hd=>by
  simp only[gY]
  refine ED us (b+1) _ _ ?_ (fun j u' hu hr=>by have:=hd (j+1) u' hu hr;rwa [show b+(j+1)=b+1+j by omega] at this)
  by_cases hr:r ∈ u.map (·.1)
  ·have:=hd 0 u rfl hr
   rw[Nat.add_zero] at this
   rw[<-this]
   split
   ·exact wX h u
   ·exact h
  ·split<;>split<;>first
    | (rw[lW u _ hr,lW u _ hr];exact h)
    | (rw[lW u _ hr];exact h)
    |exact h
theorem GL {α:Type} {d:Nat->Bool} {r:Nat}:∀ (us:List (List (Nat × α))) (b:Nat) (f:Nat->α),(∀ j u,us[j]?=some u->r ∈ u.map (·.1)->d (b+j)=false)->gY d b us f r=f r
 | [],b,f,_=>rfl
 | u::us,b,f,hd=>by
  simp only[gY]
  rw[GL us (b+1) _ (fun j u' hu hr=>by have:=hd (j+1) u' hu hr;rwa [show b+(j+1)=b+1+j by omega] at this)]
  by_cases hr:r ∈ u.map (·.1)
  ·have:=hd 0 u rfl hr
   rw[Nat.add_zero] at this
   rw[this];rfl
  ·split
   ·exact lW u _ hr
   ·rfl
theorem YW {α:Type} {r:Nat}:∀ (l:List (Nat × α)) (f g:Nat->α),r ∈ l.map (·.1)->jV f l r=jV g l r
 | [],_,_,h=>by cases h
 | (q,x)::l,f,g,h=>by
  simp only[jV]
  by_cases hr:r ∈ l.map (·.1)
  ·exact YW l _ _ hr
  ·rw[lW l _ hr,lW l _ hr]
   have:r=q:=by
    rcases oq.1 h with h|h
    ·exact h
    ·exact absurd h hr
   subst this
   rw[aG,aG]
theorem JW {α:Type} {d d':Nat->Bool} {u:List (Nat × α)}:∀ (us:List (List (Nat × α))) (b i:Nat) (f:Nat->α),us[i]?=some u->d (b+i)=false->d' (b+i)=true->(∀ j,j≠b+i->d' j=d j)->(∀ r ∈ u.map (·.1),∀ j v,us[j]?=some v->i<j->r ∈ v.map (·.1)->d (b+j)=false)->gY d' b us f=jV (gY d b us f) u
 | v::us,b,0,f,hi,hd,hd',he,hn=>by
  simp only[List.getElem?_cons_zero,ah] at hi
  subst hi
  simp only[Nat.add_zero] at hd hd' he
  simp only[gY,hd,hd',Ai,ug,if_false]
  funext r
  have h1:gY d' (b+1) us (jV f v) r=gY d (b+1) us (jV f v) r:=ED us (b+1) _ _ rfl (fun j u' hu hr=>he _ (by omega))
  rw[h1]
  by_cases hr:r ∈ v.map (·.1)
  ·rw[GL us (b+1) _ (fun j u' hu hr'=>by have:=hn r hr (j+1) u' hu (by omega) hr';rwa [show b+(j+1)=b+1+j by omega] at this)]
   exact YW v _ _ hr
  ·rw[lW v _ hr]
   exact ED us (b+1) _ _ (lW v _ hr) (fun j u' hu hr=>rfl)
 | v::us,b,i+1,f,hi,hd,hd',he,hn=>by
  simp only[gY]
  have:(if d' b=true then jV f v else f)=(if d b=true then jV f v else f):=by rw[he b (by omega)]
  rw[this]
  exact JW us (b+1) i _ hi (by rwa [show b+1+i=b+(i+1) by omega]) (by rwa [show b+1+i=b+(i+1) by omega]) (fun j hj=>he j (by omega)) (fun r hr j v' hv hlt hr'=>by
   have:=hn r hr (j+1) v' hv (by omega) hr'
   rwa [show b+(j+1)=b+1+j by omega] at this)
 | [],b,i,f,hi,hd,hd',he,hn=>by simp at hi
theorem OT {α:Type} {d:Nat->Bool}:∀ (us:List (List (Nat × α))) (b:Nat) (f:Nat->α),(∀ j,j<us.length->d (b+j)=true)->gY d b us f=us.foldl jV f
 | [],b,f,h=>rfl
 | u::us,b,f,h=>by
  have h0:=h 0 (by simp)
  rw[Nat.add_zero] at h0
  simp only[gY,h0,Ai,List.foldl_cons]
  exact OT us (b+1) _ (fun j hj=>by have:=h (j+1) (by simpa using hj);rwa [show b+(j+1)=b+1+j by omega] at this)
structure Sim where
 k:K
 l:List (Nat × Res)
 touch:List Nat
def BJ (B:Book) (ops:Array Oper):List Oper->Gam->Rho->Option (List Prop × List Sim × Gam × Rho)
 | [],G,R=>some ([],[],G,R)
 | o::rest,G,R=>match yY B (bZ G) (bG R) ops o with
  | some (vc,k,l)=>match BJ B ops rest (b5p o.dst k G) (aft R l) with
   | some (vc',ss,G',R')=>some (vc++vc',⟨k,l,(a4y o.op).flatMap (fun s=>rO (bG R) (bZ G s))++o.dst.toList++l.map (·.1)⟩::ss,G',R')
   | none=>none
  | none=>none
def isDst (o:Oper) (l:List Nat):Bool:=match o.dst with
 | some s=>l.contains s
 | none=>false
def a2i (o o':Oper):Bool:=match o.dst,o'.dst with
 | some s,some s'=>s==s'
 | _,_=>false
def clash (ops:Array Oper) (o o':Oper) (s s':Sim):Bool:=isDst o (readsOf ops o') || isDst o' (readsOf ops o) || s.l.any (fun q=>s'.touch.contains q.1) || s'.l.any (fun q=>s.touch.contains q.1)
def a5B (ops:Array Oper) (b:Array Nat) (ss:List Sim):Bool:=(List.range ops.size).all fun j=>match ops[j]?,ss[j]? with
 | some o',some s'=>(List.range j).all fun i=>match ops[i]?,ss[i]? with
  | some o,some s=>!a2i o o'&&(!clash ops o o' s s' || (b.getD j 0).testBit i)
  | _,_=>false
 | _,_=>false
def b2g (ops:Array Oper) (b:Array Nat):Bool:=(List.range ops.size).all fun j=>match ops[j]? with
 | some o=>(List.range j).all fun i=>!(b.getD j 0).testBit i || o.after.any fun e=>Region.binds .any e&&(e.on==i || (decide (e.on<j)&&decide (i<e.on)&&(b.getD e.on 0).testBit i))
 | none=>false
def SI (ops:Array Oper) (L:Array Bool):Prop:=∀ j o,ops[j]?=some o->L.getD j false=true->∀ e ∈ o.after,Region.binds .any e=true->L.getD e.on false=true
theorem WS {ops:Array Oper} {b:Array Nat} (h:b2g ops b=true) {L:Array Bool} (hc:SI ops L):∀ (j:Nat) (o:Oper) (i:Nat),ops[j]?=some o->i<j->(b.getD j 0).testBit i=true->(∀ e ∈ o.after,Region.binds .any e=true->L.getD e.on false=true)->L.getD i false=true:=by
 intro j
 induction j using Nat.strongRecOn with
 | _ j ih =>
  intro o i ho hij hb hd
  have hj:j<ops.size:=(xu.1 ho).1
  have h1:=(ql.1 h) j (qN.2 hj)
  rw[ho] at h1
  have h2:=(ql.1 h1) i (qN.2 hij)
  rw[hb] at h2
  simp only[Bool.not_true,Bool.false_or,Array.any_eq_true'] at h2
  obtain⟨e,he,h3⟩:=h2
  simp only[ak,qZ,jd,dh] at h3
  obtain⟨h4,h5⟩:=h3
  have hdone:=hd e he h4
  rcases h5 with h5|⟨⟨h5,hie⟩,h6⟩
  ·rw[<-h5];exact hdone
  ·have ho':ops[e.on]?=some ops[e.on]:=wu (by omega)
   exact ih e.on h5 _ i ho' hie h6 (hc e.on _ ho' hdone)
theorem QX {α:Type} {d:Nat->Bool}:∀ (us:List (List (Nat × α))) (b:Nat) (f:Nat->α),gY d (b+1) us f=gY (fun j=>d (j+1)) b us f
 | [],b,f=>rfl
 | u::us,b,f=>by simp only[gY];exact QX us (b+1) _
def IY (l:List Oper) (ss:List Sim):List (List (Nat × K)):=List.zipWith (fun o s=>a2r o.dst s.k) l ss
def ES (ss:List Sim):List (List (Nat × Res)):=ss.map (·.l)
theorem a0w {B:Book} {ops:Array Oper}:∀ {l:List Oper} {G:Gam} {R:Rho} {vc:List Prop} {ss:List Sim} {G':Gam} {R':Rho},BJ B ops l G R=some (vc,ss,G',R') ->
  ss.length=l.length/\bZ G'=(IY l ss).foldl jV (bZ G)/\bG R'=(ES ss).foldl jV (bG R) /\
  ∀ i o,l[i]?=some o->∃ s vi,ss[i]?=some s/\(aW vc->aW vi)/\yY B (gY (fun j=>decide (j<i)) 0 (IY l ss) (bZ G)) (gY (fun j=>decide (j<i)) 0 (ES ss) (bG R)) ops o=some (vi,s.k,s.l) /\
   s.touch=(a4y o.op).flatMap (fun q=>rO (gY (fun j=>decide (j<i)) 0 (ES ss) (bG R)) (gY (fun j=>decide (j<i)) 0 (IY l ss) (bZ G) q))++o.dst.toList++s.l.map (·.1)
 | [],G,R,vc,ss,G',R',h=>by
  simp only[BJ,ah,bI] at h
  obtain⟨_,rfl,rfl,rfl⟩:=h
  exact⟨rfl,rfl,rfl,fun i o hi=>by simp at hi⟩
 | o::rest,G,R,vc,ss,G',R',h=>by
  simp only[BJ] at h
  split at h<;>try(cases h;done)
  rename_i vc1 k l1 h1
  split at h<;>try(cases h;done)
  rename_i vc2 ss2 G2 R2 h2
  simp only[ah,bI] at h
  obtain⟨rfl,rfl,rfl,rfl⟩:=h
  obtain⟨k1,k2,k3,k4⟩:=a0w h2
  rw[yL] at k2 k4
  rw[VK,tJ] at k3 k4
  refine⟨by simp[k1],k2,k3,fun i o' hi=>?_⟩
  cases i with
  | zero =>
   simp only[List.getElem?_cons_zero,ah] at hi
   subst hi
   have e1:∀ {α:Type} (us:List (List (Nat × α))) (f:Nat->α),gY (fun j=>decide (j<0)) 0 us f=f:=fun us f=>by
    funext r
    exact GL us 0 f (fun j u _ _=>by simp)
   exact⟨_,vc1,rfl,fun hv=>(dF.1 hv).1,by rw[e1,e1];exact h1,by rw[e1,e1]⟩
  | succ i =>
   obtain⟨s,vi,j1,j2,j3,j4⟩:=k4 i o' (by simpa using hi)
   have e1:∀ {α:Type} (u:List (Nat × α)) (us:List (List (Nat × α))) (f:Nat->α),gY (fun j=>decide (j<i+1)) 0 (u::us) f=gY (fun j=>decide (j<i)) 0 us (jV f u):=fun u us f=>by
    simp only[gY]
    rw[eY (by simp),QX]
    congr 1
    funext j
    simp
   refine⟨s,vi,by simpa using j1,fun hv=>j2 (dF.1 hv).2,?_,?_⟩
   ·show yY B (gY _ 0 (a2r o.dst k::IY rest ss2) (bZ G)) (gY _ 0 (l1::ES ss2) (bG R)) ops o'=_
    rw[e1,e1];exact j3
   ·show s.touch=(a4y o'.op).flatMap (fun q=>rO (gY _ 0 (l1::ES ss2) (bG R)) (gY _ 0 (a2r o.dst k::IY rest ss2) (bZ G) q))++_++_
    rw[e1,e1];exact j4
theorem a7l {l:List Oper} {ss:List Sim} {j:Nat} {u:List (Nat × K)} (h:(IY l ss)[j]?=some u):∃ o s,l[j]?=some o/\ss[j]?=some s/\u=a2r o.dst s.k:=by
 unfold IY at h
 rw[List.getElem?_zipWith] at h
 cases h1:l[j]? with
 | none=>rw[h1] at h;cases h
 | some o =>
  cases h2:ss[j]? with
  | none=>rw[h1,h2] at h;cases h
  | some s=>rw[h1,h2] at h;simp at h;exact⟨o,s,rfl,rfl,h.symm⟩
theorem a7q {ss:List Sim} {j:Nat} {u:List (Nat × Res)} (h:(ES ss)[j]?=some u):∃ s,ss[j]?=some s/\u=s.l:=by
 unfold ES at h
 rw[uz] at h
 cases h2:ss[j]? with
 | none=>rw[h2] at h;cases h
 | some s=>rw[h2] at h;simp at h;exact⟨s,rfl,h.symm⟩
theorem XW {d:Option Nat} {k:K} {r:Nat} (h:r ∈ (a2r d k).map (·.1)):d=some r:=by
 cases d with
 | none=>cases h
 | some s=>simp[a2r] at h;rw[h]
theorem a3w {o:Oper} {l:List Nat} {s:Nat} (h:o.dst=some s) (hs:s ∈ l):isDst o l=true:=by simp[isDst,h,hs]
theorem a0S {l:List (Nat × Res)} {t:List Nat} {r:Nat} (h:r ∈ l.map (·.1)) (ht:r ∈ t):l.any (fun q=>t.contains q.1)=true:=by
 obtain⟨q,hq,rfl⟩:=ni.1 h
 exact tY.2 ⟨q,hq,by simpa using ht⟩
theorem EX {ops:Array Oper} {b:Array Nat} {ss:List Sim} (h:a5B ops b ss=true) {i j:Nat} {o o':Oper} {s s':Sim} (hij:i<j) (hi:ops[i]?=some o) (hj:ops[j]?=some o') (hs:ss[i]?=some s) (hs':ss[j]?=some s'):a2i o o'=false/\(clash ops o o' s s'=true->(b.getD j 0).testBit i=true):=by
 have hjl:j<ops.size:=(xu.1 hj).1
 have h1:=(ql.1 h) j (qN.2 hjl)
 rw[hj,hs'] at h1
 have h2:=(ql.1 h1) i (qN.2 hij)
 rw[hi,hs] at h2
 simp only[ak,nI,qZ] at h2
 refine⟨h2.1,fun hc=>?_⟩
 rcases h2.2 with h3|h3
 ·rw[hc] at h3;cases h3
 ·exact h3
theorem a6L {ops:Array Oper} {o o':Oper} {s s':Sim} (h:s.l.any (fun q=>s'.touch.contains q.1)=true):clash ops o o' s s'=true:=by unfold clash;rw[h];simp
theorem b4d {ops:Array Oper} {o o':Oper} {s s':Sim} (h:s'.l.any (fun q=>s.touch.contains q.1)=true):clash ops o o' s s'=true:=by unfold clash;rw[h];simp
section
variable {B:Book} {W:World}
theorem a8x (hB:B.Ok) (hm:B.P.follows .mixedOrders=true) {id:Nat} {ops:Array Oper} {b:Array Nat} {Q:Exit->Act->World->Prop} {G:Gam} {R:Rho} {E:Env} {w:World} {a:Act} {vc:List Prop} {ss:List Sim} {G':Gam} {R':Rho}
  (h:BJ B ops ops.toList G R=some (vc,ss,G',R')) (hd:vJ .any ops=true) (ho:a5B ops b ss=true) (hn:b2g ops b=true) (hv:aW vc) (hM:Mem E (bG R) W w) (hf:Fits E (bG R) w B a (bZ G))
  (hq:∀ E' a' w',E'.fix=E.fix->Mem E' (bG R') W w'->Fits E' (bG R') w' B a' (bZ G')->Q .normal a' w'):(Code.region id ops true).wp B.P Q a w:=by
 obtain⟨hlen,hG',hR',hat⟩:=a0w h
 have hlen':ss.length=ops.size:=by simpa using hlen
 refine wp_region_any hm ?_
 refine a9T (fun L a w=>L.size=ops.size/\SI ops L/\∃ E',E'.fix=E.fix/\Mem E' (gY (fun j=>L.getD j false) 0 (ES ss) (bG R)) W w/\Fits E' (gY (fun j=>L.getD j false) 0 (ES ss) (bG R)) w B a (gY (fun j=>L.getD j false) 0 (IY ops.toList ss) (bZ G))) hd ?_ ?_ _ _ _ _ (by rw[XV];exact aj _) ?_
 ·rintro L a w ⟨hL,_,E9,m0,m1,m2⟩ hall
  have hdone:∀ j,j<ops.size->L.getD j false=true:=fun j hj=>zX hL hj (hall j hj)
  have e1:gY (fun j=>L.getD j false) 0 (ES ss) (bG R)=bG R':=by
   rw[hR']
   exact OT _ 0 _ (fun j hj=>by rw[ou];exact hdone j (by simpa [ES,hlen'] using hj))
  have e2:gY (fun j=>L.getD j false) 0 (IY ops.toList ss) (bZ G)=bZ G':=by
   rw[hG']
   exact OT _ 0 _ (fun j hj=>by rw[ou];exact hdone j (by simp[IY,hlen'] at hj;exact hj))
  rw[e1] at m1 m2
  rw[e2] at m2
  exact hq E9 a w m0 m1 m2
 ·rintro L a w i o ⟨hL,hC,E9,m0,m1,m2⟩ hio hl qW
  obtain⟨s,vi,hs,hvi,hone,b1z⟩:=hat i o (by simpa using hio)
  have hi:i<ops.size:=(xu.1 hio).1
  have hif:L.getD i false=false:=JD hl
  have a7a:∀ j oj sj,j<i->ops[j]?=some oj->ss[j]?=some sj->clash ops oj o sj s=true->L.getD j false=true:=fun j oj sj hji hoj hsj hcl =>
   WS hn hC i o j hio hji ((EX ho hji hoj hio hsj hs).2 hcl) qW
  have a1v:∀ j oj sj,i<j->ops[j]?=some oj->ss[j]?=some sj->clash ops o oj s sj=true->L.getD j false=false:=fun j oj sj hij hoj hsj hcl=>by
   cases hjd:L.getD j false with
   | false=>rfl
   | true =>
    have:=WS hn hC j oj i hoj hij ((EX ho hij hio hoj hs hsj).2 hcl) (hC j oj hoj hjd)
    rw[this] at hif;cases hif
  have b7x:∀ q ∈ readsOf ops o,gY (fun j=>decide (j<i)) 0 (IY ops.toList ss) (bZ G) q=gY (fun j=>L.getD j false) 0 (IY ops.toList ss) (bZ G) q:=fun q hq=>ED _ 0 _ _ rfl (fun j u hu hr=>by
   obtain⟨oj,sj,h1,h2,rfl⟩:=a7l hu
   have hdj:=XW hr
   have h1':ops[j]?=some oj:=by simpa using h1
   rw[ou]
   by_cases hji:j<i
   ·simp only[hji,decide_true]
    exact(a7a j oj sj hji h1' h2 (by simp[clash,a3w hdj hq])).symm
   ·simp only[hji,decide_false]
    by_cases e:j=i
    ·rw[e];exact hif.symm
    ·exact(a1v j oj sj (by omega) h1' h2 (by simp[clash,a3w hdj hq])).symm)
  have b1y:∀ r ∈ s.touch,gY (fun j=>decide (j<i)) 0 (ES ss) (bG R) r=gY (fun j=>L.getD j false) 0 (ES ss) (bG R) r:=fun r hr=>ED _ 0 _ _ rfl (fun j u hu hr'=>by
   obtain⟨sj,h2,rfl⟩:=a7q hu
   have hjl:j<ops.size:=by rw[<-hlen'];exact(jr.1 h2).1
   have h1':ops[j]?=some ops[j]:=wu hjl
   rw[ou]
   by_cases hji:j<i
   ·simp only[hji,decide_true]
    exact(a7a j _ sj hji h1' h2 (a6L (a0S hr' hr))).symm
   ·simp only[hji,decide_false]
    by_cases e:j=i
    ·rw[e];exact hif.symm
    ·exact(a1v j _ sj (by omega) h1' h2 (b4d (a0S hr' hr))).symm)
  have b6u:yY B (gY (fun j=>L.getD j false) 0 (IY ops.toList ss) (bZ G)) (gY (fun j=>L.getD j false) 0 (ES ss) (bG R)) ops o=some (vi,s.k,s.l):=by
   rw[<-hone]
   refine(a3N b7x (fun q hq r hr=>b1y r ?_) (fun r hr=>b1y r ?_)).symm
   ·rw[b1z];exact uf _ (uf _ (xq.2 ⟨q,hq,hr⟩))
   ·rw[b1z];exact uf _ (yh _ (by rw[hr];simp))
  have b1u:gY (fun j=>(L.setIfInBounds i true).getD j false) 0 (ES ss) (bG R)=jV (gY (fun j=>L.getD j false) 0 (ES ss) (bG R)) s.l:=by
   refine JW _ 0 i _ (by unfold ES;rw[uz,hs];rfl) (by rw[ou];exact hif) (by rw[ou];exact xY hl) (fun j hj=>qV (by omega)) (fun r hr j v hv hij hr'=>?_)
   obtain⟨sj,h2,rfl⟩:=a7q hv
   have hjl:j<ops.size:=by rw[<-hlen'];exact(jr.1 h2).1
   have hjt:r ∈ sj.touch:=by
    obtain⟨sj',_,h3,_,_,h4⟩:=hat j ops[j] (by simp[hjl])
    rw[h2] at h3
    cases h3
    rw[h4];exact yh _ hr'
   rw[ou]
   exact a1v j _ sj hij (wu hjl) h2 (a6L (a0S hr hjt))
  have b7u:gY (fun j=>(L.setIfInBounds i true).getD j false) 0 (IY ops.toList ss) (bZ G)=jV (gY (fun j=>L.getD j false) 0 (IY ops.toList ss) (bZ G)) (a2r o.dst s.k):=by
   refine JW _ 0 i _ (by unfold IY;rw[List.getElem?_zipWith,hs];simp[hio]) (by rw[ou];exact hif) (by rw[ou];exact xY hl) (fun j hj=>qV (by omega)) (fun r hr j v hv hij hr'=>?_)
   obtain⟨oj,sj,h1,h2,rfl⟩:=a7l hv
   have h1':ops[j]?=some oj:=by simpa using h1
   have hd1:=XW hr
   have hd2:=XW hr'
   have:=(EX ho hij hio h1' hs h2).1
   simp[a2i,hd1,hd2] at this
  have hCl:SI ops (L.setIfInBounds i true):=by
   intro j oj hoj hj e he hb'
   have hset:∀ q,L.getD q false=true->(L.setIfInBounds i true).getD q false=true:=fun q hq=>by
    by_cases e1:i=q
    ·subst e1;rw[hif] at hq;cases hq
    ·rw[qV e1];exact hq
   by_cases e1:j=i
   ·subst e1
    rw[hio] at hoj
    cases hoj
    exact hset _ (qW e he hb')
   ·rw[qV (fun e2=>e1 e2.symm)] at hj
    exact hset _ (hC j oj hoj hj e he hb')
  unfold wpOp
  rw[hio]
  refine a3O hB b6u (hvi hv) m1 m2 (fun v w' E' n1 n2 n3 n4=>⟨by simpa using hL,hCl,E',n2.fix.trans m0,?_,?_⟩)
  ·rw[b1u,<-tJ];exact n1
  ·rw[b1u,b7u,<-tJ];exact m2.put n2 (a0k b6u) n3 n4
 ·have hnew:∀ j,(Array.replicate ops.size false).getD j false=false:=fun j=>LY _ j
  have e1:∀ {α:Type} (us:List (List (Nat × α))) (f:Nat->α),gY (fun j=>(Array.replicate ops.size false).getD j false) 0 us f=f:=fun us f=>by
   funext r
   exact GL us 0 f (fun j u _ _=>hnew _)
  rw[e1,e1]
  obtain⟨n1,n2⟩:=hM.grows (bf w.heap.size w).drew
  have hcl0:SI ops (Array.replicate ops.size false):=fun j o hj hj2=>by rw[hnew] at hj2;cases hj2
  exact⟨by simp,hcl0,E,rfl,n1,hf.size,hf.defers,fun s=>n2.wf _ (hf.wf s),fun s=>n2.holds _ _ (hf.wf s) (hf.holds s),hf.par⟩
end
end
end Go.Proofs.YtgplhbhfdgempaaGreat
