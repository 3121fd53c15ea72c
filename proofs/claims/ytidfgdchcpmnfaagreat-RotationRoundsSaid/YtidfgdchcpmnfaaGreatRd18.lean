/-
  Lemmas for the theorem vrounds_holds, part 18 of 33.
-/
import Derived.Test.YtidfgdchcpmnfaaGreatRd02
import Derived.Test.YtidfgdchcpmnfaaGreatRd17
namespace Go.Proofs.YtidfgdchcpmnfaaGreat
open Go Go.RowKit
set_option linter.unusedSimpArgs false
set_option linter.unusedVariables false
set_option maxRecDepth 20000
theorem a6T {P:Program} {md:Region.Mode} {ops:Array Oper} {Q:Exit->Act->World->Prop} (I:Array Bool->Act->World->Prop) (hd:lM md ops=true)
  (hend:∀ L a w,I L a w->(∀ i,i<ops.size->L.getD i true=true)->Q .normal a w)
  (hstep:∀ L a w i o,I L a w->ops[i]?=some o->L.getD i true=false->(∀ e ∈ o.after,Region.binds md e=true->L.getD e.on false=true)->wpOp P ops Q i (I (L.setIfInBounds i true)) a w) :
  ∀ fuel L a w,zW L<=fuel->I L a w->wpAny P md ops Q fuel L a w:=by
 intro fuel
 induction fuel with
 | zero =>
  intro L a w hu hI
  have hn:Region.ready md ops L=[]:=by
   cases hr:Region.ready md ops L with
   | nil=>rfl
   | cons i r =>
    exfalso
    obtain⟨o,_,h2,_⟩:=rU (by rw[hr];exact List.mem_cons_self)
    have:=pV h2
    omega
  exact⟨hn,hend L a w hI (jS hd hn)⟩
 | succ fuel ih =>
  intro L a w hu hI
  refine⟨fun hn=>hend L a w hI (jS hd hn),fun i hi=>?_⟩
  obtain⟨o,h1,h2,h3⟩:=rU hi
  refine wpOp_mono (fun a' w' h'=>ih _ _ _ ?_ h') (hstep L a w i o hI h1 h2 h3)
  have:=pV h2
  omega
def PS:K0->List Nat
 | .val _ _=>[]
 | .own r _=>[r]
 | .ptr r _=>[r]
 | .lT r=>[r]
def K.res:K->List Nat
 | .ptr r _=>[r]
 | .own r _=>[r]
 | .when _ k=>k.res
 | .cell r _ _=>[r]
 | .mrow r _ _=>[r]
 | .mpos r _ _ _=>[r]
 | .lT r=>[r]
 | .mix ks=>ks.flatMap PS
 | .fn _ ks=>ks.flatMap PS
 | .sng r _=>[r]
 | _=>[]
def b6p:Res->List Nat
 | .lC k=>k.res
 | _=>[]
def oL (ρ:Nat->Res) (k:K):List Nat:=k.res++k.res.flatMap fun r=>b6p (ρ r)
section
variable {P:Program} {C:FuncId->List Ctr} {T:Told} {ρ ρ':Nat->Res}
theorem tX {α:Type} {f g:Nat->α} {r:Nat} (h:f r=g r):∀ (l:List (Nat × α)),iR f l r=iR g l r
 | []=>h
 | (q,x)::l=>by
  simp only[iR]
  refine tX ?_ l
  unfold bP;split
  ·rfl
  ·exact h
theorem kH {α:Type} {r:Nat}:∀ (l:List (Nat × α)) (f:Nat->α),r ∉ l.map (·.1)->iR f l r=f r
 | [],_,_=>rfl
 | (q,x)::l,f,h=>by
  simp only[List.map_cons,List.mem_cons,not_or] at h
  simp only[iR]
  rw[kH l _ h.2,aT _ _ h.1]
theorem ZR {k:K} (h:∀ r ∈ k.res,ρ r=ρ' r):tY ρ k=tY ρ' k:=by
 cases k<;>try rfl
 ·rename_i r v
  simp only[tY,h r (by simp[K.res])]
 ·rename_i r v i
  simp only[tY,h r (by simp[K.res])]
theorem oO {k:K} {t:Option Ty} (h:∀ r ∈ k.res,ρ r=ρ' r):vZ ρ t k=vZ ρ' t k:=by
 cases k<;>first|rfl|exact ZR h
theorem a3B {k:K} {t:Option Ty} (h:∀ r ∈ k.res,ρ r=ρ' r):a3A ρ t k=a3A ρ' t k:=by
 have:TP ρ k=TP ρ' k:=by
  cases k<;>try rfl
  ·rename_i t x;cases t<;>rfl
  ·rename_i r v
   simp only[TP,h r (by simp[K.res])]
  ·rename_i r v i
   simp only[TP,h r (by simp[K.res])]
 unfold a3A
 rw[this,oO h]
theorem JQ {t:Option Ty}:∀ {ks:List K} {ρ ρ':Nat->Res},(∀ k ∈ ks,∀ r ∈ k.res,ρ r=ρ' r)->CG ρ t ks=CG ρ' t ks
 | [],_,_,_=>rfl
 | k::ks,ρ,ρ',h=>by
  simp only[CG,oO (h k (List.mem_cons_self ..))]
  split
  ·rename_i p l _
   rw[JQ (ρ:=after ρ l) (ρ':=after ρ' l) (fun k' hk' r hr=>by rw[pX,pX];exact tX (h k' (List.mem_cons_of_mem _ hk') r hr) l)]
  ·rfl
theorem yD:∀ {ts:List Ty} {ks:List K} {ρ ρ':Nat->Res},(∀ k ∈ ks,∀ r ∈ k.res,ρ r=ρ' r)->yC ρ ts ks=yC ρ' ts ks
 | [],[],_,_,_=>rfl
 | [],_::_,_,_,_=>rfl
 | _::_,[],_,_,_=>rfl
 | t::ts,k::ks,ρ,ρ',h=>by
  simp only[yC,oO (h k (List.mem_cons_self ..))]
  split
  ·rename_i p l _
   rw[yD (ρ:=after ρ l) (ρ':=after ρ' l) (fun k' hk' r hr=>by rw[pX,pX];exact tX (h k' (List.mem_cons_of_mem _ hk') r hr) l)]
  ·rfl
theorem ZT {k:Operand->K} {d:Option Nat} {op:Op} (hk:∀ x,∀ r ∈ (k x).res,ρ r=ρ' r) (hd:∀ r,d=some r->ρ r=ρ' r):qA P T ρ k d op=qA P T ρ' k d op:=by
 cases op<;>try rfl
 case alloc t =>
  simp only[qA]
  split
  ·rw[hd _ (by first|assumption|rfl)]
  ·rfl
 case box t x =>
  simp only[qA,oO (hk x)]
  split
  ·rw[hd _ (by first|assumption|rfl)]
  ·rfl
 case load t x =>
  simp only[qA]
  split
  ·rename_i r o hx;rw[hk x r (by rw[hx];simp[K.res])]
  ·rfl
 case store t x y =>
  simp only[qA,oO (hk y)]
  split
  ·rename_i r o _ _ hx _;rw[hk x r (by rw[hx];simp[K.res])]
  ·rfl
 case fieldAddr s x i =>
  simp only[qA]
  split
  ·rename_i r o hx;rw[hk x r (by rw[hx];simp[K.res])]
  ·rfl
 case indexAddr s x i =>
  simp only[qA]
  split
  ·rename_i r o _ _ hx _;rw[hk x r (by rw[hx];simp[K.res])]
  ·rfl
theorem a1u {k:Operand->K} {d:Option Nat} {op:Op} (hk:∀ x,∀ r ∈ (k x).res,ρ r=ρ' r) (hd:∀ r,d=some r->ρ r=ρ' r):zO P T ρ k d op=zO P T ρ' k d op:=by
 cases op<;>try rfl
 case buildSlice t len parts =>
  simp only[zO]
  have h1:CG ρ (a4l P T t) (parts.toList.map fun q=>k q.2)=CG ρ' (a4l P T t) (parts.toList.map fun q=>k q.2):=JQ (fun k' hk' r hr=>by
   obtain⟨q,_,rfl⟩:=List.mem_map.1 hk'
   exact hk q.2 r hr)
  rw[h1]
  split
  ·split
   ·split
    ·split
     ·rw[hd _ (by first|assumption|rfl)]
     ·rfl
    ·rfl
   ·rfl
   ·rfl
  ·rfl
 case call c =>
  obtain⟨cl,xs,ts⟩:=c
  cases cl<;>try rfl
  rename_i bi
  cases bi<;>try rfl
  simp only[zO]
  split
  ·rename_i s x t t' _ _
   split
   ·simp only[a3B (hk x)]
    split
    ·rename_i r v hs;rw[hk s r (by rw[hs];simp[K.res])]
    ·split
     ·rw[hd _ (by first|assumption|rfl)]
     ·rfl
    ·rfl
   ·rfl
  ·rfl
theorem zM {k:K} {r:Nat} (h:r ∈ k.res):r ∈ oL ρ k:=List.mem_append_left _ h
theorem a9k {k k':K} {r q:Nat} (h:r ∈ k.res) (hr:ρ r=.lC k') (hq:q ∈ k'.res):q ∈ oL ρ k:=List.mem_append_right _ (List.mem_flatMap.2 ⟨r,h,by rw[hr];exact hq⟩)
theorem AA {k:K} {t:Option Ty} (h:∀ r ∈ k.res,ρ r=ρ' r):tJ ρ t k=tJ ρ' t k:=by
 cases k<;>try rfl
 ·rename_i r v
  simp only[tJ,h r (by simp[K.res])]
 ·rename_i r v i
  simp only[tJ,h r (by simp[K.res])]
theorem KZ {k:K} {t:Option Ty} (h:∀ r ∈ oL ρ k,ρ r=ρ' r):CU ρ t k=CU ρ' t k:=by
 have h0:∀ r ∈ k.res,ρ r=ρ' r:=fun r hr=>h r (zM hr)
 cases k
 case ptr r o=>simp only[CU,h0 r (by simp[K.res])]
 case lT r =>
  simp only[CU,<-h0 r (by simp[K.res])]
  split
  ·rename_i k9 hr
   split
   ·rw[AA (ρ:=ρ) (ρ':=ρ') (fun q hq=>h q (a9k (k:=.lT r) (by simp[K.res]) hr hq))]
   ·rfl
  ·rfl
 all_goals exact AA (t:=t) h0
theorem b2O (k:K0):(k0K k).res=PS k:=by cases k<;>rfl
theorem zZ:∀ {u:Ty} {ks:List K0},(∀ k ∈ ks,∀ r ∈ oL ρ (k0K k),ρ r=ρ' r)->iL ρ u ks=iL ρ' u ks
 | .unit,[],_=>rfl
 | .pair a b,k::ks,h=>by
  simp only[iL]
  rw[KZ (h k (List.mem_cons_self ..)),zZ (fun k' hk'=>h k' (List.mem_cons_of_mem _ hk'))]
 | .unit,_::_,_=>rfl
 | .pair _ _,[],_=>rfl
 | .bool,_,_=>rfl
 | .int _,_,_=>rfl
 | .lf _,_,_=>rfl
 | .list _,_,_=>rfl
 | .arr _ _,_,_=>rfl
 | .ref _,_,_=>rfl
 | .clo _ _,_,_=>rfl
theorem a4X {g:FuncId} {ks:List K0} {k:K0} {r:Nat} (hk:k ∈ ks) (h:r ∈ oL ρ (k0K k)):r ∈ oL ρ (.fn g ks):=by
 have h1:∀ q ∈ (k0K k).res,q ∈ (K.fn g ks).res:=fun q hq=>List.mem_flatMap.2 ⟨k,hk,by rw[<-b2O];exact hq⟩
 rcases List.mem_append.1 h with h|h
 ·exact zM (h1 r h)
 ·obtain⟨q,hq,h⟩:=List.mem_flatMap.1 h
  exact List.mem_append_right _ (List.mem_flatMap.2 ⟨q,h1 q hq,h⟩)
theorem a1P {k:K} {t:Ty} (h:∀ r ∈ oL ρ k,ρ r=ρ' r):SH ρ t k=SH ρ' t k:=by
 cases k
 case fn g ks =>
  simp only[SH]
  split
  ·rw[zZ (fun k hk r hr=>h r (a4X hk hr))]
  ·rfl
 all_goals exact KZ (t:=some t) h
theorem tH:∀ {ts:List Ty} {ks:List K},(∀ k ∈ ks,∀ r ∈ oL ρ k,ρ r=ρ' r)->mQ ρ ts ks=mQ ρ' ts ks
 | [],[],_=>rfl
 | [],_::_,_=>rfl
 | _::_,[],_=>rfl
 | t::ts,k::ks,h=>by
  simp only[mQ]
  rw[a1P (h k (List.mem_cons_self ..)),tH (fun k' hk'=>h k' (List.mem_cons_of_mem _ hk'))]
theorem yG {ks:List K} (h:∀ k ∈ ks,∀ r ∈ oL ρ k,ρ r=ρ' r):∀ cs:List Ctr,CJ ρ ks cs=CJ ρ' ks cs
 | []=>rfl
 | c::cs=>by
  have e:ZP ρ c ks=ZP ρ' c ks:=by
   unfold ZP
   rw[tH h,yD (fun k hk r hr=>h k hk r (zM hr))]
  simp only[CJ]
  rw[e,yG h cs]
theorem WY {k:Operand->K} {op:Op} (hk:∀ x,∀ r ∈ oL ρ (k x),ρ r=ρ' r):uP P C ρ k op=uP P C ρ' k op:=by
 cases op<;>try rfl
 case makeFunc fn first caps=>cases fn<;>rfl
 case call c =>
  obtain⟨cl,xs,ts⟩:=c
  cases cl<;>try rfl
  rename_i f
  simp only[uP]
  have hcap:∀ (t:Ty) (x:t.den) (k':K),k' ∈ ZX t x->k'.res=[]:=by
   intro t
   induction t with
   | pair a b _ ih =>
    intro x k' h
    rcases List.mem_cons.1 h with rfl|h
    ·rfl
    ·exact ih x.2 k' h
   | _=>intro x k' h;cases h
  split
  ·rename_i g t cx hf
   rw[yG (fun k' hk' r hr=>by
    rcases List.mem_append.1 hk' with h|h
    ·obtain⟨q,_,rfl⟩:=List.mem_map.1 h;exact hk q r hr
    ·exfalso
     unfold oL at hr
     rw[hcap t cx k' h] at hr
     simp at hr)]
  ·rename_i g l hf
   rw[yG (fun k' hk' r hr=>by
    rcases List.mem_append.1 hk' with h|h
    ·obtain⟨q,_,rfl⟩:=List.mem_map.1 h;exact hk q r hr
    ·obtain⟨q,hq,rfl⟩:=List.mem_map.1 h
     exact hk f r (by rw[hf];exact a4X hq hr))]
  ·rfl
theorem a3g {k:Operand->K} {op:Op} (hk:∀ x,∀ r ∈ (k x).res,ρ r=ρ' r):JI P ρ k op=JI P ρ' k op:=by
 cases op<;>try rfl
 case indexAddr s x i =>
  simp only[JI]
  split
  ·rename_i r v _ _ hx _;rw[hk x r (by rw[hx];simp[K.res])]
  ·rename_i r v _ _ _ hx _;rw[hk x r (by rw[hx];simp[K.res])]
  ·rfl
 case load t x =>
  simp only[JI]
  split
  ·rename_i r v _ hx;rw[hk x r (by rw[hx];simp[K.res])]
  ·rename_i r v _ _ hx;rw[hk x r (by rw[hx];simp[K.res])]
  ·rename_i r hx;rw[hk x r (by rw[hx];simp[K.res])]
  ·rfl
 case call c =>
  obtain⟨cl,xs,ts⟩:=c
  cases cl<;>try rfl
  rename_i bi
  cases bi<;>try rfl
  simp only[JI]
  split
  ·rename_i x t _ _
   split
   ·split
    ·rename_i r v hx;rw[hk x r (by rw[hx];simp[K.res])]
    ·rename_i r v _ hx;rw[hk x r (by rw[hx];simp[K.res])]
    ·rfl
   ·rfl
  ·rfl
theorem a3L {k:Operand->K} {d:Option Nat} {op:Op} (hk:∀ x,∀ r ∈ (k x).res,ρ r=ρ' r) (hd:∀ r,d=some r->ρ r=ρ' r):ZG P T ρ k d op=ZG P T ρ' k d op:=by
 cases op<;>try rfl
 case store t x y =>
  have hown:ownB ρ (k y)=ownB ρ' (k y):=by
   cases hy:k y<;>try rfl
   rename_i r v
   simp only[ownB]
   rw[hk y r (by rw[hy];simp[K.res])]
  simp only[ZG,oO (hk y),hown]
  split
  ·rename_i r v i hx
   rw[hk x r (by rw[hx];simp[K.res])]
   split
   ·rfl
   ·split
    ·rfl
    ·rename_i r2 v2 hy
     rw[hk y r2 (by rw[hy];simp[K.res])]
    ·rfl
   ·rfl
  ·rename_i r v id i hx;rw[hk x r (by rw[hx];simp[K.res])]
  ·rename_i r hx;rw[hk x r (by rw[hx];simp[K.res])]
  ·rfl
 case makeSlice t n m =>
  simp only[ZG]
  split
  ·rw[hd _ (by first|assumption|rfl)]
  ·rfl
theorem a2Q {k:Operand->K} {d:Option Nat} {op:Op} (hk:∀ x,∀ r ∈ (k x).res,ρ r=ρ' r) (hd:∀ r,d=some r->ρ r=ρ' r):QG P T ρ k d op=QG P T ρ' k d op:=by
 cases op<;>try rfl
 case buildSlice t len parts =>
  simp only[QG]
  split<;>try rfl
  rename_i r
  split<;>try rfl
  split<;>try rfl
  split<;>try rfl
  split
  ·rw[hd _ (by first|assumption|rfl)]
  ·rename_i y _
   split
   ·rename_i r2 v2 hy;rw[hk y r2 (by rw[hy];simp[K.res])]
   ·rfl
  ·rfl
 case call c =>
  obtain⟨cl,xs,ts⟩:=c
  cases cl<;>try rfl
  rename_i bi
  cases bi<;>try rfl
  simp only[QG]
  split
  ·rename_i s x t t' _ _
   split
   ·split
    ·rename_i r2 v2 hx
     rw[hk x r2 (by rw[hx];simp[K.res])]
     split
     ·split
      ·rename_i r v hs;rw[hk s r (by rw[hs];simp[K.res])]
      ·rw[hd _ (by first|assumption|rfl)]
      ·rfl
     ·rfl
    ·rfl
   ·rfl
  ·rfl
theorem KY {r:Nat} {row:Option Nat}:∀ {ts:List Ty} {ks:List K},(∀ k ∈ ks,∀ q ∈ k.res,ρ q=ρ' q)->GN ρ r row ts ks=GN ρ' r row ts ks
 | [],[],_=>rfl
 | [],_::_,_=>rfl
 | _::_,[],_=>rfl
 | t::ts,k::ks,h=>by
  simp only[GN]
  rw[AA (h k (List.mem_cons_self ..)),KY (fun k' hk'=>h k' (List.mem_cons_of_mem _ hk'))]
theorem a0P {k:LK} {k0:K} (h:∀ q ∈ k0.res,ρ q=ρ' q):a4E ρ k k0=a4E ρ' k k0:=by
 cases k with
 | row e t =>
  cases k0<;>try rfl
  case own r v=>exact congrArg (MJ e t r v) (h r (by simp[K.res]))
  case mrow r v i=>exact congrArg (MI e t r v i) (h r (by simp[K.res]))
 | mat e e2 t =>
  cases k0<;>try rfl
  case own r v=>exact congrArg (MH e e2 t r v) (h r (by simp[K.res]))
theorem EG {d:Option Nat} {ks:List K} (h:∀ k ∈ ks,∀ r ∈ oL ρ k,ρ r=ρ' r) (hd:∀ r,d=some r->ρ r=ρ' r):∀ cs:List ZK,yH ρ d ks cs=yH ρ' d ks cs
 | []=>rfl
 | c::cs=>by
  have e:CV ρ d ks c=CV ρ' d ks c:=by
   cases c with
   | mk k args pre made =>
    simp only[CV]
    split
    ·rw[hd _ (by first|assumption|rfl),tH h]
    ·rfl
   | chg k args res pre out fn =>
    cases ks with
    | nil=>rfl
    | cons k0 ks =>
     have h0:∀ k ∈ k0::ks,∀ r ∈ k.res,ρ r=ρ' r:=fun k hk r hr=>h k hk r (zM hr)
     simp only[CV]
     rw[a0P (h0 k0 (List.mem_cons_self ..)),yD (fun k hk=>h0 k (List.mem_cons_of_mem _ hk))]
     simp only[KY (ρ:=ρ) (ρ':=ρ') (ks:=ks) (fun k hk=>h0 k (List.mem_cons_of_mem _ hk))]
  simp only[yH]
  rw[e,EG h hd cs]
theorem WX {k:Operand->K} {d:Option Nat} {op:Op} (hk:∀ x,∀ r ∈ oL ρ (k x),ρ r=ρ' r) (hd:∀ r,d=some r->ρ r=ρ' r):yI P T ρ k d op=yI P T ρ' k d op:=by
 cases op<;>try rfl
 case call c =>
  obtain⟨cl,xs,ts⟩:=c
  cases cl<;>try rfl
  rename_i f
  simp only[yI]
  have hcap:∀ (t:Ty) (x:t.den) (k':K),k' ∈ ZX t x->k'.res=[]:=by
   intro t
   induction t with
   | pair a b _ ih =>
    intro x k' h
    rcases List.mem_cons.1 h with rfl|h
    ·rfl
    ·exact ih x.2 k' h
   | _=>intro x k' h;cases h
  split
  ·split
   ·refine EG (fun k9 hk9 r hr=>?_) hd _
    rcases List.mem_append.1 hk9 with hk9|hk9
    ·obtain⟨q,_,rfl⟩:=List.mem_map.1 hk9;exact hk q r hr
    ·exfalso
     unfold oL at hr
     rw[hcap _ _ _ hk9] at hr
     simp at hr
   ·rfl
  ·rfl
theorem FZ {k:Operand->K} {d:Option Nat} {op:Op} (hk:∀ x,∀ r ∈ oL ρ (k x),ρ r=ρ' r) (hd:∀ r,d=some r->ρ r=ρ' r):DV P C T ρ k d op=DV P C T ρ' k d op:=by
 have h0:∀ x,∀ r ∈ (k x).res,ρ r=ρ' r:=fun x r hr=>hk x r (zM hr)
 unfold DV
 rw[ZT h0 hd,a1u h0 hd,a3g h0,a3L h0 hd,a2Q h0 hd,WX hk hd,WY hk]
end
def UH (ops:Array Oper) (o:Oper):Option Nat:=match o.guard with
 | some (j,_)=>(ops[j]?).bind (·.dst)
 | none=>none
def readsOf (ops:Array Oper) (o:Oper):List Nat:=tmpsOf o.op++(UH ops o).toList
theorem a9N (ρ:Nat->Res) (k:K):oL ρ (unW k)=oL ρ k:=by cases k<;>rfl
theorem RG (ρ:Nat->Res) (v:Value):oL ρ (wG v)=[]:=by unfold wG;split<;>rfl
theorem a0Y {B:Book} {G G':Nat->K} {ρ ρ':Nat->Res} {ops:Array Oper} {o:Oper} (hG:∀ s ∈ readsOf ops o,G s=G' s) (hρ:∀ s ∈ tmpsOf o.op,∀ r ∈ oL ρ (G s),ρ r=ρ' r) (hd:∀ r,o.dst=some r->ρ r=ρ' r):xU B G ρ ops o=xU B G' ρ' ops o:=by
 have h1:nD (tmpsOf o.op) G=nD (tmpsOf o.op) G':=by
  funext s
  unfold nD
  split
  ·rename_i h;exact hG s (List.mem_append_left _ (by simpa using h))
  ·rfl
 have h2:nD (tmpsOf o.op) (unG G)=nD (tmpsOf o.op) (unG G'):=by
  funext s
  unfold nD
  split
  ·rename_i h;unfold unG;rw[hG s (List.mem_append_left _ (by simpa using h))]
  ·rfl
 have h3:(tmpsOf o.op).flatMap (fun s=>JY (G s))=(tmpsOf o.op).flatMap (fun s=>JY (G' s)):=by
  have:∀ l:List Nat,(∀ s ∈ l,G s=G' s)->l.flatMap (fun s=>JY (G s))=l.flatMap (fun s=>JY (G' s)):=by
   intro l
   induction l with
   | nil=>intro _;rfl
   | cons x l ih=>intro h;rw[List.flatMap_cons,List.flatMap_cons,h x (List.mem_cons_self ..),ih (fun s hs=>h s (List.mem_cons_of_mem _ hs))]
  exact this _ (fun s hs=>hG s (List.mem_append_left _ hs))
 have k1:∀ x,∀ r ∈ oL ρ (opK (nD (tmpsOf o.op) G') x),ρ r=ρ' r:=by
  rw[<-h1]
  intro x r hr
  cases x with
  | tmp s =>
   have hr:r ∈ oL ρ (nD (tmpsOf o.op) G s):=hr
   unfold nD at hr
   split at hr
   ·rename_i h;exact hρ s (by simpa using h) r hr
   ·cases hr
  | const v=>exfalso;have hr:r ∈ oL ρ (wG v):=hr;rw[RG] at hr;cases hr
  | func f=>cases hr
  | global g=>cases hr
 have k2:∀ x,∀ r ∈ oL ρ (opK (nD (tmpsOf o.op) (unG G')) x),ρ r=ρ' r:=by
  rw[<-h2]
  intro x r hr
  cases x with
  | tmp s =>
   have hr:r ∈ oL ρ (nD (tmpsOf o.op) (unG G) s):=hr
   unfold nD at hr
   split at hr
   ·rename_i h;exact hρ s (by simpa using h) r (by rw[<-a9N];exact hr)
   ·cases hr
  | const v=>exfalso;have hr:r ∈ oL ρ (wG v):=hr;rw[RG] at hr;cases hr
  | func f=>cases hr
  | global g=>cases hr
 unfold xU
 rw[h1,h2,h3,FZ k1 hd,FZ k2 hd]
 cases hg:o.guard with
 | none=>rfl
 | some jb =>
  obtain⟨j,b⟩:=jb
  simp only
  cases hs:(ops[j]?).bind (·.dst) with
  | none=>rfl
  | some s =>
   have:G s=G' s:=hG s (List.mem_append_right _ (by simp[UH,hg,hs]))
   simp only[this]
def fM {α:Type} (done:Nat->Bool):Nat->List (List (Nat × α))->(Nat->α)->Nat->α
 | _,[],f=>f
 | j,u::us,f=>fM done (j+1) us (if done j then iR f u else f)
theorem yR {α:Type} {d d':Nat->Bool} {r:Nat}:∀ (us:List (List (Nat × α))) (b:Nat) (f g:Nat->α),f r=g r->(∀ j u,us[j]?=some u->r ∈ u.map (·.1)->d (b+j)=d' (b+j))->fM d b us f r=fM d' b us g r
 | [],b,f,g,h,_=>h
 | u::us,b,f,g,h,hd=>by
  simp only[fM]
  refine yR us (b+1) _ _ ?_ (fun j u' hu hr=>by have:=hd (j+1) u' hu hr;rwa [show b+(j+1)=b+1+j by omega] at this)
  by_cases hr:r ∈ u.map (·.1)
  ·have:=hd 0 u rfl hr
   rw[Nat.add_zero] at this
   rw[<-this]
   split
   ·exact tX h u
   ·exact h
  ·split<;>split<;>first
    | (rw[kH u _ hr,kH u _ hr];exact h)
    | (rw[kH u _ hr];exact h)
    |exact h
theorem AV {α:Type} {d:Nat->Bool} {r:Nat}:∀ (us:List (List (Nat × α))) (b:Nat) (f:Nat->α),(∀ j u,us[j]?=some u->r ∈ u.map (·.1)->d (b+j)=false)->fM d b us f r=f r
 | [],b,f,_=>rfl
 | u::us,b,f,hd=>by
  simp only[fM]
  rw[AV us (b+1) _ (fun j u' hu hr=>by have:=hd (j+1) u' hu hr;rwa [show b+(j+1)=b+1+j by omega] at this)]
  by_cases hr:r ∈ u.map (·.1)
  ·have:=hd 0 u rfl hr
   rw[Nat.add_zero] at this
   rw[this];rfl
  ·split
   ·exact kH u _ hr
   ·rfl
theorem TS {α:Type} {r:Nat}:∀ (l:List (Nat × α)) (f g:Nat->α),r ∈ l.map (·.1)->iR f l r=iR g l r
 | [],_,_,h=>by cases h
 | (q,x)::l,f,g,h=>by
  simp only[iR]
  by_cases hr:r ∈ l.map (·.1)
  ·exact TS l _ _ hr
  ·rw[kH l _ hr,kH l _ hr]
   have:r=q:=by
    rcases List.mem_cons.1 h with h|h
    ·exact h
    ·exact absurd h hr
   subst this
   rw[aB,aB]
theorem CZ {α:Type} {d d':Nat->Bool} {u:List (Nat × α)}:∀ (us:List (List (Nat × α))) (b i:Nat) (f:Nat->α),us[i]?=some u->d (b+i)=false->d' (b+i)=true->(∀ j,j≠b+i->d' j=d j)->(∀ r ∈ u.map (·.1),∀ j v,us[j]?=some v->i<j->r ∈ v.map (·.1)->d (b+j)=false)->fM d' b us f=iR (fM d b us f) u
 | v::us,b,0,f,hi,hd,hd',he,hn=>by
  simp only[List.getElem?_cons_zero,Option.some.injEq] at hi
  subst hi
  simp only[Nat.add_zero] at hd hd' he
  simp only[fM,hd,hd',if_true,Bool.false_eq_true,if_false]
  funext r
  have h1:fM d' (b+1) us (iR f v) r=fM d (b+1) us (iR f v) r:=yR us (b+1) _ _ rfl (fun j u' hu hr=>he _ (by omega))
  rw[h1]
  by_cases hr:r ∈ v.map (·.1)
  ·rw[AV us (b+1) _ (fun j u' hu hr'=>by have:=hn r hr (j+1) u' hu (by omega) hr';rwa [show b+(j+1)=b+1+j by omega] at this)]
   exact TS v _ _ hr
  ·rw[kH v _ hr]
   exact yR us (b+1) _ _ (kH v _ hr) (fun j u' hu hr=>rfl)
 | v::us,b,i+1,f,hi,hd,hd',he,hn=>by
  simp only[fM]
  have:(if d' b=true then iR f v else f)=(if d b=true then iR f v else f):=by rw[he b (by omega)]
  rw[this]
  exact CZ us (b+1) i _ hi (by rwa [show b+1+i=b+(i+1) by omega]) (by rwa [show b+1+i=b+(i+1) by omega]) (fun j hj=>he j (by omega)) (fun r hr j v' hv hlt hr'=>by
   have:=hn r hr (j+1) v' hv (by omega) hr'
   rwa [show b+(j+1)=b+1+j by omega] at this)
 | [],b,i,f,hi,hd,hd',he,hn=>by simp at hi
theorem IK {α:Type} {d:Nat->Bool}:∀ (us:List (List (Nat × α))) (b:Nat) (f:Nat->α),(∀ j,j<us.length->d (b+j)=true)->fM d b us f=us.foldl iR f
 | [],b,f,h=>rfl
 | u::us,b,f,h=>by
  have h0:=h 0 (by simp)
  rw[Nat.add_zero] at h0
  simp only[fM,h0,if_true,List.foldl_cons]
  exact IK us (b+1) _ (fun j hj=>by have:=h (j+1) (by simpa using hj);rwa [show b+(j+1)=b+1+j by omega] at this)
structure Sim where
 k:K
 l:List (Nat × Res)
 touch:List Nat
def xA (B:Book) (ops:Array Oper):List Oper->Gam->Rho->Option (List Prop × List Sim × Gam × Rho)
 | [],G,R=>some ([],[],G,R)
 | o::rest,G,R=>match xU B (dJ G) (aW R) ops o with
  | some (vc,k,l)=>match xA B ops rest (b3g o.dst k G) (aft R l) with
   | some (vc',ss,G',R')=>some (vc++vc',⟨k,l,(tmpsOf o.op).flatMap (fun s=>oL (aW R) (dJ G s))++o.dst.toList++l.map (·.1)⟩::ss,G',R')
   | none=>none
  | none=>none
def isDst (o:Oper) (l:List Nat):Bool:=match o.dst with
 | some s=>l.contains s
 | none=>false
def YS (o o':Oper):Bool:=match o.dst,o'.dst with
 | some s,some s'=>s==s'
 | _,_=>false
def clash (ops:Array Oper) (o o':Oper) (s s':Sim):Bool:=isDst o (readsOf ops o') || isDst o' (readsOf ops o) || s.l.any (fun q=>s'.touch.contains q.1) || s'.l.any (fun q=>s.touch.contains q.1)
def a2T (ops:Array Oper) (b:Array Nat) (ss:List Sim):Bool:=(List.range ops.size).all fun j=>match ops[j]?,ss[j]? with
 | some o',some s'=>(List.range j).all fun i=>match ops[i]?,ss[i]? with
  | some o,some s=>!YS o o'&&(!clash ops o o' s s' || (b.getD j 0).testBit i)
  | _,_=>false
 | _,_=>false
def a8P (ops:Array Oper) (b:Array Nat):Bool:=(List.range ops.size).all fun j=>match ops[j]? with
 | some o=>(List.range j).all fun i=>!(b.getD j 0).testBit i || o.after.any fun e=>Region.binds .any e&&(e.on==i || (decide (e.on<j)&&decide (i<e.on)&&(b.getD e.on 0).testBit i))
 | none=>false
def LW (ops:Array Oper) (L:Array Bool):Prop:=∀ j o,ops[j]?=some o->L.getD j false=true->∀ e ∈ o.after,Region.binds .any e=true->L.getD e.on false=true
theorem QI {ops:Array Oper} {b:Array Nat} (h:a8P ops b=true) {L:Array Bool} (hc:LW ops L):∀ (j:Nat) (o:Oper) (i:Nat),ops[j]?=some o->i<j->(b.getD j 0).testBit i=true->(∀ e ∈ o.after,Region.binds .any e=true->L.getD e.on false=true)->L.getD i false=true:=by
 intro j
 induction j using Nat.strongRecOn with
 | _ j ih =>
  intro o i ho hij hb hd
  have hj:j<ops.size:=(Array.getElem?_eq_some_iff.1 ho).1
  have h1:=(List.all_eq_true.1 h) j (List.mem_range.2 hj)
  rw[ho] at h1
  have h2:=(List.all_eq_true.1 h1) i (List.mem_range.2 hij)
  rw[hb] at h2
  simp only[Bool.not_true,Bool.false_or,Array.any_eq_true'] at h2
  obtain⟨e,he,h3⟩:=h2
  simp only[Bool.and_eq_true,Bool.or_eq_true,beq_iff_eq,decide_eq_true_eq] at h3
  obtain⟨h4,h5⟩:=h3
  have hdone:=hd e he h4
  rcases h5 with h5|⟨⟨h5,hie⟩,h6⟩
  ·rw[<-h5];exact hdone
  ·have ho':ops[e.on]?=some ops[e.on]:=Array.getElem?_eq_getElem (by omega)
   exact ih e.on h5 _ i ho' hie h6 (hc e.on _ ho' hdone)
theorem KG {α:Type} {d:Nat->Bool}:∀ (us:List (List (Nat × α))) (b:Nat) (f:Nat->α),fM d (b+1) us f=fM (fun j=>d (j+1)) b us f
 | [],b,f=>rfl
 | u::us,b,f=>by simp only[fM];exact KG us (b+1) _
def BX (l:List Oper) (ss:List Sim):List (List (Nat × K)):=List.zipWith (fun o s=>YZ o.dst s.k) l ss
def zG (ss:List Sim):List (List (Nat × Res)):=ss.map (·.l)
theorem VR {B:Book} {ops:Array Oper}:∀ {l:List Oper} {G:Gam} {R:Rho} {vc:List Prop} {ss:List Sim} {G':Gam} {R':Rho},xA B ops l G R=some (vc,ss,G',R') ->
  ss.length=l.length/\dJ G'=(BX l ss).foldl iR (dJ G)/\aW R'=(zG ss).foldl iR (aW R) /\
  ∀ i o,l[i]?=some o->∃ s vi,ss[i]?=some s/\(eY vc->eY vi)/\xU B (fM (fun j=>decide (j<i)) 0 (BX l ss) (dJ G)) (fM (fun j=>decide (j<i)) 0 (zG ss) (aW R)) ops o=some (vi,s.k,s.l) /\
   s.touch=(tmpsOf o.op).flatMap (fun q=>oL (fM (fun j=>decide (j<i)) 0 (zG ss) (aW R)) (fM (fun j=>decide (j<i)) 0 (BX l ss) (dJ G) q))++o.dst.toList++s.l.map (·.1)
 | [],G,R,vc,ss,G',R',h=>by
  simp only[xA,Option.some.injEq,Prod.mk.injEq] at h
  obtain⟨_,rfl,rfl,rfl⟩:=h
  exact⟨rfl,rfl,rfl,fun i o hi=>by simp at hi⟩
 | o::rest,G,R,vc,ss,G',R',h=>by
  simp only[xA] at h
  split at h<;>first|(cases h;done)|skip
  rename_i vc1 k l1 h1
  split at h<;>first|(cases h;done)|skip
  rename_i vc2 ss2 G2 R2 h2
  simp only[Option.some.injEq,Prod.mk.injEq] at h
  obtain⟨rfl,rfl,rfl,rfl⟩:=h
  obtain⟨k1,k2,k3,k4⟩:=VR h2
  rw[vG] at k2 k4
  rw[OW,pX] at k3 k4
  refine⟨by simp[k1],k2,k3,fun i o' hi=>?_⟩
  cases i with
  | zero =>
   simp only[List.getElem?_cons_zero,Option.some.injEq] at hi
   subst hi
   have e1:∀ {α:Type} (us:List (List (Nat × α))) (f:Nat->α),fM (fun j=>decide (j<0)) 0 us f=f:=fun us f=>by
    funext r
    exact AV us 0 f (fun j u _ _=>by simp)
   exact⟨_,vc1,rfl,fun hv=>(bK.1 hv).1,by rw[e1,e1];exact h1,by rw[e1,e1]⟩
  | succ i =>
   obtain⟨s,vi,j1,j2,j3,j4⟩:=k4 i o' (by simpa using hi)
   have e1:∀ {α:Type} (u:List (Nat × α)) (us:List (List (Nat × α))) (f:Nat->α),fM (fun j=>decide (j<i+1)) 0 (u::us) f=fM (fun j=>decide (j<i)) 0 us (iR f u):=fun u us f=>by
    simp only[fM]
    rw[if_pos (by simp),KG]
    congr 1
    funext j
    simp
   refine⟨s,vi,by simpa using j1,fun hv=>j2 (bK.1 hv).2,?_,?_⟩
   ·show xU B (fM _ 0 (YZ o.dst k::BX rest ss2) (dJ G)) (fM _ 0 (l1::zG ss2) (aW R)) ops o'=_
    rw[e1,e1];exact j3
   ·show s.touch=(tmpsOf o'.op).flatMap (fun q=>oL (fM _ 0 (l1::zG ss2) (aW R)) (fM _ 0 (YZ o.dst k::BX rest ss2) (dJ G) q))++_++_
    rw[e1,e1];exact j4
theorem a4A {l:List Oper} {ss:List Sim} {j:Nat} {u:List (Nat × K)} (h:(BX l ss)[j]?=some u):∃ o s,l[j]?=some o/\ss[j]?=some s/\u=YZ o.dst s.k:=by
 unfold BX at h
 rw[List.getElem?_zipWith] at h
 cases h1:l[j]? with
 | none=>rw[h1] at h;cases h
 | some o =>
  cases h2:ss[j]? with
  | none=>rw[h1,h2] at h;cases h
  | some s=>rw[h1,h2] at h;simp at h;exact⟨o,s,rfl,rfl,h.symm⟩
theorem a4G {ss:List Sim} {j:Nat} {u:List (Nat × Res)} (h:(zG ss)[j]?=some u):∃ s,ss[j]?=some s/\u=s.l:=by
 unfold zG at h
 rw[List.getElem?_map] at h
 cases h2:ss[j]? with
 | none=>rw[h2] at h;cases h
 | some s=>rw[h2] at h;simp at h;exact⟨s,rfl,h.symm⟩
theorem SA {d:Option Nat} {k:K} {r:Nat} (h:r ∈ (YZ d k).map (·.1)):d=some r:=by
 cases d with
 | none=>cases h
 | some s=>simp[YZ] at h;rw[h]
theorem a0K {o:Oper} {l:List Nat} {s:Nat} (h:o.dst=some s) (hs:s ∈ l):isDst o l=true:=by simp[isDst,h,hs]
theorem WQ {l:List (Nat × Res)} {t:List Nat} {r:Nat} (h:r ∈ l.map (·.1)) (ht:r ∈ t):l.any (fun q=>t.contains q.1)=true:=by
 obtain⟨q,hq,rfl⟩:=List.mem_map.1 h
 exact List.any_eq_true.2 ⟨q,hq,by simpa using ht⟩
theorem zK {ops:Array Oper} {b:Array Nat} {ss:List Sim} (h:a2T ops b ss=true) {i j:Nat} {o o':Oper} {s s':Sim} (hij:i<j) (hi:ops[i]?=some o) (hj:ops[j]?=some o') (hs:ss[i]?=some s) (hs':ss[j]?=some s'):YS o o'=false/\(clash ops o o' s s'=true->(b.getD j 0).testBit i=true):=by
 have hjl:j<ops.size:=(Array.getElem?_eq_some_iff.1 hj).1
 have h1:=(List.all_eq_true.1 h) j (List.mem_range.2 hjl)
 rw[hj,hs'] at h1
 have h2:=(List.all_eq_true.1 h1) i (List.mem_range.2 hij)
 rw[hi,hs] at h2
 simp only[Bool.and_eq_true,Bool.not_eq_true',Bool.or_eq_true] at h2
 refine⟨h2.1,fun hc=>?_⟩
 rcases h2.2 with h3|h3
 ·rw[hc] at h3;cases h3
 ·exact h3
theorem a4c {ops:Array Oper} {o o':Oper} {s s':Sim} (h:s.l.any (fun q=>s'.touch.contains q.1)=true):clash ops o o' s s'=true:=by unfold clash;rw[h];simp
theorem b0e {ops:Array Oper} {o o':Oper} {s s':Sim} (h:s'.l.any (fun q=>s.touch.contains q.1)=true):clash ops o o' s s'=true:=by unfold clash;rw[h];simp
section
variable {B:Book} {W:World}
theorem a5l (hB:B.Ok) (hm:B.P.follows .mixedOrders=true) {id:Nat} {ops:Array Oper} {b:Array Nat} {Q:Exit->Act->World->Prop} {G:Gam} {R:Rho} {E:Env} {w:World} {a:Act} {vc:List Prop} {ss:List Sim} {G':Gam} {R':Rho}
  (h:xA B ops ops.toList G R=some (vc,ss,G',R')) (hd:lM .any ops=true) (ho:a2T ops b ss=true) (hn:a8P ops b=true) (hv:eY vc) (hM:Mem E (aW R) W w) (hf:Fits E (aW R) w B a (dJ G))
  (hq:∀ E' a' w',E'.fix=E.fix->Mem E' (aW R') W w'->Fits E' (aW R') w' B a' (dJ G')->Q .normal a' w'):(Code.region id ops true).wp B.P Q a w:=by
 obtain⟨hlen,hG',hR',hat⟩:=VR h
 have hlen':ss.length=ops.size:=by simpa using hlen
 refine wp_region_any hm ?_
 refine a6T (fun L a w=>L.size=ops.size/\LW ops L/\∃ E',E'.fix=E.fix/\Mem E' (fM (fun j=>L.getD j false) 0 (zG ss) (aW R)) W w/\Fits E' (fM (fun j=>L.getD j false) 0 (zG ss) (aW R)) w B a (fM (fun j=>L.getD j false) 0 (BX ops.toList ss) (dJ G))) hd ?_ ?_ _ _ _ _ (by rw[DX];exact Nat.le_refl _) ?_
 ·rintro L a w ⟨hL,_,E9,m0,m1,m2⟩ hall
  have hdone:∀ j,j<ops.size->L.getD j false=true:=fun j hj=>nV hL hj (hall j hj)
  have e1:fM (fun j=>L.getD j false) 0 (zG ss) (aW R)=aW R':=by
   rw[hR']
   exact IK _ 0 _ (fun j hj=>by rw[Nat.zero_add];exact hdone j (by simpa [zG,hlen'] using hj))
  have e2:fM (fun j=>L.getD j false) 0 (BX ops.toList ss) (dJ G)=dJ G':=by
   rw[hG']
   exact IK _ 0 _ (fun j hj=>by rw[Nat.zero_add];exact hdone j (by simp[BX,hlen'] at hj;exact hj))
  rw[e1] at m1 m2
  rw[e2] at m2
  exact hq E9 a w m0 m1 m2
 ·rintro L a w i o ⟨hL,hC,E9,m0,m1,m2⟩ hio hl gZ
  obtain⟨s,vi,hs,hvi,hone,a8p⟩:=hat i o (by simpa using hio)
  have hi:i<ops.size:=(Array.getElem?_eq_some_iff.1 hio).1
  have hif:L.getD i false=false:=uS hl
  have a4s:∀ j oj sj,j<i->ops[j]?=some oj->ss[j]?=some sj->clash ops oj o sj s=true->L.getD j false=true:=fun j oj sj hji hoj hsj hcl =>
   QI hn hC i o j hio hji ((zK ho hji hoj hio hsj hs).2 hcl) gZ
  have XM:∀ j oj sj,i<j->ops[j]?=some oj->ss[j]?=some sj->clash ops o oj s sj=true->L.getD j false=false:=fun j oj sj hij hoj hsj hcl=>by
   cases hjd:L.getD j false with
   | false=>rfl
   | true =>
    have:=QI hn hC j oj i hoj hij ((zK ho hij hio hoj hs hsj).2 hcl) (hC j oj hoj hjd)
    rw[this] at hif;cases hif
  have b2G:∀ q ∈ readsOf ops o,fM (fun j=>decide (j<i)) 0 (BX ops.toList ss) (dJ G) q=fM (fun j=>L.getD j false) 0 (BX ops.toList ss) (dJ G) q:=fun q hq=>yR _ 0 _ _ rfl (fun j u hu hr=>by
   obtain⟨oj,sj,h1,h2,rfl⟩:=a4A hu
   have hdj:=SA hr
   have h1':ops[j]?=some oj:=by simpa using h1
   rw[Nat.zero_add]
   by_cases hji:j<i
   ·simp only[hji,decide_true]
    exact(a4s j oj sj hji h1' h2 (by simp[clash,a0K hdj hq])).symm
   ·simp only[hji,decide_false]
    by_cases e:j=i
    ·rw[e];exact hif.symm
    ·exact(XM j oj sj (by omega) h1' h2 (by simp[clash,a0K hdj hq])).symm)
  have a8o:∀ r ∈ s.touch,fM (fun j=>decide (j<i)) 0 (zG ss) (aW R) r=fM (fun j=>L.getD j false) 0 (zG ss) (aW R) r:=fun r hr=>yR _ 0 _ _ rfl (fun j u hu hr'=>by
   obtain⟨sj,h2,rfl⟩:=a4G hu
   have hjl:j<ops.size:=by rw[<-hlen'];exact(List.getElem?_eq_some_iff.1 h2).1
   have h1':ops[j]?=some ops[j]:=Array.getElem?_eq_getElem hjl
   rw[Nat.zero_add]
   by_cases hji:j<i
   ·simp only[hji,decide_true]
    exact(a4s j _ sj hji h1' h2 (a4c (WQ hr' hr))).symm
   ·simp only[hji,decide_false]
    by_cases e:j=i
    ·rw[e];exact hif.symm
    ·exact(XM j _ sj (by omega) h1' h2 (b0e (WQ hr' hr))).symm)
  have b1M:xU B (fM (fun j=>L.getD j false) 0 (BX ops.toList ss) (dJ G)) (fM (fun j=>L.getD j false) 0 (zG ss) (aW R)) ops o=some (vi,s.k,s.l):=by
   rw[<-hone]
   refine(a0Y b2G (fun q hq r hr=>a8o r ?_) (fun r hr=>a8o r ?_)).symm
   ·rw[a8p];exact List.mem_append_left _ (List.mem_append_left _ (List.mem_flatMap.2 ⟨q,hq,hr⟩))
   ·rw[a8p];exact List.mem_append_left _ (List.mem_append_right _ (by rw[hr];simp))
  have a8k:fM (fun j=>(L.setIfInBounds i true).getD j false) 0 (zG ss) (aW R)=iR (fM (fun j=>L.getD j false) 0 (zG ss) (aW R)) s.l:=by
   refine CZ _ 0 i _ (by unfold zG;rw[List.getElem?_map,hs];rfl) (by rw[Nat.zero_add];exact hif) (by rw[Nat.zero_add];exact jL hl) (fun j hj=>gY (by omega)) (fun r hr j v hv hij hr'=>?_)
   obtain⟨sj,h2,rfl⟩:=a4G hv
   have hjl:j<ops.size:=by rw[<-hlen'];exact(List.getElem?_eq_some_iff.1 h2).1
   have hjt:r ∈ sj.touch:=by
    obtain⟨sj',_,h3,_,_,h4⟩:=hat j ops[j] (by simp[hjl])
    rw[h2] at h3
    cases h3
    rw[h4];exact List.mem_append_right _ hr'
   rw[Nat.zero_add]
   exact XM j _ sj hij (Array.getElem?_eq_getElem hjl) h2 (a4c (WQ hr hjt))
  have b2D:fM (fun j=>(L.setIfInBounds i true).getD j false) 0 (BX ops.toList ss) (dJ G)=iR (fM (fun j=>L.getD j false) 0 (BX ops.toList ss) (dJ G)) (YZ o.dst s.k):=by
   refine CZ _ 0 i _ (by unfold BX;rw[List.getElem?_zipWith,hs];simp[hio]) (by rw[Nat.zero_add];exact hif) (by rw[Nat.zero_add];exact jL hl) (fun j hj=>gY (by omega)) (fun r hr j v hv hij hr'=>?_)
   obtain⟨oj,sj,h1,h2,rfl⟩:=a4A hv
   have h1':ops[j]?=some oj:=by simpa using h1
   have hd1:=SA hr
   have hd2:=SA hr'
   have:=(zK ho hij hio h1' hs h2).1
   simp[YS,hd1,hd2] at this
  have hCl:LW ops (L.setIfInBounds i true):=by
   intro j oj hoj hj e he hb'
   have hset:∀ q,L.getD q false=true->(L.setIfInBounds i true).getD q false=true:=fun q hq=>by
    by_cases e1:i=q
    ·subst e1;rw[hif] at hq;cases hq
    ·rw[gY e1];exact hq
   by_cases e1:j=i
   ·subst e1
    rw[hio] at hoj
    cases hoj
    exact hset _ (gZ e he hb')
   ·rw[gY (fun e2=>e1 e2.symm)] at hj
    exact hset _ (hC j oj hoj hj e he hb')
  unfold wpOp
  rw[hio]
  refine a0Z hB b1M (hvi hv) m1 m2 (fun v w' E' n1 n2 n3 n4=>⟨by simpa using hL,hCl,E',n2.fix.trans m0,?_,?_⟩)
  ·rw[a8k,<-pX];exact n1
  ·rw[a8k,b2D,<-pX];exact m2.put n2 (VD b1M) n3 n4
 ·have hnew:∀ j,(Array.replicate ops.size false).getD j false=false:=fun j=>yT _ j
  have e1:∀ {α:Type} (us:List (List (Nat × α))) (f:Nat->α),fM (fun j=>(Array.replicate ops.size false).getD j false) 0 us f=f:=fun us f=>by
   funext r
   exact AV us 0 f (fun j u _ _=>hnew _)
  rw[e1,e1]
  obtain⟨n1,n2⟩:=hM.grows (Below.refl w.heap.size w).drew
  have hcl0:LW ops (Array.replicate ops.size false):=fun j o hj hj2=>by rw[hnew] at hj2;cases hj2
  exact⟨by simp,hcl0,E,rfl,n1,hf.size,hf.defers,fun s=>n2.wf _ (hf.wf s),fun s=>n2.holds _ _ (hf.wf s) (hf.holds s),hf.par⟩
end
end Go.Proofs.YtidfgdchcpmnfaaGreat
