/-
  Lemmas for the theorem vapplies_holds, part 18 of 33.
-/
import Derived.Test.YtidfgdchcpmnfaaGreatAp02
import Derived.Test.YtidfgdchcpmnfaaGreatAp17
namespace Go.Proofs.YtidfgdchcpmnfaaGreat
open Go Go.RowKit
set_option linter.unusedSimpArgs false
set_option linter.unusedVariables false
set_option maxRecDepth 20000
theorem a6w {P:Program} {md:Region.Mode} {ops:Array Oper} {Q:Exit->Act->World->Prop} (I:Array Bool->Act->World->Prop) (hd:lH md ops=true)
  (hend:∀ L a w,I L a w->(∀ i,i<ops.size->L.getD i true=true)->Q .normal a w)
  (hstep:∀ L a w i o,I L a w->ops[i]?=some o->L.getD i true=false->(∀ e ∈ o.after,Region.binds md e=true->L.getD e.on false=true)->wpOp P ops Q i (I (L.setIfInBounds i true)) a w) :
  ∀ fuel L a w,zQ L<=fuel->I L a w->wpAny P md ops Q fuel L a w:=by
 intro fuel
 induction fuel with
 | zero =>
  intro L a w hu hI
  have hn:Region.ready md ops L=[]:=by
   cases hr:Region.ready md ops L with
   | nil=>rfl
   | cons i r =>
    exfalso
    obtain⟨o,_,h2,_⟩:=rH (by rw[hr];exact List.mem_cons_self)
    have:=pJ h2
    omega
  exact⟨hn,hend L a w hI (jM hd hn)⟩
 | succ fuel ih =>
  intro L a w hu hI
  refine⟨fun hn=>hend L a w hI (jM hd hn),fun i hi=>?_⟩
  obtain⟨o,h1,h2,h3⟩:=rH hi
  refine wpOp_mono (fun a' w' h'=>ih _ _ _ ?_ h') (hstep L a w i o hI h1 h2 h3)
  have:=pJ h2
  omega
def OW:K0->List Nat
 | .val _ _=>[]
 | .own r _=>[r]
 | .ptr r _=>[r]
 | .lK r=>[r]
def K.res:K->List Nat
 | .ptr r _=>[r]
 | .own r _=>[r]
 | .when _ k=>k.res
 | .cell r _ _=>[r]
 | .mrow r _ _=>[r]
 | .mpos r _ _ _=>[r]
 | .lK r=>[r]
 | .mix ks=>ks.flatMap OW
 | .fn _ ks=>ks.flatMap OW
 | .sng r _=>[r]
 | _=>[]
def b5N:Res->List Nat
 | .kT k=>k.res
 | _=>[]
def oG (ρ:Nat->Res) (k:K):List Nat:=k.res++k.res.flatMap fun r=>b5N (ρ r)
section
variable {P:Program} {C:FuncId->List Ctr} {T:Told} {ρ ρ':Nat->Res}
theorem tK {α:Type} {f g:Nat->α} {r:Nat} (h:f r=g r):∀ (l:List (Nat × α)),iR f l r=iR g l r
 | []=>h
 | (q,x)::l=>by
  simp only[iR]
  refine tK ?_ l
  unfold bT;split
  ·rfl
  ·exact h
theorem jW {α:Type} {r:Nat}:∀ (l:List (Nat × α)) (f:Nat->α),r ∉ l.map (·.1)->iR f l r=f r
 | [],_,_=>rfl
 | (q,x)::l,f,h=>by
  simp only[List.map_cons,List.mem_cons,not_or] at h
  simp only[iR]
  rw[jW l _ h.2,aU _ _ h.1]
theorem ZE {k:K} (h:∀ r ∈ k.res,ρ r=ρ' r):tN ρ k=tN ρ' k:=by
 cases k<;>try rfl
 ·rename_i r v
  simp only[tN,h r (by simp[K.res])]
 ·rename_i r v i
  simp only[tN,h r (by simp[K.res])]
theorem oK {k:K} {t:Option Ty} (h:∀ r ∈ k.res,ρ r=ρ' r):vZ ρ t k=vZ ρ' t k:=by
 cases k<;>first|rfl|exact ZE h
theorem a3c {k:K} {t:Option Ty} (h:∀ r ∈ k.res,ρ r=ρ' r):a3b ρ t k=a3b ρ' t k:=by
 have:TA ρ k=TA ρ' k:=by
  cases k<;>try rfl
  ·rename_i t x;cases t<;>rfl
  ·rename_i r v
   simp only[TA,h r (by simp[K.res])]
  ·rename_i r v i
   simp only[TA,h r (by simp[K.res])]
 unfold a3b
 rw[this,oK h]
theorem JK {t:Option Ty}:∀ {ks:List K} {ρ ρ':Nat->Res},(∀ k ∈ ks,∀ r ∈ k.res,ρ r=ρ' r)->BR ρ t ks=BR ρ' t ks
 | [],_,_,_=>rfl
 | k::ks,ρ,ρ',h=>by
  simp only[BR,oK (h k (List.mem_cons_self ..))]
  split
  ·rename_i p l _
   rw[JK (ρ:=after ρ l) (ρ':=after ρ' l) (fun k' hk' r hr=>by rw[pO,pO];exact tK (h k' (List.mem_cons_of_mem _ hk') r hr) l)]
  ·rfl
theorem xX:∀ {ts:List Ty} {ks:List K} {ρ ρ':Nat->Res},(∀ k ∈ ks,∀ r ∈ k.res,ρ r=ρ' r)->xW ρ ts ks=xW ρ' ts ks
 | [],[],_,_,_=>rfl
 | [],_::_,_,_,_=>rfl
 | _::_,[],_,_,_=>rfl
 | t::ts,k::ks,ρ,ρ',h=>by
  simp only[xW,oK (h k (List.mem_cons_self ..))]
  split
  ·rename_i p l _
   rw[xX (ρ:=after ρ l) (ρ':=after ρ' l) (fun k' hk' r hr=>by rw[pO,pO];exact tK (h k' (List.mem_cons_of_mem _ hk') r hr) l)]
  ·rfl
theorem ZF {k:Operand->K} {d:Option Nat} {op:Op} (hk:∀ x,∀ r ∈ (k x).res,ρ r=ρ' r) (hd:∀ r,d=some r->ρ r=ρ' r):pU P T ρ k d op=pU P T ρ' k d op:=by
 cases op<;>try rfl
 case alloc t =>
  simp only[pU]
  split
  ·rw[hd _ (by first|assumption|rfl)]
  ·rfl
 case box t x =>
  simp only[pU,oK (hk x)]
  split
  ·rw[hd _ (by first|assumption|rfl)]
  ·rfl
 case load t x =>
  simp only[pU]
  split
  ·rename_i r o hx;rw[hk x r (by rw[hx];simp[K.res])]
  ·rfl
 case store t x y =>
  simp only[pU,oK (hk y)]
  split
  ·rename_i r o _ _ hx _;rw[hk x r (by rw[hx];simp[K.res])]
  ·rfl
 case fieldAddr s x i =>
  simp only[pU]
  split
  ·rename_i r o hx;rw[hk x r (by rw[hx];simp[K.res])]
  ·rfl
 case indexAddr s x i =>
  simp only[pU]
  split
  ·rename_i r o _ _ hx _;rw[hk x r (by rw[hx];simp[K.res])]
  ·rfl
theorem a1a {k:Operand->K} {d:Option Nat} {op:Op} (hk:∀ x,∀ r ∈ (k x).res,ρ r=ρ' r) (hd:∀ r,d=some r->ρ r=ρ' r):zJ P T ρ k d op=zJ P T ρ' k d op:=by
 cases op<;>try rfl
 case buildSlice t len parts =>
  simp only[zJ]
  have h1:BR ρ (a3L P T t) (parts.toList.map fun q=>k q.2)=BR ρ' (a3L P T t) (parts.toList.map fun q=>k q.2):=JK (fun k' hk' r hr=>by
   obtain⟨q,_,rfl⟩:=List.mem_map.1 hk'
   exact hk q.2 r hr)
  rw[h1]
  split
  ·split
   ·split
    ·split
     ·rw[hd _ (by first|assumption|rfl)]
     ·rfl
    ·rfl
   ·rfl
   ·rfl
  ·rfl
 case call c =>
  obtain⟨cl,xs,ts⟩:=c
  cases cl<;>try rfl
  rename_i bi
  cases bi<;>try rfl
  simp only[zJ]
  split
  ·rename_i s x t t' _ _
   split
   ·simp only[a3c (hk x)]
    split
    ·rename_i r v hs;rw[hk s r (by rw[hs];simp[K.res])]
    ·split
     ·rw[hd _ (by first|assumption|rfl)]
     ·rfl
    ·rfl
   ·rfl
  ·rfl
theorem zI {k:K} {r:Nat} (h:r ∈ k.res):r ∈ oG ρ k:=List.mem_append_left _ h
theorem a8I {k k':K} {r q:Nat} (h:r ∈ k.res) (hr:ρ r=.kT k') (hq:q ∈ k'.res):q ∈ oG ρ k:=List.mem_append_right _ (List.mem_flatMap.2 ⟨r,h,by rw[hr];exact hq⟩)
theorem zV {k:K} {t:Option Ty} (h:∀ r ∈ k.res,ρ r=ρ' r):sV ρ t k=sV ρ' t k:=by
 cases k<;>try rfl
 ·rename_i r v
  simp only[sV,h r (by simp[K.res])]
 ·rename_i r v i
  simp only[sV,h r (by simp[K.res])]
theorem KT {k:K} {t:Option Ty} (h:∀ r ∈ oG ρ k,ρ r=ρ' r):CG ρ t k=CG ρ' t k:=by
 have h0:∀ r ∈ k.res,ρ r=ρ' r:=fun r hr=>h r (zI hr)
 cases k
 case ptr r o=>simp only[CG,h0 r (by simp[K.res])]
 case lK r =>
  simp only[CG,<-h0 r (by simp[K.res])]
  split
  ·rename_i k9 hr
   split
   ·rw[zV (ρ:=ρ) (ρ':=ρ') (fun q hq=>h q (a8I (k:=.lK r) (by simp[K.res]) hr hq))]
   ·rfl
  ·rfl
 all_goals exact zV (t:=t) h0
theorem b2n (k:K0):(k0K k).res=OW k:=by cases k<;>rfl
theorem zU:∀ {u:Ty} {ks:List K0},(∀ k ∈ ks,∀ r ∈ oG ρ (k0K k),ρ r=ρ' r)->iL ρ u ks=iL ρ' u ks
 | .unit,[],_=>rfl
 | .pair a b,k::ks,h=>by
  simp only[iL]
  rw[KT (h k (List.mem_cons_self ..)),zU (fun k' hk'=>h k' (List.mem_cons_of_mem _ hk'))]
 | .unit,_::_,_=>rfl
 | .pair _ _,[],_=>rfl
 | .bool,_,_=>rfl
 | .int _,_,_=>rfl
 | .lf _,_,_=>rfl
 | .list _,_,_=>rfl
 | .arr _ _,_,_=>rfl
 | .ref _,_,_=>rfl
 | .clo _ _,_,_=>rfl
theorem a4z {g:FuncId} {ks:List K0} {k:K0} {r:Nat} (hk:k ∈ ks) (h:r ∈ oG ρ (k0K k)):r ∈ oG ρ (.fn g ks):=by
 have h1:∀ q ∈ (k0K k).res,q ∈ (K.fn g ks).res:=fun q hq=>List.mem_flatMap.2 ⟨k,hk,by rw[<-b2n];exact hq⟩
 rcases List.mem_append.1 h with h|h
 ·exact zI (h1 r h)
 ·obtain⟨q,hq,h⟩:=List.mem_flatMap.1 h
  exact List.mem_append_right _ (List.mem_flatMap.2 ⟨q,h1 q hq,h⟩)
theorem a1v {k:K} {t:Ty} (h:∀ r ∈ oG ρ k,ρ r=ρ' r):RP ρ t k=RP ρ' t k:=by
 cases k
 case fn g ks =>
  simp only[RP]
  split
  ·rw[zU (fun k hk r hr=>h r (a4z hk hr))]
  ·rfl
 all_goals exact KT (t:=some t) h
theorem sU:∀ {ts:List Ty} {ks:List K},(∀ k ∈ ks,∀ r ∈ oG ρ k,ρ r=ρ' r)->mM ρ ts ks=mM ρ' ts ks
 | [],[],_=>rfl
 | [],_::_,_=>rfl
 | _::_,[],_=>rfl
 | t::ts,k::ks,h=>by
  simp only[mM]
  rw[a1v (h k (List.mem_cons_self ..)),sU (fun k' hk'=>h k' (List.mem_cons_of_mem _ hk'))]
theorem yA {ks:List K} (h:∀ k ∈ ks,∀ r ∈ oG ρ k,ρ r=ρ' r):∀ cs:List Ctr,BU ρ ks cs=BU ρ' ks cs
 | []=>rfl
 | c::cs=>by
  have e:ZB ρ c ks=ZB ρ' c ks:=by
   unfold ZB
   rw[sU h,xX (fun k hk r hr=>h k hk r (zI hr))]
  simp only[BU]
  rw[e,yA h cs]
theorem WL {k:Operand->K} {op:Op} (hk:∀ x,∀ r ∈ oG ρ (k x),ρ r=ρ' r):uO P C ρ k op=uO P C ρ' k op:=by
 cases op<;>try rfl
 case makeFunc fn first caps=>cases fn<;>rfl
 case call c =>
  obtain⟨cl,xs,ts⟩:=c
  cases cl<;>try rfl
  rename_i f
  simp only[uO]
  have hcap:∀ (t:Ty) (x:t.den) (k':K),k' ∈ ZJ t x->k'.res=[]:=by
   intro t
   induction t with
   | pair a b _ ih =>
    intro x k' h
    rcases List.mem_cons.1 h with rfl|h
    ·rfl
    ·exact ih x.2 k' h
   | _=>intro x k' h;cases h
  split
  ·rename_i g t cx hf
   rw[yA (fun k' hk' r hr=>by
    rcases List.mem_append.1 hk' with h|h
    ·obtain⟨q,_,rfl⟩:=List.mem_map.1 h;exact hk q r hr
    ·exfalso
     unfold oG at hr
     rw[hcap t cx k' h] at hr
     simp at hr)]
  ·rename_i g l hf
   rw[yA (fun k' hk' r hr=>by
    rcases List.mem_append.1 hk' with h|h
    ·obtain⟨q,_,rfl⟩:=List.mem_map.1 h;exact hk q r hr
    ·obtain⟨q,hq,rfl⟩:=List.mem_map.1 h
     exact hk f r (by rw[hf];exact a4z hq hr))]
  ·rfl
theorem a2J {k:Operand->K} {op:Op} (hk:∀ x,∀ r ∈ (k x).res,ρ r=ρ' r):JF P ρ k op=JF P ρ' k op:=by
 cases op<;>try rfl
 case indexAddr s x i =>
  simp only[JF]
  split
  ·rename_i r v _ _ hx _;rw[hk x r (by rw[hx];simp[K.res])]
  ·rename_i r v _ _ _ hx _;rw[hk x r (by rw[hx];simp[K.res])]
  ·rfl
 case load t x =>
  simp only[JF]
  split
  ·rename_i r v _ hx;rw[hk x r (by rw[hx];simp[K.res])]
  ·rename_i r v _ _ hx;rw[hk x r (by rw[hx];simp[K.res])]
  ·rename_i r hx;rw[hk x r (by rw[hx];simp[K.res])]
  ·rfl
 case call c =>
  obtain⟨cl,xs,ts⟩:=c
  cases cl<;>try rfl
  rename_i bi
  cases bi<;>try rfl
  simp only[JF]
  split
  ·rename_i x t _ _
   split
   ·split
    ·rename_i r v hx;rw[hk x r (by rw[hx];simp[K.res])]
    ·rename_i r v _ hx;rw[hk x r (by rw[hx];simp[K.res])]
    ·rfl
   ·rfl
  ·rfl
theorem a3n {k:Operand->K} {d:Option Nat} {op:Op} (hk:∀ x,∀ r ∈ (k x).res,ρ r=ρ' r) (hd:∀ r,d=some r->ρ r=ρ' r):YQ P T ρ k d op=YQ P T ρ' k d op:=by
 cases op<;>try rfl
 case store t x y =>
  have hown:ownB ρ (k y)=ownB ρ' (k y):=by
   cases hy:k y<;>try rfl
   rename_i r v
   simp only[ownB]
   rw[hk y r (by rw[hy];simp[K.res])]
  simp only[YQ,oK (hk y),hown]
  split
  ·rename_i r v i hx
   rw[hk x r (by rw[hx];simp[K.res])]
   split
   ·rfl
   ·split
    ·rfl
    ·rename_i r2 v2 hy
     rw[hk y r2 (by rw[hy];simp[K.res])]
    ·rfl
   ·rfl
  ·rename_i r v id i hx;rw[hk x r (by rw[hx];simp[K.res])]
  ·rename_i r hx;rw[hk x r (by rw[hx];simp[K.res])]
  ·rfl
 case makeSlice t n m =>
  simp only[YQ]
  split
  ·rw[hd _ (by first|assumption|rfl)]
  ·rfl
theorem a2t {k:Operand->K} {d:Option Nat} {op:Op} (hk:∀ x,∀ r ∈ (k x).res,ρ r=ρ' r) (hd:∀ r,d=some r->ρ r=ρ' r):PU P T ρ k d op=PU P T ρ' k d op:=by
 cases op<;>try rfl
 case buildSlice t len parts =>
  simp only[PU]
  split<;>try rfl
  rename_i r
  split<;>try rfl
  split<;>try rfl
  split<;>try rfl
  split
  ·rw[hd _ (by first|assumption|rfl)]
  ·rename_i y _
   split
   ·rename_i r2 v2 hy;rw[hk y r2 (by rw[hy];simp[K.res])]
   ·rfl
  ·rfl
 case call c =>
  obtain⟨cl,xs,ts⟩:=c
  cases cl<;>try rfl
  rename_i bi
  cases bi<;>try rfl
  simp only[PU]
  split
  ·rename_i s x t t' _ _
   split
   ·split
    ·rename_i r2 v2 hx
     rw[hk x r2 (by rw[hx];simp[K.res])]
     split
     ·split
      ·rename_i r v hs;rw[hk s r (by rw[hs];simp[K.res])]
      ·rw[hd _ (by first|assumption|rfl)]
      ·rfl
     ·rfl
    ·rfl
   ·rfl
  ·rfl
theorem KR {r:Nat} {row:Option Nat}:∀ {ts:List Ty} {ks:List K},(∀ k ∈ ks,∀ q ∈ k.res,ρ q=ρ' q)->GL ρ r row ts ks=GL ρ' r row ts ks
 | [],[],_=>rfl
 | [],_::_,_=>rfl
 | _::_,[],_=>rfl
 | t::ts,k::ks,h=>by
  simp only[GL]
  rw[zV (h k (List.mem_cons_self ..)),KR (fun k' hk'=>h k' (List.mem_cons_of_mem _ hk'))]
theorem a0x {k:LK} {k0:K} (h:∀ q ∈ k0.res,ρ q=ρ' q):a4g ρ k k0=a4g ρ' k k0:=by
 cases k with
 | row e t =>
  cases k0<;>try rfl
  case own r v=>exact congrArg (LY e t r v) (h r (by simp[K.res]))
  case mrow r v i=>exact congrArg (LX e t r v i) (h r (by simp[K.res]))
 | mat e e2 t =>
  cases k0<;>try rfl
  case own r v=>exact congrArg (LW e e2 t r v) (h r (by simp[K.res]))
theorem DY {d:Option Nat} {ks:List K} (h:∀ k ∈ ks,∀ r ∈ oG ρ k,ρ r=ρ' r) (hd:∀ r,d=some r->ρ r=ρ' r):∀ cs:List YU,yB ρ d ks cs=yB ρ' d ks cs
 | []=>rfl
 | c::cs=>by
  have e:CJ ρ d ks c=CJ ρ' d ks c:=by
   cases c with
   | mk k args pre made =>
    simp only[CJ]
    split
    ·rw[hd _ (by first|assumption|rfl),sU h]
    ·rfl
   | chg k args res pre out fn =>
    cases ks with
    | nil=>rfl
    | cons k0 ks =>
     have h0:∀ k ∈ k0::ks,∀ r ∈ k.res,ρ r=ρ' r:=fun k hk r hr=>h k hk r (zI hr)
     simp only[CJ]
     rw[a0x (h0 k0 (List.mem_cons_self ..)),xX (fun k hk=>h0 k (List.mem_cons_of_mem _ hk))]
     simp only[KR (ρ:=ρ) (ρ':=ρ') (ks:=ks) (fun k hk=>h0 k (List.mem_cons_of_mem _ hk))]
  simp only[yB]
  rw[e,DY h hd cs]
theorem WJ {k:Operand->K} {d:Option Nat} {op:Op} (hk:∀ x,∀ r ∈ oG ρ (k x),ρ r=ρ' r) (hd:∀ r,d=some r->ρ r=ρ' r):yC P T ρ k d op=yC P T ρ' k d op:=by
 cases op<;>try rfl
 case call c =>
  obtain⟨cl,xs,ts⟩:=c
  cases cl<;>try rfl
  rename_i f
  simp only[yC]
  have hcap:∀ (t:Ty) (x:t.den) (k':K),k' ∈ ZJ t x->k'.res=[]:=by
   intro t
   induction t with
   | pair a b _ ih =>
    intro x k' h
    rcases List.mem_cons.1 h with rfl|h
    ·rfl
    ·exact ih x.2 k' h
   | _=>intro x k' h;cases h
  split
  ·split
   ·refine DY (fun k9 hk9 r hr=>?_) hd _
    rcases List.mem_append.1 hk9 with hk9|hk9
    ·obtain⟨q,_,rfl⟩:=List.mem_map.1 hk9;exact hk q r hr
    ·exfalso
     unfold oG at hr
     rw[hcap _ _ _ hk9] at hr
     simp at hr
   ·rfl
  ·rfl
theorem FY {k:Operand->K} {d:Option Nat} {op:Op} (hk:∀ x,∀ r ∈ oG ρ (k x),ρ r=ρ' r) (hd:∀ r,d=some r->ρ r=ρ' r):DN P C T ρ k d op=DN P C T ρ' k d op:=by
 have h0:∀ x,∀ r ∈ (k x).res,ρ r=ρ' r:=fun x r hr=>hk x r (zI hr)
 unfold DN
 rw[ZF h0 hd,a1a h0 hd,a2J h0,a3n h0 hd,a2t h0 hd,WJ hk hd,WL hk]
end
def TS (ops:Array Oper) (o:Oper):Option Nat:=match o.guard with
 | some (j,_)=>(ops[j]?).bind (·.dst)
 | none=>none
def readsOf (ops:Array Oper) (o:Oper):List Nat:=tmpsOf o.op++(TS ops o).toList
theorem a9l (ρ:Nat->Res) (k:K):oG ρ (unW k)=oG ρ k:=by cases k<;>rfl
theorem QJ (ρ:Nat->Res) (v:Value):oG ρ (wG v)=[]:=by unfold wG;split<;>rfl
theorem a0G {B:Book} {G G':Nat->K} {ρ ρ':Nat->Res} {ops:Array Oper} {o:Oper} (hG:∀ s ∈ readsOf ops o,G s=G' s) (hρ:∀ s ∈ tmpsOf o.op,∀ r ∈ oG ρ (G s),ρ r=ρ' r) (hd:∀ r,o.dst=some r->ρ r=ρ' r):xM B G ρ ops o=xM B G' ρ' ops o:=by
 have h1:mX (tmpsOf o.op) G=mX (tmpsOf o.op) G':=by
  funext s
  unfold mX
  split
  ·rename_i h;exact hG s (List.mem_append_left _ (by simpa using h))
  ·rfl
 have h2:mX (tmpsOf o.op) (unG G)=mX (tmpsOf o.op) (unG G'):=by
  funext s
  unfold mX
  split
  ·rename_i h;unfold unG;rw[hG s (List.mem_append_left _ (by simpa using h))]
  ·rfl
 have h3:(tmpsOf o.op).flatMap (fun s=>JU (G s))=(tmpsOf o.op).flatMap (fun s=>JU (G' s)):=by
  have:∀ l:List Nat,(∀ s ∈ l,G s=G' s)->l.flatMap (fun s=>JU (G s))=l.flatMap (fun s=>JU (G' s)):=by
   intro l
   induction l with
   | nil=>intro _;rfl
   | cons x l ih=>intro h;rw[List.flatMap_cons,List.flatMap_cons,h x (List.mem_cons_self ..),ih (fun s hs=>h s (List.mem_cons_of_mem _ hs))]
  exact this _ (fun s hs=>hG s (List.mem_append_left _ hs))
 have k1:∀ x,∀ r ∈ oG ρ (opK (mX (tmpsOf o.op) G') x),ρ r=ρ' r:=by
  rw[<-h1]
  intro x r hr
  cases x with
  | tmp s =>
   have hr:r ∈ oG ρ (mX (tmpsOf o.op) G s):=hr
   unfold mX at hr
   split at hr
   ·rename_i h;exact hρ s (by simpa using h) r hr
   ·cases hr
  | const v=>exfalso;have hr:r ∈ oG ρ (wG v):=hr;rw[QJ] at hr;cases hr
  | func f=>cases hr
  | global g=>cases hr
 have k2:∀ x,∀ r ∈ oG ρ (opK (mX (tmpsOf o.op) (unG G')) x),ρ r=ρ' r:=by
  rw[<-h2]
  intro x r hr
  cases x with
  | tmp s =>
   have hr:r ∈ oG ρ (mX (tmpsOf o.op) (unG G) s):=hr
   unfold mX at hr
   split at hr
   ·rename_i h;exact hρ s (by simpa using h) r (by rw[<-a9l];exact hr)
   ·cases hr
  | const v=>exfalso;have hr:r ∈ oG ρ (wG v):=hr;rw[QJ] at hr;cases hr
  | func f=>cases hr
  | global g=>cases hr
 unfold xM
 rw[h1,h2,h3,FY k1 hd,FY k2 hd]
 cases hg:o.guard with
 | none=>rfl
 | some jb =>
  obtain⟨j,b⟩:=jb
  simp only
  cases hs:(ops[j]?).bind (·.dst) with
  | none=>rfl
  | some s =>
   have:G s=G' s:=hG s (List.mem_append_right _ (by simp[TS,hg,hs]))
   simp only[this]
def fP {α:Type} (done:Nat->Bool):Nat->List (List (Nat × α))->(Nat->α)->Nat->α
 | _,[],f=>f
 | j,u::us,f=>fP done (j+1) us (if done j then iR f u else f)
theorem yM {α:Type} {d d':Nat->Bool} {r:Nat}:∀ (us:List (List (Nat × α))) (b:Nat) (f g:Nat->α),f r=g r->(∀ j u,us[j]?=some u->r ∈ u.map (·.1)->d (b+j)=d' (b+j))->fP d b us f r=fP d' b us g r
 | [],b,f,g,h,_=>h
 | u::us,b,f,g,h,hd=>by
  simp only[fP]
  refine yM us (b+1) _ _ ?_ (fun j u' hu hr=>by have:=hd (j+1) u' hu hr;rwa [show b+(j+1)=b+1+j by omega] at this)
  by_cases hr:r ∈ u.map (·.1)
  ·have:=hd 0 u rfl hr
   rw[Nat.add_zero] at this
   rw[<-this]
   split
   ·exact tK h u
   ·exact h
  ·split<;>split<;>first
    | (rw[jW u _ hr,jW u _ hr];exact h)
    | (rw[jW u _ hr];exact h)
    |exact h
theorem AO {α:Type} {d:Nat->Bool} {r:Nat}:∀ (us:List (List (Nat × α))) (b:Nat) (f:Nat->α),(∀ j u,us[j]?=some u->r ∈ u.map (·.1)->d (b+j)=false)->fP d b us f r=f r
 | [],b,f,_=>rfl
 | u::us,b,f,hd=>by
  simp only[fP]
  rw[AO us (b+1) _ (fun j u' hu hr=>by have:=hd (j+1) u' hu hr;rwa [show b+(j+1)=b+1+j by omega] at this)]
  by_cases hr:r ∈ u.map (·.1)
  ·have:=hd 0 u rfl hr
   rw[Nat.add_zero] at this
   rw[this];rfl
  ·split
   ·exact jW u _ hr
   ·rfl
theorem TF {α:Type} {r:Nat}:∀ (l:List (Nat × α)) (f g:Nat->α),r ∈ l.map (·.1)->iR f l r=iR g l r
 | [],_,_,h=>by cases h
 | (q,x)::l,f,g,h=>by
  simp only[iR]
  by_cases hr:r ∈ l.map (·.1)
  ·exact TF l _ _ hr
  ·rw[jW l _ hr,jW l _ hr]
   have:r=q:=by
    rcases List.mem_cons.1 h with h|h
    ·exact h
    ·exact absurd h hr
   subst this
   rw[aG,aG]
theorem CS {α:Type} {d d':Nat->Bool} {u:List (Nat × α)}:∀ (us:List (List (Nat × α))) (b i:Nat) (f:Nat->α),us[i]?=some u->d (b+i)=false->d' (b+i)=true->(∀ j,j≠b+i->d' j=d j)->(∀ r ∈ u.map (·.1),∀ j v,us[j]?=some v->i<j->r ∈ v.map (·.1)->d (b+j)=false)->fP d' b us f=iR (fP d b us f) u
 | v::us,b,0,f,hi,hd,hd',he,hn=>by
  simp only[List.getElem?_cons_zero,Option.some.injEq] at hi
  subst hi
  simp only[Nat.add_zero] at hd hd' he
  simp only[fP,hd,hd',if_true,Bool.false_eq_true,if_false]
  funext r
  have h1:fP d' (b+1) us (iR f v) r=fP d (b+1) us (iR f v) r:=yM us (b+1) _ _ rfl (fun j u' hu hr=>he _ (by omega))
  rw[h1]
  by_cases hr:r ∈ v.map (·.1)
  ·rw[AO us (b+1) _ (fun j u' hu hr'=>by have:=hn r hr (j+1) u' hu (by omega) hr';rwa [show b+(j+1)=b+1+j by omega] at this)]
   exact TF v _ _ hr
  ·rw[jW v _ hr]
   exact yM us (b+1) _ _ (jW v _ hr) (fun j u' hu hr=>rfl)
 | v::us,b,i+1,f,hi,hd,hd',he,hn=>by
  simp only[fP]
  have:(if d' b=true then iR f v else f)=(if d b=true then iR f v else f):=by rw[he b (by omega)]
  rw[this]
  exact CS us (b+1) i _ hi (by rwa [show b+1+i=b+(i+1) by omega]) (by rwa [show b+1+i=b+(i+1) by omega]) (fun j hj=>he j (by omega)) (fun r hr j v' hv hlt hr'=>by
   have:=hn r hr (j+1) v' hv (by omega) hr'
   rwa [show b+(j+1)=b+1+j by omega] at this)
 | [],b,i,f,hi,hd,hd',he,hn=>by simp at hi
theorem IJ {α:Type} {d:Nat->Bool}:∀ (us:List (List (Nat × α))) (b:Nat) (f:Nat->α),(∀ j,j<us.length->d (b+j)=true)->fP d b us f=us.foldl iR f
 | [],b,f,h=>rfl
 | u::us,b,f,h=>by
  have h0:=h 0 (by simp)
  rw[Nat.add_zero] at h0
  simp only[fP,h0,if_true,List.foldl_cons]
  exact IJ us (b+1) _ (fun j hj=>by have:=h (j+1) (by simpa using hj);rwa [show b+(j+1)=b+1+j by omega] at this)
structure Sim where
 k:K
 l:List (Nat × Res)
 touch:List Nat
def wV (B:Book) (ops:Array Oper):List Oper->Gam->Rho->Option (List Prop × List Sim × Gam × Rho)
 | [],G,R=>some ([],[],G,R)
 | o::rest,G,R=>match xM B (dJ G) (aV R) ops o with
  | some (vc,k,l)=>match wV B ops rest (b2F o.dst k G) (aft R l) with
   | some (vc',ss,G',R')=>some (vc++vc',⟨k,l,(tmpsOf o.op).flatMap (fun s=>oG (aV R) (dJ G s))++o.dst.toList++l.map (·.1)⟩::ss,G',R')
   | none=>none
  | none=>none
def isDst (o:Oper) (l:List Nat):Bool:=match o.dst with
 | some s=>l.contains s
 | none=>false
def YF (o o':Oper):Bool:=match o.dst,o'.dst with
 | some s,some s'=>s==s'
 | _,_=>false
def clash (ops:Array Oper) (o o':Oper) (s s':Sim):Bool:=isDst o (readsOf ops o') || isDst o' (readsOf ops o) || s.l.any (fun q=>s'.touch.contains q.1) || s'.l.any (fun q=>s.touch.contains q.1)
def a2v (ops:Array Oper) (b:Array Nat) (ss:List Sim):Bool:=(List.range ops.size).all fun j=>match ops[j]?,ss[j]? with
 | some o',some s'=>(List.range j).all fun i=>match ops[i]?,ss[i]? with
  | some o,some s=>!YF o o'&&(!clash ops o o' s s' || (b.getD j 0).testBit i)
  | _,_=>false
 | _,_=>false
def a8s (ops:Array Oper) (b:Array Nat):Bool:=(List.range ops.size).all fun j=>match ops[j]? with
 | some o=>(List.range j).all fun i=>!(b.getD j 0).testBit i || o.after.any fun e=>Region.binds .any e&&(e.on==i || (decide (e.on<j)&&decide (i<e.on)&&(b.getD e.on 0).testBit i))
 | none=>false
def LH (ops:Array Oper) (L:Array Bool):Prop:=∀ j o,ops[j]?=some o->L.getD j false=true->∀ e ∈ o.after,Region.binds .any e=true->L.getD e.on false=true
theorem PV {ops:Array Oper} {b:Array Nat} (h:a8s ops b=true) {L:Array Bool} (hc:LH ops L):∀ (j:Nat) (o:Oper) (i:Nat),ops[j]?=some o->i<j->(b.getD j 0).testBit i=true->(∀ e ∈ o.after,Region.binds .any e=true->L.getD e.on false=true)->L.getD i false=true:=by
 intro j
 induction j using Nat.strongRecOn with
 | _ j ih =>
  intro o i ho hij hb hd
  have hj:j<ops.size:=(Array.getElem?_eq_some_iff.1 ho).1
  have h1:=(List.all_eq_true.1 h) j (List.mem_range.2 hj)
  rw[ho] at h1
  have h2:=(List.all_eq_true.1 h1) i (List.mem_range.2 hij)
  rw[hb] at h2
  simp only[Bool.not_true,Bool.false_or,Array.any_eq_true'] at h2
  obtain⟨e,he,h3⟩:=h2
  simp only[Bool.and_eq_true,Bool.or_eq_true,beq_iff_eq,decide_eq_true_eq] at h3
  obtain⟨h4,h5⟩:=h3
  have hdone:=hd e he h4
  rcases h5 with h5|⟨⟨h5,hie⟩,h6⟩
  ·rw[<-h5];exact hdone
  ·have ho':ops[e.on]?=some ops[e.on]:=Array.getElem?_eq_getElem (by omega)
   exact ih e.on h5 _ i ho' hie h6 (hc e.on _ ho' hdone)
theorem KC {α:Type} {d:Nat->Bool}:∀ (us:List (List (Nat × α))) (b:Nat) (f:Nat->α),fP d (b+1) us f=fP (fun j=>d (j+1)) b us f
 | [],b,f=>rfl
 | u::us,b,f=>by simp only[fP];exact KC us (b+1) _
def BO (l:List Oper) (ss:List Sim):List (List (Nat × K)):=List.zipWith (fun o s=>YL o.dst s.k) l ss
def yZ (ss:List Sim):List (List (Nat × Res)):=ss.map (·.l)
theorem VF {B:Book} {ops:Array Oper}:∀ {l:List Oper} {G:Gam} {R:Rho} {vc:List Prop} {ss:List Sim} {G':Gam} {R':Rho},wV B ops l G R=some (vc,ss,G',R') ->
  ss.length=l.length/\dJ G'=(BO l ss).foldl iR (dJ G)/\aV R'=(yZ ss).foldl iR (aV R) /\
  ∀ i o,l[i]?=some o->∃ s vi,ss[i]?=some s/\(eU vc->eU vi)/\xM B (fP (fun j=>decide (j<i)) 0 (BO l ss) (dJ G)) (fP (fun j=>decide (j<i)) 0 (yZ ss) (aV R)) ops o=some (vi,s.k,s.l) /\
   s.touch=(tmpsOf o.op).flatMap (fun q=>oG (fP (fun j=>decide (j<i)) 0 (yZ ss) (aV R)) (fP (fun j=>decide (j<i)) 0 (BO l ss) (dJ G) q))++o.dst.toList++s.l.map (·.1)
 | [],G,R,vc,ss,G',R',h=>by
  simp only[wV,Option.some.injEq,Prod.mk.injEq] at h
  obtain⟨_,rfl,rfl,rfl⟩:=h
  exact⟨rfl,rfl,rfl,fun i o hi=>by simp at hi⟩
 | o::rest,G,R,vc,ss,G',R',h=>by
  simp only[wV] at h
  split at h<;>first|(cases h;done)|skip
  rename_i vc1 k l1 h1
  split at h<;>first|(cases h;done)|skip
  rename_i vc2 ss2 G2 R2 h2
  simp only[Option.some.injEq,Prod.mk.injEq] at h
  obtain⟨rfl,rfl,rfl,rfl⟩:=h
  obtain⟨k1,k2,k3,k4⟩:=VF h2
  rw[vH] at k2 k4
  rw[OG,pO] at k3 k4
  refine⟨by simp[k1],k2,k3,fun i o' hi=>?_⟩
  cases i with
  | zero =>
   simp only[List.getElem?_cons_zero,Option.some.injEq] at hi
   subst hi
   have e1:∀ {α:Type} (us:List (List (Nat × α))) (f:Nat->α),fP (fun j=>decide (j<0)) 0 us f=f:=fun us f=>by
    funext r
    exact AO us 0 f (fun j u _ _=>by simp)
   exact⟨_,vc1,rfl,fun hv=>(bK.1 hv).1,by rw[e1,e1];exact h1,by rw[e1,e1]⟩
  | succ i =>
   obtain⟨s,vi,j1,j2,j3,j4⟩:=k4 i o' (by simpa using hi)
   have e1:∀ {α:Type} (u:List (Nat × α)) (us:List (List (Nat × α))) (f:Nat->α),fP (fun j=>decide (j<i+1)) 0 (u::us) f=fP (fun j=>decide (j<i)) 0 us (iR f u):=fun u us f=>by
    simp only[fP]
    rw[if_pos (by simp),KC]
    congr 1
    funext j
    simp
   refine⟨s,vi,by simpa using j1,fun hv=>j2 (bK.1 hv).2,?_,?_⟩
   ·show xM B (fP _ 0 (YL o.dst k::BO rest ss2) (dJ G)) (fP _ 0 (l1::yZ ss2) (aV R)) ops o'=_
    rw[e1,e1];exact j3
   ·show s.touch=(tmpsOf o'.op).flatMap (fun q=>oG (fP _ 0 (l1::yZ ss2) (aV R)) (fP _ 0 (YL o.dst k::BO rest ss2) (dJ G) q))++_++_
    rw[e1,e1];exact j4
theorem a4c {l:List Oper} {ss:List Sim} {j:Nat} {u:List (Nat × K)} (h:(BO l ss)[j]?=some u):∃ o s,l[j]?=some o/\ss[j]?=some s/\u=YL o.dst s.k:=by
 unfold BO at h
 rw[List.getElem?_zipWith] at h
 cases h1:l[j]? with
 | none=>rw[h1] at h;cases h
 | some o =>
  cases h2:ss[j]? with
  | none=>rw[h1,h2] at h;cases h
  | some s=>rw[h1,h2] at h;simp at h;exact⟨o,s,rfl,rfl,h.symm⟩
theorem a4i {ss:List Sim} {j:Nat} {u:List (Nat × Res)} (h:(yZ ss)[j]?=some u):∃ s,ss[j]?=some s/\u=s.l:=by
 unfold yZ at h
 rw[List.getElem?_map] at h
 cases h2:ss[j]? with
 | none=>rw[h2] at h;cases h
 | some s=>rw[h2] at h;simp at h;exact⟨s,rfl,h.symm⟩
theorem RG {d:Option Nat} {k:K} {r:Nat} (h:r ∈ (YL d k).map (·.1)):d=some r:=by
 cases d with
 | none=>cases h
 | some s=>simp[YL] at h;rw[h]
theorem a0s {o:Oper} {l:List Nat} {s:Nat} (h:o.dst=some s) (hs:s ∈ l):isDst o l=true:=by simp[isDst,h,hs]
theorem WB {l:List (Nat × Res)} {t:List Nat} {r:Nat} (h:r ∈ l.map (·.1)) (ht:r ∈ t):l.any (fun q=>t.contains q.1)=true:=by
 obtain⟨q,hq,rfl⟩:=List.mem_map.1 h
 exact List.any_eq_true.2 ⟨q,hq,by simpa using ht⟩
theorem zF {ops:Array Oper} {b:Array Nat} {ss:List Sim} (h:a2v ops b ss=true) {i j:Nat} {o o':Oper} {s s':Sim} (hij:i<j) (hi:ops[i]?=some o) (hj:ops[j]?=some o') (hs:ss[i]?=some s) (hs':ss[j]?=some s'):YF o o'=false/\(clash ops o o' s s'=true->(b.getD j 0).testBit i=true):=by
 have hjl:j<ops.size:=(Array.getElem?_eq_some_iff.1 hj).1
 have h1:=(List.all_eq_true.1 h) j (List.mem_range.2 hjl)
 rw[hj,hs'] at h1
 have h2:=(List.all_eq_true.1 h1) i (List.mem_range.2 hij)
 rw[hi,hs] at h2
 simp only[Bool.and_eq_true,Bool.not_eq_true',Bool.or_eq_true] at h2
 refine⟨h2.1,fun hc=>?_⟩
 rcases h2.2 with h3|h3
 ·rw[hc] at h3;cases h3
 ·exact h3
theorem a3D {ops:Array Oper} {o o':Oper} {s s':Sim} (h:s.l.any (fun q=>s'.touch.contains q.1)=true):clash ops o o' s s'=true:=by unfold clash;rw[h];simp
theorem a9C {ops:Array Oper} {o o':Oper} {s s':Sim} (h:s'.l.any (fun q=>s.touch.contains q.1)=true):clash ops o o' s s'=true:=by unfold clash;rw[h];simp
section
variable {B:Book} {W:World}
theorem a4P (hB:B.Ok) (hm:B.P.follows .mixedOrders=true) {id:Nat} {ops:Array Oper} {b:Array Nat} {Q:Exit->Act->World->Prop} {G:Gam} {R:Rho} {E:Env} {w:World} {a:Act} {vc:List Prop} {ss:List Sim} {G':Gam} {R':Rho}
  (h:wV B ops ops.toList G R=some (vc,ss,G',R')) (hd:lH .any ops=true) (ho:a2v ops b ss=true) (hn:a8s ops b=true) (hv:eU vc) (hM:Mem E (aV R) W w) (hf:Fits E (aV R) w B a (dJ G))
  (hq:∀ E' a' w',E'.fix=E.fix->Mem E' (aV R') W w'->Fits E' (aV R') w' B a' (dJ G')->Q .normal a' w'):(Code.region id ops true).wp B.P Q a w:=by
 obtain⟨hlen,hG',hR',hat⟩:=VF h
 have hlen':ss.length=ops.size:=by simpa using hlen
 refine wp_region_any hm ?_
 refine a6w (fun L a w=>L.size=ops.size/\LH ops L/\∃ E',E'.fix=E.fix/\Mem E' (fP (fun j=>L.getD j false) 0 (yZ ss) (aV R)) W w/\Fits E' (fP (fun j=>L.getD j false) 0 (yZ ss) (aV R)) w B a (fP (fun j=>L.getD j false) 0 (BO ops.toList ss) (dJ G))) hd ?_ ?_ _ _ _ _ (by rw[DT];exact Nat.le_refl _) ?_
 ·rintro L a w ⟨hL,_,E9,m0,m1,m2⟩ hall
  have hdone:∀ j,j<ops.size->L.getD j false=true:=fun j hj=>nR hL hj (hall j hj)
  have e1:fP (fun j=>L.getD j false) 0 (yZ ss) (aV R)=aV R':=by
   rw[hR']
   exact IJ _ 0 _ (fun j hj=>by rw[Nat.zero_add];exact hdone j (by simpa [yZ,hlen'] using hj))
  have e2:fP (fun j=>L.getD j false) 0 (BO ops.toList ss) (dJ G)=dJ G':=by
   rw[hG']
   exact IJ _ 0 _ (fun j hj=>by rw[Nat.zero_add];exact hdone j (by simp[BO,hlen'] at hj;exact hj))
  rw[e1] at m1 m2
  rw[e2] at m2
  exact hq E9 a w m0 m1 m2
 ·rintro L a w i o ⟨hL,hC,E9,m0,m1,m2⟩ hio hl gX
  obtain⟨s,vi,hs,hvi,hone,a7R⟩:=hat i o (by simpa using hio)
  have hi:i<ops.size:=(Array.getElem?_eq_some_iff.1 hio).1
  have hif:L.getD i false=false:=uS hl
  have a3S:∀ j oj sj,j<i->ops[j]?=some oj->ss[j]?=some sj->clash ops oj o sj s=true->L.getD j false=true:=fun j oj sj hji hoj hsj hcl =>
   PV hn hC i o j hio hji ((zF ho hji hoj hio hsj hs).2 hcl) gX
  have XB:∀ j oj sj,i<j->ops[j]?=some oj->ss[j]?=some sj->clash ops o oj s sj=true->L.getD j false=false:=fun j oj sj hij hoj hsj hcl=>by
   cases hjd:L.getD j false with
   | false=>rfl
   | true =>
    have:=PV hn hC j oj i hoj hij ((zF ho hij hio hoj hs hsj).2 hcl) (hC j oj hoj hjd)
    rw[this] at hif;cases hif
  have b2f:∀ q ∈ readsOf ops o,fP (fun j=>decide (j<i)) 0 (BO ops.toList ss) (dJ G) q=fP (fun j=>L.getD j false) 0 (BO ops.toList ss) (dJ G) q:=fun q hq=>yM _ 0 _ _ rfl (fun j u hu hr=>by
   obtain⟨oj,sj,h1,h2,rfl⟩:=a4c hu
   have hdj:=RG hr
   have h1':ops[j]?=some oj:=by simpa using h1
   rw[Nat.zero_add]
   by_cases hji:j<i
   ·simp only[hji,decide_true]
    exact(a3S j oj sj hji h1' h2 (by simp[clash,a0s hdj hq])).symm
   ·simp only[hji,decide_false]
    by_cases e:j=i
    ·rw[e];exact hif.symm
    ·exact(XB j oj sj (by omega) h1' h2 (by simp[clash,a0s hdj hq])).symm)
  have a7Q:∀ r ∈ s.touch,fP (fun j=>decide (j<i)) 0 (yZ ss) (aV R) r=fP (fun j=>L.getD j false) 0 (yZ ss) (aV R) r:=fun r hr=>yM _ 0 _ _ rfl (fun j u hu hr'=>by
   obtain⟨sj,h2,rfl⟩:=a4i hu
   have hjl:j<ops.size:=by rw[<-hlen'];exact(List.getElem?_eq_some_iff.1 h2).1
   have h1':ops[j]?=some ops[j]:=Array.getElem?_eq_getElem hjl
   rw[Nat.zero_add]
   by_cases hji:j<i
   ·simp only[hji,decide_true]
    exact(a3S j _ sj hji h1' h2 (a3D (WB hr' hr))).symm
   ·simp only[hji,decide_false]
    by_cases e:j=i
    ·rw[e];exact hif.symm
    ·exact(XB j _ sj (by omega) h1' h2 (a9C (WB hr' hr))).symm)
  have b1k:xM B (fP (fun j=>L.getD j false) 0 (BO ops.toList ss) (dJ G)) (fP (fun j=>L.getD j false) 0 (yZ ss) (aV R)) ops o=some (vi,s.k,s.l):=by
   rw[<-hone]
   refine(a0G b2f (fun q hq r hr=>a7Q r ?_) (fun r hr=>a7Q r ?_)).symm
   ·rw[a7R];exact List.mem_append_left _ (List.mem_append_left _ (List.mem_flatMap.2 ⟨q,hq,hr⟩))
   ·rw[a7R];exact List.mem_append_left _ (List.mem_append_right _ (by rw[hr];simp))
  have a7M:fP (fun j=>(L.setIfInBounds i true).getD j false) 0 (yZ ss) (aV R)=iR (fP (fun j=>L.getD j false) 0 (yZ ss) (aV R)) s.l:=by
   refine CS _ 0 i _ (by unfold yZ;rw[List.getElem?_map,hs];rfl) (by rw[Nat.zero_add];exact hif) (by rw[Nat.zero_add];exact jG hl) (fun j hj=>gW (by omega)) (fun r hr j v hv hij hr'=>?_)
   obtain⟨sj,h2,rfl⟩:=a4i hv
   have hjl:j<ops.size:=by rw[<-hlen'];exact(List.getElem?_eq_some_iff.1 h2).1
   have hjt:r ∈ sj.touch:=by
    obtain⟨sj',_,h3,_,_,h4⟩:=hat j ops[j] (by simp[hjl])
    rw[h2] at h3
    cases h3
    rw[h4];exact List.mem_append_right _ hr'
   rw[Nat.zero_add]
   exact XB j _ sj hij (Array.getElem?_eq_getElem hjl) h2 (a3D (WB hr hjt))
  have b2c:fP (fun j=>(L.setIfInBounds i true).getD j false) 0 (BO ops.toList ss) (dJ G)=iR (fP (fun j=>L.getD j false) 0 (BO ops.toList ss) (dJ G)) (YL o.dst s.k):=by
   refine CS _ 0 i _ (by unfold BO;rw[List.getElem?_zipWith,hs];simp[hio]) (by rw[Nat.zero_add];exact hif) (by rw[Nat.zero_add];exact jG hl) (fun j hj=>gW (by omega)) (fun r hr j v hv hij hr'=>?_)
   obtain⟨oj,sj,h1,h2,rfl⟩:=a4c hv
   have h1':ops[j]?=some oj:=by simpa using h1
   have hd1:=RG hr
   have hd2:=RG hr'
   have:=(zF ho hij hio h1' hs h2).1
   simp[YF,hd1,hd2] at this
  have hCl:LH ops (L.setIfInBounds i true):=by
   intro j oj hoj hj e he hb'
   have hset:∀ q,L.getD q false=true->(L.setIfInBounds i true).getD q false=true:=fun q hq=>by
    by_cases e1:i=q
    ·subst e1;rw[hif] at hq;cases hq
    ·rw[gW e1];exact hq
   by_cases e1:j=i
   ·subst e1
    rw[hio] at hoj
    cases hoj
    exact hset _ (gX e he hb')
   ·rw[gW (fun e2=>e1 e2.symm)] at hj
    exact hset _ (hC j oj hoj hj e he hb')
  unfold wpOp
  rw[hio]
  refine a0H hB b1k (hvi hv) m1 m2 (fun v w' E' n1 n2 n3 n4=>⟨by simpa using hL,hCl,E',n2.fix.trans m0,?_,?_⟩)
  ·rw[a7M,<-pO];exact n1
  ·rw[a7M,b2c,<-pO];exact m2.put n2 (UL b1k) n3 n4
 ·have hnew:∀ j,(Array.replicate ops.size false).getD j false=false:=fun j=>yO _ j
  have e1:∀ {α:Type} (us:List (List (Nat × α))) (f:Nat->α),fP (fun j=>(Array.replicate ops.size false).getD j false) 0 us f=f:=fun us f=>by
   funext r
   exact AO us 0 f (fun j u _ _=>hnew _)
  rw[e1,e1]
  obtain⟨n1,n2⟩:=hM.grows (Below.refl w.heap.size w).drew
  have hcl0:LH ops (Array.replicate ops.size false):=fun j o hj hj2=>by rw[hnew] at hj2;cases hj2
  exact⟨by simp,hcl0,E,rfl,n1,hf.size,hf.defers,fun s=>n2.wf _ (hf.wf s),fun s=>n2.holds _ _ (hf.wf s) (hf.holds s),hf.par⟩
end
end Go.Proofs.YtidfgdchcpmnfaaGreat
