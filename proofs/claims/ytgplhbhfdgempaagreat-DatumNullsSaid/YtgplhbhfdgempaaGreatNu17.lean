/-
  Lemmas for the theorem vnulls_holds, part 17 of 36.
-/
import Derived.Test.YtgplhbhfdgempaaGreatNu03
import Derived.Test.YtgplhbhfdgempaaGreatNu16
namespace Go.Proofs.YtgplhbhfdgempaaGreat
open Go Go.RowKit
section
set_option linter.unusedSimpArgs false
set_option linter.unusedVariables false
set_option maxRecDepth 20000
theorem a7c {P:Program} {md:Region.Mode} {ops:Array Oper} {Q:Exit->Act->World->Prop} (I:Array Bool->Act->World->Prop) (hd:rX md ops=true)
  (hend:∀ L a w,I L a w->(∀ i,i<ops.size->L.getD i true=true)->Q .normal a w)
  (hstep:∀ L a w i o,I L a w->ops[i]?=some o->L.getD i true=false->(∀ e ∈ o.after,Region.binds md e=true->L.getD e.on false=true)->wpOp P ops Q i (I (L.setIfInBounds i true)) a w) :
  ∀ fuel L a w,EX L<=fuel->I L a w->wpAny P md ops Q fuel L a w:=by
 intro fuel
 induction fuel with
 | zero =>
  intro L a w hu hI
  have hn:Region.ready md ops L=[]:=by
   cases hr:Region.ready md ops L with
   | nil=>rfl
   | cons i r =>
    exfalso
    obtain⟨o,_,h2,_⟩:=CO (by rw[hr];exact List.mem_cons_self)
    have:=yC h2
    omega
  exact⟨hn,hend L a w hI (nT hd hn)⟩
 | succ fuel ih =>
  intro L a w hu hI
  refine⟨fun hn=>hend L a w hI (nT hd hn),fun i hi=>?_⟩
  obtain⟨o,h1,h2,h3⟩:=CO hi
  refine wpOp_mono (fun a' w' h'=>ih _ _ _ ?_ h') (hstep L a w i o hI h1 h2 h3)
  have:=yC h2
  omega
def RI:K0->List Nat
 | .val _ _=>[]
 | .own r _=>[r]
 | .ptr r _=>[r]
 | .lY r=>[r]
def K.res:K->List Nat
 | .ptr r _=>[r]
 | .own r _=>[r]
 | .when _ k=>k.res
 | .cell r _ _=>[r]
 | .mrow r _ _=>[r]
 | .mpos r _ _ _=>[r]
 | .lY r=>[r]
 | .mix ks=>ks.flatMap RI
 | .fn _ ks=>ks.flatMap RI
 | .sng r _=>[r]
 | _=>[]
def b7W:Res->List Nat
 | .lH k=>k.res
 | _=>[]
def oP (ρ:Nat->Res) (k:K):List Nat:=k.res++k.res.flatMap fun r=>b7W (ρ r)
section
variable {P:Program} {C:FuncId->List Ctr} {T:Told} {ρ ρ':Nat->Res}
theorem uK {α:Type} {f g:Nat->α} {r:Nat} (h:f r=g r):∀ (l:List (Nat × α)),jC f l r=jC g l r
 | []=>h
 | (q,x)::l=>by
  simp only[jC]
  refine uK ?_ l
  unfold bW;split
  ·rfl
  ·exact h
theorem kL {α:Type} {r:Nat}:∀ (l:List (Nat × α)) (f:Nat->α),r ∉ l.map (·.1)->jC f l r=f r
 | [],_,_=>rfl
 | (q,x)::l,f,h=>by
  simp only[List.map_cons,List.mem_cons,not_or] at h
  simp only[jC]
  rw[kL l _ h.2,aP _ _ h.1]
theorem LQ {k:K} (h:∀ r ∈ k.res,ρ r=ρ' r):sS ρ k=sS ρ' k:=by
 cases k<;>try rfl
 ·rename_i r v
  simp only[sS,h r (by simp[K.res])]
 ·rename_i r v i
  simp only[sS,h r (by simp[K.res])]
theorem oZ {k:K} {t:Option Ty} (h:∀ r ∈ k.res,ρ r=ρ' r):wQ ρ t k=wQ ρ' t k:=by
 cases k<;>first|rfl|exact LQ h
theorem a3P {k:K} {t:Option Ty} (h:∀ r ∈ k.res,ρ r=ρ' r):a3O ρ t k=a3O ρ' t k:=by
 have:UU ρ k=UU ρ' k:=by
  cases k<;>try rfl
  ·rename_i t x;cases t<;>rfl
  ·rename_i r v
   simp only[UU,h r (by simp[K.res])]
  ·rename_i r v i
   simp only[UU,h r (by simp[K.res])]
 unfold a3O
 rw[this,oZ h]
theorem LP {t:Option Ty}:∀ {ks:List K} {ρ ρ':Nat->Res},(∀ k ∈ ks,∀ r ∈ k.res,ρ r=ρ' r)->DJ ρ t ks=DJ ρ' t ks
 | [],_,_,_=>rfl
 | k::ks,ρ,ρ',h=>by
  simp only[DJ,oZ (h k (List.mem_cons_self ..))]
  split
  ·rename_i p l _
   rw[LP (ρ:=after ρ l) (ρ':=after ρ' l) (fun k' hk' r hr=>by rw[qJ,qJ];exact uK (h k' (List.mem_cons_of_mem _ hk') r hr) l)]
  ·rfl
theorem yX:∀ {ts:List Ty} {ks:List K} {ρ ρ':Nat->Res},(∀ k ∈ ks,∀ r ∈ k.res,ρ r=ρ' r)->yV ρ ts ks=yV ρ' ts ks
 | [],[],_,_,_=>rfl
 | [],_::_,_,_,_=>rfl
 | _::_,[],_,_,_=>rfl
 | t::ts,k::ks,ρ,ρ',h=>by
  simp only[yV,oZ (h k (List.mem_cons_self ..))]
  split
  ·rename_i p l _
   rw[yX (ρ:=after ρ l) (ρ':=after ρ' l) (fun k' hk' r hr=>by rw[qJ,qJ];exact uK (h k' (List.mem_cons_of_mem _ hk') r hr) l)]
  ·rfl
theorem a0v {k:Operand->K} {d:Option Nat} {op:Op} (hk:∀ x,∀ r ∈ (k x).res,ρ r=ρ' r) (hd:∀ r,d=some r->ρ r=ρ' r):qL P T ρ k d op=qL P T ρ' k d op:=by
 cases op<;>try rfl
 case alloc t =>
  simp only[qL]
  split
  ·rw[hd _ (by first|assumption|rfl)]
  ·rfl
 case box t x =>
  simp only[qL,oZ (hk x)]
  split
  ·rw[hd _ (by first|assumption|rfl)]
  ·rfl
 case load t x =>
  simp only[qL]
  split
  ·rename_i r o hx;rw[hk x r (by rw[hx];simp[K.res])]
  ·rfl
 case store t x y =>
  simp only[qL,oZ (hk y)]
  split
  ·rename_i r o _ _ hx _;rw[hk x r (by rw[hx];simp[K.res])]
  ·rfl
 case fieldAddr s x i =>
  simp only[qL]
  split
  ·rename_i r o hx;rw[hk x r (by rw[hx];simp[K.res])]
  ·rfl
 case indexAddr s x i =>
  simp only[qL]
  split
  ·rename_i r o _ _ hx _;rw[hk x r (by rw[hx];simp[K.res])]
  ·rfl
theorem a1Q {k:Operand->K} {d:Option Nat} {op:Op} (hk:∀ x,∀ r ∈ (k x).res,ρ r=ρ' r) (hd:∀ r,d=some r->ρ r=ρ' r):AQ P T ρ k d op=AQ P T ρ' k d op:=by
 cases op<;>try rfl
 case buildSlice t len parts =>
  simp only[AQ]
  have h1:DJ ρ (a4u P T t) (parts.toList.map fun q=>k q.2)=DJ ρ' (a4u P T t) (parts.toList.map fun q=>k q.2):=LP (fun k' hk' r hr=>by
   obtain⟨q,_,rfl⟩:=List.mem_map.1 hk'
   exact hk q.2 r hr)
  rw[h1]
  split
  ·split
   ·split
    ·split
     ·rw[hd _ (by first|assumption|rfl)]
     ·rfl
    ·rfl
   ·rfl
   ·rfl
  ·rfl
 case call c =>
  obtain⟨cl,xs,ts⟩:=c
  cases cl<;>try rfl
  rename_i bi
  cases bi<;>try rfl
  simp only[AQ]
  split
  ·rename_i s x t t' _ _
   split
   ·simp only[a3P (hk x)]
    split
    ·rename_i r v hs;rw[hk s r (by rw[hs];simp[K.res])]
    ·split
     ·rw[hd _ (by first|assumption|rfl)]
     ·rfl
    ·rfl
   ·rfl
  ·rfl
theorem AO {k:K} {r:Nat} (h:r ∈ k.res):r ∈ oP ρ k:=List.mem_append_left _ h
theorem a9F {k k':K} {r q:Nat} (h:r ∈ k.res) (hr:ρ r=.lH k') (hq:q ∈ k'.res):q ∈ oP ρ k:=List.mem_append_right _ (List.mem_flatMap.2 ⟨r,h,by rw[hr];exact hq⟩)
theorem BH {k:K} {t:Option Ty} (h:∀ r ∈ k.res,ρ r=ρ' r):uG ρ t k=uG ρ' t k:=by
 cases k<;>try rfl
 ·rename_i r v
  simp only[uG,h r (by simp[K.res])]
 ·rename_i r v i
  simp only[uG,h r (by simp[K.res])]
theorem NI {k:K} {t:Option Ty} (h:∀ r ∈ oP ρ k,ρ r=ρ' r):DV ρ t k=DV ρ' t k:=by
 have h0:∀ r ∈ k.res,ρ r=ρ' r:=fun r hr=>h r (AO hr)
 cases k
 case ptr r o=>simp only[DV,h0 r (by simp[K.res])]
 case lY r =>
  simp only[DV,<-h0 r (by simp[K.res])]
  split
  ·rename_i k9 hr
   split
   ·rw[BH (ρ:=ρ) (ρ':=ρ') (fun q hq=>h q (a9F (k:=.lY r) (by simp[K.res]) hr hq))]
   ·rfl
  ·rfl
 all_goals exact BH (t:=t) h0
theorem b4n (k:K0):(k0K k).res=RI k:=by cases k<;>rfl
theorem BG:∀ {u:Ty} {ks:List K0},(∀ k ∈ ks,∀ r ∈ oP ρ (k0K k),ρ r=ρ' r)->iT ρ u ks=iT ρ' u ks
 | .unit,[],_=>rfl
 | .pair a b,k::ks,h=>by
  simp only[iT]
  rw[NI (h k (List.mem_cons_self ..)),BG (fun k' hk'=>h k' (List.mem_cons_of_mem _ hk'))]
 | .unit,_::_,_=>rfl
 | .pair _ _,[],_=>rfl
 | .bool,_,_=>rfl
 | .int _,_,_=>rfl
 | .lf _,_,_=>rfl
 | .list _,_,_=>rfl
 | .arr _ _,_,_=>rfl
 | .ref _,_,_=>rfl
 | .clo _ _,_,_=>rfl
theorem a5j {g:FuncId} {ks:List K0} {k:K0} {r:Nat} (hk:k ∈ ks) (h:r ∈ oP ρ (k0K k)):r ∈ oP ρ (.fn g ks):=by
 have h1:∀ q ∈ (k0K k).res,q ∈ (K.fn g ks).res:=fun q hq=>List.mem_flatMap.2 ⟨k,hk,by rw[<-b4n];exact hq⟩
 rcases List.mem_append.1 h with h|h
 ·exact AO (h1 r h)
 ·obtain⟨q,hq,h⟩:=List.mem_flatMap.1 h
  exact List.mem_append_right _ (List.mem_flatMap.2 ⟨q,h1 q hq,h⟩)
theorem a2p {k:K} {t:Ty} (h:∀ r ∈ oP ρ k,ρ r=ρ' r):TW ρ t k=TW ρ' t k:=by
 cases k
 case fn g ks =>
  simp only[TW]
  split
  ·rw[BG (fun k hk r hr=>h r (a5j hk hr))]
  ·rfl
 all_goals exact NI (t:=some t) h
theorem uF:∀ {ts:List Ty} {ks:List K},(∀ k ∈ ks,∀ r ∈ oP ρ k,ρ r=ρ' r)->mV ρ ts ks=mV ρ' ts ks
 | [],[],_=>rfl
 | [],_::_,_=>rfl
 | _::_,[],_=>rfl
 | t::ts,k::ks,h=>by
  simp only[mV]
  rw[a2p (h k (List.mem_cons_self ..)),uF (fun k' hk'=>h k' (List.mem_cons_of_mem _ hk'))]
theorem zA {ks:List K} (h:∀ k ∈ ks,∀ r ∈ oP ρ k,ρ r=ρ' r):∀ cs:List Ctr,DK ρ ks cs=DK ρ' ks cs
 | []=>rfl
 | c::cs=>by
  have e:a0r ρ c ks=a0r ρ' c ks:=by
   unfold a0r
   rw[uF h,yX (fun k hk r hr=>h k hk r (AO hr))]
  simp only[DK]
  rw[e,zA h cs]
theorem YB {k:Operand->K} {op:Op} (hk:∀ x,∀ r ∈ oP ρ (k x),ρ r=ρ' r):vC P C ρ k op=vC P C ρ' k op:=by
 cases op<;>try rfl
 case makeFunc fn first caps=>cases fn<;>rfl
 case call c =>
  obtain⟨cl,xs,ts⟩:=c
  cases cl<;>try rfl
  rename_i f
  simp only[vC]
  have hcap:∀ (t:Ty) (x:t.den) (k':K),k' ∈ a0w t x->k'.res=[]:=by
   intro t
   induction t with
   | pair a b _ ih =>
    intro x k' h
    rcases List.mem_cons.1 h with rfl|h
    ·rfl
    ·exact ih x.2 k' h
   | _=>intro x k' h;cases h
  split
  ·rename_i g t cx hf
   rw[zA (fun k' hk' r hr=>by
    rcases List.mem_append.1 hk' with h|h
    ·obtain⟨q,_,rfl⟩:=List.mem_map.1 h;exact hk q r hr
    ·exfalso
     unfold oP at hr
     rw[hcap t cx k' h] at hr
     simp at hr)]
  ·rename_i g l hf
   rw[zA (fun k' hk' r hr=>by
    rcases List.mem_append.1 hk' with h|h
    ·obtain⟨q,_,rfl⟩:=List.mem_map.1 h;exact hk q r hr
    ·obtain⟨q,hq,rfl⟩:=List.mem_map.1 h
     exact hk f r (by rw[hf];exact a5j hq hr))]
  ·rfl
theorem a3A {k:Operand->K} {op:Op} (hk:∀ x,∀ r ∈ (k x).res,ρ r=ρ' r):KZ P ρ k op=KZ P ρ' k op:=by
 cases op<;>try rfl
 case indexAddr s x i =>
  simp only[KZ]
  split
  ·rename_i r v _ _ hx _;rw[hk x r (by rw[hx];simp[K.res])]
  ·rename_i r v _ _ _ hx _;rw[hk x r (by rw[hx];simp[K.res])]
  ·rfl
 case load t x =>
  simp only[KZ]
  split
  ·rename_i r v _ hx;rw[hk x r (by rw[hx];simp[K.res])]
  ·rename_i r v _ _ hx;rw[hk x r (by rw[hx];simp[K.res])]
  ·rename_i r hx;rw[hk x r (by rw[hx];simp[K.res])]
  ·rfl
 case call c =>
  obtain⟨cl,xs,ts⟩:=c
  cases cl<;>try rfl
  rename_i bi
  cases bi<;>try rfl
  simp only[KZ]
  split
  ·rename_i x t _ _
   split
   ·split
    ·rename_i r v hx;rw[hk x r (by rw[hx];simp[K.res])]
    ·rename_i r v _ hx;rw[hk x r (by rw[hx];simp[K.res])]
    ·rfl
   ·rfl
  ·rfl
theorem a4a {k:Operand->K} {d:Option Nat} {op:Op} (hk:∀ x,∀ r ∈ (k x).res,ρ r=ρ' r) (hd:∀ r,d=some r->ρ r=ρ' r):a0l P T ρ k d op=a0l P T ρ' k d op:=by
 cases op<;>try rfl
 case store t x y =>
  have hown:ownB ρ (k y)=ownB ρ' (k y):=by
   cases hy:k y<;>try rfl
   rename_i r v
   simp only[ownB]
   rw[hk y r (by rw[hy];simp[K.res])]
  simp only[a0l,oZ (hk y),hown]
  split
  ·rename_i r v i hx
   rw[hk x r (by rw[hx];simp[K.res])]
   split
   ·rfl
   ·split
    ·rfl
    ·rename_i r2 v2 hy
     rw[hk y r2 (by rw[hy];simp[K.res])]
    ·rfl
   ·rfl
  ·rename_i r v id i hx;rw[hk x r (by rw[hx];simp[K.res])]
  ·rename_i r hx;rw[hk x r (by rw[hx];simp[K.res])]
  ·rfl
 case makeSlice t n m =>
  simp only[a0l]
  split
  ·rw[hd _ (by first|assumption|rfl)]
  ·rfl
theorem a3g {k:Operand->K} {d:Option Nat} {op:Op} (hk:∀ x,∀ r ∈ (k x).res,ρ r=ρ' r) (hd:∀ r,d=some r->ρ r=ρ' r):RZ P T ρ k d op=RZ P T ρ' k d op:=by
 cases op<;>try rfl
 case buildSlice t len parts =>
  simp only[RZ]
  split<;>try rfl
  rename_i r
  split<;>try rfl
  split<;>try rfl
  split<;>try rfl
  split
  ·rw[hd _ (by first|assumption|rfl)]
  ·rename_i y _
   split
   ·rename_i r2 v2 hy;rw[hk y r2 (by rw[hy];simp[K.res])]
   ·rfl
  ·rfl
 case call c =>
  obtain⟨cl,xs,ts⟩:=c
  cases cl<;>try rfl
  rename_i bi
  cases bi<;>try rfl
  simp only[RZ]
  split
  ·rename_i s x t t' _ _
   split
   ·split
    ·rename_i r2 v2 hx
     rw[hk x r2 (by rw[hx];simp[K.res])]
     split
     ·split
      ·rename_i r v hs;rw[hk s r (by rw[hs];simp[K.res])]
      ·rw[hd _ (by first|assumption|rfl)]
      ·rfl
     ·rfl
    ·rfl
   ·rfl
  ·rfl
theorem NH {r:Nat} {row:Option Nat}:∀ {ts:List Ty} {ks:List K},(∀ k ∈ ks,∀ q ∈ k.res,ρ q=ρ' q)->JF ρ r row ts ks=JF ρ' r row ts ks
 | [],[],_=>rfl
 | [],_::_,_=>rfl
 | _::_,[],_=>rfl
 | t::ts,k::ks,h=>by
  simp only[JF]
  rw[BH (h k (List.mem_cons_self ..)),NH (fun k' hk'=>h k' (List.mem_cons_of_mem _ hk'))]
theorem a1n {k:LK} {k0:K} (h:∀ q ∈ k0.res,ρ q=ρ' q):a4M ρ k k0=a4M ρ' k k0:=by
 cases k with
 | row e t =>
  cases k0<;>try rfl
  case own r v=>exact congrArg (OG e t r v) (h r (by simp[K.res]))
  case mrow r v i=>exact congrArg (OE e t r v i) (h r (by simp[K.res]))
 | mat e e2 t =>
  cases k0<;>try rfl
  case own r v=>exact congrArg (OD e e2 t r v) (h r (by simp[K.res]))
theorem FD {d:Option Nat} {ks:List K} (h:∀ k ∈ ks,∀ r ∈ oP ρ k,ρ r=ρ' r) (hd:∀ r,d=some r->ρ r=ρ' r):∀ cs:List yT,zB ρ d ks cs=zB ρ' d ks cs
 | []=>rfl
 | c::cs=>by
  have e:DY ρ d ks c=DY ρ' d ks c:=by
   cases c with
   | mk k args pre made =>
    simp only[DY]
    split
    ·rw[hd _ (by first|assumption|rfl),uF h]
    ·rfl
   | chg k args res pre out fn =>
    cases ks with
    | nil=>rfl
    | cons k0 ks =>
     have h0:∀ k ∈ k0::ks,∀ r ∈ k.res,ρ r=ρ' r:=fun k hk r hr=>h k hk r (AO hr)
     simp only[DY]
     rw[a1n (h0 k0 (List.mem_cons_self ..)),yX (fun k hk=>h0 k (List.mem_cons_of_mem _ hk))]
     simp only[NH (ρ:=ρ) (ρ':=ρ') (ks:=ks) (fun k hk=>h0 k (List.mem_cons_of_mem _ hk))]
  simp only[zB]
  rw[e,FD h hd cs]
theorem YA {k:Operand->K} {d:Option Nat} {op:Op} (hk:∀ x,∀ r ∈ oP ρ (k x),ρ r=ρ' r) (hd:∀ r,d=some r->ρ r=ρ' r):zC P T ρ k d op=zC P T ρ' k d op:=by
 cases op<;>try rfl
 case call c =>
  obtain⟨cl,xs,ts⟩:=c
  cases cl<;>try rfl
  rename_i f
  simp only[zC]
  have hcap:∀ (t:Ty) (x:t.den) (k':K),k' ∈ a0w t x->k'.res=[]:=by
   intro t
   induction t with
   | pair a b _ ih =>
    intro x k' h
    rcases List.mem_cons.1 h with rfl|h
    ·rfl
    ·exact ih x.2 k' h
   | _=>intro x k' h;cases h
  split
  ·split
   ·refine FD (fun k9 hk9 r hr=>?_) hd _
    rcases List.mem_append.1 hk9 with hk9|hk9
    ·obtain⟨q,_,rfl⟩:=List.mem_map.1 hk9;exact hk q r hr
    ·exfalso
     unfold oP at hr
     rw[hcap _ _ _ hk9] at hr
     simp at hr
   ·rfl
  ·rfl
theorem a0V {k:Operand->K} {op:Op} (hk:∀ x,∀ r ∈ (k x).res,ρ r=ρ' r):VQ P ρ k op=VQ P ρ' k op:=by
 unfold VQ
 split
 ·rename_i t s lo hi
  have h:=LQ (hk (.tmp s))
  split
  ·rename_i r v e
   rw[e] at h
   rw[h]
  ·rfl
 ·rfl
theorem JA {k:Operand->K} {d:Option Nat} {op:Op} (hk:∀ x,∀ r ∈ oP ρ (k x),ρ r=ρ' r) (hd:∀ r,d=some r->ρ r=ρ' r):qF P C T ρ k d op=qF P C T ρ' k d op:=by
 have h0:∀ x,∀ r ∈ (k x).res,ρ r=ρ' r:=fun x r hr=>hk x r (AO hr)
 unfold qF
 rw[a0v h0 hd,a1Q h0 hd,a3A h0,a4a h0 hd,a3g h0 hd,a0V h0,YA hk hd,YB hk]
end
def VT (ops:Array Oper) (o:Oper):Option Nat:=match o.guard with
 | some (j,_)=>(ops[j]?).bind (·.dst)
 | none=>none
def readsOf (ops:Array Oper) (o:Oper):List Nat:=tmpsOf o.op++(VT ops o).toList
theorem b0D (ρ:Nat->Res) (k:K):oP ρ (unW k)=oP ρ k:=by cases k<;>rfl
theorem SS (ρ:Nat->Res) (v:Value):oP ρ (wU v)=[]:=by unfold wU;split<;>rfl
def moveB:Op->Bool
 | .move _=>true
 | _=>false
theorem MZ {P:Program} {C:FuncId->List Ctr} {T:Told} {ρ ρ':Nat->Res} {k:Operand->K} {d:Option Nat} {op:Op} (h:moveB op=true):qF P C T ρ k d op=qF P C T ρ' k d op:=by
 cases op<;>simp[moveB] at h
 rfl
def a2k (op:Op):List Nat:=if moveB op then [] else tmpsOf op
theorem a1z {B:Book} {G G':Nat->K} {ρ ρ':Nat->Res} {ops:Array Oper} {o:Oper} (hG:∀ s ∈ readsOf ops o,G s=G' s) (hρ:∀ s ∈ a2k o.op,∀ r ∈ oP ρ (G s),ρ r=ρ' r) (hd:∀ r,o.dst=some r->ρ r=ρ' r):yL B G ρ ops o=yL B G' ρ' ops o:=by
 have h1:kX (tmpsOf o.op) G=kX (tmpsOf o.op) G':=by
  funext s
  unfold kX
  split
  ·rename_i h;exact hG s (List.mem_append_left _ (by simpa using h))
  ·rfl
 have h2:kX (tmpsOf o.op) (unG o.op G)=kX (tmpsOf o.op) (unG o.op G'):=by
  funext s
  unfold kX
  split
  ·rename_i h;unfold unG;rw[hG s (List.mem_append_left _ (by simpa using h))]
  ·rfl
 have h3:(tmpsOf o.op).flatMap (fun s=>LY o.op s (G s))=(tmpsOf o.op).flatMap (fun s=>LY o.op s (G' s)):=by
  have:∀ l:List Nat,(∀ s ∈ l,G s=G' s)->l.flatMap (fun s=>LY o.op s (G s))=l.flatMap (fun s=>LY o.op s (G' s)):=by
   intro l
   induction l with
   | nil=>intro _;rfl
   | cons x l ih=>intro h;rw[List.flatMap_cons,List.flatMap_cons,h x (List.mem_cons_self ..),ih (fun s hs=>h s (List.mem_cons_of_mem _ hs))]
  exact this _ (fun s hs=>hG s (List.mem_append_left _ hs))
 have k3:qF B.P B.C B.T ρ (opK (kX (tmpsOf o.op) G')) o.dst o.op=qF B.P B.C B.T ρ' (opK (kX (tmpsOf o.op) G')) o.dst o.op/\qF B.P B.C B.T ρ (opK (kX (tmpsOf o.op) (unG o.op G'))) o.dst o.op=qF B.P B.C B.T ρ' (opK (kX (tmpsOf o.op) (unG o.op G'))) o.dst o.op:=by
  by_cases hp:moveB o.op=true
  ·exact⟨MZ hp,MZ hp⟩
  unfold a2k at hρ
  rw[if_neg hp] at hρ
  have k1:∀ x,∀ r ∈ oP ρ (opK (kX (tmpsOf o.op) G') x),ρ r=ρ' r:=by
   rw[<-h1]
   intro x r hr
   cases x with
   | tmp s =>
    have hr:r ∈ oP ρ (kX (tmpsOf o.op) G s):=hr
    unfold kX at hr
    split at hr
    ·rename_i h;exact hρ s (by simpa using h) r hr
    ·cases hr
   | const v=>exfalso;have hr:r ∈ oP ρ (wU v):=hr;rw[SS] at hr;cases hr
   | func f=>cases hr
   | global g=>cases hr
  have k2:∀ x,∀ r ∈ oP ρ (opK (kX (tmpsOf o.op) (unG o.op G')) x),ρ r=ρ' r:=by
   rw[<-h2]
   intro x r hr
   cases x with
   | tmp s =>
    have hr:r ∈ oP ρ (kX (tmpsOf o.op) (unG o.op G) s):=hr
    unfold kX at hr
    split at hr
    ·rename_i h
     refine hρ s (by simpa using h) r ?_
     unfold unG at hr
     split at hr
     ·exact hr
     ·rw[<-b0D];exact hr
    ·cases hr
   | const v=>exfalso;have hr:r ∈ oP ρ (wU v):=hr;rw[SS] at hr;cases hr
   | func f=>cases hr
   | global g=>cases hr
  exact⟨JA k1 hd,JA k2 hd⟩
 unfold yL
 rw[h1,h2,h3,k3.1,k3.2]
 cases hg:o.guard with
 | none=>rfl
 | some jb =>
  obtain⟨j,b⟩:=jb
  simp only
  cases hs:(ops[j]?).bind (·.dst) with
  | none=>rfl
  | some s =>
   have:G s=G' s:=hG s (List.mem_append_right _ (by simp[VT,hg,hs]))
   simp only[this]
end
section
set_option linter.unusedSimpArgs false
set_option linter.unusedVariables false
set_option maxRecDepth 20000
def fU {α:Type} (done:Nat->Bool):Nat->List (List (Nat × α))->(Nat->α)->Nat->α
 | _,[],f=>f
 | j,u::us,f=>fU done (j+1) us (if done j then jC f u else f)
theorem zK {α:Type} {d d':Nat->Bool} {r:Nat}:∀ (us:List (List (Nat × α))) (b:Nat) (f g:Nat->α),f r=g r->(∀ j u,us[j]?=some u->r ∈ u.map (·.1)->d (b+j)=d' (b+j))->fU d b us f r=fU d' b us g r
 | [],b,f,g,h,_=>h
 | u::us,b,f,g,h,hd=>by
  simp only[fU]
  refine zK us (b+1) _ _ ?_ (fun j u' hu hr=>by have:=hd (j+1) u' hu hr;rwa [show b+(j+1)=b+1+j by omega] at this)
  by_cases hr:r ∈ u.map (·.1)
  ·have:=hd 0 u rfl hr
   rw[Nat.add_zero] at this
   rw[<-this]
   split
   ·exact uK h u
   ·exact h
  ·split<;>split<;>first
    | (rw[kL u _ hr,kL u _ hr];exact h)
    | (rw[kL u _ hr];exact h)
    |exact h
theorem BP {α:Type} {d:Nat->Bool} {r:Nat}:∀ (us:List (List (Nat × α))) (b:Nat) (f:Nat->α),(∀ j u,us[j]?=some u->r ∈ u.map (·.1)->d (b+j)=false)->fU d b us f r=f r
 | [],b,f,_=>rfl
 | u::us,b,f,hd=>by
  simp only[fU]
  rw[BP us (b+1) _ (fun j u' hu hr=>by have:=hd (j+1) u' hu hr;rwa [show b+(j+1)=b+1+j by omega] at this)]
  by_cases hr:r ∈ u.map (·.1)
  ·have:=hd 0 u rfl hr
   rw[Nat.add_zero] at this
   rw[this];rfl
  ·split
   ·exact kL u _ hr
   ·rfl
theorem UW {α:Type} {r:Nat}:∀ (l:List (Nat × α)) (f g:Nat->α),r ∈ l.map (·.1)->jC f l r=jC g l r
 | [],_,_,h=>by cases h
 | (q,x)::l,f,g,h=>by
  simp only[jC]
  by_cases hr:r ∈ l.map (·.1)
  ·exact UW l _ _ hr
  ·rw[kL l _ hr,kL l _ hr]
   have:r=q:=by
    rcases List.mem_cons.1 h with h|h
    ·exact h
    ·exact absurd h hr
   subst this
   rw[aG,aG]
theorem EH {α:Type} {d d':Nat->Bool} {u:List (Nat × α)}:∀ (us:List (List (Nat × α))) (b i:Nat) (f:Nat->α),us[i]?=some u->d (b+i)=false->d' (b+i)=true->(∀ j,j≠b+i->d' j=d j)->(∀ r ∈ u.map (·.1),∀ j v,us[j]?=some v->i<j->r ∈ v.map (·.1)->d (b+j)=false)->fU d' b us f=jC (fU d b us f) u
 | v::us,b,0,f,hi,hd,hd',he,hn=>by
  simp only[List.getElem?_cons_zero,Option.some.injEq] at hi
  subst hi
  simp only[Nat.add_zero] at hd hd' he
  simp only[fU,hd,hd',if_true,Bool.false_eq_true,if_false]
  funext r
  have h1:fU d' (b+1) us (jC f v) r=fU d (b+1) us (jC f v) r:=zK us (b+1) _ _ rfl (fun j u' hu hr=>he _ (by omega))
  rw[h1]
  by_cases hr:r ∈ v.map (·.1)
  ·rw[BP us (b+1) _ (fun j u' hu hr'=>by have:=hn r hr (j+1) u' hu (by omega) hr';rwa [show b+(j+1)=b+1+j by omega] at this)]
   exact UW v _ _ hr
  ·rw[kL v _ hr]
   exact zK us (b+1) _ _ (kL v _ hr) (fun j u' hu hr=>rfl)
 | v::us,b,i+1,f,hi,hd,hd',he,hn=>by
  simp only[fU]
  have:(if d' b=true then jC f v else f)=(if d b=true then jC f v else f):=by rw[he b (by omega)]
  rw[this]
  exact EH us (b+1) i _ hi (by rwa [show b+1+i=b+(i+1) by omega]) (by rwa [show b+1+i=b+(i+1) by omega]) (fun j hj=>he j (by omega)) (fun r hr j v' hv hlt hr'=>by
   have:=hn r hr (j+1) v' hv (by omega) hr'
   rwa [show b+(j+1)=b+1+j by omega] at this)
 | [],b,i,f,hi,hd,hd',he,hn=>by simp at hi
theorem KC {α:Type} {d:Nat->Bool}:∀ (us:List (List (Nat × α))) (b:Nat) (f:Nat->α),(∀ j,j<us.length->d (b+j)=true)->fU d b us f=us.foldl jC f
 | [],b,f,h=>rfl
 | u::us,b,f,h=>by
  have h0:=h 0 (by simp)
  rw[Nat.add_zero] at h0
  simp only[fU,h0,if_true,List.foldl_cons]
  exact KC us (b+1) _ (fun j hj=>by have:=h (j+1) (by simpa using hj);rwa [show b+(j+1)=b+1+j by omega] at this)
structure Sim where
 k:K
 l:List (Nat × Res)
 touch:List Nat
def xU (B:Book) (ops:Array Oper):List Oper->Gam->Rho->Option (List Prop × List Sim × Gam × Rho)
 | [],G,R=>some ([],[],G,R)
 | o::rest,G,R=>match yL B (dF G) (aQ R) ops o with
  | some (vc,k,l)=>match xU B ops rest (b4K o.dst k G) (aft R l) with
   | some (vc',ss,G',R')=>some (vc++vc',⟨k,l,(a2k o.op).flatMap (fun s=>oP (aQ R) (dF G s))++o.dst.toList++l.map (·.1)⟩::ss,G',R')
   | none=>none
  | none=>none
def isDst (o:Oper) (l:List Nat):Bool:=match o.dst with
 | some s=>l.contains s
 | none=>false
def ZY (o o':Oper):Bool:=match o.dst,o'.dst with
 | some s,some s'=>s==s'
 | _,_=>false
def clash (ops:Array Oper) (o o':Oper) (s s':Sim):Bool:=isDst o (readsOf ops o') || isDst o' (readsOf ops o) || s.l.any (fun q=>s'.touch.contains q.1) || s'.l.any (fun q=>s.touch.contains q.1)
def a3l (ops:Array Oper) (b:Array Nat) (ss:List Sim):Bool:=(List.range ops.size).all fun j=>match ops[j]?,ss[j]? with
 | some o',some s'=>(List.range j).all fun i=>match ops[i]?,ss[i]? with
  | some o,some s=>!ZY o o'&&(!clash ops o o' s s' || (b.getD j 0).testBit i)
  | _,_=>false
 | _,_=>false
def a9a (ops:Array Oper) (b:Array Nat):Bool:=(List.range ops.size).all fun j=>match ops[j]? with
 | some o=>(List.range j).all fun i=>!(b.getD j 0).testBit i || o.after.any fun e=>Region.binds .any e&&(e.on==i || (decide (e.on<j)&&decide (i<e.on)&&(b.getD e.on 0).testBit i))
 | none=>false
def NY (ops:Array Oper) (L:Array Bool):Prop:=∀ j o,ops[j]?=some o->L.getD j false=true->∀ e ∈ o.after,Region.binds .any e=true->L.getD e.on false=true
theorem SA {ops:Array Oper} {b:Array Nat} (h:a9a ops b=true) {L:Array Bool} (hc:NY ops L):∀ (j:Nat) (o:Oper) (i:Nat),ops[j]?=some o->i<j->(b.getD j 0).testBit i=true->(∀ e ∈ o.after,Region.binds .any e=true->L.getD e.on false=true)->L.getD i false=true:=by
 intro j
 induction j using Nat.strongRecOn with
 | _ j ih =>
  intro o i ho hij hb hd
  have hj:j<ops.size:=(Array.getElem?_eq_some_iff.1 ho).1
  have h1:=(List.all_eq_true.1 h) j (List.mem_range.2 hj)
  rw[ho] at h1
  have h2:=(List.all_eq_true.1 h1) i (List.mem_range.2 hij)
  rw[hb] at h2
  simp only[Bool.not_true,Bool.false_or,Array.any_eq_true'] at h2
  obtain⟨e,he,h3⟩:=h2
  simp only[Bool.and_eq_true,Bool.or_eq_true,beq_iff_eq,decide_eq_true_eq] at h3
  obtain⟨h4,h5⟩:=h3
  have hdone:=hd e he h4
  rcases h5 with h5|⟨⟨h5,hie⟩,h6⟩
  ·rw[<-h5];exact hdone
  ·have ho':ops[e.on]?=some ops[e.on]:=Array.getElem?_eq_getElem (by omega)
   exact ih e.on h5 _ i ho' hie h6 (hc e.on _ ho' hdone)
theorem MI {α:Type} {d:Nat->Bool}:∀ (us:List (List (Nat × α))) (b:Nat) (f:Nat->α),fU d (b+1) us f=fU (fun j=>d (j+1)) b us f
 | [],b,f=>rfl
 | u::us,b,f=>by simp only[fU];exact MI us (b+1) _
def DC (l:List Oper) (ss:List Sim):List (List (Nat × K)):=List.zipWith (fun o s=>a0g o.dst s.k) l ss
def zW (ss:List Sim):List (List (Nat × Res)):=ss.map (·.l)
theorem WY {B:Book} {ops:Array Oper}:∀ {l:List Oper} {G:Gam} {R:Rho} {vc:List Prop} {ss:List Sim} {G':Gam} {R':Rho},xU B ops l G R=some (vc,ss,G',R') ->
  ss.length=l.length/\dF G'=(DC l ss).foldl jC (dF G)/\aQ R'=(zW ss).foldl jC (aQ R) /\
  ∀ i o,l[i]?=some o->∃ s vi,ss[i]?=some s/\(aV vc->aV vi)/\yL B (fU (fun j=>decide (j<i)) 0 (DC l ss) (dF G)) (fU (fun j=>decide (j<i)) 0 (zW ss) (aQ R)) ops o=some (vi,s.k,s.l) /\
   s.touch=(a2k o.op).flatMap (fun q=>oP (fU (fun j=>decide (j<i)) 0 (zW ss) (aQ R)) (fU (fun j=>decide (j<i)) 0 (DC l ss) (dF G) q))++o.dst.toList++s.l.map (·.1)
 | [],G,R,vc,ss,G',R',h=>by
  simp only[xU,Option.some.injEq,Prod.mk.injEq] at h
  obtain⟨_,rfl,rfl,rfl⟩:=h
  exact⟨rfl,rfl,rfl,fun i o hi=>by simp at hi⟩
 | o::rest,G,R,vc,ss,G',R',h=>by
  simp only[xU] at h
  split at h<;>first|(cases h;done)|skip
  rename_i vc1 k l1 h1
  split at h<;>first|(cases h;done)|skip
  rename_i vc2 ss2 G2 R2 h2
  simp only[Option.some.injEq,Prod.mk.injEq] at h
  obtain⟨rfl,rfl,rfl,rfl⟩:=h
  obtain⟨k1,k2,k3,k4⟩:=WY h2
  rw[vV] at k2 k4
  rw[QT,qJ] at k3 k4
  refine⟨by simp[k1],k2,k3,fun i o' hi=>?_⟩
  cases i with
  | zero =>
   simp only[List.getElem?_cons_zero,Option.some.injEq] at hi
   subst hi
   have e1:∀ {α:Type} (us:List (List (Nat × α))) (f:Nat->α),fU (fun j=>decide (j<0)) 0 us f=f:=fun us f=>by
    funext r
    exact BP us 0 f (fun j u _ _=>by simp)
   exact⟨_,vc1,rfl,fun hv=>(bM.1 hv).1,by rw[e1,e1];exact h1,by rw[e1,e1]⟩
  | succ i =>
   obtain⟨s,vi,j1,j2,j3,j4⟩:=k4 i o' (by simpa using hi)
   have e1:∀ {α:Type} (u:List (Nat × α)) (us:List (List (Nat × α))) (f:Nat->α),fU (fun j=>decide (j<i+1)) 0 (u::us) f=fU (fun j=>decide (j<i)) 0 us (jC f u):=fun u us f=>by
    simp only[fU]
    rw[if_pos (by simp),MI]
    congr 1
    funext j
    simp
   refine⟨s,vi,by simpa using j1,fun hv=>j2 (bM.1 hv).2,?_,?_⟩
   ·show yL B (fU _ 0 (a0g o.dst k::DC rest ss2) (dF G)) (fU _ 0 (l1::zW ss2) (aQ R)) ops o'=_
    rw[e1,e1];exact j3
   ·show s.touch=(a2k o'.op).flatMap (fun q=>oP (fU _ 0 (l1::zW ss2) (aQ R)) (fU _ 0 (a0g o.dst k::DC rest ss2) (dF G) q))++_++_
    rw[e1,e1];exact j4
theorem a4I {l:List Oper} {ss:List Sim} {j:Nat} {u:List (Nat × K)} (h:(DC l ss)[j]?=some u):∃ o s,l[j]?=some o/\ss[j]?=some s/\u=a0g o.dst s.k:=by
 unfold DC at h
 rw[List.getElem?_zipWith] at h
 cases h1:l[j]? with
 | none=>rw[h1] at h;cases h
 | some o =>
  cases h2:ss[j]? with
  | none=>rw[h1,h2] at h;cases h
  | some s=>rw[h1,h2] at h;simp at h;exact⟨o,s,rfl,rfl,h.symm⟩
theorem a4O {ss:List Sim} {j:Nat} {u:List (Nat × Res)} (h:(zW ss)[j]?=some u):∃ s,ss[j]?=some s/\u=s.l:=by
 unfold zW at h
 rw[List.getElem?_map] at h
 cases h2:ss[j]? with
 | none=>rw[h2] at h;cases h
 | some s=>rw[h2] at h;simp at h;exact⟨s,rfl,h.symm⟩
theorem TS {d:Option Nat} {k:K} {r:Nat} (h:r ∈ (a0g d k).map (·.1)):d=some r:=by
 cases d with
 | none=>cases h
 | some s=>simp[a0g] at h;rw[h]
theorem a1j {o:Oper} {l:List Nat} {s:Nat} (h:o.dst=some s) (hs:s ∈ l):isDst o l=true:=by simp[isDst,h,hs]
theorem XT {l:List (Nat × Res)} {t:List Nat} {r:Nat} (h:r ∈ l.map (·.1)) (ht:r ∈ t):l.any (fun q=>t.contains q.1)=true:=by
 obtain⟨q,hq,rfl⟩:=List.mem_map.1 h
 exact List.any_eq_true.2 ⟨q,hq,by simpa using ht⟩
theorem AA {ops:Array Oper} {b:Array Nat} {ss:List Sim} (h:a3l ops b ss=true) {i j:Nat} {o o':Oper} {s s':Sim} (hij:i<j) (hi:ops[i]?=some o) (hj:ops[j]?=some o') (hs:ss[i]?=some s) (hs':ss[j]?=some s'):ZY o o'=false/\(clash ops o o' s s'=true->(b.getD j 0).testBit i=true):=by
 have hjl:j<ops.size:=(Array.getElem?_eq_some_iff.1 hj).1
 have h1:=(List.all_eq_true.1 h) j (List.mem_range.2 hjl)
 rw[hj,hs'] at h1
 have h2:=(List.all_eq_true.1 h1) i (List.mem_range.2 hij)
 rw[hi,hs] at h2
 simp only[Bool.and_eq_true,Bool.not_eq_true',Bool.or_eq_true] at h2
 refine⟨h2.1,fun hc=>?_⟩
 rcases h2.2 with h3|h3
 ·rw[hc] at h3;cases h3
 ·exact h3
theorem a4m {ops:Array Oper} {o o':Oper} {s s':Sim} (h:s.l.any (fun q=>s'.touch.contains q.1)=true):clash ops o o' s s'=true:=by unfold clash;rw[h];simp
theorem b0W {ops:Array Oper} {o o':Oper} {s s':Sim} (h:s'.l.any (fun q=>s.touch.contains q.1)=true):clash ops o o' s s'=true:=by unfold clash;rw[h];simp
section
variable {B:Book} {W:World}
theorem a5E (hB:B.Ok) (hm:B.P.follows .mixedOrders=true) {id:Nat} {ops:Array Oper} {b:Array Nat} {Q:Exit->Act->World->Prop} {G:Gam} {R:Rho} {E:Env} {w:World} {a:Act} {vc:List Prop} {ss:List Sim} {G':Gam} {R':Rho}
  (h:xU B ops ops.toList G R=some (vc,ss,G',R')) (hd:rX .any ops=true) (ho:a3l ops b ss=true) (hn:a9a ops b=true) (hv:aV vc) (hM:Mem E (aQ R) W w) (hf:Fits E (aQ R) w B a (dF G))
  (hq:∀ E' a' w',E'.fix=E.fix->Mem E' (aQ R') W w'->Fits E' (aQ R') w' B a' (dF G')->Q .normal a' w'):(Code.region id ops true).wp B.P Q a w:=by
 obtain⟨hlen,hG',hR',hat⟩:=WY h
 have hlen':ss.length=ops.size:=by simpa using hlen
 refine wp_region_any hm ?_
 refine a7c (fun L a w=>L.size=ops.size/\NY ops L/\∃ E',E'.fix=E.fix/\Mem E' (fU (fun j=>L.getD j false) 0 (zW ss) (aQ R)) W w/\Fits E' (fU (fun j=>L.getD j false) 0 (zW ss) (aQ R)) w B a (fU (fun j=>L.getD j false) 0 (DC ops.toList ss) (dF G))) hd ?_ ?_ _ _ _ _ (by rw[TR];exact Nat.le_refl _) ?_
 ·rintro L a w ⟨hL,_,E9,m0,m1,m2⟩ hall
  have hdone:∀ j,j<ops.size->L.getD j false=true:=fun j hj=>wY hL hj (hall j hj)
  have e1:fU (fun j=>L.getD j false) 0 (zW ss) (aQ R)=aQ R':=by
   rw[hR']
   exact KC _ 0 _ (fun j hj=>by rw[Nat.zero_add];exact hdone j (by simpa [zW,hlen'] using hj))
  have e2:fU (fun j=>L.getD j false) 0 (DC ops.toList ss) (dF G)=dF G':=by
   rw[hG']
   exact KC _ 0 _ (fun j hj=>by rw[Nat.zero_add];exact hdone j (by simp[DC,hlen'] at hj;exact hj))
  rw[e1] at m1 m2
  rw[e2] at m2
  exact hq E9 a w m0 m1 m2
 ·rintro L a w i o ⟨hL,hC,E9,m0,m1,m2⟩ hio hl oH
  obtain⟨s,vi,hs,hvi,hone,a8y⟩:=hat i o (by simpa using hio)
  have hi:i<ops.size:=(Array.getElem?_eq_some_iff.1 hio).1
  have hif:L.getD i false=false:=DN hl
  have a4A:∀ j oj sj,j<i->ops[j]?=some oj->ss[j]?=some sj->clash ops oj o sj s=true->L.getD j false=true:=fun j oj sj hji hoj hsj hcl =>
   SA hn hC i o j hio hji ((AA ho hji hoj hio hsj hs).2 hcl) oH
  have YP:∀ j oj sj,i<j->ops[j]?=some oj->ss[j]?=some sj->clash ops o oj s sj=true->L.getD j false=false:=fun j oj sj hij hoj hsj hcl=>by
   cases hjd:L.getD j false with
   | false=>rfl
   | true =>
    have:=SA hn hC j oj i hoj hij ((AA ho hij hio hoj hs hsj).2 hcl) (hC j oj hoj hjd)
    rw[this] at hif;cases hif
  have b4f:∀ q ∈ readsOf ops o,fU (fun j=>decide (j<i)) 0 (DC ops.toList ss) (dF G) q=fU (fun j=>L.getD j false) 0 (DC ops.toList ss) (dF G) q:=fun q hq=>zK _ 0 _ _ rfl (fun j u hu hr=>by
   obtain⟨oj,sj,h1,h2,rfl⟩:=a4I hu
   have hdj:=TS hr
   have h1':ops[j]?=some oj:=by simpa using h1
   rw[Nat.zero_add]
   by_cases hji:j<i
   ·simp only[hji,decide_true]
    exact(a4A j oj sj hji h1' h2 (by simp[clash,a1j hdj hq])).symm
   ·simp only[hji,decide_false]
    by_cases e:j=i
    ·rw[e];exact hif.symm
    ·exact(YP j oj sj (by omega) h1' h2 (by simp[clash,a1j hdj hq])).symm)
  have a8x:∀ r ∈ s.touch,fU (fun j=>decide (j<i)) 0 (zW ss) (aQ R) r=fU (fun j=>L.getD j false) 0 (zW ss) (aQ R) r:=fun r hr=>zK _ 0 _ _ rfl (fun j u hu hr'=>by
   obtain⟨sj,h2,rfl⟩:=a4O hu
   have hjl:j<ops.size:=by rw[<-hlen'];exact(List.getElem?_eq_some_iff.1 h2).1
   have h1':ops[j]?=some ops[j]:=Array.getElem?_eq_getElem hjl
   rw[Nat.zero_add]
   by_cases hji:j<i
   ·simp only[hji,decide_true]
    exact(a4A j _ sj hji h1' h2 (a4m (XT hr' hr))).symm
   ·simp only[hji,decide_false]
    by_cases e:j=i
    ·rw[e];exact hif.symm
    ·exact(YP j _ sj (by omega) h1' h2 (b0W (XT hr' hr))).symm)
  have b3l:yL B (fU (fun j=>L.getD j false) 0 (DC ops.toList ss) (dF G)) (fU (fun j=>L.getD j false) 0 (zW ss) (aQ R)) ops o=some (vi,s.k,s.l):=by
   rw[<-hone]
   refine(a1z b4f (fun q hq r hr=>a8x r ?_) (fun r hr=>a8x r ?_)).symm
   ·rw[a8y];exact List.mem_append_left _ (List.mem_append_left _ (List.mem_flatMap.2 ⟨q,hq,hr⟩))
   ·rw[a8y];exact List.mem_append_left _ (List.mem_append_right _ (by rw[hr];simp))
  have a8t:fU (fun j=>(L.setIfInBounds i true).getD j false) 0 (zW ss) (aQ R)=jC (fU (fun j=>L.getD j false) 0 (zW ss) (aQ R)) s.l:=by
   refine EH _ 0 i _ (by unfold zW;rw[List.getElem?_map,hs];rfl) (by rw[Nat.zero_add];exact hif) (by rw[Nat.zero_add];exact vI hl) (fun j hj=>oG (by omega)) (fun r hr j v hv hij hr'=>?_)
   obtain⟨sj,h2,rfl⟩:=a4O hv
   have hjl:j<ops.size:=by rw[<-hlen'];exact(List.getElem?_eq_some_iff.1 h2).1
   have hjt:r ∈ sj.touch:=by
    obtain⟨sj',_,h3,_,_,h4⟩:=hat j ops[j] (by simp[hjl])
    rw[h2] at h3
    cases h3
    rw[h4];exact List.mem_append_right _ hr'
   rw[Nat.zero_add]
   exact YP j _ sj hij (Array.getElem?_eq_getElem hjl) h2 (a4m (XT hr hjt))
  have b4c:fU (fun j=>(L.setIfInBounds i true).getD j false) 0 (DC ops.toList ss) (dF G)=jC (fU (fun j=>L.getD j false) 0 (DC ops.toList ss) (dF G)) (a0g o.dst s.k):=by
   refine EH _ 0 i _ (by unfold DC;rw[List.getElem?_zipWith,hs];simp[hio]) (by rw[Nat.zero_add];exact hif) (by rw[Nat.zero_add];exact vI hl) (fun j hj=>oG (by omega)) (fun r hr j v hv hij hr'=>?_)
   obtain⟨oj,sj,h1,h2,rfl⟩:=a4I hv
   have h1':ops[j]?=some oj:=by simpa using h1
   have hd1:=TS hr
   have hd2:=TS hr'
   have:=(AA ho hij hio h1' hs h2).1
   simp[ZY,hd1,hd2] at this
  have hCl:NY ops (L.setIfInBounds i true):=by
   intro j oj hoj hj e he hb'
   have hset:∀ q,L.getD q false=true->(L.setIfInBounds i true).getD q false=true:=fun q hq=>by
    by_cases e1:i=q
    ·subst e1;rw[hif] at hq;cases hq
    ·rw[oG e1];exact hq
   by_cases e1:j=i
   ·subst e1
    rw[hio] at hoj
    cases hoj
    exact hset _ (oH e he hb')
   ·rw[oG (fun e2=>e1 e2.symm)] at hj
    exact hset _ (hC j oj hoj hj e he hb')
  unfold wpOp
  rw[hio]
  refine a1A hB b3l (hvi hv) m1 m2 (fun v w' E' n1 n2 n3 n4=>⟨by simpa using hL,hCl,E',n2.fix.trans m0,?_,?_⟩)
  ·rw[a8t,<-qJ];exact n1
  ·rw[a8t,b4c,<-qJ];exact m2.put n2 (WJ b3l) n3 n4
 ·have hnew:∀ j,(Array.replicate ops.size false).getD j false=false:=fun j=>FZ _ j
  have e1:∀ {α:Type} (us:List (List (Nat × α))) (f:Nat->α),fU (fun j=>(Array.replicate ops.size false).getD j false) 0 us f=f:=fun us f=>by
   funext r
   exact BP us 0 f (fun j u _ _=>hnew _)
  rw[e1,e1]
  obtain⟨n1,n2⟩:=hM.grows (Below.refl w.heap.size w).drew
  have hcl0:NY ops (Array.replicate ops.size false):=fun j o hj hj2=>by rw[hnew] at hj2;cases hj2
  exact⟨by simp,hcl0,E,rfl,n1,hf.size,hf.defers,fun s=>n2.wf _ (hf.wf s),fun s=>n2.holds _ _ (hf.wf s) (hf.holds s),hf.par⟩
end
end
end Go.Proofs.YtgplhbhfdgempaaGreat
