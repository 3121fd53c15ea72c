/-
  Lemmas for the theorem vofmatrices_holds, part 18 of 32.
-/
import Derived.Test.YtidfgdchcpmnfaaGreatOm02
import Derived.Test.YtidfgdchcpmnfaaGreatOm17
namespace Go.Proofs.YtidfgdchcpmnfaaGreat
open Go Go.RowKit
set_option linter.unusedSimpArgs false
set_option linter.unusedVariables false
set_option maxRecDepth 20000
theorem a6w {P:Program} {md:Region.Mode} {ops:Array Oper} {Q:Exit->Act->World->Prop} (I:Array Bool->Act->World->Prop) (hd:lG md ops=true)
  (hend:∀ L a w,I L a w->(∀ i,i<ops.size->L.getD i true=true)->Q .normal a w)
  (hstep:∀ L a w i o,I L a w->ops[i]?=some o->L.getD i true=false->(∀ e ∈ o.after,Region.binds md e=true->L.getD e.on false=true)->wpOp P ops Q i (I (L.setIfInBounds i true)) a w) :
  ∀ fuel L a w,zN L<=fuel->I L a w->wpAny P md ops Q fuel L a w:=by
 intro fuel
 induction fuel with
 | zero =>
  intro L a w hu hI
  have hn:Region.ready md ops L=[]:=by
   cases hr:Region.ready md ops L with
   | nil=>rfl
   | cons i r =>
    exfalso
    obtain⟨o,_,h2,_⟩:=rH (by rw[hr];exact List.mem_cons_self)
    have:=oZ h2
    omega
  exact⟨hn,hend L a w hI (jO hd hn)⟩
 | succ fuel ih =>
  intro L a w hu hI
  refine⟨fun hn=>hend L a w hI (jO hd hn),fun i hi=>?_⟩
  obtain⟨o,h1,h2,h3⟩:=rH hi
  refine wpOp_mono (fun a' w' h'=>ih _ _ _ ?_ h') (hstep L a w i o hI h1 h2 h3)
  have:=oZ h2
  omega
def OV:K0->List Nat
 | .val _ _=>[]
 | .own r _=>[r]
 | .ptr r _=>[r]
 | .lJ r=>[r]
def K.res:K->List Nat
 | .ptr r _=>[r]
 | .own r _=>[r]
 | .when _ k=>k.res
 | .cell r _ _=>[r]
 | .mrow r _ _=>[r]
 | .mpos r _ _ _=>[r]
 | .lJ r=>[r]
 | .mix ks=>ks.flatMap OV
 | .fn _ ks=>ks.flatMap OV
 | .sng r _=>[r]
 | _=>[]
def b5I:Res->List Nat
 | .kT k=>k.res
 | _=>[]
def nZ (ρ:Nat->Res) (k:K):List Nat:=k.res++k.res.flatMap fun r=>b5I (ρ r)
section
variable {P:Program} {C:FuncId->List Ctr} {T:Told} {ρ ρ':Nat->Res}
theorem tC {α:Type} {f g:Nat->α} {r:Nat} (h:f r=g r):∀ (l:List (Nat × α)),iT f l r=iT g l r
 | []=>h
 | (q,x)::l=>by
  simp only[iT]
  refine tC ?_ l
  unfold bM;split
  ·rfl
  ·exact h
theorem jX {α:Type} {r:Nat}:∀ (l:List (Nat × α)) (f:Nat->α),r ∉ l.map (·.1)->iT f l r=f r
 | [],_,_=>rfl
 | (q,x)::l,f,h=>by
  simp only[List.map_cons,List.mem_cons,not_or] at h
  simp only[iT]
  rw[jX l _ h.2,aU _ _ h.1]
theorem ZF {k:K} (h:∀ r ∈ k.res,ρ r=ρ' r):tH ρ k=tH ρ' k:=by
 cases k<;>try rfl
 ·rename_i r v
  simp only[tH,h r (by simp[K.res])]
 ·rename_i r v i
  simp only[tH,h r (by simp[K.res])]
theorem oG {k:K} {t:Option Ty} (h:∀ r ∈ k.res,ρ r=ρ' r):vX ρ t k=vX ρ' t k:=by
 cases k<;>first|rfl|exact ZF h
theorem a3g {k:K} {t:Option Ty} (h:∀ r ∈ k.res,ρ r=ρ' r):a3f ρ t k=a3f ρ' t k:=by
 have:TB ρ k=TB ρ' k:=by
  cases k<;>try rfl
  ·rename_i t x;cases t<;>rfl
  ·rename_i r v
   simp only[TB,h r (by simp[K.res])]
  ·rename_i r v i
   simp only[TB,h r (by simp[K.res])]
 unfold a3f
 rw[this,oG h]
theorem JI {t:Option Ty}:∀ {ks:List K} {ρ ρ':Nat->Res},(∀ k ∈ ks,∀ r ∈ k.res,ρ r=ρ' r)->BM ρ t ks=BM ρ' t ks
 | [],_,_,_=>rfl
 | k::ks,ρ,ρ',h=>by
  simp only[BM,oG (h k (List.mem_cons_self ..))]
  split
  ·rename_i p l _
   rw[JI (ρ:=after ρ l) (ρ':=after ρ' l) (fun k' hk' r hr=>by rw[pG,pG];exact tC (h k' (List.mem_cons_of_mem _ hk') r hr) l)]
  ·rfl
theorem xW:∀ {ts:List Ty} {ks:List K} {ρ ρ':Nat->Res},(∀ k ∈ ks,∀ r ∈ k.res,ρ r=ρ' r)->xU ρ ts ks=xU ρ' ts ks
 | [],[],_,_,_=>rfl
 | [],_::_,_,_,_=>rfl
 | _::_,[],_,_,_=>rfl
 | t::ts,k::ks,ρ,ρ',h=>by
  simp only[xU,oG (h k (List.mem_cons_self ..))]
  split
  ·rename_i p l _
   rw[xW (ρ:=after ρ l) (ρ':=after ρ' l) (fun k' hk' r hr=>by rw[pG,pG];exact tC (h k' (List.mem_cons_of_mem _ hk') r hr) l)]
  ·rfl
theorem ZG {k:Operand->K} {d:Option Nat} {op:Op} (hk:∀ x,∀ r ∈ (k x).res,ρ r=ρ' r) (hd:∀ r,d=some r->ρ r=ρ' r):pJ P T ρ k d op=pJ P T ρ' k d op:=by
 cases op<;>try rfl
 case alloc t =>
  simp only[pJ]
  split
  ·rw[hd _ (by first|assumption|rfl)]
  ·rfl
 case box t x =>
  simp only[pJ,oG (hk x)]
  split
  ·rw[hd _ (by first|assumption|rfl)]
  ·rfl
 case load t x =>
  simp only[pJ]
  split
  ·rename_i r o hx;rw[hk x r (by rw[hx];simp[K.res])]
  ·rfl
 case store t x y =>
  simp only[pJ,oG (hk y)]
  split
  ·rename_i r o _ _ hx _;rw[hk x r (by rw[hx];simp[K.res])]
  ·rfl
 case fieldAddr s x i =>
  simp only[pJ]
  split
  ·rename_i r o hx;rw[hk x r (by rw[hx];simp[K.res])]
  ·rfl
 case indexAddr s x i =>
  simp only[pJ]
  split
  ·rename_i r o _ _ hx _;rw[hk x r (by rw[hx];simp[K.res])]
  ·rfl
theorem a1b {k:Operand->K} {d:Option Nat} {op:Op} (hk:∀ x,∀ r ∈ (k x).res,ρ r=ρ' r) (hd:∀ r,d=some r->ρ r=ρ' r):zH P T ρ k d op=zH P T ρ' k d op:=by
 cases op<;>try rfl
 case buildSlice t len parts =>
  simp only[zH]
  have h1:BM ρ (a3Q P T t) (parts.toList.map fun q=>k q.2)=BM ρ' (a3Q P T t) (parts.toList.map fun q=>k q.2):=JI (fun k' hk' r hr=>by
   obtain⟨q,_,rfl⟩:=List.mem_map.1 hk'
   exact hk q.2 r hr)
  rw[h1]
  split
  ·split
   ·split
    ·split
     ·rw[hd _ (by first|assumption|rfl)]
     ·rfl
    ·rfl
   ·rfl
   ·rfl
  ·rfl
 case call c =>
  obtain⟨cl,xs,ts⟩:=c
  cases cl<;>try rfl
  rename_i bi
  cases bi<;>try rfl
  simp only[zH]
  split
  ·rename_i s x t t' _ _
   split
   ·simp only[a3g (hk x)]
    split
    ·rename_i r v hs;rw[hk s r (by rw[hs];simp[K.res])]
    ·split
     ·rw[hd _ (by first|assumption|rfl)]
     ·rfl
    ·rfl
   ·rfl
  ·rfl
theorem zG {k:K} {r:Nat} (h:r ∈ k.res):r ∈ nZ ρ k:=List.mem_append_left _ h
theorem a8H {k k':K} {r q:Nat} (h:r ∈ k.res) (hr:ρ r=.kT k') (hq:q ∈ k'.res):q ∈ nZ ρ k:=List.mem_append_right _ (List.mem_flatMap.2 ⟨r,h,by rw[hr];exact hq⟩)
theorem zT {k:K} {t:Option Ty} (h:∀ r ∈ k.res,ρ r=ρ' r):sU ρ t k=sU ρ' t k:=by
 cases k<;>try rfl
 ·rename_i r v
  simp only[sU,h r (by simp[K.res])]
 ·rename_i r v i
  simp only[sU,h r (by simp[K.res])]
theorem KR {k:K} {t:Option Ty} (h:∀ r ∈ nZ ρ k,ρ r=ρ' r):CB ρ t k=CB ρ' t k:=by
 have h0:∀ r ∈ k.res,ρ r=ρ' r:=fun r hr=>h r (zG hr)
 cases k
 case ptr r o=>simp only[CB,h0 r (by simp[K.res])]
 case lJ r =>
  simp only[CB,<-h0 r (by simp[K.res])]
  split
  ·rename_i k9 hr
   split
   ·rw[zT (ρ:=ρ) (ρ':=ρ') (fun q hq=>h q (a8H (k:=.lJ r) (by simp[K.res]) hr hq))]
   ·rfl
  ·rfl
 all_goals exact zT (t:=t) h0
theorem b2k (k:K0):(k0K k).res=OV k:=by cases k<;>rfl
theorem zS:∀ {u:Ty} {ks:List K0},(∀ k ∈ ks,∀ r ∈ nZ ρ (k0K k),ρ r=ρ' r)->iM ρ u ks=iM ρ' u ks
 | .unit,[],_=>rfl
 | .pair a b,k::ks,h=>by
  simp only[iM]
  rw[KR (h k (List.mem_cons_self ..)),zS (fun k' hk'=>h k' (List.mem_cons_of_mem _ hk'))]
 | .unit,_::_,_=>rfl
 | .pair _ _,[],_=>rfl
 | .bool,_,_=>rfl
 | .int _,_,_=>rfl
 | .lf _,_,_=>rfl
 | .list _,_,_=>rfl
 | .arr _ _,_,_=>rfl
 | .ref _,_,_=>rfl
 | .clo _ _,_,_=>rfl
theorem a4F {g:FuncId} {ks:List K0} {k:K0} {r:Nat} (hk:k ∈ ks) (h:r ∈ nZ ρ (k0K k)):r ∈ nZ ρ (.fn g ks):=by
 have h1:∀ q ∈ (k0K k).res,q ∈ (K.fn g ks).res:=fun q hq=>List.mem_flatMap.2 ⟨k,hk,by rw[<-b2k];exact hq⟩
 rcases List.mem_append.1 h with h|h
 ·exact zG (h1 r h)
 ·obtain⟨q,hq,h⟩:=List.mem_flatMap.1 h
  exact List.mem_append_right _ (List.mem_flatMap.2 ⟨q,h1 q hq,h⟩)
theorem a1y {k:K} {t:Ty} (h:∀ r ∈ nZ ρ k,ρ r=ρ' r):RU ρ t k=RU ρ' t k:=by
 cases k
 case fn g ks =>
  simp only[RU]
  split
  ·rw[zS (fun k hk r hr=>h r (a4F hk hr))]
  ·rfl
 all_goals exact KR (t:=some t) h
theorem sS:∀ {ts:List Ty} {ks:List K},(∀ k ∈ ks,∀ r ∈ nZ ρ k,ρ r=ρ' r)->lZ ρ ts ks=lZ ρ' ts ks
 | [],[],_=>rfl
 | [],_::_,_=>rfl
 | _::_,[],_=>rfl
 | t::ts,k::ks,h=>by
  simp only[lZ]
  rw[a1y (h k (List.mem_cons_self ..)),sS (fun k' hk'=>h k' (List.mem_cons_of_mem _ hk'))]
theorem xZ {ks:List K} (h:∀ k ∈ ks,∀ r ∈ nZ ρ k,ρ r=ρ' r):∀ cs:List Ctr,BO ρ ks cs=BO ρ' ks cs
 | []=>rfl
 | c::cs=>by
  have e:ZC ρ c ks=ZC ρ' c ks:=by
   unfold ZC
   rw[sS h,xW (fun k hk r hr=>h k hk r (zG hr))]
  simp only[BO]
  rw[e,xZ h cs]
theorem WM {k:Operand->K} {op:Op} (hk:∀ x,∀ r ∈ nZ ρ (k x),ρ r=ρ' r):uK P C ρ k op=uK P C ρ' k op:=by
 cases op<;>try rfl
 case makeFunc fn first caps=>cases fn<;>rfl
 case call c =>
  obtain⟨cl,xs,ts⟩:=c
  cases cl<;>try rfl
  rename_i f
  simp only[uK]
  have hcap:∀ (t:Ty) (x:t.den) (k':K),k' ∈ ZK t x->k'.res=[]:=by
   intro t
   induction t with
   | pair a b _ ih =>
    intro x k' h
    rcases List.mem_cons.1 h with rfl|h
    ·rfl
    ·exact ih x.2 k' h
   | _=>intro x k' h;cases h
  split
  ·rename_i g t cx hf
   rw[xZ (fun k' hk' r hr=>by
    rcases List.mem_append.1 hk' with h|h
    ·obtain⟨q,_,rfl⟩:=List.mem_map.1 h;exact hk q r hr
    ·exfalso
     unfold nZ at hr
     rw[hcap t cx k' h] at hr
     simp at hr)]
  ·rename_i g l hf
   rw[xZ (fun k' hk' r hr=>by
    rcases List.mem_append.1 hk' with h|h
    ·obtain⟨q,_,rfl⟩:=List.mem_map.1 h;exact hk q r hr
    ·obtain⟨q,hq,rfl⟩:=List.mem_map.1 h
     exact hk f r (by rw[hf];exact a4F hq hr))]
  ·rfl
theorem a2O {k:Operand->K} {op:Op} (hk:∀ x,∀ r ∈ (k x).res,ρ r=ρ' r):JD P ρ k op=JD P ρ' k op:=by
 cases op<;>try rfl
 case indexAddr s x i =>
  simp only[JD]
  split
  ·rename_i r v _ _ hx _;rw[hk x r (by rw[hx];simp[K.res])]
  ·rename_i r v _ _ _ hx _;rw[hk x r (by rw[hx];simp[K.res])]
  ·rfl
 case load t x =>
  simp only[JD]
  split
  ·rename_i r v _ hx;rw[hk x r (by rw[hx];simp[K.res])]
  ·rename_i r v _ _ hx;rw[hk x r (by rw[hx];simp[K.res])]
  ·rename_i r hx;rw[hk x r (by rw[hx];simp[K.res])]
  ·rfl
 case call c =>
  obtain⟨cl,xs,ts⟩:=c
  cases cl<;>try rfl
  rename_i bi
  cases bi<;>try rfl
  simp only[JD]
  split
  ·rename_i x t _ _
   split
   ·split
    ·rename_i r v hx;rw[hk x r (by rw[hx];simp[K.res])]
    ·rename_i r v _ hx;rw[hk x r (by rw[hx];simp[K.res])]
    ·rfl
   ·rfl
  ·rfl
theorem a3r {k:Operand->K} {d:Option Nat} {op:Op} (hk:∀ x,∀ r ∈ (k x).res,ρ r=ρ' r) (hd:∀ r,d=some r->ρ r=ρ' r):YT P T ρ k d op=YT P T ρ' k d op:=by
 cases op<;>try rfl
 case store t x y =>
  have hown:ownB ρ (k y)=ownB ρ' (k y):=by
   cases hy:k y<;>try rfl
   rename_i r v
   simp only[ownB]
   rw[hk y r (by rw[hy];simp[K.res])]
  simp only[YT,oG (hk y),hown]
  split
  ·rename_i r v i hx
   rw[hk x r (by rw[hx];simp[K.res])]
   split
   ·rfl
   ·split
    ·rfl
    ·rename_i r2 v2 hy
     rw[hk y r2 (by rw[hy];simp[K.res])]
    ·rfl
   ·rfl
  ·rename_i r v id i hx;rw[hk x r (by rw[hx];simp[K.res])]
  ·rename_i r hx;rw[hk x r (by rw[hx];simp[K.res])]
  ·rfl
 case makeSlice t n m =>
  simp only[YT]
  split
  ·rw[hd _ (by first|assumption|rfl)]
  ·rfl
theorem a2z {k:Operand->K} {d:Option Nat} {op:Op} (hk:∀ x,∀ r ∈ (k x).res,ρ r=ρ' r) (hd:∀ r,d=some r->ρ r=ρ' r):PS P T ρ k d op=PS P T ρ' k d op:=by
 cases op<;>try rfl
 case buildSlice t len parts =>
  simp only[PS]
  split<;>try rfl
  rename_i r
  split<;>try rfl
  split<;>try rfl
  split<;>try rfl
  split
  ·rw[hd _ (by first|assumption|rfl)]
  ·rename_i y _
   split
   ·rename_i r2 v2 hy;rw[hk y r2 (by rw[hy];simp[K.res])]
   ·rfl
  ·rfl
 case call c =>
  obtain⟨cl,xs,ts⟩:=c
  cases cl<;>try rfl
  rename_i bi
  cases bi<;>try rfl
  simp only[PS]
  split
  ·rename_i s x t t' _ _
   split
   ·split
    ·rename_i r2 v2 hx
     rw[hk x r2 (by rw[hx];simp[K.res])]
     split
     ·split
      ·rename_i r v hs;rw[hk s r (by rw[hs];simp[K.res])]
      ·rw[hd _ (by first|assumption|rfl)]
      ·rfl
     ·rfl
    ·rfl
   ·rfl
  ·rfl
theorem KQ {r:Nat} {row:Option Nat}:∀ {ts:List Ty} {ks:List K},(∀ k ∈ ks,∀ q ∈ k.res,ρ q=ρ' q)->FZ ρ r row ts ks=FZ ρ' r row ts ks
 | [],[],_=>rfl
 | [],_::_,_=>rfl
 | _::_,[],_=>rfl
 | t::ts,k::ks,h=>by
  simp only[FZ]
  rw[zT (h k (List.mem_cons_self ..)),KQ (fun k' hk'=>h k' (List.mem_cons_of_mem _ hk'))]
theorem a0y {k:LK} {k0:K} (h:∀ q ∈ k0.res,ρ q=ρ' q):a4m ρ k k0=a4m ρ' k k0:=by
 cases k with
 | row e t =>
  cases k0<;>try rfl
  case own r v=>exact congrArg (LX e t r v) (h r (by simp[K.res]))
  case mrow r v i=>exact congrArg (LW e t r v i) (h r (by simp[K.res]))
 | mat e e2 t =>
  cases k0<;>try rfl
  case own r v=>exact congrArg (LV e e2 t r v) (h r (by simp[K.res]))
theorem DW {d:Option Nat} {ks:List K} (h:∀ k ∈ ks,∀ r ∈ nZ ρ k,ρ r=ρ' r) (hd:∀ r,d=some r->ρ r=ρ' r):∀ cs:List YX,yA ρ d ks cs=yA ρ' d ks cs
 | []=>rfl
 | c::cs=>by
  have e:CG ρ d ks c=CG ρ' d ks c:=by
   cases c with
   | mk k args pre made =>
    simp only[CG]
    split
    ·rw[hd _ (by first|assumption|rfl),sS h]
    ·rfl
   | chg k args res pre out fn =>
    cases ks with
    | nil=>rfl
    | cons k0 ks =>
     have h0:∀ k ∈ k0::ks,∀ r ∈ k.res,ρ r=ρ' r:=fun k hk r hr=>h k hk r (zG hr)
     simp only[CG]
     rw[a0y (h0 k0 (List.mem_cons_self ..)),xW (fun k hk=>h0 k (List.mem_cons_of_mem _ hk))]
     simp only[KQ (ρ:=ρ) (ρ':=ρ') (ks:=ks) (fun k hk=>h0 k (List.mem_cons_of_mem _ hk))]
  simp only[yA]
  rw[e,DW h hd cs]
theorem WL {k:Operand->K} {d:Option Nat} {op:Op} (hk:∀ x,∀ r ∈ nZ ρ (k x),ρ r=ρ' r) (hd:∀ r,d=some r->ρ r=ρ' r):yB P T ρ k d op=yB P T ρ' k d op:=by
 cases op<;>try rfl
 case call c =>
  obtain⟨cl,xs,ts⟩:=c
  cases cl<;>try rfl
  rename_i f
  simp only[yB]
  have hcap:∀ (t:Ty) (x:t.den) (k':K),k' ∈ ZK t x->k'.res=[]:=by
   intro t
   induction t with
   | pair a b _ ih =>
    intro x k' h
    rcases List.mem_cons.1 h with rfl|h
    ·rfl
    ·exact ih x.2 k' h
   | _=>intro x k' h;cases h
  split
  ·split
   ·refine DW (fun k9 hk9 r hr=>?_) hd _
    rcases List.mem_append.1 hk9 with hk9|hk9
    ·obtain⟨q,_,rfl⟩:=List.mem_map.1 hk9;exact hk q r hr
    ·exfalso
     unfold nZ at hr
     rw[hcap _ _ _ hk9] at hr
     simp at hr
   ·rfl
  ·rfl
theorem FV {k:Operand->K} {d:Option Nat} {op:Op} (hk:∀ x,∀ r ∈ nZ ρ (k x),ρ r=ρ' r) (hd:∀ r,d=some r->ρ r=ρ' r):DK P C T ρ k d op=DK P C T ρ' k d op:=by
 have h0:∀ x,∀ r ∈ (k x).res,ρ r=ρ' r:=fun x r hr=>hk x r (zG hr)
 unfold DK
 rw[ZG h0 hd,a1b h0 hd,a2O h0,a3r h0 hd,a2z h0 hd,WL hk hd,WM hk]
end
def TT (ops:Array Oper) (o:Oper):Option Nat:=match o.guard with
 | some (j,_)=>(ops[j]?).bind (·.dst)
 | none=>none
def readsOf (ops:Array Oper) (o:Oper):List Nat:=tmpsOf o.op++(TT ops o).toList
theorem a9l (ρ:Nat->Res) (k:K):nZ ρ (unW k)=nZ ρ k:=by cases k<;>rfl
theorem QN (ρ:Nat->Res) (v:Value):nZ ρ (wE v)=[]:=by unfold wE;split<;>rfl
theorem a0H {B:Book} {G G':Nat->K} {ρ ρ':Nat->Res} {ops:Array Oper} {o:Oper} (hG:∀ s ∈ readsOf ops o,G s=G' s) (hρ:∀ s ∈ tmpsOf o.op,∀ r ∈ nZ ρ (G s),ρ r=ρ' r) (hd:∀ r,o.dst=some r->ρ r=ρ' r):xJ B G ρ ops o=xJ B G' ρ' ops o:=by
 have h1:mP (tmpsOf o.op) G=mP (tmpsOf o.op) G':=by
  funext s
  unfold mP
  split
  ·rename_i h;exact hG s (List.mem_append_left _ (by simpa using h))
  ·rfl
 have h2:mP (tmpsOf o.op) (unG G)=mP (tmpsOf o.op) (unG G'):=by
  funext s
  unfold mP
  split
  ·rename_i h;unfold unG;rw[hG s (List.mem_append_left _ (by simpa using h))]
  ·rfl
 have h3:(tmpsOf o.op).flatMap (fun s=>JQ (G s))=(tmpsOf o.op).flatMap (fun s=>JQ (G' s)):=by
  have:∀ l:List Nat,(∀ s ∈ l,G s=G' s)->l.flatMap (fun s=>JQ (G s))=l.flatMap (fun s=>JQ (G' s)):=by
   intro l
   induction l with
   | nil=>intro _;rfl
   | cons x l ih=>intro h;rw[List.flatMap_cons,List.flatMap_cons,h x (List.mem_cons_self ..),ih (fun s hs=>h s (List.mem_cons_of_mem _ hs))]
  exact this _ (fun s hs=>hG s (List.mem_append_left _ hs))
 have k1:∀ x,∀ r ∈ nZ ρ (opK (mP (tmpsOf o.op) G') x),ρ r=ρ' r:=by
  rw[<-h1]
  intro x r hr
  cases x with
  | tmp s =>
   have hr:r ∈ nZ ρ (mP (tmpsOf o.op) G s):=hr
   unfold mP at hr
   split at hr
   ·rename_i h;exact hρ s (by simpa using h) r hr
   ·cases hr
  | const v=>exfalso;have hr:r ∈ nZ ρ (wE v):=hr;rw[QN] at hr;cases hr
  | func f=>cases hr
  | global g=>cases hr
 have k2:∀ x,∀ r ∈ nZ ρ (opK (mP (tmpsOf o.op) (unG G')) x),ρ r=ρ' r:=by
  rw[<-h2]
  intro x r hr
  cases x with
  | tmp s =>
   have hr:r ∈ nZ ρ (mP (tmpsOf o.op) (unG G) s):=hr
   unfold mP at hr
   split at hr
   ·rename_i h;exact hρ s (by simpa using h) r (by rw[<-a9l];exact hr)
   ·cases hr
  | const v=>exfalso;have hr:r ∈ nZ ρ (wE v):=hr;rw[QN] at hr;cases hr
  | func f=>cases hr
  | global g=>cases hr
 unfold xJ
 rw[h1,h2,h3,FV k1 hd,FV k2 hd]
 cases hg:o.guard with
 | none=>rfl
 | some jb =>
  obtain⟨j,b⟩:=jb
  simp only
  cases hs:(ops[j]?).bind (·.dst) with
  | none=>rfl
  | some s =>
   have:G s=G' s:=hG s (List.mem_append_right _ (by simp[TT,hg,hs]))
   simp only[this]
def fM {α:Type} (done:Nat->Bool):Nat->List (List (Nat × α))->(Nat->α)->Nat->α
 | _,[],f=>f
 | j,u::us,f=>fM done (j+1) us (if done j then iT f u else f)
theorem yK {α:Type} {d d':Nat->Bool} {r:Nat}:∀ (us:List (List (Nat × α))) (b:Nat) (f g:Nat->α),f r=g r->(∀ j u,us[j]?=some u->r ∈ u.map (·.1)->d (b+j)=d' (b+j))->fM d b us f r=fM d' b us g r
 | [],b,f,g,h,_=>h
 | u::us,b,f,g,h,hd=>by
  simp only[fM]
  refine yK us (b+1) _ _ ?_ (fun j u' hu hr=>by have:=hd (j+1) u' hu hr;rwa [show b+(j+1)=b+1+j by omega] at this)
  by_cases hr:r ∈ u.map (·.1)
  ·have:=hd 0 u rfl hr
   rw[Nat.add_zero] at this
   rw[<-this]
   split
   ·exact tC h u
   ·exact h
  ·split<;>split<;>first
    | (rw[jX u _ hr,jX u _ hr];exact h)
    | (rw[jX u _ hr];exact h)
    |exact h
theorem zZ {α:Type} {d:Nat->Bool} {r:Nat}:∀ (us:List (List (Nat × α))) (b:Nat) (f:Nat->α),(∀ j u,us[j]?=some u->r ∈ u.map (·.1)->d (b+j)=false)->fM d b us f r=f r
 | [],b,f,_=>rfl
 | u::us,b,f,hd=>by
  simp only[fM]
  rw[zZ us (b+1) _ (fun j u' hu hr=>by have:=hd (j+1) u' hu hr;rwa [show b+(j+1)=b+1+j by omega] at this)]
  by_cases hr:r ∈ u.map (·.1)
  ·have:=hd 0 u rfl hr
   rw[Nat.add_zero] at this
   rw[this];rfl
  ·split
   ·exact jX u _ hr
   ·rfl
theorem TG {α:Type} {r:Nat}:∀ (l:List (Nat × α)) (f g:Nat->α),r ∈ l.map (·.1)->iT f l r=iT g l r
 | [],_,_,h=>by cases h
 | (q,x)::l,f,g,h=>by
  simp only[iT]
  by_cases hr:r ∈ l.map (·.1)
  ·exact TG l _ _ hr
  ·rw[jX l _ hr,jX l _ hr]
   have:r=q:=by
    rcases List.mem_cons.1 h with h|h
    ·exact h
    ·exact absurd h hr
   subst this
   rw[aC,aC]
theorem CQ {α:Type} {d d':Nat->Bool} {u:List (Nat × α)}:∀ (us:List (List (Nat × α))) (b i:Nat) (f:Nat->α),us[i]?=some u->d (b+i)=false->d' (b+i)=true->(∀ j,j≠b+i->d' j=d j)->(∀ r ∈ u.map (·.1),∀ j v,us[j]?=some v->i<j->r ∈ v.map (·.1)->d (b+j)=false)->fM d' b us f=iT (fM d b us f) u
 | v::us,b,0,f,hi,hd,hd',he,hn=>by
  simp only[List.getElem?_cons_zero,Option.some.injEq] at hi
  subst hi
  simp only[Nat.add_zero] at hd hd' he
  simp only[fM,hd,hd',if_true,Bool.false_eq_true,if_false]
  funext r
  have h1:fM d' (b+1) us (iT f v) r=fM d (b+1) us (iT f v) r:=yK us (b+1) _ _ rfl (fun j u' hu hr=>he _ (by omega))
  rw[h1]
  by_cases hr:r ∈ v.map (·.1)
  ·rw[zZ us (b+1) _ (fun j u' hu hr'=>by have:=hn r hr (j+1) u' hu (by omega) hr';rwa [show b+(j+1)=b+1+j by omega] at this)]
   exact TG v _ _ hr
  ·rw[jX v _ hr]
   exact yK us (b+1) _ _ (jX v _ hr) (fun j u' hu hr=>rfl)
 | v::us,b,i+1,f,hi,hd,hd',he,hn=>by
  simp only[fM]
  have:(if d' b=true then iT f v else f)=(if d b=true then iT f v else f):=by rw[he b (by omega)]
  rw[this]
  exact CQ us (b+1) i _ hi (by rwa [show b+1+i=b+(i+1) by omega]) (by rwa [show b+1+i=b+(i+1) by omega]) (fun j hj=>he j (by omega)) (fun r hr j v' hv hlt hr'=>by
   have:=hn r hr (j+1) v' hv (by omega) hr'
   rwa [show b+(j+1)=b+1+j by omega] at this)
 | [],b,i,f,hi,hd,hd',he,hn=>by simp at hi
theorem IE {α:Type} {d:Nat->Bool}:∀ (us:List (List (Nat × α))) (b:Nat) (f:Nat->α),(∀ j,j<us.length->d (b+j)=true)->fM d b us f=us.foldl iT f
 | [],b,f,h=>rfl
 | u::us,b,f,h=>by
  have h0:=h 0 (by simp)
  rw[Nat.add_zero] at h0
  simp only[fM,h0,if_true,List.foldl_cons]
  exact IE us (b+1) _ (fun j hj=>by have:=h (j+1) (by simpa using hj);rwa [show b+(j+1)=b+1+j by omega] at this)
structure Sim where
 k:K
 l:List (Nat × Res)
 touch:List Nat
def wQ (B:Book) (ops:Array Oper):List Oper->Gam->Rho->Option (List Prop × List Sim × Gam × Rho)
 | [],G,R=>some ([],[],G,R)
 | o::rest,G,R=>match xJ B (dH G) (aW R) ops o with
  | some (vc,k,l)=>match wQ B ops rest (b2B o.dst k G) (aft R l) with
   | some (vc',ss,G',R')=>some (vc++vc',⟨k,l,(tmpsOf o.op).flatMap (fun s=>nZ (aW R) (dH G s))++o.dst.toList++l.map (·.1)⟩::ss,G',R')
   | none=>none
  | none=>none
def isDst (o:Oper) (l:List Nat):Bool:=match o.dst with
 | some s=>l.contains s
 | none=>false
def YI (o o':Oper):Bool:=match o.dst,o'.dst with
 | some s,some s'=>s==s'
 | _,_=>false
def clash (ops:Array Oper) (o o':Oper) (s s':Sim):Bool:=isDst o (readsOf ops o') || isDst o' (readsOf ops o) || s.l.any (fun q=>s'.touch.contains q.1) || s'.l.any (fun q=>s.touch.contains q.1)
def a2B (ops:Array Oper) (b:Array Nat) (ss:List Sim):Bool:=(List.range ops.size).all fun j=>match ops[j]?,ss[j]? with
 | some o',some s'=>(List.range j).all fun i=>match ops[i]?,ss[i]? with
  | some o,some s=>!YI o o'&&(!clash ops o o' s s' || (b.getD j 0).testBit i)
  | _,_=>false
 | _,_=>false
def a8q (ops:Array Oper) (b:Array Nat):Bool:=(List.range ops.size).all fun j=>match ops[j]? with
 | some o=>(List.range j).all fun i=>!(b.getD j 0).testBit i || o.after.any fun e=>Region.binds .any e&&(e.on==i || (decide (e.on<j)&&decide (i<e.on)&&(b.getD e.on 0).testBit i))
 | none=>false
def LG (ops:Array Oper) (L:Array Bool):Prop:=∀ j o,ops[j]?=some o->L.getD j false=true->∀ e ∈ o.after,Region.binds .any e=true->L.getD e.on false=true
theorem PU {ops:Array Oper} {b:Array Nat} (h:a8q ops b=true) {L:Array Bool} (hc:LG ops L):∀ (j:Nat) (o:Oper) (i:Nat),ops[j]?=some o->i<j->(b.getD j 0).testBit i=true->(∀ e ∈ o.after,Region.binds .any e=true->L.getD e.on false=true)->L.getD i false=true:=by
 intro j
 induction j using Nat.strongRecOn with
 | _ j ih =>
  intro o i ho hij hb hd
  have hj:j<ops.size:=(Array.getElem?_eq_some_iff.1 ho).1
  have h1:=(List.all_eq_true.1 h) j (List.mem_range.2 hj)
  rw[ho] at h1
  have h2:=(List.all_eq_true.1 h1) i (List.mem_range.2 hij)
  rw[hb] at h2
  simp only[Bool.not_true,Bool.false_or,Array.any_eq_true'] at h2
  obtain⟨e,he,h3⟩:=h2
  simp only[Bool.and_eq_true,Bool.or_eq_true,beq_iff_eq,decide_eq_true_eq] at h3
  obtain⟨h4,h5⟩:=h3
  have hdone:=hd e he h4
  rcases h5 with h5|⟨⟨h5,hie⟩,h6⟩
  ·rw[<-h5];exact hdone
  ·have ho':ops[e.on]?=some ops[e.on]:=Array.getElem?_eq_getElem (by omega)
   exact ih e.on h5 _ i ho' hie h6 (hc e.on _ ho' hdone)
theorem JY {α:Type} {d:Nat->Bool}:∀ (us:List (List (Nat × α))) (b:Nat) (f:Nat->α),fM d (b+1) us f=fM (fun j=>d (j+1)) b us f
 | [],b,f=>rfl
 | u::us,b,f=>by simp only[fM];exact JY us (b+1) _
def BJ (l:List Oper) (ss:List Sim):List (List (Nat × K)):=List.zipWith (fun o s=>YO o.dst s.k) l ss
def yX (ss:List Sim):List (List (Nat × Res)):=ss.map (·.l)
theorem VG {B:Book} {ops:Array Oper}:∀ {l:List Oper} {G:Gam} {R:Rho} {vc:List Prop} {ss:List Sim} {G':Gam} {R':Rho},wQ B ops l G R=some (vc,ss,G',R') ->
  ss.length=l.length/\dH G'=(BJ l ss).foldl iT (dH G)/\aW R'=(yX ss).foldl iT (aW R) /\
  ∀ i o,l[i]?=some o->∃ s vi,ss[i]?=some s/\(dZ vc->dZ vi)/\xJ B (fM (fun j=>decide (j<i)) 0 (BJ l ss) (dH G)) (fM (fun j=>decide (j<i)) 0 (yX ss) (aW R)) ops o=some (vi,s.k,s.l) /\
   s.touch=(tmpsOf o.op).flatMap (fun q=>nZ (fM (fun j=>decide (j<i)) 0 (yX ss) (aW R)) (fM (fun j=>decide (j<i)) 0 (BJ l ss) (dH G) q))++o.dst.toList++s.l.map (·.1)
 | [],G,R,vc,ss,G',R',h=>by
  simp only[wQ,Option.some.injEq,Prod.mk.injEq] at h
  obtain⟨_,rfl,rfl,rfl⟩:=h
  exact⟨rfl,rfl,rfl,fun i o hi=>by simp at hi⟩
 | o::rest,G,R,vc,ss,G',R',h=>by
  simp only[wQ] at h
  split at h<;>first|(cases h;done)|skip
  rename_i vc1 k l1 h1
  split at h<;>first|(cases h;done)|skip
  rename_i vc2 ss2 G2 R2 h2
  simp only[Option.some.injEq,Prod.mk.injEq] at h
  obtain⟨rfl,rfl,rfl,rfl⟩:=h
  obtain⟨k1,k2,k3,k4⟩:=VG h2
  rw[vF] at k2 k4
  rw[OE,pG] at k3 k4
  refine⟨by simp[k1],k2,k3,fun i o' hi=>?_⟩
  cases i with
  | zero =>
   simp only[List.getElem?_cons_zero,Option.some.injEq] at hi
   subst hi
   have e1:∀ {α:Type} (us:List (List (Nat × α))) (f:Nat->α),fM (fun j=>decide (j<0)) 0 us f=f:=fun us f=>by
    funext r
    exact zZ us 0 f (fun j u _ _=>by simp)
   exact⟨_,vc1,rfl,fun hv=>(bI.1 hv).1,by rw[e1,e1];exact h1,by rw[e1,e1]⟩
  | succ i =>
   obtain⟨s,vi,j1,j2,j3,j4⟩:=k4 i o' (by simpa using hi)
   have e1:∀ {α:Type} (u:List (Nat × α)) (us:List (List (Nat × α))) (f:Nat->α),fM (fun j=>decide (j<i+1)) 0 (u::us) f=fM (fun j=>decide (j<i)) 0 us (iT f u):=fun u us f=>by
    simp only[fM]
    rw[if_pos (by simp),JY]
    congr 1
    funext j
    simp
   refine⟨s,vi,by simpa using j1,fun hv=>j2 (bI.1 hv).2,?_,?_⟩
   ·show xJ B (fM _ 0 (YO o.dst k::BJ rest ss2) (dH G)) (fM _ 0 (l1::yX ss2) (aW R)) ops o'=_
    rw[e1,e1];exact j3
   ·show s.touch=(tmpsOf o'.op).flatMap (fun q=>nZ (fM _ 0 (l1::yX ss2) (aW R)) (fM _ 0 (YO o.dst k::BJ rest ss2) (dH G) q))++_++_
    rw[e1,e1];exact j4
theorem a4i {l:List Oper} {ss:List Sim} {j:Nat} {u:List (Nat × K)} (h:(BJ l ss)[j]?=some u):∃ o s,l[j]?=some o/\ss[j]?=some s/\u=YO o.dst s.k:=by
 unfold BJ at h
 rw[List.getElem?_zipWith] at h
 cases h1:l[j]? with
 | none=>rw[h1] at h;cases h
 | some o =>
  cases h2:ss[j]? with
  | none=>rw[h1,h2] at h;cases h
  | some s=>rw[h1,h2] at h;simp at h;exact⟨o,s,rfl,rfl,h.symm⟩
theorem a4o {ss:List Sim} {j:Nat} {u:List (Nat × Res)} (h:(yX ss)[j]?=some u):∃ s,ss[j]?=some s/\u=s.l:=by
 unfold yX at h
 rw[List.getElem?_map] at h
 cases h2:ss[j]? with
 | none=>rw[h2] at h;cases h
 | some s=>rw[h2] at h;simp at h;exact⟨s,rfl,h.symm⟩
theorem RI {d:Option Nat} {k:K} {r:Nat} (h:r ∈ (YO d k).map (·.1)):d=some r:=by
 cases d with
 | none=>cases h
 | some s=>simp[YO] at h;rw[h]
theorem a0t {o:Oper} {l:List Nat} {s:Nat} (h:o.dst=some s) (hs:s ∈ l):isDst o l=true:=by simp[isDst,h,hs]
theorem WC {l:List (Nat × Res)} {t:List Nat} {r:Nat} (h:r ∈ l.map (·.1)) (ht:r ∈ t):l.any (fun q=>t.contains q.1)=true:=by
 obtain⟨q,hq,rfl⟩:=List.mem_map.1 h
 exact List.any_eq_true.2 ⟨q,hq,by simpa using ht⟩
theorem zB {ops:Array Oper} {b:Array Nat} {ss:List Sim} (h:a2B ops b ss=true) {i j:Nat} {o o':Oper} {s s':Sim} (hij:i<j) (hi:ops[i]?=some o) (hj:ops[j]?=some o') (hs:ss[i]?=some s) (hs':ss[j]?=some s'):YI o o'=false/\(clash ops o o' s s'=true->(b.getD j 0).testBit i=true):=by
 have hjl:j<ops.size:=(Array.getElem?_eq_some_iff.1 hj).1
 have h1:=(List.all_eq_true.1 h) j (List.mem_range.2 hjl)
 rw[hj,hs'] at h1
 have h2:=(List.all_eq_true.1 h1) i (List.mem_range.2 hij)
 rw[hi,hs] at h2
 simp only[Bool.and_eq_true,Bool.not_eq_true',Bool.or_eq_true] at h2
 refine⟨h2.1,fun hc=>?_⟩
 rcases h2.2 with h3|h3
 ·rw[hc] at h3;cases h3
 ·exact h3
theorem a3I {ops:Array Oper} {o o':Oper} {s s':Sim} (h:s.l.any (fun q=>s'.touch.contains q.1)=true):clash ops o o' s s'=true:=by unfold clash;rw[h];simp
theorem a9z {ops:Array Oper} {o o':Oper} {s s':Sim} (h:s'.l.any (fun q=>s.touch.contains q.1)=true):clash ops o o' s s'=true:=by unfold clash;rw[h];simp
section
variable {B:Book} {W:World}
theorem a4T (hB:B.Ok) (hm:B.P.follows .mixedOrders=true) {id:Nat} {ops:Array Oper} {b:Array Nat} {Q:Exit->Act->World->Prop} {G:Gam} {R:Rho} {E:Env} {w:World} {a:Act} {vc:List Prop} {ss:List Sim} {G':Gam} {R':Rho}
  (h:wQ B ops ops.toList G R=some (vc,ss,G',R')) (hd:lG .any ops=true) (ho:a2B ops b ss=true) (hn:a8q ops b=true) (hv:dZ vc) (hM:Mem E (aW R) W w) (hf:Fits E (aW R) w B a (dH G))
  (hq:∀ E' a' w',E'.fix=E.fix->Mem E' (aW R') W w'->Fits E' (aW R') w' B a' (dH G')->Q .normal a' w'):(Code.region id ops true).wp B.P Q a w:=by
 obtain⟨hlen,hG',hR',hat⟩:=VG h
 have hlen':ss.length=ops.size:=by simpa using hlen
 refine wp_region_any hm ?_
 refine a6w (fun L a w=>L.size=ops.size/\LG ops L/\∃ E',E'.fix=E.fix/\Mem E' (fM (fun j=>L.getD j false) 0 (yX ss) (aW R)) W w/\Fits E' (fM (fun j=>L.getD j false) 0 (yX ss) (aW R)) w B a (fM (fun j=>L.getD j false) 0 (BJ ops.toList ss) (dH G))) hd ?_ ?_ _ _ _ _ (by rw[DN];exact Nat.le_refl _) ?_
 ·rintro L a w ⟨hL,_,E9,m0,m1,m2⟩ hall
  have hdone:∀ j,j<ops.size->L.getD j false=true:=fun j hj=>nM hL hj (hall j hj)
  have e1:fM (fun j=>L.getD j false) 0 (yX ss) (aW R)=aW R':=by
   rw[hR']
   exact IE _ 0 _ (fun j hj=>by rw[Nat.zero_add];exact hdone j (by simpa [yX,hlen'] using hj))
  have e2:fM (fun j=>L.getD j false) 0 (BJ ops.toList ss) (dH G)=dH G':=by
   rw[hG']
   exact IE _ 0 _ (fun j hj=>by rw[Nat.zero_add];exact hdone j (by simp[BJ,hlen'] at hj;exact hj))
  rw[e1] at m1 m2
  rw[e2] at m2
  exact hq E9 a w m0 m1 m2
 ·rintro L a w i o ⟨hL,hC,E9,m0,m1,m2⟩ hio hl gY
  obtain⟨s,vi,hs,hvi,hone,a7Q⟩:=hat i o (by simpa using hio)
  have hi:i<ops.size:=(Array.getElem?_eq_some_iff.1 hio).1
  have hif:L.getD i false=false:=uO hl
  have a3Y:∀ j oj sj,j<i->ops[j]?=some oj->ss[j]?=some sj->clash ops oj o sj s=true->L.getD j false=true:=fun j oj sj hji hoj hsj hcl =>
   PU hn hC i o j hio hji ((zB ho hji hoj hio hsj hs).2 hcl) gY
  have XD:∀ j oj sj,i<j->ops[j]?=some oj->ss[j]?=some sj->clash ops o oj s sj=true->L.getD j false=false:=fun j oj sj hij hoj hsj hcl=>by
   cases hjd:L.getD j false with
   | false=>rfl
   | true =>
    have:=PU hn hC j oj i hoj hij ((zB ho hij hio hoj hs hsj).2 hcl) (hC j oj hoj hjd)
    rw[this] at hif;cases hif
  have b2c:∀ q ∈ readsOf ops o,fM (fun j=>decide (j<i)) 0 (BJ ops.toList ss) (dH G) q=fM (fun j=>L.getD j false) 0 (BJ ops.toList ss) (dH G) q:=fun q hq=>yK _ 0 _ _ rfl (fun j u hu hr=>by
   obtain⟨oj,sj,h1,h2,rfl⟩:=a4i hu
   have hdj:=RI hr
   have h1':ops[j]?=some oj:=by simpa using h1
   rw[Nat.zero_add]
   by_cases hji:j<i
   ·simp only[hji,decide_true]
    exact(a3Y j oj sj hji h1' h2 (by simp[clash,a0t hdj hq])).symm
   ·simp only[hji,decide_false]
    by_cases e:j=i
    ·rw[e];exact hif.symm
    ·exact(XD j oj sj (by omega) h1' h2 (by simp[clash,a0t hdj hq])).symm)
  have a7P:∀ r ∈ s.touch,fM (fun j=>decide (j<i)) 0 (yX ss) (aW R) r=fM (fun j=>L.getD j false) 0 (yX ss) (aW R) r:=fun r hr=>yK _ 0 _ _ rfl (fun j u hu hr'=>by
   obtain⟨sj,h2,rfl⟩:=a4o hu
   have hjl:j<ops.size:=by rw[<-hlen'];exact(List.getElem?_eq_some_iff.1 h2).1
   have h1':ops[j]?=some ops[j]:=Array.getElem?_eq_getElem hjl
   rw[Nat.zero_add]
   by_cases hji:j<i
   ·simp only[hji,decide_true]
    exact(a3Y j _ sj hji h1' h2 (a3I (WC hr' hr))).symm
   ·simp only[hji,decide_false]
    by_cases e:j=i
    ·rw[e];exact hif.symm
    ·exact(XD j _ sj (by omega) h1' h2 (a9z (WC hr' hr))).symm)
  have b1g:xJ B (fM (fun j=>L.getD j false) 0 (BJ ops.toList ss) (dH G)) (fM (fun j=>L.getD j false) 0 (yX ss) (aW R)) ops o=some (vi,s.k,s.l):=by
   rw[<-hone]
   refine(a0H b2c (fun q hq r hr=>a7P r ?_) (fun r hr=>a7P r ?_)).symm
   ·rw[a7Q];exact List.mem_append_left _ (List.mem_append_left _ (List.mem_flatMap.2 ⟨q,hq,hr⟩))
   ·rw[a7Q];exact List.mem_append_left _ (List.mem_append_right _ (by rw[hr];simp))
  have a7L:fM (fun j=>(L.setIfInBounds i true).getD j false) 0 (yX ss) (aW R)=iT (fM (fun j=>L.getD j false) 0 (yX ss) (aW R)) s.l:=by
   refine CQ _ 0 i _ (by unfold yX;rw[List.getElem?_map,hs];rfl) (by rw[Nat.zero_add];exact hif) (by rw[Nat.zero_add];exact jI hl) (fun j hj=>gX (by omega)) (fun r hr j v hv hij hr'=>?_)
   obtain⟨sj,h2,rfl⟩:=a4o hv
   have hjl:j<ops.size:=by rw[<-hlen'];exact(List.getElem?_eq_some_iff.1 h2).1
   have hjt:r ∈ sj.touch:=by
    obtain⟨sj',_,h3,_,_,h4⟩:=hat j ops[j] (by simp[hjl])
    rw[h2] at h3
    cases h3
    rw[h4];exact List.mem_append_right _ hr'
   rw[Nat.zero_add]
   exact XD j _ sj hij (Array.getElem?_eq_getElem hjl) h2 (a3I (WC hr hjt))
  have b1Z:fM (fun j=>(L.setIfInBounds i true).getD j false) 0 (BJ ops.toList ss) (dH G)=iT (fM (fun j=>L.getD j false) 0 (BJ ops.toList ss) (dH G)) (YO o.dst s.k):=by
   refine CQ _ 0 i _ (by unfold BJ;rw[List.getElem?_zipWith,hs];simp[hio]) (by rw[Nat.zero_add];exact hif) (by rw[Nat.zero_add];exact jI hl) (fun j hj=>gX (by omega)) (fun r hr j v hv hij hr'=>?_)
   obtain⟨oj,sj,h1,h2,rfl⟩:=a4i hv
   have h1':ops[j]?=some oj:=by simpa using h1
   have hd1:=RI hr
   have hd2:=RI hr'
   have:=(zB ho hij hio h1' hs h2).1
   simp[YI,hd1,hd2] at this
  have hCl:LG ops (L.setIfInBounds i true):=by
   intro j oj hoj hj e he hb'
   have hset:∀ q,L.getD q false=true->(L.setIfInBounds i true).getD q false=true:=fun q hq=>by
    by_cases e1:i=q
    ·subst e1;rw[hif] at hq;cases hq
    ·rw[gX e1];exact hq
   by_cases e1:j=i
   ·subst e1
    rw[hio] at hoj
    cases hoj
    exact hset _ (gY e he hb')
   ·rw[gX (fun e2=>e1 e2.symm)] at hj
    exact hset _ (hC j oj hoj hj e he hb')
  unfold wpOp
  rw[hio]
  refine a0I hB b1g (hvi hv) m1 m2 (fun v w' E' n1 n2 n3 n4=>⟨by simpa using hL,hCl,E',n2.fix.trans m0,?_,?_⟩)
  ·rw[a7L,<-pG];exact n1
  ·rw[a7L,b1Z,<-pG];exact m2.put n2 (UN b1g) n3 n4
 ·have hnew:∀ j,(Array.replicate ops.size false).getD j false=false:=fun j=>yM _ j
  have e1:∀ {α:Type} (us:List (List (Nat × α))) (f:Nat->α),fM (fun j=>(Array.replicate ops.size false).getD j false) 0 us f=f:=fun us f=>by
   funext r
   exact zZ us 0 f (fun j u _ _=>hnew _)
  rw[e1,e1]
  obtain⟨n1,n2⟩:=hM.grows (Below.refl w.heap.size w).drew
  have hcl0:LG ops (Array.replicate ops.size false):=fun j o hj hj2=>by rw[hnew] at hj2;cases hj2
  exact⟨by simp,hcl0,E,rfl,n1,hf.size,hf.defers,fun s=>n2.wf _ (hf.wf s),fun s=>n2.holds _ _ (hf.wf s) (hf.holds s),hf.par⟩
end
end Go.Proofs.YtidfgdchcpmnfaaGreat
