/-
  Lemmas for the theorem vtransforms_holds, part 18 of 39.
-/
import Derived.Test.YtgplhbhfdgempaaGreatTr17
namespace Go.Proofs.YtgplhbhfdgempaaGreat
open Go Go.RowKit
theorem zf:type_of% @List.mem_append_left:=@List.mem_append_left
theorem Bg:type_of% @List.mem_append_right:=@List.mem_append_right
theorem Au:type_of% @List.mem_flatMap:=@List.mem_flatMap
theorem tu:type_of% @Bool.or_eq_true:=@Bool.or_eq_true
section
set_option linter.unusedSimpArgs false
set_option linter.unusedVariables false
set_option maxRecDepth 20000
theorem a8p {P:Program} {md:Region.Mode} {ops:Array Oper} {Q:Exit->Act->World->Prop} (I:Array Bool->Act->World->Prop) (hd:tY md ops=true)
  (hend:∀ L a w,I L a w->(∀ i,i<ops.size->L.getD i true=true)->Q .normal a w)
  (hstep:∀ L a w i o,I L a w->ops[i]?=some o->L.getD i true=false->(∀ e ∈ o.after,Region.binds md e=true->L.getD e.on false=true)->wpOp P ops Q i (I (L.setIfInBounds i true)) a w) :
  ∀ fuel L a w,JB L<=fuel->I L a w->wpAny P md ops Q fuel L a w:=by
 intro fuel
 induction fuel with
 | zero =>
  intro L a w hu hI
  have hn:Region.ready md ops L=[]:=by
   cases hr:Region.ready md ops L with
   | nil=>rfl
   | cons i r =>
    exfalso
    obtain⟨o,_,h2,_⟩:=FB (by rw[hr];exact jk)
    have:=zT h2
    omega
  exact⟨hn,hend L a w hI (pK hd hn)⟩
 | succ fuel ih =>
  intro L a w hu hI
  refine⟨fun hn=>hend L a w hI (pK hd hn),fun i hi=>?_⟩
  obtain⟨o,h1,h2,h3⟩:=FB hi
  refine wpOp_mono (fun a' w' h'=>ih _ _ _ ?_ h') (hstep L a w i o hI h1 h2 h3)
  have:=zT h2
  omega
def TJ:K0->List Nat
 | .val _ _=>[]
 | .own r _=>[r]
 | .ptr r _=>[r]
 | .nK r=>[r]
def K.res:K->List Nat
 | .ptr r _=>[r]
 | .own r _=>[r]
 | .when _ k=>k.res
 | .cell r _ _=>[r]
 | .mrow r _ _=>[r]
 | .mpos r _ _ _=>[r]
 | .nK r=>[r]
 | .mix ks=>ks.flatMap TJ
 | .fn _ ks=>ks.flatMap TJ
 | .sng r _=>[r]
 | _=>[]
def b9L:Res->List Nat
 | .mJ k=>k.res
 | _=>[]
def qL (ρ:Nat->Res) (k:K):List Nat:=k.res++k.res.flatMap fun r=>b9L (ρ r)
section
variable {P:Program} {C:FuncId->List Ctr} {T:Told} {ρ ρ':Nat->Res}
theorem vP {α:Type} {f g:Nat->α} {r:Nat} (h:f r=g r):∀ (l:List (Nat × α)),jI f l r=jI g l r
 | []=>h
 | (q,x)::l=>by
  simp only[jI]
  refine vP ?_ l
  unfold bT;split
  ·rfl
  ·exact h
theorem lC {α:Type} {r:Nat}:∀ (l:List (Nat × α)) (f:Nat->α),r ∉ l.map (·.1)->jI f l r=f r
 | [],_,_=>rfl
 | (q,x)::l,f,h=>by
  simp only[yu,um,not_or] at h
  simp only[jI]
  rw[lC l _ h.2,aP _ _ h.1]
theorem NR {k:K} (h:∀ r ∈ k.res,ρ r=ρ' r):vS ρ k=vS ρ' k:=by
 cases k<;>try rfl
 ·rename_i r v
  simp only[vS,h r (by simp[K.res])]
 ·rename_i r v i
  simp only[vS,h r (by simp[K.res])]
theorem qR {k:K} {t:Option Ty} (h:∀ r ∈ k.res,ρ r=ρ' r):yJ ρ t k=yJ ρ' t k:=by
 cases k<;>first|rfl|exact NR h
theorem a4T {k:K} {t:Option Ty} (h:∀ r ∈ k.res,ρ r=ρ' r):a4S ρ t k=a4S ρ' t k:=by
 have:WQ ρ k=WQ ρ' k:=by
  cases k<;>try rfl
  ·rename_i t x;cases t<;>rfl
  ·rename_i r v
   simp only[WQ,h r (by simp[K.res])]
  ·rename_i r v i
   simp only[WQ,h r (by simp[K.res])]
 unfold a4S
 rw[this,qR h]
theorem NQ {t:Option Ty}:∀ {ks:List K} {ρ ρ':Nat->Res},(∀ k ∈ ks,∀ r ∈ k.res,ρ r=ρ' r)->FW ρ t ks=FW ρ' t ks
 | [],_,_,_=>rfl
 | k::ks,ρ,ρ',h=>by
  simp only[FW,qR (h k (jk ..))]
  split
  ·rename_i p l _
   rw[NQ (ρ:=after ρ l) (ρ':=after ρ' l) (fun k' hk' r hr=>by rw[rU,rU];exact vP (h k' (jf _ hk') r hr) l)]
  ·rfl
theorem BH:∀ {ts:List Ty} {ks:List K} {ρ ρ':Nat->Res},(∀ k ∈ ks,∀ r ∈ k.res,ρ r=ρ' r)->BG ρ ts ks=BG ρ' ts ks
 | [],[],_,_,_=>rfl
 | [],_::_,_,_,_=>rfl
 | _::_,[],_,_,_=>rfl
 | t::ts,k::ks,ρ,ρ',h=>by
  simp only[BG,qR (h k (jk ..))]
  split
  ·rename_i p l _
   rw[BH (ρ:=after ρ l) (ρ':=after ρ' l) (fun k' hk' r hr=>by rw[rU,rU];exact vP (h k' (jf _ hk') r hr) l)]
  ·rfl
theorem a1w {k:Operand->K} {d:Option Nat} {op:Op} (hk:∀ x,∀ r ∈ (k x).res,ρ r=ρ' r) (hd:∀ r,d=some r->ρ r=ρ' r):rW P T ρ k d op=rW P T ρ' k d op:=by
 cases op<;>try rfl
 case alloc t =>
  simp only[rW]
  split
  ·rw[hd _ (by first|assumption|rfl)]
  ·rfl
 case box t x =>
  simp only[rW,qR (hk x)]
  split
  ·rw[hd _ (by first|assumption|rfl)]
  ·rfl
 case load t x =>
  simp only[rW]
  split
  ·rename_i r o hx;rw[hk x r (by rw[hx];simp[K.res])]
  ·rfl
 case store t x y =>
  simp only[rW,qR (hk y)]
  split
  ·rename_i r o _ _ hx _;rw[hk x r (by rw[hx];simp[K.res])]
  ·rfl
 case fieldAddr s x i =>
  simp only[rW]
  split
  ·rename_i r o hx;rw[hk x r (by rw[hx];simp[K.res])]
  ·rfl
 case indexAddr s x i =>
  simp only[rW]
  split
  ·rename_i r o _ _ hx _;rw[hk x r (by rw[hx];simp[K.res])]
  ·rfl
theorem a2T {k:Operand->K} {d:Option Nat} {op:Op} (hk:∀ x,∀ r ∈ (k x).res,ρ r=ρ' r) (hd:∀ r,d=some r->ρ r=ρ' r):DL P T ρ k d op=DL P T ρ' k d op:=by
 cases op<;>try rfl
 case buildSlice t len parts =>
  simp only[DL]
  have h1:FW ρ (a5A P T t) (parts.toList.map fun q=>k q.2)=FW ρ' (a5A P T t) (parts.toList.map fun q=>k q.2):=NQ (fun k' hk' r hr=>by
   obtain⟨q,_,rfl⟩:=ru.1 hk'
   exact hk q.2 r hr)
  rw[h1]
  split
  ·split
   ·split
    ·split
     ·rw[hd _ (by first|assumption|rfl)]
     ·rfl
    ·rfl
   ·rfl
   ·rfl
  ·rfl
 case call c =>
  obtain⟨cl,xs,ts⟩:=c
  cases cl<;>try rfl
  rename_i bi
  cases bi<;>try rfl
  simp only[DL]
  split
  ·rename_i s x t t' _ _
   split
   ·simp only[a4T (hk x)]
    split
    ·rename_i r v hs;rw[hk s r (by rw[hs];simp[K.res])]
    ·split
     ·rw[hd _ (by first|assumption|rfl)]
     ·rfl
    ·rfl
   ·rfl
  ·rfl
theorem DJ {k:K} {r:Nat} (h:r ∈ k.res):r ∈ qL ρ k:=zf _ h
theorem b1c {k k':K} {r q:Nat} (h:r ∈ k.res) (hr:ρ r=.mJ k') (hq:q ∈ k'.res):q ∈ qL ρ k:=Bg _ (Au.2 ⟨r,h,by rw[hr];exact hq⟩)
theorem EF {k:K} {t:Option Ty} (h:∀ r ∈ k.res,ρ r=ρ' r):vJ ρ t k=vJ ρ' t k:=by
 cases k<;>try rfl
 ·rename_i r v
  simp only[vJ,h r (by simp[K.res])]
 ·rename_i r v i
  simp only[vJ,h r (by simp[K.res])]
theorem OW {k:K} {t:Option Ty} (h:∀ r ∈ qL ρ k,ρ r=ρ' r):GN ρ t k=GN ρ' t k:=by
 have h0:∀ r ∈ k.res,ρ r=ρ' r:=fun r hr=>h r (DJ hr)
 cases k
 case ptr r o=>simp only[GN,h0 r (by simp[K.res])]
 case nK r =>
  simp only[GN,<-h0 r (by simp[K.res])]
  split
  ·rename_i k9 hr
   split
   ·rw[EF (ρ:=ρ) (ρ':=ρ') (fun q hq=>h q (b1c (k:=.nK r) (by simp[K.res]) hr hq))]
   ·rfl
  ·rfl
 all_goals exact EF (t:=t) h0
theorem b6d (k:K0):(k0K k).res=TJ k:=by cases k<;>rfl
theorem ED:∀ {u:Ty} {ks:List K0},(∀ k ∈ ks,∀ r ∈ qL ρ (k0K k),ρ r=ρ' r)->iV ρ u ks=iV ρ' u ks
 | .unit,[],_=>rfl
 | .pair a b,k::ks,h=>by
  simp only[iV]
  rw[OW (h k (jk ..)),ED (fun k' hk'=>h k' (jf _ hk'))]
 | .unit,_::_,_=>rfl
 | .pair _ _,[],_=>rfl
 | .bool,_,_=>rfl
 | .int _,_,_=>rfl
 | .lf _,_,_=>rfl
 | .list _,_,_=>rfl
 | .arr _ _,_,_=>rfl
 | .ref _,_,_=>rfl
 | .clo _ _,_,_=>rfl
 | .nls _,_,_=>rfl
theorem a6t {g:FuncId} {ks:List K0} {k:K0} {r:Nat} (hk:k ∈ ks) (h:r ∈ qL ρ (k0K k)):r ∈ qL ρ (.fn g ks):=by
 have h1:∀ q ∈ (k0K k).res,q ∈ (K.fn g ks).res:=fun q hq=>Au.2 ⟨k,hk,by rw[<-b6d];exact hq⟩
 rcases uq.1 h with h|h
 ·exact DJ (h1 r h)
 ·obtain⟨q,hq,h⟩:=Au.1 h
  exact Bg _ (Au.2 ⟨q,h1 q hq,h⟩)
theorem a3s {k:K} {t:Ty} (h:∀ r ∈ qL ρ k,ρ r=ρ' r):VO ρ t k=VO ρ' t k:=by
 cases k
 case fn g ks =>
  simp only[VO]
  split
  ·rw[ED (fun k hk r hr=>h r (a6t hk hr))]
  ·rfl
 all_goals exact OW (t:=some t) h
theorem vI:∀ {ts:List Ty} {ks:List K},(∀ k ∈ ks,∀ r ∈ qL ρ k,ρ r=ρ' r)->oH ρ ts ks=oH ρ' ts ks
 | [],[],_=>rfl
 | [],_::_,_=>rfl
 | _::_,[],_=>rfl
 | t::ts,k::ks,h=>by
  simp only[oH]
  rw[a3s (h k (jk ..)),vI (fun k' hk'=>h k' (jf _ hk'))]
theorem BK {ks:List K} (h:∀ k ∈ ks,∀ r ∈ qL ρ k,ρ r=ρ' r):∀ cs:List Ctr,FX ρ ks cs=FX ρ' ks cs
 | []=>rfl
 | c::cs=>by
  have e:a1s ρ c ks=a1s ρ' c ks:=by
   unfold a1s
   rw[vI h,BH (fun k hk r hr=>h k hk r (DJ hr))]
  simp only[FX]
  rw[e,BK h cs]
theorem ZX {k:Operand->K} {op:Op} (hk:∀ x,∀ r ∈ qL ρ (k x),ρ r=ρ' r):wJ P C ρ k op=wJ P C ρ' k op:=by
 cases op<;>try rfl
 case makeFunc fn first caps=>cases fn<;>rfl
 case call c =>
  obtain⟨cl,xs,ts⟩:=c
  cases cl<;>try rfl
  rename_i f
  simp only[wJ]
  have hcap:∀ (t:Ty) (x:t.den) (k':K),k' ∈ a1x t x->k'.res=[]:=by
   intro t
   induction t with
   | pair a b _ ih =>
    intro x k' h
    rcases um.1 h with rfl|h
    ·rfl
    ·exact ih x.2 k' h
   | _=>intro x k' h;cases h
  split
  ·rename_i g t cx hf
   rw[BK (fun k' hk' r hr=>by
    rcases uq.1 hk' with h|h
    ·obtain⟨q,_,rfl⟩:=ru.1 h;exact hk q r hr
    ·exfalso
     unfold qL at hr
     rw[hcap t cx k' h] at hr
     simp at hr)]
  ·rename_i g l hf
   rw[BK (fun k' hk' r hr=>by
    rcases uq.1 hk' with h|h
    ·obtain⟨q,_,rfl⟩:=ru.1 h;exact hk q r hr
    ·obtain⟨q,hq,rfl⟩:=ru.1 h
     exact hk f r (by rw[hf];exact a6t hq hr))]
  ·rfl
theorem a4C {k:Operand->K} {op:Op} (hk:∀ x,∀ r ∈ (k x).res,ρ r=ρ' r):NG P ρ k op=NG P ρ' k op:=by
 cases op<;>try rfl
 case indexAddr s x i =>
  simp only[NG]
  split
  ·rename_i r v _ _ hx _;rw[hk x r (by rw[hx];simp[K.res])]
  ·rename_i r v _ _ _ hx _;rw[hk x r (by rw[hx];simp[K.res])]
  ·rfl
 case load t x =>
  simp only[NG]
  split
  ·rename_i r v _ hx;rw[hk x r (by rw[hx];simp[K.res])]
  ·rename_i r v _ _ hx;rw[hk x r (by rw[hx];simp[K.res])]
  ·rename_i r hx;rw[hk x r (by rw[hx];simp[K.res])]
  ·rfl
 case call c =>
  obtain⟨cl,xs,ts⟩:=c
  cases cl<;>try rfl
  rename_i bi
  cases bi<;>try rfl
  simp only[NG]
  split
  ·rename_i x t _ _
   split
   ·split
    ·rename_i r v hx;rw[hk x r (by rw[hx];simp[K.res])]
    ·rename_i r v _ hx;rw[hk x r (by rw[hx];simp[K.res])]
    ·rfl
   ·rfl
  ·rfl
theorem a5e {k:Operand->K} {d:Option Nat} {op:Op} (hk:∀ x,∀ r ∈ (k x).res,ρ r=ρ' r) (hd:∀ r,d=some r->ρ r=ρ' r):a1l P T ρ k d op=a1l P T ρ' k d op:=by
 cases op<;>try rfl
 case store t x y =>
  have hown:ownB ρ (k y)=ownB ρ' (k y):=by
   cases hy:k y<;>try rfl
   rename_i r v
   simp only[ownB]
   rw[hk y r (by rw[hy];simp[K.res])]
  simp only[a1l,qR (hk y),hown]
  split
  ·rename_i r v i hx
   rw[hk x r (by rw[hx];simp[K.res])]
   split
   ·rfl
   ·split
    ·rfl
    ·rename_i r2 v2 hy
     rw[hk y r2 (by rw[hy];simp[K.res])]
    ·rfl
   ·rfl
  ·rename_i r v id i hx;rw[hk x r (by rw[hx];simp[K.res])]
  ·rename_i r hx;rw[hk x r (by rw[hx];simp[K.res])]
  ·rfl
 case makeSlice t n m =>
  simp only[a1l]
  split
  ·rw[hd _ (by first|assumption|rfl)]
  ·rfl
theorem a4f {k:Operand->K} {d:Option Nat} {op:Op} (hk:∀ x,∀ r ∈ (k x).res,ρ r=ρ' r) (hd:∀ r,d=some r->ρ r=ρ' r):TU P T ρ k d op=TU P T ρ' k d op:=by
 cases op<;>try rfl
 case buildSlice t len parts =>
  simp only[TU]
  split<;>try rfl
  rename_i r
  split<;>try rfl
  split<;>try rfl
  split<;>try rfl
  split
  ·rw[hd _ (by first|assumption|rfl)]
  ·rename_i y _
   split
   ·rename_i r2 v2 hy;rw[hk y r2 (by rw[hy];simp[K.res])]
   ·rfl
  ·rfl
 case call c =>
  obtain⟨cl,xs,ts⟩:=c
  cases cl<;>try rfl
  rename_i bi
  cases bi<;>try rfl
  simp only[TU]
  split
  ·rename_i s x t t' _ _
   split
   ·split
    ·rename_i r2 v2 hx
     rw[hk x r2 (by rw[hx];simp[K.res])]
     split
     ·split
      ·rename_i r v hs;rw[hk s r (by rw[hs];simp[K.res])]
      ·rw[hd _ (by first|assumption|rfl)]
      ·rfl
     ·rfl
    ·rfl
   ·rfl
  ·rfl
theorem OV {r:Nat} {row:Option Nat}:∀ {ts:List Ty} {ks:List K},(∀ k ∈ ks,∀ q ∈ k.res,ρ q=ρ' q)->LH ρ r row ts ks=LH ρ' r row ts ks
 | [],[],_=>rfl
 | [],_::_,_=>rfl
 | _::_,[],_=>rfl
 | t::ts,k::ks,h=>by
  simp only[LH]
  rw[EF (h k (jk ..)),OV (fun k' hk'=>h k' (jf _ hk'))]
theorem a2p {k:LK} {k0:K} (h:∀ q ∈ k0.res,ρ q=ρ' q):a5S ρ k k0=a5S ρ' k k0:=by
 cases k with
 | row e t =>
  cases k0<;>try rfl
  case own r v=>exact xu (PZ e t r v) (h r (by simp[K.res]))
  case mrow r v i=>exact xu (PY e t r v i) (h r (by simp[K.res]))
 | mat e e2 t =>
  cases k0<;>try rfl
  case own r v=>exact xu (PX e e2 t r v) (h r (by simp[K.res]))
theorem JG {d:Option Nat} {ks:List K} (h:∀ k ∈ ks,∀ r ∈ qL ρ k,ρ r=ρ' r) (hd:∀ r,d=some r->ρ r=ρ' r):∀ cs:List AO,BL ρ d ks cs=BL ρ' d ks cs
 | []=>rfl
 | c::cs=>by
  have e:GU ρ d ks c=GU ρ' d ks c:=by
   cases c with
   | mk k args pre made =>
    simp only[GU]
    split
    ·rw[hd _ (by first|assumption|rfl),vI h]
    ·rfl
   | chg k args res pre out fn =>
    cases ks with
    | nil=>rfl
    | cons k0 ks =>
     have h0:∀ k ∈ k0::ks,∀ r ∈ k.res,ρ r=ρ' r:=fun k hk r hr=>h k hk r (DJ hr)
     simp only[GU]
     rw[a2p (h0 k0 (jk ..)),BH (fun k hk=>h0 k (jf _ hk))]
     simp only[OV (ρ:=ρ) (ρ':=ρ') (ks:=ks) (fun k hk=>h0 k (jf _ hk))]
  simp only[BL]
  rw[e,JG h hd cs]
theorem ZW {k:Operand->K} {d:Option Nat} {op:Op} (hk:∀ x,∀ r ∈ qL ρ (k x),ρ r=ρ' r) (hd:∀ r,d=some r->ρ r=ρ' r):BM P T ρ k d op=BM P T ρ' k d op:=by
 cases op<;>try rfl
 case call c =>
  obtain⟨cl,xs,ts⟩:=c
  cases cl<;>try rfl
  rename_i f
  simp only[BM]
  have hcap:∀ (t:Ty) (x:t.den) (k':K),k' ∈ a1x t x->k'.res=[]:=by
   intro t
   induction t with
   | pair a b _ ih =>
    intro x k' h
    rcases um.1 h with rfl|h
    ·rfl
    ·exact ih x.2 k' h
   | _=>intro x k' h;cases h
  split
  ·split
   ·refine JG (fun k9 hk9 r hr=>?_) hd _
    rcases uq.1 hk9 with hk9|hk9
    ·obtain⟨q,_,rfl⟩:=ru.1 hk9;exact hk q r hr
    ·exfalso
     unfold qL at hr
     rw[hcap _ _ _ hk9] at hr
     simp at hr
   ·rfl
  ·rfl
theorem a1W {k:Operand->K} {op:Op} (hk:∀ x,∀ r ∈ (k x).res,ρ r=ρ' r):XI P ρ k op=XI P ρ' k op:=by
 unfold XI
 split
 ·rename_i t s lo hi
  have h:=NR (hk (.tmp s))
  split
  ·rename_i r v e
   rw[e] at h
   rw[h]
  ·rfl
 ·rfl
theorem a0d {k:Operand->K} {op:Op} (hk:∀ x,∀ r ∈ (k x).res,ρ r=ρ' r):wK P ρ k op=wK P ρ' k op:=by
 unfold wK
 split
 ·split
  ·split
   ·rename_i x y _ _ _ _ _ _ r v id ty1 ys hx hy
    rw[hk x r (by rw[hx];simp[K.res])]
   ·rfl
  ·rfl
 ·split
  ·split
   ·rename_i x y _ _ _ _ _ _ r v ty1 ys hx hy
    rw[hk x r (by rw[hx];simp[K.res])]
   ·rfl
  ·rfl
 ·rfl
theorem LC {k:Operand->K} {d:Option Nat} {op:Op} (hk:∀ x,∀ r ∈ qL ρ (k x),ρ r=ρ' r) (hd:∀ r,d=some r->ρ r=ρ' r):qG P C T ρ k d op=qG P C T ρ' k d op:=by
 have h0:∀ x,∀ r ∈ (k x).res,ρ r=ρ' r:=fun x r hr=>hk x r (DJ hr)
 unfold qG
 rw[a1w h0 hd,a2T h0 hd,a4C h0,a5e h0 hd,a4f h0 hd,a1W h0,ZW hk hd,a0d h0,ZX hk]
end
def XK (ops:Array Oper) (o:Oper):Option Nat:=match o.guard with
 | some (j,_)=>(ops[j]?).bind (·.dst)
 | none=>none
def readsOf (ops:Array Oper) (o:Oper):List Nat:=tmpsOf o.op++(XK ops o).toList
theorem b2e (ρ:Nat->Res) (k:K):qL ρ (unW k)=qL ρ k:=by cases k<;>rfl
theorem UK (ρ:Nat->Res) (v:Value):qL ρ (yL v)=[]:=by unfold yL;split<;>rfl
def moveB:Op->Bool
 | .move _=>true
 | _=>false
theorem OO {P:Program} {C:FuncId->List Ctr} {T:Told} {ρ ρ':Nat->Res} {k:Operand->K} {d:Option Nat} {op:Op} (h:moveB op=true):qG P C T ρ k d op=qG P C T ρ' k d op:=by
 cases op<;>simp[moveB] at h
 rfl
def a3o (op:Op):List Nat:=if moveB op then [] else tmpsOf op
theorem a2D {B:Book} {G G':Nat->K} {ρ ρ':Nat->Res} {ops:Array Oper} {o:Oper} (hG:∀ s ∈ readsOf ops o,G s=G' s) (hρ:∀ s ∈ a3o o.op,∀ r ∈ qL ρ (G s),ρ r=ρ' r) (hd:∀ r,o.dst=some r->ρ r=ρ' r):xW B G ρ ops o=xW B G' ρ' ops o:=by
 have h1:kW (tmpsOf o.op) G=kW (tmpsOf o.op) G':=by
  funext s
  unfold kW
  split
  ·rename_i h;exact hG s (zf _ (by simpa using h))
  ·rfl
 have h2:kW (tmpsOf o.op) (unG o.op G)=kW (tmpsOf o.op) (unG o.op G'):=by
  funext s
  unfold kW
  split
  ·rename_i h;unfold unG;rw[hG s (zf _ (by simpa using h))]
  ·rfl
 have h3:(tmpsOf o.op).flatMap (fun s=>NV o.op s (G s))=(tmpsOf o.op).flatMap (fun s=>NV o.op s (G' s)):=by
  have:∀ l:List Nat,(∀ s ∈ l,G s=G' s)->l.flatMap (fun s=>NV o.op s (G s))=l.flatMap (fun s=>NV o.op s (G' s)):=by
   intro l
   induction l with
   | nil=>intro _;rfl
   | cons x l ih=>intro h;rw[List.flatMap_cons,List.flatMap_cons,h x (jk ..),ih (fun s hs=>h s (jf _ hs))]
  exact this _ (fun s hs=>hG s (zf _ hs))
 have k3:qG B.P B.C B.T ρ (opK (kW (tmpsOf o.op) G')) o.dst o.op=qG B.P B.C B.T ρ' (opK (kW (tmpsOf o.op) G')) o.dst o.op/\qG B.P B.C B.T ρ (opK (kW (tmpsOf o.op) (unG o.op G'))) o.dst o.op=qG B.P B.C B.T ρ' (opK (kW (tmpsOf o.op) (unG o.op G'))) o.dst o.op:=by
  by_cases hp:moveB o.op=true
  ·exact⟨OO hp,OO hp⟩
  unfold a3o at hρ
  rw[ig hp] at hρ
  have k1:∀ x,∀ r ∈ qL ρ (opK (kW (tmpsOf o.op) G') x),ρ r=ρ' r:=by
   rw[<-h1]
   intro x r hr
   cases x with
   | tmp s =>
    have hr:r ∈ qL ρ (kW (tmpsOf o.op) G s):=hr
    unfold kW at hr
    split at hr
    ·rename_i h;exact hρ s (by simpa using h) r hr
    ·cases hr
   | const v=>exfalso;have hr:r ∈ qL ρ (yL v):=hr;rw[UK] at hr;cases hr
   | func f=>cases hr
   | global g=>cases hr
  have k2:∀ x,∀ r ∈ qL ρ (opK (kW (tmpsOf o.op) (unG o.op G')) x),ρ r=ρ' r:=by
   rw[<-h2]
   intro x r hr
   cases x with
   | tmp s =>
    have hr:r ∈ qL ρ (kW (tmpsOf o.op) (unG o.op G) s):=hr
    unfold kW at hr
    split at hr
    ·rename_i h
     refine hρ s (by simpa using h) r ?_
     unfold unG at hr
     split at hr
     ·exact hr
     ·rw[<-b2e];exact hr
    ·cases hr
   | const v=>exfalso;have hr:r ∈ qL ρ (yL v):=hr;rw[UK] at hr;cases hr
   | func f=>cases hr
   | global g=>cases hr
  exact⟨LC k1 hd,LC k2 hd⟩
 unfold xW
 rw[h1,h2,h3,k3.1,k3.2]
 cases hg:o.guard with
 | none=>rfl
 | some jb =>
  obtain⟨j,b⟩:=jb
  simp only
  cases hs:(ops[j]?).bind (·.dst) with
  | none=>rfl
  | some s =>
   have:G s=G' s:=hG s (Bg _ (by simp[XK,hg,hs]))
   simp only[this]
end
section
set_option linter.unusedSimpArgs false
set_option linter.unusedVariables false
set_option maxRecDepth 20000
def gK {α:Type} (done:Nat->Bool):Nat->List (List (Nat × α))->(Nat->α)->Nat->α
 | _,[],f=>f
 | j,u::us,f=>gK done (j+1) us (if done j then jI f u else f)
theorem BU {α:Type} {d d':Nat->Bool} {r:Nat}:∀ (us:List (List (Nat × α))) (b:Nat) (f g:Nat->α),f r=g r->(∀ j u,us[j]?=some u->r ∈ u.map (·.1)->d (b+j)=d' (b+j))->gK d b us f r=gK d' b us g r
 | [],b,f,g,h,_=>h
 | u::us,b,f,g,h,hd=>by
  simp only[gK]
  refine BU us (b+1) _ _ ?_ (fun j u' hu hr=>by have:=hd (j+1) u' hu hr;rwa [show b+(j+1)=b+1+j by omega] at this)
  by_cases hr:r ∈ u.map (·.1)
  ·have:=hd 0 u rfl hr
   rw[Nat.add_zero] at this
   rw[<-this]
   split
   ·exact vP h u
   ·exact h
  ·split<;>split<;>first
    | (rw[lC u _ hr,lC u _ hr];exact h)
    | (rw[lC u _ hr];exact h)
    |exact h
theorem EN {α:Type} {d:Nat->Bool} {r:Nat}:∀ (us:List (List (Nat × α))) (b:Nat) (f:Nat->α),(∀ j u,us[j]?=some u->r ∈ u.map (·.1)->d (b+j)=false)->gK d b us f r=f r
 | [],b,f,_=>rfl
 | u::us,b,f,hd=>by
  simp only[gK]
  rw[EN us (b+1) _ (fun j u' hu hr=>by have:=hd (j+1) u' hu hr;rwa [show b+(j+1)=b+1+j by omega] at this)]
  by_cases hr:r ∈ u.map (·.1)
  ·have:=hd 0 u rfl hr
   rw[Nat.add_zero] at this
   rw[this];rfl
  ·split
   ·exact lC u _ hr
   ·rfl
theorem WS {α:Type} {r:Nat}:∀ (l:List (Nat × α)) (f g:Nat->α),r ∈ l.map (·.1)->jI f l r=jI g l r
 | [],_,_,h=>by cases h
 | (q,x)::l,f,g,h=>by
  simp only[jI]
  by_cases hr:r ∈ l.map (·.1)
  ·exact WS l _ _ hr
  ·rw[lC l _ hr,lC l _ hr]
   have:r=q:=by
    rcases um.1 h with h|h
    ·exact h
    ·exact absurd h hr
   subst this
   rw[aG,aG]
theorem IE {α:Type} {d d':Nat->Bool} {u:List (Nat × α)}:∀ (us:List (List (Nat × α))) (b i:Nat) (f:Nat->α),us[i]?=some u->d (b+i)=false->d' (b+i)=true->(∀ j,j≠b+i->d' j=d j)->(∀ r ∈ u.map (·.1),∀ j v,us[j]?=some v->i<j->r ∈ v.map (·.1)->d (b+j)=false)->gK d' b us f=jI (gK d b us f) u
 | v::us,b,0,f,hi,hd,hd',he,hn=>by
  simp only[List.getElem?_cons_zero,ah] at hi
  subst hi
  simp only[Nat.add_zero] at hd hd' he
  simp only[gK,hd,hd',Dk,zq,if_false]
  funext r
  have h1:gK d' (b+1) us (jI f v) r=gK d (b+1) us (jI f v) r:=BU us (b+1) _ _ rfl (fun j u' hu hr=>he _ (by omega))
  rw[h1]
  by_cases hr:r ∈ v.map (·.1)
  ·rw[EN us (b+1) _ (fun j u' hu hr'=>by have:=hn r hr (j+1) u' hu (by omega) hr';rwa [show b+(j+1)=b+1+j by omega] at this)]
   exact WS v _ _ hr
  ·rw[lC v _ hr]
   exact BU us (b+1) _ _ (lC v _ hr) (fun j u' hu hr=>rfl)
 | v::us,b,i+1,f,hi,hd,hd',he,hn=>by
  simp only[gK]
  have:(if d' b=true then jI f v else f)=(if d b=true then jI f v else f):=by rw[he b (by omega)]
  rw[this]
  exact IE us (b+1) i _ hi (by rwa [show b+1+i=b+(i+1) by omega]) (by rwa [show b+1+i=b+(i+1) by omega]) (fun j hj=>he j (by omega)) (fun r hr j v' hv hlt hr'=>by
   have:=hn r hr (j+1) v' hv (by omega) hr'
   rwa [show b+(j+1)=b+1+j by omega] at this)
 | [],b,i,f,hi,hd,hd',he,hn=>by simp at hi
theorem MC {α:Type} {d:Nat->Bool}:∀ (us:List (List (Nat × α))) (b:Nat) (f:Nat->α),(∀ j,j<us.length->d (b+j)=true)->gK d b us f=us.foldl jI f
 | [],b,f,h=>rfl
 | u::us,b,f,h=>by
  have h0:=h 0 (by simp)
  rw[Nat.add_zero] at h0
  simp only[gK,h0,Dk,List.foldl_cons]
  exact MC us (b+1) _ (fun j hj=>by have:=h (j+1) (by simpa using hj);rwa [show b+(j+1)=b+1+j by omega] at this)
structure Sim where
 k:K
 l:List (Nat × Res)
 touch:List Nat
def zM (B:Book) (ops:Array Oper):List Oper->Gam->Rho->Option (List Prop × List Sim × Gam × Rho)
 | [],G,R=>some ([],[],G,R)
 | o::rest,G,R=>match xW B (bP G) (aT R) ops o with
  | some (vc,k,l)=>match zM B ops rest (b3R o.dst k G) (aft R l) with
   | some (vc',ss,G',R')=>some (vc++vc',⟨k,l,(a3o o.op).flatMap (fun s=>qL (aT R) (bP G s))++o.dst.toList++l.map (·.1)⟩::ss,G',R')
   | none=>none
  | none=>none
def isDst (o:Oper) (l:List Nat):Bool:=match o.dst with
 | some s=>l.contains s
 | none=>false
def a0W (o o':Oper):Bool:=match o.dst,o'.dst with
 | some s,some s'=>s==s'
 | _,_=>false
def clash (ops:Array Oper) (o o':Oper) (s s':Sim):Bool:=isDst o (readsOf ops o') || isDst o' (readsOf ops o) || s.l.any (fun q=>s'.touch.contains q.1) || s'.l.any (fun q=>s.touch.contains q.1)
def a4m (ops:Array Oper) (b:Array Nat) (ss:List Sim):Bool:=(List.range ops.size).all fun j=>match ops[j]?,ss[j]? with
 | some o',some s'=>(List.range j).all fun i=>match ops[i]?,ss[i]? with
  | some o,some s=>!a0W o o'&&(!clash ops o o' s s' || (b.getD j 0).testBit i)
  | _,_=>false
 | _,_=>false
def b0w (ops:Array Oper) (b:Array Nat):Bool:=(List.range ops.size).all fun j=>match ops[j]? with
 | some o=>(List.range j).all fun i=>!(b.getD j 0).testBit i || o.after.any fun e=>Region.binds .any e&&(e.on==i || (decide (e.on<j)&&decide (i<e.on)&&(b.getD e.on 0).testBit i))
 | none=>false
def PN (ops:Array Oper) (L:Array Bool):Prop:=∀ j o,ops[j]?=some o->L.getD j false=true->∀ e ∈ o.after,Region.binds .any e=true->L.getD e.on false=true
theorem TW {ops:Array Oper} {b:Array Nat} (h:b0w ops b=true) {L:Array Bool} (hc:PN ops L):∀ (j:Nat) (o:Oper) (i:Nat),ops[j]?=some o->i<j->(b.getD j 0).testBit i=true->(∀ e ∈ o.after,Region.binds .any e=true->L.getD e.on false=true)->L.getD i false=true:=by
 intro j
 induction j using Nat.strongRecOn with
 | _ j ih =>
  intro o i ho hij hb hd
  have hj:j<ops.size:=(Aw.1 ho).1
  have h1:=(xk.1 h) j (uy.2 hj)
  rw[ho] at h1
  have h2:=(xk.1 h1) i (uy.2 hij)
  rw[hb] at h2
  simp only[Bool.not_true,Bool.false_or,Array.any_eq_true'] at h2
  obtain⟨e,he,h3⟩:=h2
  simp only[ak,tu,ji,ay] at h3
  obtain⟨h4,h5⟩:=h3
  have hdone:=hd e he h4
  rcases h5 with h5|⟨⟨h5,hie⟩,h6⟩
  ·rw[<-h5];exact hdone
  ·have ho':ops[e.on]?=some ops[e.on]:=Am (by omega)
   exact ih e.on h5 _ i ho' hie h6 (hc e.on _ ho' hdone)
theorem OE {α:Type} {d:Nat->Bool}:∀ (us:List (List (Nat × α))) (b:Nat) (f:Nat->α),gK d (b+1) us f=gK (fun j=>d (j+1)) b us f
 | [],b,f=>rfl
 | u::us,b,f=>by simp only[gK];exact OE us (b+1) _
def FT (l:List Oper) (ss:List Sim):List (List (Nat × K)):=List.zipWith (fun o s=>a1g o.dst s.k) l ss
def CW (ss:List Sim):List (List (Nat × Res)):=ss.map (·.l)
theorem YQ {B:Book} {ops:Array Oper}:∀ {l:List Oper} {G:Gam} {R:Rho} {vc:List Prop} {ss:List Sim} {G':Gam} {R':Rho},zM B ops l G R=some (vc,ss,G',R') ->
  ss.length=l.length/\bP G'=(FT l ss).foldl jI (bP G)/\aT R'=(CW ss).foldl jI (aT R) /\
  ∀ i o,l[i]?=some o->∃ s vi,ss[i]?=some s/\(bY vc->bY vi)/\xW B (gK (fun j=>decide (j<i)) 0 (FT l ss) (bP G)) (gK (fun j=>decide (j<i)) 0 (CW ss) (aT R)) ops o=some (vi,s.k,s.l) /\
   s.touch=(a3o o.op).flatMap (fun q=>qL (gK (fun j=>decide (j<i)) 0 (CW ss) (aT R)) (gK (fun j=>decide (j<i)) 0 (FT l ss) (bP G) q))++o.dst.toList++s.l.map (·.1)
 | [],G,R,vc,ss,G',R',h=>by
  simp only[zM,ah,dh] at h
  obtain⟨_,rfl,rfl,rfl⟩:=h
  exact⟨rfl,rfl,rfl,fun i o hi=>by simp at hi⟩
 | o::rest,G,R,vc,ss,G',R',h=>by
  simp only[zM] at h
  split at h<;>try(cases h;done)
  rename_i vc1 k l1 h1
  split at h<;>try(cases h;done)
  rename_i vc2 ss2 G2 R2 h2
  simp only[ah,dh] at h
  obtain⟨rfl,rfl,rfl,rfl⟩:=h
  obtain⟨k1,k2,k3,k4⟩:=YQ h2
  rw[xB] at k2 k4
  rw[SN,rU] at k3 k4
  refine⟨by simp[k1],k2,k3,fun i o' hi=>?_⟩
  cases i with
  | zero =>
   simp only[List.getElem?_cons_zero,ah] at hi
   subst hi
   have e1:∀ {α:Type} (us:List (List (Nat × α))) (f:Nat->α),gK (fun j=>decide (j<0)) 0 us f=f:=fun us f=>by
    funext r
    exact EN us 0 f (fun j u _ _=>by simp)
   exact⟨_,vc1,rfl,fun hv=>(bW.1 hv).1,by rw[e1,e1];exact h1,by rw[e1,e1]⟩
  | succ i =>
   obtain⟨s,vi,j1,j2,j3,j4⟩:=k4 i o' (by simpa using hi)
   have e1:∀ {α:Type} (u:List (Nat × α)) (us:List (List (Nat × α))) (f:Nat->α),gK (fun j=>decide (j<i+1)) 0 (u::us) f=gK (fun j=>decide (j<i)) 0 us (jI f u):=fun u us f=>by
    simp only[gK]
    rw[gy (by simp),OE]
    congr 1
    funext j
    simp
   refine⟨s,vi,by simpa using j1,fun hv=>j2 (bW.1 hv).2,?_,?_⟩
   ·show xW B (gK _ 0 (a1g o.dst k::FT rest ss2) (bP G)) (gK _ 0 (l1::CW ss2) (aT R)) ops o'=_
    rw[e1,e1];exact j3
   ·show s.touch=(a3o o'.op).flatMap (fun q=>qL (gK _ 0 (l1::CW ss2) (aT R)) (gK _ 0 (a1g o.dst k::FT rest ss2) (bP G) q))++_++_
    rw[e1,e1];exact j4
theorem a5P {l:List Oper} {ss:List Sim} {j:Nat} {u:List (Nat × K)} (h:(FT l ss)[j]?=some u):∃ o s,l[j]?=some o/\ss[j]?=some s/\u=a1g o.dst s.k:=by
 unfold FT at h
 rw[List.getElem?_zipWith] at h
 cases h1:l[j]? with
 | none=>rw[h1] at h;cases h
 | some o =>
  cases h2:ss[j]? with
  | none=>rw[h1,h2] at h;cases h
  | some s=>rw[h1,h2] at h;simp at h;exact⟨o,s,rfl,rfl,h.symm⟩
theorem a5U {ss:List Sim} {j:Nat} {u:List (Nat × Res)} (h:(CW ss)[j]?=some u):∃ s,ss[j]?=some s/\u=s.l:=by
 unfold CW at h
 rw[Af] at h
 cases h2:ss[j]? with
 | none=>rw[h2] at h;cases h
 | some s=>rw[h2] at h;simp at h;exact⟨s,rfl,h.symm⟩
theorem VJ {d:Option Nat} {k:K} {r:Nat} (h:r ∈ (a1g d k).map (·.1)):d=some r:=by
 cases d with
 | none=>cases h
 | some s=>simp[a1g] at h;rw[h]
theorem a2k {o:Oper} {l:List Nat} {s:Nat} (h:o.dst=some s) (hs:s ∈ l):isDst o l=true:=by simp[isDst,h,hs]
theorem ZO {l:List (Nat × Res)} {t:List Nat} {r:Nat} (h:r ∈ l.map (·.1)) (ht:r ∈ t):l.any (fun q=>t.contains q.1)=true:=by
 obtain⟨q,hq,rfl⟩:=ru.1 h
 exact yc.2 ⟨q,hq,by simpa using ht⟩
theorem DC {ops:Array Oper} {b:Array Nat} {ss:List Sim} (h:a4m ops b ss=true) {i j:Nat} {o o':Oper} {s s':Sim} (hij:i<j) (hi:ops[i]?=some o) (hj:ops[j]?=some o') (hs:ss[i]?=some s) (hs':ss[j]?=some s'):a0W o o'=false/\(clash ops o o' s s'=true->(b.getD j 0).testBit i=true):=by
 have hjl:j<ops.size:=(Aw.1 hj).1
 have h1:=(xk.1 h) j (uy.2 hjl)
 rw[hj,hs'] at h1
 have h2:=(xk.1 h1) i (uy.2 hij)
 rw[hi,hs] at h2
 simp only[ak,ny,tu] at h2
 refine⟨h2.1,fun hc=>?_⟩
 rcases h2.2 with h3|h3
 ·rw[hc] at h3;cases h3
 ·exact h3
theorem a5s {ops:Array Oper} {o o':Oper} {s s':Sim} (h:s.l.any (fun q=>s'.touch.contains q.1)=true):clash ops o o' s s'=true:=by unfold clash;rw[h];simp
theorem b2B {ops:Array Oper} {o o':Oper} {s s':Sim} (h:s'.l.any (fun q=>s.touch.contains q.1)=true):clash ops o o' s s'=true:=by unfold clash;rw[h];simp
section
variable {B:Book} {W:World}
theorem a6T (hB:B.Ok) (hm:B.P.follows .mixedOrders=true) {id:Nat} {ops:Array Oper} {b:Array Nat} {Q:Exit->Act->World->Prop} {G:Gam} {R:Rho} {E:Env} {w:World} {a:Act} {vc:List Prop} {ss:List Sim} {G':Gam} {R':Rho}
  (h:zM B ops ops.toList G R=some (vc,ss,G',R')) (hd:tY .any ops=true) (ho:a4m ops b ss=true) (hn:b0w ops b=true) (hv:bY vc) (hM:Mem E (aT R) W w) (hf:Fits E (aT R) w B a (bP G))
  (hq:∀ E' a' w',E'.fix=E.fix->Mem E' (aT R') W w'->Fits E' (aT R') w' B a' (bP G')->Q .normal a' w'):(Code.region id ops true).wp B.P Q a w:=by
 obtain⟨hlen,hG',hR',hat⟩:=YQ h
 have hlen':ss.length=ops.size:=by simpa using hlen
 refine wp_region_any hm ?_
 refine a8p (fun L a w=>L.size=ops.size/\PN ops L/\∃ E',E'.fix=E.fix/\Mem E' (gK (fun j=>L.getD j false) 0 (CW ss) (aT R)) W w/\Fits E' (gK (fun j=>L.getD j false) 0 (CW ss) (aT R)) w B a (gK (fun j=>L.getD j false) 0 (FT ops.toList ss) (bP G))) hd ?_ ?_ _ _ _ _ (by rw[VI];exact aj _) ?_
 ·rintro L a w ⟨hL,_,E9,m0,m1,m2⟩ hall
  have hdone:∀ j,j<ops.size->L.getD j false=true:=fun j hj=>yP hL hj (hall j hj)
  have e1:gK (fun j=>L.getD j false) 0 (CW ss) (aT R)=aT R':=by
   rw[hR']
   exact MC _ 0 _ (fun j hj=>by rw[uo];exact hdone j (by simpa [CW,hlen'] using hj))
  have e2:gK (fun j=>L.getD j false) 0 (FT ops.toList ss) (bP G)=bP G':=by
   rw[hG']
   exact MC _ 0 _ (fun j hj=>by rw[uo];exact hdone j (by simp[FT,hlen'] at hj;exact hj))
  rw[e1] at m1 m2
  rw[e2] at m2
  exact hq E9 a w m0 m1 m2
 ·rintro L a w i o ⟨hL,hC,E9,m0,m1,m2⟩ hio hl pX
  obtain⟨s,vi,hs,hvi,hone,a9R⟩:=hat i o (by simpa using hio)
  have hi:i<ops.size:=(Aw.1 hio).1
  have hif:L.getD i false=false:=FZ hl
  have a5G:∀ j oj sj,j<i->ops[j]?=some oj->ss[j]?=some sj->clash ops oj o sj s=true->L.getD j false=true:=fun j oj sj hji hoj hsj hcl =>
   TW hn hC i o j hio hji ((DC ho hji hoj hio hsj hs).2 hcl) pX
  have a0o:∀ j oj sj,i<j->ops[j]?=some oj->ss[j]?=some sj->clash ops o oj s sj=true->L.getD j false=false:=fun j oj sj hij hoj hsj hcl=>by
   cases hjd:L.getD j false with
   | false=>rfl
   | true =>
    have:=TW hn hC j oj i hoj hij ((DC ho hij hio hoj hs hsj).2 hcl) (hC j oj hoj hjd)
    rw[this] at hif;cases hif
  have b5T:∀ q ∈ readsOf ops o,gK (fun j=>decide (j<i)) 0 (FT ops.toList ss) (bP G) q=gK (fun j=>L.getD j false) 0 (FT ops.toList ss) (bP G) q:=fun q hq=>BU _ 0 _ _ rfl (fun j u hu hr=>by
   obtain⟨oj,sj,h1,h2,rfl⟩:=a5P hu
   have hdj:=VJ hr
   have h1':ops[j]?=some oj:=by simpa using h1
   rw[uo]
   by_cases hji:j<i
   ·simp only[hji,decide_true]
    exact(a5G j oj sj hji h1' h2 (by simp[clash,a2k hdj hq])).symm
   ·simp only[hji,decide_false]
    by_cases e:j=i
    ·rw[e];exact hif.symm
    ·exact(a0o j oj sj (by omega) h1' h2 (by simp[clash,a2k hdj hq])).symm)
  have a9Q:∀ r ∈ s.touch,gK (fun j=>decide (j<i)) 0 (CW ss) (aT R) r=gK (fun j=>L.getD j false) 0 (CW ss) (aT R) r:=fun r hr=>BU _ 0 _ _ rfl (fun j u hu hr'=>by
   obtain⟨sj,h2,rfl⟩:=a5U hu
   have hjl:j<ops.size:=by rw[<-hlen'];exact(qg.1 h2).1
   have h1':ops[j]?=some ops[j]:=Am hjl
   rw[uo]
   by_cases hji:j<i
   ·simp only[hji,decide_true]
    exact(a5G j _ sj hji h1' h2 (a5s (ZO hr' hr))).symm
   ·simp only[hji,decide_false]
    by_cases e:j=i
    ·rw[e];exact hif.symm
    ·exact(a0o j _ sj (by omega) h1' h2 (b2B (ZO hr' hr))).symm)
  have b4V:xW B (gK (fun j=>L.getD j false) 0 (FT ops.toList ss) (bP G)) (gK (fun j=>L.getD j false) 0 (CW ss) (aT R)) ops o=some (vi,s.k,s.l):=by
   rw[<-hone]
   refine(a2D b5T (fun q hq r hr=>a9Q r ?_) (fun r hr=>a9Q r ?_)).symm
   ·rw[a9R];exact zf _ (zf _ (Au.2 ⟨q,hq,hr⟩))
   ·rw[a9R];exact zf _ (Bg _ (by rw[hr];simp))
  have a9M:gK (fun j=>(L.setIfInBounds i true).getD j false) 0 (CW ss) (aT R)=jI (gK (fun j=>L.getD j false) 0 (CW ss) (aT R)) s.l:=by
   refine IE _ 0 i _ (by unfold CW;rw[Af,hs];rfl) (by rw[uo];exact hif) (by rw[uo];exact wO hl) (fun j hj=>pW (by omega)) (fun r hr j v hv hij hr'=>?_)
   obtain⟨sj,h2,rfl⟩:=a5U hv
   have hjl:j<ops.size:=by rw[<-hlen'];exact(qg.1 h2).1
   have hjt:r ∈ sj.touch:=by
    obtain⟨sj',_,h3,_,_,h4⟩:=hat j ops[j] (by simp[hjl])
    rw[h2] at h3
    cases h3
    rw[h4];exact Bg _ hr'
   rw[uo]
   exact a0o j _ sj hij (Am hjl) h2 (a5s (ZO hr hjt))
  have b5Q:gK (fun j=>(L.setIfInBounds i true).getD j false) 0 (FT ops.toList ss) (bP G)=jI (gK (fun j=>L.getD j false) 0 (FT ops.toList ss) (bP G)) (a1g o.dst s.k):=by
   refine IE _ 0 i _ (by unfold FT;rw[List.getElem?_zipWith,hs];simp[hio]) (by rw[uo];exact hif) (by rw[uo];exact wO hl) (fun j hj=>pW (by omega)) (fun r hr j v hv hij hr'=>?_)
   obtain⟨oj,sj,h1,h2,rfl⟩:=a5P hv
   have h1':ops[j]?=some oj:=by simpa using h1
   have hd1:=VJ hr
   have hd2:=VJ hr'
   have:=(DC ho hij hio h1' hs h2).1
   simp[a0W,hd1,hd2] at this
  have hCl:PN ops (L.setIfInBounds i true):=by
   intro j oj hoj hj e he hb'
   have hset:∀ q,L.getD q false=true->(L.setIfInBounds i true).getD q false=true:=fun q hq=>by
    by_cases e1:i=q
    ·subst e1;rw[hif] at hq;cases hq
    ·rw[pW e1];exact hq
   by_cases e1:j=i
   ·subst e1
    rw[hio] at hoj
    cases hoj
    exact hset _ (pX e he hb')
   ·rw[pW (fun e2=>e1 e2.symm)] at hj
    exact hset _ (hC j oj hoj hj e he hb')
  unfold wpOp
  rw[hio]
  refine a2E hB b4V (hvi hv) m1 m2 (fun v w' E' n1 n2 n3 n4=>⟨by simpa using hL,hCl,E',n2.fix.trans m0,?_,?_⟩)
  ·rw[a9M,<-rU];exact n1
  ·rw[a9M,b5Q,<-rU];exact m2.put n2 (YD b4V) n3 n4
 ·have hnew:∀ j,(Array.replicate ops.size false).getD j false=false:=fun j=>JW _ j
  have e1:∀ {α:Type} (us:List (List (Nat × α))) (f:Nat->α),gK (fun j=>(Array.replicate ops.size false).getD j false) 0 us f=f:=fun us f=>by
   funext r
   exact EN us 0 f (fun j u _ _=>hnew _)
  rw[e1,e1]
  obtain⟨n1,n2⟩:=hM.grows (dn w.heap.size w).drew
  have hcl0:PN ops (Array.replicate ops.size false):=fun j o hj hj2=>by rw[hnew] at hj2;cases hj2
  exact⟨by simp,hcl0,E,rfl,n1,hf.size,hf.defers,fun s=>n2.wf _ (hf.wf s),fun s=>n2.holds _ _ (hf.wf s) (hf.holds s),hf.par⟩
end
end
end Go.Proofs.YtgplhbhfdgempaaGreat
