/-
  Lemmas for the theorem vtransforms_holds, part 3 of 39.
-/
import Derived.Deep.AppendLies
import Derived.Deep.RegionWith
import Derived.OrdersIn
import Derived.Test.YtgplhbhfdgempaaGreatTr02
namespace Go.Proofs.YtgplhbhfdgempaaGreat
open Go Go.RowKit
theorem Cc:type_of% @List.take_append_drop:=@List.take_append_drop
theorem Ac:type_of% @List.ext_getElem:=@List.ext_getElem
theorem jw:type_of% @Array.getD_eq_getD_getElem?:=@Array.getD_eq_getD_getElem?
theorem ak:type_of% @Bool.and_eq_true:=@Bool.and_eq_true
theorem ny:type_of% @Bool.not_eq_true':=@Bool.not_eq_true'
theorem uy:type_of% @List.mem_range:=@List.mem_range
theorem Am:type_of% @Array.getElem?_eq_getElem:=@Array.getElem?_eq_getElem
theorem xk:type_of% @List.all_eq_true:=@List.all_eq_true
theorem ay:type_of% @decide_eq_true_eq:=@decide_eq_true_eq
theorem jk:type_of% @List.mem_cons_self:=@List.mem_cons_self
theorem jq:type_of% @Nat.mul_le_mul_right:=@Nat.mul_le_mul_right
theorem Bz:type_of% @Int.tmod_eq_emod_of_nonneg:=@Int.tmod_eq_emod_of_nonneg
theorem xg:type_of% @Int.le_refl:=@Int.le_refl
section
open Go.RowKit Go.Shelf
set_option maxRecDepth 100000
set_option maxHeartbeats 2000000
set_option linter.unusedSimpArgs false
set_option linter.unusedVariables false
attribute [local go_sem] Oper.semAt_some
def dV (x y:Int):Int:=if x<y then -1 else if y<x then 1 else 0
theorem RG (x y:Int) (w:World) :
  Calls Tryz.prog 164 #[.int .i64 x,.int .i64 y] w fun e w'=>e=.returned (.int .i64 (dV x y))/\w=w':=by
 by_cases h1:x<y
 ·have HV:Hid (dV x y=-1):=by unfold Hid dV;rw[gy h1]
  go_enter Tryz.func164,Tryz.ntmps164
  go_wp2
  go_ret
  exact⟨iR HV.out.symm,rfl⟩
 ·by_cases h2:y<x
  ·have HV:Hid (dV x y=1):=by unfold Hid dV;rw[ig h1,gy h2]
   go_enter Tryz.func164,Tryz.ntmps164
   go_wp2
   go_ret
   exact⟨iR HV.out.symm,rfl⟩
  ·have HV:Hid (dV x y=0):=by unfold Hid dV;rw[ig h1,ig h2]
   go_enter Tryz.func164,Tryz.ntmps164
   go_wp2
   go_ret
   exact⟨iR HV.out.symm,rfl⟩
theorem a3L (x y:Nat) (w:World) :
  Calls Tryz.prog 183 #[.int .u32 (x:Nat),.int .u32 (y:Nat)] w fun e w'=>e=.returned (.int .i64 (dV x y))/\w=w':=by
 by_cases h1:x<y
 ·have HV:Hid (dV x y=-1):=by unfold Hid dV;rw[gy (by omega)]
  go_enter Tryz.func183,Tryz.ntmps183
  go_wp2
  go_ret
  exact⟨iR HV.out.symm,rfl⟩
 ·by_cases h2:y<x
  ·have HV:Hid (dV x y=1):=by unfold Hid dV;rw[ig (by omega),gy (by omega)]
   go_enter Tryz.func183,Tryz.ntmps183
   go_wp2
   go_ret
   exact⟨iR HV.out.symm,rfl⟩
  ·have HV:Hid (dV x y=0):=by unfold Hid dV;rw[ig (by omega),ig (by omega)]
   go_enter Tryz.func183,Tryz.ntmps183
   go_wp2
   go_ret
   exact⟨iR HV.out.symm,rfl⟩
theorem JH {a b:List Nat} (ha:Canon a) (hb:Canon b) (h:a.length<b.length):val a<val b:=by
 rcases Bl (val a) (val b) with h1|h1
 ·exact h1
 ·have:=aN h1
  rw[fE ha,fE hb] at this
  omega
theorem yC (l:List Nat) (i:Nat):val l=val (l.take i)+BB ^ i*(gr l i+BB*val (l.drop (i+1))):=by
 by_cases h:i<l.length
 ·conv=>lhs;rw[<-Cc i l]
  rw[val_append,jm,yw (by omega),Bc h,dH,qQ h]
 ·rw[wP (by omega),jd (by omega),List.drop_eq_nil_of_le (by omega)]
  simp
theorem FK {a b:List Nat} {i:Nat} (ha:Low a) (hd:val (a.drop (i+1))=val (b.drop (i+1))) (h:gr a i<gr b i):val a<val b:=by
 rw[yC a i,yC b i,hd]
 have h1:val (a.take i)<BB ^ i:=by
  have:=qH (ha.take i)
  exact ku this (wz jL (by rw[jm];omega))
 have h2:BB ^ i*(gr a i+BB*val (b.drop (i+1))+1)<=BB ^ i*(gr b i+BB*val (b.drop (i+1))):=Az _ (by omega)
 rw[Nat.mul_add _ _ 1] at h2
 omega
theorem wI {a b:List Nat} {i:Nat} (hl:a.length=b.length) (h:∀ j,i<=j->gr a j=gr b j):a.drop i=b.drop i:=by
 apply Ac
 ·simp[hl]
 ·intro j h1 h2
  simp at h1 h2
  have:=h (i+j) (by omega)
  rw[qQ (by omega),qQ (by omega)] at this
  simpa using this
theorem a3M (s t:Value) (a b:List Nat) (w:World) (hs:Rd w s a) (ht:Rd w t b) (ha:Canon a) (hb:Canon b) (hne:a.length≠b.length) :
  Calls Tryz.prog 165 #[s,t] w fun e w'=>e=.returned (.int .i64 (dV (val a) (val b)))/\Below w.heap.size w w':=by
 obtain⟨p,c,rfl,_,_⟩:=hs.form
 obtain⟨q,d,rfl,_,_⟩:=ht.form
 have HV:Hid (dV a.length b.length=dV (val a) (val b)):=by
  unfold Hid dV
  rcases Bl a.length b.length with h|h
  ·have:=JH ha hb h
   rw[gy (by omega),gy (by omega)]
  ·have:=JH hb ha (by omega)
   rw[ig (by omega),gy (by omega),ig (by omega),gy (by omega)]
 have hd:((a.length:Int) != b.length)=true:=by simp;omega
 clear ha hb
 have HNE:=bn hne
 clear hne
 go_enter Tryz.func165,Tryz.ntmps165
 go_wp2_with (go_at_call 164;refine(RG _ _ _).mono ?_;rintro e w' ⟨rfl,rfl⟩)
 refine jh (v:=.int .i64 (dV a.length b.length)) (by simp[results,Tryz.results165,go_sem]) rfl ⟨iR HV.out,?_⟩
 exact((dn _ _).alloc (aj _) _).alloc (by simp) _
theorem VR (a b:List Nat) (p q:Option Addr) (c d:Nat) (w:World) (hI:Rd w (.slice p a.length c) a) (ht:Rd w (.slice q a.length d) b) (ha:Low a) (hb:Low b) (hlen:a.length=b.length) :
  CallsIn Fence.wide 3 Tryz.prog 165 #[.slice p a.length c,.slice q a.length d] w fun e W'=>e=.returned (.int .i64 (dV (val a) (val b)))/\Below w.heap.size w W':=by
 have hro:Fence.wide.round=none:=rfl
 refine callsIn_of_wp_marks Tryz.func165 rfl trivial ?_ hro
 simp only[Tryz.ntmps165,Df,List.length_cons,List.length_nil,Nat.reduceAdd,Nat.reduceSub,Dq,Array.replicate_zero,List.push_toArray,Dz,List.nil_append,List.cons_append]
 have HLEN:=bn hlen
 clear hlen
 gi_wp2_with (refine⟨trivial,?_⟩;gi_at_call 182;refine(BI Fence.wide 2 trivial hro _ _ _ _).mono ?_;rintro e w' ⟨rfl,rfl⟩)
 have bB:=Boxed.new w 60 (.slice q a.length d)
 have bR:=Boxed.new (w.alloc (.cells #[.slice q a.length d] 60)) 3 (.int .i64 0)
 have bS:=Boxed.new ((w.alloc (.cells #[.slice q a.length d] 60)).alloc (.cells #[.int .i64 0] 3)) 60 (.slice p a.length c)
 rw[Bj] at bR
 rw[Bj,Bj] at bS
 have hB0:Below w.heap.size w (((w.alloc (.cells #[.slice q a.length d] 60)).alloc (.cells #[.int .i64 0] 3)).alloc (.cells #[.slice p a.length c] 60)):=(((dn _ w).alloc (aj _) _).alloc (by simp) _).alloc (by simp;omega) _
 refine wpIn_rangeFunc_ownG (n:=3) (α:=Fin a.length) hro (by omega) (gf:=189) (lb:=#[.pointer (some ⟨w.heap.size+2,0,none⟩)]) rfl trivial (enters_of Tryz.func189 (by kernel_rfl) rfl)
  (GR Fence.wide 2 trivial hro (by omega) (w.heap.size+2) w.heap.size _ a _ (by simp) (by simp;omega) bS.cell (hI.b.below hB0)) (fun h k=>KB.trans h k) (KB.b (by simp;omega) (by simp)) (dn _ _) (fun _=>rfl)
  (fun(pre:List (Fin a.length)) W=>((∀ x ∈ pre,gr a x.1=gr b x.1)/\W.cell? ⟨w.heap.size,0,none⟩=some (.slice q a.length d)/\W.cell? ⟨w.heap.size+1,0,none⟩=some (.int .i64 0)/\W.frozen? ⟨w.heap.size+1,0,none⟩=false)/\Below w.heap.size w W)
  (fun cd (pre:List (Fin a.length)) W=>(cd=.ret/\∃ (ini:List (Fin a.length)) (x:Fin a.length),pre=ini++[x]/\(∀ y ∈ ini,gr a y.1=gr b y.1)/\gr a x.1≠gr b x.1/\W.cell? ⟨w.heap.size+1,0,none⟩=some (.int .i64 (dV (gr a x.1) (gr b x.1))))/\Below w.heap.size w W)
  (OwnFrom.and (Own.from (fun s A B row hs hg hr=>⟨hs.1,cell_kept hs.2.1 hg hr,cell_kept hs.2.2.1 hg hr,(frozen_kept hs.2.2.1 hg hr).trans hs.2.2.2⟩) _) (ownFrom_below (aj _) (by simp;omega)))
  (fun c=>OwnFrom.and (Own.from (fun s A B row hs hg hr=>by obtain⟨hc,ini,x,e1,e2,e3,e4⟩:=hs;exact⟨hc,ini,x,e1,e2,e3,cell_kept e4 hg hr⟩) _) (ownFrom_below (aj _) (by simp;omega)))
  ⟨⟨by simp,((bB.alloc _).alloc _).cell,(bR.alloc _).cell,(bR.alloc _).frozen⟩,hB0⟩
  (fun(x:Fin a.length)=>{ tmps:=#[.slice p a.length c,.slice q a.length d,undef,.pointer (some ⟨w.heap.size,0,none⟩),.pointer (some ⟨w.heap.size+1,0,none⟩),.int .i64 (x.1:Nat),.int .u32 (gr a x.1:Nat),.slice p a.length c,.int .i64 (a.length:Nat),.slice q a.length d,.int .i64 (a.length:Nat),.bool false,undef,undef,undef,undef,undef,.slice p a.length c,.func (.func 189) #[] #[.pointer (some ⟨w.heap.size+2,0,none⟩)],.int .i64 (x.1:Nat),.int .u32 (gr a x.1:Nat),undef,undef,undef,undef,undef,undef,undef,undef,undef,undef,undef,undef],defers:=[] }) ?assign ?body ?done ?stop
 case assign =>
  intro l x W K hK
  gi_wp2
  exact hK
 case body =>
  rintro lo pre x W ⟨⟨hall,hcb,hcr,hfr⟩,hB⟩ _
  have hne:b≠[]:=by
   have h1:=HLEN.out
   have h2:=x.2
   intro e
   rw[e] at h1
   simp at h1
   simp[h1] at h2
  obtain⟨bb,ob,rfl,hbb,hcells⟩:=ht.at hne
  have hxl:=x.2
  have hcx:W.cell? ⟨bb,ob+x.1,none⟩=some (.int .u32 (gr b x.1:Nat)):=(hB.cell (p:=⟨bb,ob+x.1,none⟩) hbb).trans (hcells x.1 (by have:=HLEN.out;omega))
  have a6S:=bn hall
  clear hall hcells
  by_cases hx:gr a x.1=gr b x.1
  ·have hd:((gr a x.1:Int) != gr b x.1)=false:=by simp[hx]
   have HX:=bn hx
   clear hx
   gi_wp2
   exact⟨KeepsFrom.refl _ _,KB.refl _ _ _,⟨fun y hy=>(uq.1 hy).elim (a6S.out y) (fun e=>by simp at e;subst e;exact HX.out),hcb,hcr,hfr⟩,hB⟩
  ·have hd:((gr a x.1:Int) != gr b x.1)=true:=by simp;omega
   have HX:=bn hx
   clear hx
   gi_wp2_with fail
   refine⟨trivial,?_⟩
   refine(CallsIn.inRound lo (callsIn_wide.2 (a3L _ _ _))).mono ?_
   rintro e w' ⟨rfl,rfl⟩
   gi_wp2
   exact⟨(Ea _ _ _).from _,⟨rfl,pre,x,rfl,a6S.out,HX.out,Dt _ _ _ (by rw[hcr];rfl)⟩,hB.setCell (p:=⟨w.heap.size+1,0,none⟩) (by simp) _⟩
 case done =>
  rintro D ys W hD ⟨hbk,hyl⟩ ⟨⟨hall,_,hcr,hfr⟩,hB⟩ hK
  have a6S:=bn hall
  clear hall
  gi_wp2
  have hK':=(Ea W ⟨w.heap.size+1,0,none⟩ (.int .i64 0)).same D _ hK rfl
  refine⟨by simp,.inl ⟨_,_,rfl,run_takeDeferred hK',?_⟩⟩
  have hc5:=cell_kept (Dt W ⟨w.heap.size+1,0,none⟩ (.int .i64 0) (by rw[hcr];rfl)) (grownBy_putObj' _ D (.deferred none)) (fun r e=>by cases e;exact⟨_,hK',rfl⟩)
  refine⟨.int .i64 0,?_,iR ?_,(hB.setCell (p:=⟨w.heap.size+1,0,none⟩) (by simp) _).trans (belowK_b (w:=w) (aj _) _ D _ _ (by simp at hD;omega) hK' rfl rfl)⟩
  ·simp[results,Tryz.results165,go_sem,hc5]
  ·have hab:a=b:=by
    have:=wI (i:=0) HLEN.out (fun j _=>?_)
    ·simpa using this
    ·by_cases hj:j<a.length
     ·have hm:(⟨a.length-1-(a.length-1-j),by omega⟩:Fin a.length) ∈ ys:=by
       have h1:a.length-1-j<ys.length:=by omega
       have h2:=hbk (a.length-1-j) ys[a.length-1-j] (dw h1)
       have h3:ys[a.length-1-j]=⟨a.length-1-(a.length-1-j),by omega⟩:=Fin.ext h2
       rw[<-h3];exact oh h1
      have:=a6S.out _ hm
      simp only at this
      rwa [show a.length-1-(a.length-1-j)=j from by omega] at this
     ·rw[wP (by omega),wP (by have:=HLEN.out;omega)]
   rw[hab];unfold dV;simp
 case stop =>
  rintro D cd pre W hD ⟨hbk,hpl⟩ ⟨⟨rfl,ini,x,rfl,e2,e3,hcr⟩,hB⟩ hK
  have HX:=bn e3
  have a6S:=bn e2
  clear e3 e2
  gi_wp2
  refine⟨by simp,.inl ⟨_,_,rfl,run_takeDeferred hK,?_⟩⟩
  have hc5:=cell_kept hcr (grownBy_putObj' _ D (.deferred none)) (fun r e=>by cases e;exact⟨_,hK,rfl⟩)
  refine⟨.int .i64 (dV (gr a x.1) (gr b x.1)),?_,iR ?_,hB.trans (belowK_b (w:=w) (aj _) W D _ _ (by simp at hD;omega) hK rfl rfl)⟩
  ·simp[results,Tryz.results165,go_sem,hc5]
  ·have hx:x.1=a.length-1-ini.length:=hbk ini.length x (by simp)
   have hil:ini.length<a.length:=by simp at hpl;omega
   have hdr:a.drop (x.1+1)=b.drop (x.1+1):=by
    refine wI HLEN.out (fun j hj=>?_)
    by_cases hj2:j<a.length
    ·have h1:a.length-1-j<ini.length:=by omega
     have h2:=hbk (a.length-1-j) ini[a.length-1-j] (by rw[Ak h1];exact dw h1)
     have h4:=a6S.out _ (oh h1)
     rw[h2] at h4
     rwa [show a.length-1-(a.length-1-j)=j from by omega] at h4
    ·rw[wP (by omega),wP (by have:=HLEN.out;omega)]
   have hne:=HX.out
   unfold dV
   rcases Bl (gr a x.1) (gr b x.1) with h|h
   ·have:=FK ha (by rw[hdr]) h
    rw[gy (by omega),gy (by omega)]
   ·have:=FK (i:=x.1) hb (by rw[hdr]) (show gr b x.1<gr a x.1 by omega)
    rw[ig (by omega),gy (by omega),ig (by omega),gy (by omega)]
theorem mG (s t:Value) (a b:List Nat) (w:World) (hs:Rd w s a) (ht:Rd w t b) (ha:Canon a) (hb:Canon b) :
  Calls Tryz.prog 165 #[s,t] w fun e w'=>e=.returned (.int .i64 (dV (val a) (val b)))/\Below w.heap.size w w':=by
 by_cases h:a.length=b.length
 ·obtain⟨p,c,rfl,_,_⟩:=hs.form
  obtain⟨q,d,rfl,_,_⟩:=ht.form
  rw[<-h] at ht ⊢
  exact callsIn_wide.1 (VR a b p q c d w hs ht ha.1 hb.1 h)
 ·exact a3M s t a b w hs ht ha hb h
end
set_option linter.unusedVariables false
def JB (L:Array Bool):Nat:=(L.toList.filter (! ·)).length
theorem zT {L:Array Bool} {i:Nat} (hi:L.getD i true=false):JB (L.setIfInBounds i true)+1=JB L:=by
 unfold JB
 rw[Array.toList_setIfInBounds]
 have h:L.toList[i]?=some false:=by
  rw[Array.getElem?_toList]
  rw[jw] at hi
  cases he:L[i]? with
  | none=>rw[he] at hi;simp at hi
  | some b=>rw[he] at hi;simp at hi;rw[hi]
 generalize L.toList=l at *
 clear hi
 induction l generalizing i with
 | nil=>simp at h
 | cons b l ih =>
  cases i with
  | zero=>simp at h;subst h;simp
  | succ i =>
   simp at h
   have:=ih h
   rw[List.set_cons_succ]
   cases b<;>simp at this ⊢<;>omega
def tY (md:Region.Mode) (ops:Array Oper):Bool:=ops.toList.zipIdx.all fun(o,i)=>o.after.all fun e=>!Region.binds md e || decide (e.on<i)
theorem FB {md:Region.Mode} {ops:Array Oper} {L:Array Bool} {i:Nat} (h:i ∈ Region.ready md ops L) :
  ∃ o,ops[i]?=some o/\L.getD i true=false/\∀ e ∈ o.after,Region.binds md e=true->L.getD e.on false=true:=by
 unfold Region.ready at h
 rw[List.mem_filter] at h
 obtain⟨h1,h2⟩:=h
 cases ho:ops[i]? with
 | none=>rw[ho] at h2;simp at h2
 | some o =>
  rw[ho] at h2
  simp only[Option.map_some,Option.getD_some,ak,ny] at h2
  refine⟨o,rfl,h2.1,fun e he hb=>?_⟩
  have:=Array.all_eq_true_iff_forall_mem.1 h2.2 e he
  simpa [hb] using this
theorem pK {md:Region.Mode} {ops:Array Oper} {L:Array Bool} (hd:tY md ops=true) (h:Region.ready md ops L=[]):∀ i,i<ops.size->L.getD i true=true:=by
 intro i
 induction i using Nat.strongRecOn with
 | _ i ih =>
  intro hi
  cases hl:L.getD i true with
  | true=>rfl
  | false =>
   exfalso
   have hm:i ∈ Region.ready md ops L:=by
    unfold Region.ready
    rw[List.mem_filter]
    refine⟨uy.2 hi,?_⟩
    have ho:ops[i]?=some ops[i]:=Am hi
    rw[hl,ho]
    simp only[Bool.not_false,Option.map_some,Option.getD_some,Bool.true_and]
    rw[Array.all_eq_true_iff_forall_mem]
    intro e he
    unfold tY at hd
    rw[xk] at hd
    have h1:=hd (ops[i],i) (by rw[List.mem_zipIdx_iff_getElem?];simp)
    have h2:=Array.all_eq_true_iff_forall_mem.1 h1 e he
    cases hb:Region.binds md e with
    | false=>simp
    | true =>
     simp only[hb,Bool.not_true,Bool.false_or,ay] at h2 ⊢
     have h3:=ih e.on h2 (by omega)
     rw[jw] at h3 ⊢
     have:e.on<L.size:=by
      rcases Bl e.on L.size with h4|h4
      ·exact h4
      ·exfalso
       rw[jw,Array.getElem?_eq_none (by omega)] at hl
       simp at hl
     rw[Am this] at h3 ⊢
     simpa using h3
   rw[h] at hm
   simp at hm
theorem a3x {F:Fence} {n:Nat} {P:Program} {md:Region.Mode} {ops:Array Oper} {Q:Exit->Act->World->Prop} (I:Array Bool->Act->World->Prop) (hd:tY md ops=true)
  (hend:∀ L a w,I L a w->(∀ i,i<ops.size->L.getD i true=true)->Q .normal a w)
  (hstep:∀ L a w i o,I L a w->ops[i]?=some o->L.getD i true=false->(∀ e ∈ o.after,Region.binds md e=true->L.getD e.on false=true)->wpOpIn F n P ops Q i (I (L.setIfInBounds i true)) a w) :
  ∀ fuel L a w,JB L<=fuel->I L a w->wpAnyIn F n P md ops Q fuel L a w:=by
 intro fuel
 induction fuel with
 | zero =>
  intro L a w hu hI
  have hn:Region.ready md ops L=[]:=by
   cases hr:Region.ready md ops L with
   | nil=>rfl
   | cons i r =>
    exfalso
    obtain⟨o,_,h2,_⟩:=FB (by rw[hr];exact jk)
    have:=zT h2
    omega
  exact⟨hn,hend L a w hI (pK hd hn)⟩
 | succ fuel ih =>
  intro L a w hu hI
  refine⟨fun hn=>hend L a w hI (pK hd hn),fun i hi=>?_⟩
  obtain⟨o,h1,h2,h3⟩:=FB hi
  refine wpOpIn_mono (fun a' w' h'=>ih _ _ _ ?_ h') (hstep L a w i o hI h1 h2 h3)
  have:=zT h2
  omega
theorem VI (n:Nat):JB (Array.replicate n false)=n:=by simp[JB]
theorem wO {L:Array Bool} {i:Nat} (h:L.getD i true=false):(L.setIfInBounds i true).getD i false=true:=by
 have hi:i<L.size:=by
  rcases Bl i L.size with h1|h1
  ·exact h1
  ·rw[jw,Array.getElem?_eq_none (by omega)] at h;simp at h
 rw[jw,Array.getElem?_setIfInBounds_self_of_lt hi];rfl
theorem pW {L:Array Bool} {i j:Nat} (h:i≠j):(L.setIfInBounds i true).getD j false=L.getD j false:=by
 rw[jw,Array.getElem?_setIfInBounds_ne h,<-jw]
theorem JW (n j:Nat):(Array.replicate n false).getD j false=false:=by
 rw[jw,Array.getElem?_replicate]
 split<;>rfl
theorem FZ {L:Array Bool} {i:Nat} (h:L.getD i true=false):L.getD i false=false:=by
 rw[jw] at *
 cases hl:L[i]? with
 | none=>rfl
 | some b=>rw[hl] at h;simpa using h
theorem yP {L:Array Bool} {i n:Nat} (hn:L.size=n) (hi:i<n) (h:L.getD i true=true):L.getD i false=true:=by
 rw[jw] at *
 have:i<L.size:=by omega
 rw[Am this] at *
 simpa using h
theorem wpList_append_lies {P:Program} {w:World} {ops:Array Oper} {rest:List Oper} {o:Oper} {a:Act} {Q:Exit->Act->World->Prop} (hgd:o.guard=none) (s x:Operand) (t:TypeId)
  (ho:o.op=.call { callee:=.builtin .append,args:=#[s,x],argTypes:=#[t,t] })
  (base:Nat) (e:TypeId) (i:TypeInfo) (z:Value) (size bytes:Nat) (ht:P.underlying t=some (.slice e)) (hi:P.info? e=some i) (hz:i.zero=some z)
  (hsize:i.size=size) (hby:i.bytes=bytes) (hzs:z.cells.size=size) (hsz:0<size)
  (v:Value) (n:Nat) (xs:List Value) (hs:a.eval s=v) (hown:w.ownsRow base e size v n xs)
  (ad:Addr) (m c:Nat) (news:List Value) (hx:a.eval x=.slice (some ad) m c) (hl:news.length=m*size) (hnews:∀ j u,news[j]?=some u->w.cell? (ad.add j)=some u) (h1:∀ u ∈ news,u.oneCell'=true)
  (hm:0<m) (h63:n+m<=maxLen) (hbytes:(n+m)*bytes<=140737488355328) (hbase:base<=w.heap.size)
  (h:∀ g cap w',w'.ownsRow base e size (.slice (some ⟨g,0,none⟩) (n+m) cap) (n+m) (xs++news)->w.grownBy w' v.ownBlock->(v.ownBlock=some g\/g=w.heap.size)->g<w'.heap.size->wpList P ops Q rest (a.put o.dst (.slice (some ⟨g,0,none⟩) (n+m) cap)) w') :
  wpList P ops Q (o::rest) a w :=
 wpList_plain hgd fun K hK=>wp_append_lies w s x t ho base e i z size bytes ht hi hz hsize hby hzs hsz v n xs hs hown ad m c news hx hl hnews h1 hm h63 hbytes hbase w.heap.size rfl
  fun g cap w' a1 a2 a3 a4=>hK _ _ (h g cap w' a1 a2 a3 a4)
theorem uD {w:World} {base base':Nat} {e:TypeId} {size:Nat} {v:Value} {n:Nat} {xs:List Value} (h:w.ownsRow base e size v n xs) (hb:base'<=base):w.ownsRow base' e size v n xs:=by
 obtain⟨h1,h2⟩:=h
 refine⟨h1,?_⟩
 rcases h2 with h2|⟨g,cap,cur,hv,hg,r⟩
 ·exact .inl h2
 ·exact .inr ⟨g,cap,cur,hv,by omega,r⟩
theorem a4o {w w':World} {base B:Nat} {e:TypeId} {size:Nat} {v:Value} {n:Nat} {xs:List Value} (h:w.ownsRow base e size v n xs) (hb:RowKit.Below B w w') (hB:∀ g,v.ownBlock=some g->g<B):w'.ownsRow base e size v n xs:=by
 obtain⟨h1,h2⟩:=h
 refine⟨h1,?_⟩
 rcases h2 with h2|⟨g,cap,cur,hv,hg,hh,r⟩
 ·exact .inl h2
 ·exact .inr ⟨g,cap,cur,hv,hg,by rw[hb.block g (hB g (by rw[hv];rfl))];exact hh,r⟩
theorem kM {w w':World} {base:Nat} {e:TypeId} {size:Nat} {v:Value} {n:Nat} {xs:List Value} (h:w.ownsRow base e size v n xs) (hb:RowKit.Below w.heap.size w w'):w'.ownsRow base e size v n xs :=
 a4o h hb fun g hg=>(h.lt g hg).2
theorem NC {w:World} {base:Nat} {e:TypeId} {size:Nat} {v:Value} {n:Nat} {xs:List Value} (h:w.ownsRow base e size v n xs) (hn:n≠0):∃ g cap,v=.slice (some ⟨g,0,none⟩) n cap/\base<=g/\g<w.heap.size/\n<=cap:=by
 rcases h.2 with⟨_,h0⟩|⟨g,cap,cur,hv,hg,hh,hc,_⟩
 ·exact absurd h0 hn
 ·exact⟨g,cap,hv,hg,(Aw.1 hh).1,hc⟩
theorem qE {w:World} {base:Nat} {e:TypeId} {size:Nat} {v:Value} {n:Nat} {xs:List Value} (h:w.ownsRow base e size v n xs) {a:Addr} (ha:v.ownBlock≠some a.block) (u:Value):(w.setCell a u).ownsRow base e size v n xs :=
 h.kept (row:=some a.block) ⟨rfl,rfl,rfl,by simp[World.setCell],fun k hk hne=>RowKit.Below.heap_setCell _ _ _ _ (by intro e;exact hne (by rw[e]))⟩ (.inr ha)
section
open Go.RowKit Go.Shelf
set_option maxRecDepth 100000
set_option maxHeartbeats 2000000
set_option linter.unusedSimpArgs false
attribute [local go_sem] Oper.semAt_some
def shf (a:List Nat) (d:Nat) (pre:List (Fin a.length)):List Nat × Nat :=
 pre.foldl (fun s x=>(s.1.set x.1 ((s.2*BB+gr a x.1) / d),(s.2*BB+gr a x.1)%d)) (List.replicate a.length 0,0)
theorem UZ (a:List Nat) (d:Nat) (pre:List (Fin a.length)) (x:Fin a.length) :
 shf a d (pre++[x])=((shf a d pre).1.set x.1 (((shf a d pre).2*BB+gr a x.1) / d),((shf a d pre).2*BB+gr a x.1)%d):=by simp[shf]
theorem a6F {α:Type} {pre:List α} {n:Nat} (h:pre.length=n+1):∃ q x,pre=q++[x] :=
 ⟨pre.dropLast,pre.getLast (by intro e;subst e;simp at h),(List.dropLast_concat_getLast _).symm⟩
theorem a4P {a:List Nat} {d:Nat} (hd:1<=d) (hd2:d<=999999999) (ha:Low a) (pre:List (Fin a.length)):(shf a d pre).1.length=a.length/\(shf a d pre).2<=999999998/\(shf a d pre).2<d:=by
 suffices ∀ n (pre:List (Fin a.length)),pre.length=n->(shf a d pre).1.length=a.length/\(shf a d pre).2<=999999998/\(shf a d pre).2<d from this _ pre rfl
 intro n
 induction n with
 | zero=>intro pre h;rw[ou h];simp[shf];omega
 | succ n ih =>
  intro pre h
  obtain⟨q,x,rfl⟩:=a6F h
  have h1:=ih q (by simp at h;exact h)
  rw[UZ]
  have h2:=yg ((shf a d q).2*BB+gr a x.1) (show 0<d by omega)
  exact⟨by simpa using h1.1,by simp only;omega,h2⟩
theorem jM.init {n:Nat} {q:List (Fin n)} {x:Fin n} (h:jM n (q++[x])):jM n q/\x.1=n-1-q.length :=
 ⟨fun j y hj=>h j y (by rw[Ak (qg.1 hj).1];exact hj),h q.length x (by simp)⟩
theorem b1A {a:List Nat} {d:Nat} (hd:1<=d) (hd2:d<=999999999) (ha:Low a) {pre:List (Fin a.length)} (hb:jM a.length pre) (hle:pre.length<=a.length) :
  (shf a d pre).2=val (a.drop (a.length-pre.length))%d/\val ((shf a d pre).1.drop (a.length-pre.length))=val (a.drop (a.length-pre.length)) / d/\Low (shf a d pre).1:=by
 suffices ∀ n (pre:List (Fin a.length)),pre.length=n->jM a.length pre->pre.length<=a.length->(shf a d pre).2=val (a.drop (a.length-pre.length))%d/\val ((shf a d pre).1.drop (a.length-pre.length))=val (a.drop (a.length-pre.length)) / d/\Low (shf a d pre).1 from this _ pre rfl hb hle
 intro n
 induction n with
 | zero =>
  intro pre h _ _
  rw[ou h]
  simp[shf,List.drop_replicate]
  exact fun g hg=>by rw[(List.mem_replicate.1 hg).2];exact jL
 | succ n ih =>
  intro pre h hb hle
  obtain⟨q,x,rfl⟩:=a6F h
  simp only[iw,List.length_singleton] at h hle ⊢
  obtain⟨hbq,hx⟩:=hb.init
  obtain⟨h1,h2,h3⟩:=ih q (by omega) hbq (by omega)
  obtain⟨b1,b2,b3⟩:=a4P hd hd2 ha q
  have hg:=iJ ha x.1
  rw[UZ]
  obtain⟨m,hm⟩:∃ m,a.length-(q.length+1)=m:=⟨_,rfl⟩
  have em:a.length-q.length=m+1:=by omega
  have ex:x.1=m:=by omega
  rw[em] at h1 h2
  rw[hm,ex]
  have hml:m<a.length:=by omega
  have e1:val (a.drop m)=gr a m+BB*val (a.drop (m+1)):=by rw[Bc hml,dH,qQ hml]
  generalize val (a.drop (m+1))=V at *
  rw[ex] at hg
  generalize gr a m=g at *
  have e2:(shf a d q).2*BB+g<d*BB:=by
   rw[dG]
   have:((shf a d q).2+1)*1000000000<=d*1000000000:=jq _ b3
   omega
  have hq:val (((shf a d q).1.set m (((shf a d q).2*BB+g) / d)).drop m)=((shf a d q).2*BB+g) / d+BB*(V / d):=by
   rw[Bc (by simp;omega),dH,List.getElem_set_self,List.drop_set_of_lt (by omega),h2]
  have hdm:=Nat.mod_add_div V d
  have hV:g+BB*V=((shf a d q).2*BB+g)+d*(BB*(V / d)):=by
   rw[h1]
   generalize V / d=t at *
   generalize V%d=r at *
   rw[<-hdm]
   grind
  refine⟨?_,?_,?_⟩
  ·rw[e1,hV,Nat.add_mul_mod_self_left]
  ·rw[hq,e1,hV,Nat.add_mul_div_left _ _ (by omega)]
  ·refine low_set h3 ?_
   have:=(Nat.div_lt_iff_lt_mul (show 0<d by omega)).2 (by rw[wu];exact e2)
   rw[dG] at this
   rw[dG];exact this
theorem b4j {a:List Nat} {d:Nat} (hd:1<=d) (hd2:d<=999999999) (ha:Low a) {pre:List (Fin a.length)} (hb:jM a.length pre) (hle:pre.length=a.length) :
  (shf a d pre).2=val a%d/\val (shf a d pre).1=val a / d/\Low (shf a d pre).1:=by
 have:=b1A hd hd2 ha hb (by omega)
 rw[hle] at this
 simpa using this
theorem b3T {n d v:Nat} (hd:1<=d) (hn:n<=999999998999999999) (hv:(n:Int) / d=v) (hw:IntKind.u64.wrap (v:Int)=v) (w:World):Sem.run Tryz.prog (binOp .quo 132 (.int .u64 (n:Nat)) (.int .u64 (d:Nat))) w=.ok (.int .u64 (v:Nat)) w:=by
 have hdz:((d:Int)==0)=false:=by simp;omega
 have hdn:¬ d=0:=by omega
 simp[go_sem, *]
theorem b3Y {n d v:Nat} (hd:1<=d) (hn:n<=999999998999999999) (hv:(n:Int)%d=v) (hw:IntKind.u64.wrap (v:Int)=v) (w:World):Sem.run Tryz.prog (binOp .rem 132 (.int .u64 (n:Nat)) (.int .u64 (d:Nat))) w=.ok (.int .u64 (v:Nat)) w:=by
 rw[<-Bz (by omega)] at hv
 have hdz:((d:Int)==0)=false:=by simp;omega
 have hdn:¬ d=0:=by omega
 simp[go_sem, *]
structure a5j (a:List Nat) (d:Nat) (B:Nat) (pre:List (Fin a.length)) (W:World):Prop where
 dv:W.cell? ⟨B,0,none⟩=some (.int .u32 (d:Nat))
 qv:W.cell? ⟨B+1,0,none⟩=some (.slice (some ⟨B+1+1,0,none⟩) a.length a.length)
 qf:W.frozen? ⟨B+1,0,none⟩=false
 rv:W.cell? ⟨B+1+1+1,0,none⟩=some (.int .u64 ((shf a d pre).2:Nat))
 rf:W.frozen? ⟨B+1+1+1,0,none⟩=false
 row:W.ownsRow B 133 1 (.slice (some ⟨B+1+1,0,none⟩) a.length a.length) a.length (cells32 (shf a d pre).1)
theorem a5j.own (a:List Nat) (d B:Nat):Own (fun(pre:List (Fin a.length)) W=>a5j a d B pre W):=fun s A W row hs hg hr =>
 ⟨cell_kept hs.dv hg hr,cell_kept hs.qv hg hr,(frozen_kept hs.qv hg hr).trans hs.qf,cell_kept hs.rv hg hr,(frozen_kept hs.rv hg hr).trans hs.rf,
  hs.row.kept hg (.inr (fun e=>by
   obtain⟨o,ho,hc⟩:=hr (B+1+1) (by rw[<-e];rfl)
   rcases hs.row.2 with⟨h,_⟩|⟨g,cap,cur,h,_,hh,_⟩
   ·cases h
   ·cases h
    rw[hh] at ho
    cases ho
    cases hc))⟩
theorem a9X (w:World) (n:Nat) (hn:n<=2000000000):(Instr.makeSlice 60 (.int .i64 (n:Nat)) (.int .i64 (n:Nat))).run Tryz.prog w=.ok (.slice (some ⟨w.heap.size,0,none⟩) n n) (w.alloc (.cells (madeCells #[.int .u32 0] n) 133)):=by
 obtain⟨i0,hi,hz0,hz1,hz2⟩:=Aj iZ
 have:=run_make (P:=Tryz.prog) w 60 133 i0 (.int .u32 0) jo hi hz0 .i64 .i64 n n (by omega) (xg _) (by rw[hz2];omega) (by omega)
 simpa [hz1,Value.cells] using this
theorem b1C (a:List Nat) (d:Nat) (p:Option Addr) (c:Nat) (w:World) (hI:Rd w (.slice p a.length c) a) (ha:Low a) (hd:1<=d) (hd2:d<=999999999) (hl:a.length<=2000000000) :
  CallsIn Fence.wide 3 Tryz.prog 185 #[.slice p a.length c,.int .u32 (d:Nat)] w fun e W'=>∃ v,e=.returned (.tuple #[v,.int .u32 (val a%d:Nat)]) /\
   W'.ownsRow w.heap.size 133 1 v (dig (val a / d)).length (cells32 (dig (val a / d)))/\Below w.heap.size w W':=by
 have hro:Fence.wide.round=none:=rfl
 have hmk:=fun w=>a9X w a.length hl
 refine callsIn_of_wp_marks Tryz.func185 rfl trivial ?_ hro
 simp only[Tryz.ntmps185,Df,List.length_cons,List.length_nil,Nat.reduceAdd,Nat.reduceSub,Dq,Array.replicate_zero,List.push_toArray,Dz,List.nil_append,List.cons_append]
 gi_wp2_with (refine⟨trivial,?_⟩;gi_at_call 182;refine(BI Fence.wide 2 trivial hro _ _ _ _).mono ?_;rintro e w' ⟨rfl,rfl⟩)
 have bD:=Boxed.new w 133 (.int .u32 (d:Nat))
 have bQ:=Boxed.new (w.alloc (.cells #[.int .u32 (d:Nat)] 133)) 60 (.slice (some ⟨w.heap.size+1+1,0,none⟩) a.length a.length)
 rw[Bj] at bQ
 obtain⟨W2,hW2⟩:∃ W2,(w.alloc (.cells #[.int .u32 (d:Nat)] 133)).alloc (.cells #[.slice (some ⟨w.heap.size+1+1,0,none⟩) a.length a.length] 60)=W2:=⟨_,rfl⟩
 have z2:W2.heap.size=w.heap.size+1+1:=by rw[<-hW2];simp
 have bR:=Boxed.new (W2.alloc (.cells (madeCells #[.int .u32 0] a.length) 133)) 132 (.int .u64 0)
 have bS:=Boxed.new ((W2.alloc (.cells (madeCells #[.int .u32 0] a.length) 133)).alloc (.cells #[.int .u64 0] 132)) 60 (.slice p a.length c)
 rw[Bj,z2] at bR
 rw[Bj,Bj,z2] at bS
 have hB2:Below w.heap.size w W2:=by rw[<-hW2];exact((dn _ w).alloc (aj _) _).alloc (by simp) _
 have hO2:(W2.alloc (.cells (madeCells #[.int .u32 0] a.length) 133)).ownsRow w.heap.size 133 1 (.slice (some ⟨w.heap.size+1+1,0,none⟩) a.length a.length) a.length (cells32 (List.replicate a.length 0)):=by
  have:=World.ownsRow_lit (base:=w.heap.size) (e:=133) (size:=1) W2 (madeCells #[.int .u32 0] a.length) a.length (by omega) (by unfold maxLen;omega) (by simp[madeCells])
  rwa [z2,kE] at this
 rw[hW2] at bQ ⊢
 have bD2:Boxed W2 w.heap.size 133 (.int .u32 (d:Nat)):=by rw[<-hW2];exact bD.alloc _
 have hB0:Below w.heap.size w (((W2.alloc (.cells (madeCells #[.int .u32 0] a.length) 133)).alloc (.cells #[.int .u64 0] 132)).alloc (.cells #[.slice p a.length c] 60)):=((hB2.alloc hB2.size _).alloc (by simp;omega) _).alloc (by simp;omega) _
 refine wpIn_rangeFunc_ownG (n:=3) (α:=Fin a.length) hro (by omega) (gf:=189) (lb:=#[.pointer (some ⟨w.heap.size+1+1+1+1,0,none⟩)]) rfl trivial (enters_of Tryz.func189 (by kernel_rfl) rfl)
  (GR Fence.wide 2 trivial hro (by omega) (w.heap.size+1+1+1+1) w.heap.size _ a _ (by simp;omega) (by simp;omega) bS.cell (hI.b.below hB0)) (fun h k=>KB.trans h k) (KB.b (by simp;omega) (by simp;omega)) (dn _ _) (fun _=>rfl)
  (fun(pre:List (Fin a.length)) W=>a5j a d w.heap.size pre W/\Below w.heap.size w W)
  (fun _ _ _=>False)
  (OwnFrom.and (Own.from (a5j.own a d w.heap.size) _) (ownFrom_below (aj _) (by simp;omega)))
  (fun _ _ _ _ _ hs _ _=>hs)
  ⟨⟨(((bD2.alloc _).alloc _).alloc _).cell,(((bQ.alloc _).alloc _).alloc _).cell,(((bQ.alloc _).alloc _).alloc _).frozen,(bR.alloc _).cell,(bR.alloc _).frozen,(hO2.alloc _).alloc _⟩,hB0⟩
  (fun(x:Fin a.length)=>{ tmps:=#[.slice p a.length c,.int .u32 (d:Nat),undef,.pointer (some ⟨w.heap.size,0,none⟩),.pointer (some ⟨w.heap.size+1,0,none⟩),.int .u32 0,.pointer (some ⟨w.heap.size+1+1+1,0,none⟩),.int .i64 (x.1:Nat),.int .u32 (gr a x.1:Nat),undef,.slice p a.length c,.int .i64 (a.length:Nat),.slice (some ⟨w.heap.size+1+1,0,none⟩) a.length a.length,.slice p a.length c,.func (.func 189) #[] #[.pointer (some ⟨w.heap.size+1+1+1+1,0,none⟩)],.int .i64 (x.1:Nat),.int .u32 (gr a x.1:Nat),undef,undef,undef,undef,undef,undef,undef,undef,undef,undef,undef,undef,undef,undef,undef,undef,undef,undef,undef,undef,undef],defers:=[] }) ?assign ?body ?done ?stop
 case assign =>
  intro l x W K hK
  gi_wp2
  exact hK
 case body =>
  rintro lo pre x W ⟨hS,hB⟩ _
  obtain⟨b1,b2,b3⟩:=a4P hd hd2 ha pre
  have hg:=iJ ha x.1
  have hx:=x.2
  have HSN:=bn (UZ a d pre x)
  obtain⟨h1,h2,h3,h4,h5,h6⟩:=hS
  generalize (shf a d pre).2=r at *
  generalize (shf a d pre).1=q at *
  have hcl:W.cell? ⟨w.heap.size+1+1,x.1,none⟩=some (.int .u32 (gr q x.1:Nat)):=by
   rw[h6.cellAt x.1 (by omega)];exact fO (by omega)
  have hfr:=h6.frozenAt x.1
  obtain⟨n,hn⟩:∃ n:Nat,(r:Int)*1000000000+gr a x.1=n:=⟨r*1000000000+gr a x.1,by omega⟩
  have hn2:r*BB+gr a x.1=n:=by rw[dG];omega
  have hn3:n<d*1000000000:=by omega
  have hn4:n<=999999998999999999:=by omega
  rw[hn2] at HSN
  obtain⟨v,hv⟩:∃ v:Nat,(n:Int) / d=v:=⟨n / d,by simp⟩
  obtain⟨u,hu⟩:∃ u:Nat,(n:Int)%d=u:=⟨n%d,by simp⟩
  have hv2:n / d=v:=by
   have:((n / d:Nat):Int)=v:=by rw[<-hv];simp
   omega
  have hu2:n%d=u:=by
   have:((n%d:Nat):Int)=u:=by rw[<-hu];simp
   omega
  have hv3:v<=999999999:=by
   have:=(Nat.div_lt_iff_lt_mul (show 0<d by omega)).2 (by rw[wu] at hn3;exact hn3)
   omega
  have hu3:u<=999999998:=by have:=yg n (show 0<d by omega);omega
  rw[hv2,hu2] at HSN
  clear hn2 hn3 hv2 hu2
  have hdz:((d:Int)==0)=false:=by simp;omega
  have hw1:IntKind.u64.wrap (v:Int)=v:=by simp[IntKind.wrap,IntKind.bits,IntKind.signed];omega
  have hw2:IntKind.u64.wrap (u:Int)=u:=by simp[IntKind.wrap,IntKind.bits,IntKind.signed];omega
  have a9O:∀ w,Sem.run Tryz.prog (binOp .quo 132 (.int .u64 (n:Nat)) (.int .u64 (d:Nat))) w=.ok (.int .u64 (v:Nat)) w:=fun w=>b3T (by omega) (by omega) hv hw1 w
  have a9P:∀ w,Sem.run Tryz.prog (binOp .rem 132 (.int .u64 (n:Nat)) (.int .u64 (d:Nat))) w=.ok (.int .u64 (u:Nat)) w:=fun w=>b3Y (by omega) (by omega) hu hw2 w
  have hdn:¬ d=0:=by omega
  have hw3:IntKind.u64.wrap (d:Int)=d:=by simp[IntKind.wrap,IntKind.bits,IntKind.signed];omega
  have hw4:IntKind.u32.wrap (v:Int)=v:=by simp[IntKind.wrap,IntKind.bits,IntKind.signed];omega
  have a7s:Tryz.prog.follows .mixedOrders=true:=by kernel_rfl
  clear hW2 hmk bD bQ bR bS hB0 hB2 hO2 bD2
  gi_wp2
  refine wpIn_region_any a7s ?_
  refine a3x (fun L a' W'=>L.size=14/\(∃ t22 t23 t24 t25 t26 t27 t28 t29 t30 t31 t32 t33:Value,a'=⟨#[.slice p a.length c,.int .u32 (d:Nat),undef,.pointer (some ⟨w.heap.size,0,none⟩),.pointer (some ⟨w.heap.size+1,0,none⟩),.int .u32 0,.pointer (some ⟨w.heap.size+1+1+1,0,none⟩),.int .i64 (x.1:Nat),.int .u32 (gr a x.1:Nat),.int .u64 (n:Nat),.slice p a.length c,.int .i64 (a.length:Nat),.slice (some ⟨w.heap.size+1+1,0,none⟩) a.length a.length,.slice p a.length c,.func (.func 189) #[] #[.pointer (some ⟨w.heap.size+1+1+1+1,0,none⟩)],.int .i64 (x.1:Nat),.int .u32 (gr a x.1:Nat),.int .u64 (r:Nat),.int .u64 ((r:Int)*1000000000),.int .u32 (gr a x.1:Nat),.int .u64 (gr a x.1:Nat),.int .u64 (n:Nat),t22,t23,t24,t25,t26,t27,t28,t29,t30,t31,t32,t33,undef,undef,undef,undef],[]⟩/\(L.getD 0 false=true->t22=.slice (some ⟨w.heap.size+1+1,0,none⟩) a.length a.length)/\(L.getD 1 false=true->t23=.int .i64 (x.1:Nat))/\(L.getD 2 false=true->t24=.int .u64 (n:Nat))/\(L.getD 3 false=true->t25=.int .u32 (d:Nat))/\(L.getD 4 false=true->t26=.int .u64 (d:Nat))/\(L.getD 5 false=true->t27=.int .u64 (v:Nat))/\(L.getD 6 false=true->t28=.int .u32 (v:Nat))/\(L.getD 7 false=true->t29=.int .u64 (n:Nat))/\(L.getD 8 false=true->t30=.int .u32 (d:Nat))/\(L.getD 9 false=true->t31=.int .u64 (d:Nat))/\(L.getD 10 false=true->t32=.int .u64 (u:Nat))/\(L.getD 11 false=true->t33=.pointer (some ⟨w.heap.size+1+1,x.1,none⟩)))/\((L.getD 12 false=false/\L.getD 13 false=false/\W'=W.drew)\/(L.getD 12 false=true/\L.getD 13 false=false/\W'=(W.drew.setCell ⟨w.heap.size+1+1,x.1,none⟩ (.int .u32 (v:Nat))))\/(L.getD 12 false=true/\L.getD 13 false=true/\W'=((W.drew.setCell ⟨w.heap.size+1+1,x.1,none⟩ (.int .u32 (v:Nat))).setCell ⟨w.heap.size+1+1+1,0,none⟩ (.int .u64 (u:Nat)))))) (by kernel_rfl) ?hend ?hstep _ _ _ _ (by rw[VI];exact aj _) ?h0
  case h0 =>
   refine⟨by simp,⟨undef,undef,undef,undef,undef,undef,undef,undef,undef,undef,undef,undef,rfl,?_⟩,.inl ⟨JW _ _,JW _ _,rfl⟩⟩
   simp[JW]
  case hend =>
   rintro L a' W' ⟨hL,⟨t22,t23,t24,t25,t26,t27,t28,t29,t30,t31,t32,t33,rfl,hc⟩,hw⟩ hall
   have h12:=yP hL (by omega) (hall 12 (by show 12<14;omega))
   have h13:=yP hL (by omega) (hall 13 (by show 13<14;omega))
   rcases hw with⟨e,_⟩|⟨_,e,_⟩|⟨_,_,rfl⟩
   ·rw[h12] at e;cases e
   ·rw[h13] at e;cases e
   ·clear hc hall
    have hst:=h6.stored x.1 (.int .u32 (v:Nat))
    rw[gV] at hst
    have hBd:Below w.heap.size w W.drew:=hB.drew
    have hKB:KB w.heap.size (w.heap.size+1+1+1+1) W ((W.drew.setCell ⟨w.heap.size+1+1,x.1,none⟩ (.int .u32 (v:Nat))).setCell ⟨w.heap.size+1+1+1,0,none⟩ (.int .u64 (u:Nat))) :=
     (KB.trans (⟨(dn _ W).drew,rfl⟩:KB w.heap.size (w.heap.size+1+1+1+1) W W.drew) (KB.setCell (p:=⟨w.heap.size+1+1,x.1,none⟩) (by simp;omega) (by simp) _)).trans (KB.setCell (p:=⟨w.heap.size+1+1+1,0,none⟩) (by simp;omega) (by simp) _)
    refine⟨(((KeepsOthers.drew W).trans (Ea _ _ _)).trans (Ea _ _ _)).from _,hKB,⟨?_,?_,?_,?_,?_,?_⟩,hB.trans hKB.1⟩
    ·simp[go_sem,h1]
    ·simp[go_sem,h2]
    ·simp[go_sem,h3]
    ·rw[HSN.out];exact Dt _ _ _ (by simp[go_sem,h4])
    ·simp[go_sem,h5]
    ·rw[HSN.out]
     have h7:(W.drew.setCell ⟨w.heap.size+1+1,x.1,none⟩ (.int .u32 (v:Nat))).ownsRow w.heap.size 133 1 (.slice (some ⟨w.heap.size+1+1,0,none⟩) a.length a.length) a.length (cells32 (q.set x.1 v)):=hst.1
     refine h7.kept (row:=some (w.heap.size+1+1+1)) ⟨rfl,rfl,rfl,by simp[World.setCell],fun k hk hne=>Below.heap_setCell _ _ _ _ (by intro e;exact hne (by rw[e]))⟩ (.inr (by simp[Value.ownBlock]))
  case hstep =>
   have hu2:(n:Int).tmod d=u:=by rw[Bz (by omega)];exact hu
   clear hI ha hd hd2 hl hro z2 hB hg b1 b2 b3 h6 hn hn4 hu hv3 hu3 HSN a7s a9O a9P
   rintro L a' W' i o ⟨hL,⟨t22,t23,t24,t25,t26,t27,t28,t29,t30,t31,t32,t33,rfl,hc⟩,hw⟩ ho hl pX
   have hi:i<14:=(Aw.1 ho).1
   obtain⟨k0,k1,k2,k3,k4,k5,k6,k7,k8,k9,k10,k11⟩:=hc
   have hs:=wO hl
   have hl':=FZ hl
   obtain rfl|rfl|rfl|rfl|rfl|rfl|rfl|rfl|rfl|rfl|rfl|rfl|rfl|rfl:i=0\/i=1\/i=2\/i=3\/i=4\/i=5\/i=6\/i=7\/i=8\/i=9\/i=10\/i=11\/i=12\/i=13:=by omega
   all_goals cases ho
   all_goals simp[Region.binds] at pX
   all_goals simp only[jw] at k0 k1 k2 k3 k4 k5 k6 k7 k8 k9 k10 k11 hw hl'
   ·
    clear pX
    rcases hw with⟨e12,e13,rfl⟩|⟨e12,e13,rfl⟩|⟨e12,e13,rfl⟩
    all_goals (unfold wpOpIn;simp[go_sem,h1,h2,h3,h4,h5,hcl,hfr,hw3,hw4])
    all_goals (first|(refine⟨hL,⟨_,_,_,_,_,_,_,_,_,_,_,_,⟨rfl,rfl,rfl,rfl,rfl,rfl,rfl,rfl,rfl,rfl,rfl,rfl⟩,?_⟩,?_⟩<;>(simp_all;done))|(simp_all;done)|trace_state)
   ·
    clear pX
    rcases hw with⟨e12,e13,rfl⟩|⟨e12,e13,rfl⟩|⟨e12,e13,rfl⟩
    all_goals (unfold wpOpIn;simp[go_sem,h1,h2,h3,h4,h5,hcl,hfr,hw3,hw4])
    all_goals (first|(refine⟨hL,⟨_,_,_,_,_,_,_,_,_,_,_,_,⟨rfl,rfl,rfl,rfl,rfl,rfl,rfl,rfl,rfl,rfl,rfl,rfl⟩,?_⟩,?_⟩<;>(simp_all;done))|(simp_all;done)|trace_state)
   ·
    clear pX
    rcases hw with⟨e12,e13,rfl⟩|⟨e12,e13,rfl⟩|⟨e12,e13,rfl⟩
    all_goals (unfold wpOpIn;simp[go_sem,h1,h2,h3,h4,h5,hcl,hfr,hw3,hw4])
    all_goals (first|(refine⟨hL,⟨_,_,_,_,_,_,_,_,_,_,_,_,⟨rfl,rfl,rfl,rfl,rfl,rfl,rfl,rfl,rfl,rfl,rfl,rfl⟩,?_⟩,?_⟩<;>(simp_all;done))|(simp_all;done)|trace_state)
   ·
    clear pX
    rcases hw with⟨e12,e13,rfl⟩|⟨e12,e13,rfl⟩|⟨e12,e13,rfl⟩
    all_goals (unfold wpOpIn;simp[go_sem,h1,h2,h3,h4,h5,hcl,hfr,hw3,hw4])
    all_goals (first|(refine⟨hL,⟨_,_,_,_,_,_,_,_,_,_,_,_,⟨rfl,rfl,rfl,rfl,rfl,rfl,rfl,rfl,rfl,rfl,rfl,rfl⟩,?_⟩,?_⟩<;>(simp_all;done))|(simp_all;done)|trace_state)
   ·
    obtain rfl:=k3 (by simp[pX])
    clear pX
    rcases hw with⟨e12,e13,rfl⟩|⟨e12,e13,rfl⟩|⟨e12,e13,rfl⟩
    all_goals (unfold wpOpIn;simp[go_sem,h1,h2,h3,h4,h5,hcl,hfr,hw3,hw4])
    all_goals (first|(refine⟨hL,⟨_,_,_,_,_,_,_,_,_,_,_,_,⟨rfl,rfl,rfl,rfl,rfl,rfl,rfl,rfl,rfl,rfl,rfl,rfl⟩,?_⟩,?_⟩<;>(simp_all;done))|(simp_all;done)|trace_state)
   ·
    obtain rfl:=k2 (by simp[pX])
    obtain rfl:=k4 (by simp[pX])
    clear pX
    rcases hw with⟨e12,e13,rfl⟩|⟨e12,e13,rfl⟩|⟨e12,e13,rfl⟩
    all_goals (unfold wpOpIn;simp[go_sem,h1,h2,h3,h4,h5,hcl,hfr,hw3,hw4,hdz,hdn,hv,hu2,hw1,hw2])
    all_goals (first|(refine⟨hL,⟨_,_,_,_,_,_,_,_,_,_,_,_,⟨rfl,rfl,rfl,rfl,rfl,rfl,rfl,rfl,rfl,rfl,rfl,rfl⟩,?_⟩,?_⟩<;>(simp_all;done))|(simp_all;done)|trace_state)
   ·
    obtain rfl:=k5 (by simp[pX])
    clear pX
    rcases hw with⟨e12,e13,rfl⟩|⟨e12,e13,rfl⟩|⟨e12,e13,rfl⟩
    all_goals (unfold wpOpIn;simp[go_sem,h1,h2,h3,h4,h5,hcl,hfr,hw3,hw4])
    all_goals (first|(refine⟨hL,⟨_,_,_,_,_,_,_,_,_,_,_,_,⟨rfl,rfl,rfl,rfl,rfl,rfl,rfl,rfl,rfl,rfl,rfl,rfl⟩,?_⟩,?_⟩<;>(simp_all;done))|(simp_all;done)|trace_state)
   ·
    clear pX
    rcases hw with⟨e12,e13,rfl⟩|⟨e12,e13,rfl⟩|⟨e12,e13,rfl⟩
    all_goals (unfold wpOpIn;simp[go_sem,h1,h2,h3,h4,h5,hcl,hfr,hw3,hw4])
    all_goals (first|(refine⟨hL,⟨_,_,_,_,_,_,_,_,_,_,_,_,⟨rfl,rfl,rfl,rfl,rfl,rfl,rfl,rfl,rfl,rfl,rfl,rfl⟩,?_⟩,?_⟩<;>(simp_all;done))|(simp_all;done)|trace_state)
   ·
    clear pX
    rcases hw with⟨e12,e13,rfl⟩|⟨e12,e13,rfl⟩|⟨e12,e13,rfl⟩
    all_goals (unfold wpOpIn;simp[go_sem,h1,h2,h3,h4,h5,hcl,hfr,hw3,hw4])
    all_goals (first|(refine⟨hL,⟨_,_,_,_,_,_,_,_,_,_,_,_,⟨rfl,rfl,rfl,rfl,rfl,rfl,rfl,rfl,rfl,rfl,rfl,rfl⟩,?_⟩,?_⟩<;>(simp_all;done))|(simp_all;done)|trace_state)
   ·
    obtain rfl:=k8 (by simp[pX])
    clear pX
    rcases hw with⟨e12,e13,rfl⟩|⟨e12,e13,rfl⟩|⟨e12,e13,rfl⟩
    all_goals (unfold wpOpIn;simp[go_sem,h1,h2,h3,h4,h5,hcl,hfr,hw3,hw4])
    all_goals (first|(refine⟨hL,⟨_,_,_,_,_,_,_,_,_,_,_,_,⟨rfl,rfl,rfl,rfl,rfl,rfl,rfl,rfl,rfl,rfl,rfl,rfl⟩,?_⟩,?_⟩<;>(simp_all;done))|(simp_all;done)|trace_state)
   ·
    obtain rfl:=k7 (by simp[pX])
    obtain rfl:=k9 (by simp[pX])
    clear pX
    rcases hw with⟨e12,e13,rfl⟩|⟨e12,e13,rfl⟩|⟨e12,e13,rfl⟩
    all_goals (unfold wpOpIn;simp[go_sem,h1,h2,h3,h4,h5,hcl,hfr,hw3,hw4,hdz,hdn,hv,hu2,hw1,hw2])
    all_goals (first|(refine⟨hL,⟨_,_,_,_,_,_,_,_,_,_,_,_,⟨rfl,rfl,rfl,rfl,rfl,rfl,rfl,rfl,rfl,rfl,rfl,rfl⟩,?_⟩,?_⟩<;>(simp_all;done))|(simp_all;done)|trace_state)
   ·
    obtain rfl:=k0 (by simp[pX])
    obtain rfl:=k1 (by simp[pX])
    clear pX
    rcases hw with⟨e12,e13,rfl⟩|⟨e12,e13,rfl⟩|⟨e12,e13,rfl⟩
    all_goals (unfold wpOpIn;simp[go_sem,h1,h2,h3,h4,h5,hcl,hfr,hw3,hw4])
    all_goals (first|(refine⟨hL,⟨_,_,_,_,_,_,_,_,_,_,_,_,⟨rfl,rfl,rfl,rfl,rfl,rfl,rfl,rfl,rfl,rfl,rfl,rfl⟩,?_⟩,?_⟩<;>(simp_all;done))|(simp_all;done)|trace_state)
   ·
    obtain rfl:=k11 (by simp[pX])
    obtain rfl:=k6 (by simp[pX])
    clear pX
    rcases hw with⟨e12,e13,rfl⟩|⟨e12,e13,rfl⟩|⟨e12,e13,rfl⟩
    all_goals (unfold wpOpIn;simp[go_sem,h1,h2,h3,h4,h5,hcl,hfr,hw3,hw4])
    all_goals (first|(refine⟨hL,⟨_,_,_,_,_,_,_,_,_,_,_,_,⟨rfl,rfl,rfl,rfl,rfl,rfl,rfl,rfl,rfl,rfl,rfl,rfl⟩,?_⟩,?_⟩<;>(simp_all;done))|(simp_all;done)|trace_state)
   ·
    obtain rfl:=k10 (by simp[pX])
    rcases hw with⟨e12,e13,rfl⟩|⟨e12,e13,rfl⟩|⟨e12,e13,rfl⟩
    all_goals (unfold wpOpIn;simp[go_sem,h1,h2,h3,h4,h5,hcl,hfr,hw3,hw4])
    all_goals (first|(refine⟨hL,⟨_,_,_,_,_,_,_,_,_,_,_,_,⟨rfl,rfl,rfl,rfl,rfl,rfl,rfl,rfl,rfl,rfl,rfl,rfl⟩,?_⟩,?_⟩<;>(simp_all;done))|(simp_all;done)|trace_state)
 case done =>
  rintro D ys W hD ⟨hb,hlen⟩ ⟨hS,hB⟩ hK
  obtain⟨e1,e2,e3⟩:=b4j hd hd2 ha hb hlen
  obtain⟨b1,b2,b3⟩:=a4P hd hd2 ha ys
  obtain⟨h1,h2,h3,h4,h5,h6⟩:=hS
  generalize (shf a d ys).2=r at *
  generalize (shf a d ys).1=q at *
  have hR:=Rd.dO (l:=q) (by rw[b1];exact h6)
  clear hW2 hmk bD bQ bR bS hB0 hB2 hO2 bD2
  have a7s:Tryz.prog.follows .mixedOrders=true:=by kernel_rfl
  have hR2:Rd W.drew (.slice (some ⟨w.heap.size+1+1,0,none⟩) a.length a.length) q:=hR.drew
  have hw1:IntKind.u32.wrap (r:Int)=r:=by simp[IntKind.wrap,IntKind.bits,IntKind.signed];omega
  have HT:Hid (fZ q=dig (val a / d)):=by unfold Hid fZ;rw[e2]
  have HR:Hid (r=val a%d):=e1
  clear e1 e2
  gi_wp2
  refine wpIn_wide.2 (wp_region_noPanic ?_)
  go_region_with (go_at_call 179;refine(NM _ _ _ q _ hR2 e3 b1).mono ?_;rintro e w' ⟨rfl,rfl⟩)
  all_goals refine NoPanic.normal ?_
  all_goals gi_wp2
  all_goals
   have hK':(W.drew.setCell ⟨w.heap.size+1,0,none⟩ (.slice (some ⟨w.heap.size+1+1,0,none⟩) (fZ q).length a.length)).heap[D]?=some (.deferred (some [])):=(Ea W.drew ⟨w.heap.size+1,0,none⟩ _).same D _ hK rfl
   have hc5:=cell_kept (Dt W.drew ⟨w.heap.size+1,0,none⟩ (.slice (some ⟨w.heap.size+1+1,0,none⟩) (fZ q).length a.length) (by simp[go_sem,h2])) (grownBy_putObj' _ D (.deferred none)) (fun r e=>by cases e;exact⟨_,hK',rfl⟩)
   have hc6:((W.setCell ⟨w.heap.size+1,0,none⟩ (.slice (some ⟨w.heap.size+1+1,0,none⟩) (fZ q).length a.length)).drew.putObj D (.deferred none)).cell? ⟨w.heap.size+1,0,none⟩=some (.slice (some ⟨w.heap.size+1+1,0,none⟩) (fZ q).length a.length):=hc5
   have hO:=uF h6 e3 b1
   have hO2:(W.drew.setCell ⟨w.heap.size+1,0,none⟩ (.slice (some ⟨w.heap.size+1+1,0,none⟩) (fZ q).length a.length)).ownsRow w.heap.size 133 1 (.slice (some ⟨w.heap.size+1+1,0,none⟩) (fZ q).length a.length) (fZ q).length (cells32 (fZ q)):=by
    have hO1:W.drew.ownsRow w.heap.size 133 1 (.slice (some ⟨w.heap.size+1+1,0,none⟩) (fZ q).length a.length) (fZ q).length (cells32 (fZ q)):=hO
    refine hO1.kept (row:=some (w.heap.size+1)) ⟨rfl,rfl,rfl,by simp[World.setCell],fun k hk hne=>Below.heap_setCell _ _ _ _ (by intro e;exact hne (by rw[e]))⟩ (.inr (by simp[Value.ownBlock]))
   refine⟨by simp,.inl ⟨_,_,rfl,run_takeDeferred hK',?_⟩⟩
   refine⟨.tuple #[.slice (some ⟨w.heap.size+1+1,0,none⟩) (fZ q).length a.length,.int .u32 (r:Nat)],?_,.slice (some ⟨w.heap.size+1+1,0,none⟩) (fZ q).length a.length,?_,?_,?_⟩
   ·simp[results,Tryz.f185,go_sem,hc6]
   ·rw[HR.out]
   ·rw[<-HT.out];exact ownsRow_putObj hO2 _ hK' rfl
   ·exact(hB.drew.setCell (p:=⟨w.heap.size+1,0,none⟩) (by simp) _).trans (belowK_b (w:=w) (aj _) _ D _ _ (by simp at hD;omega) hK' rfl rfl)
 case stop =>
  rintro D c pre W _ _ h _
  exact h.elim
theorem short_any (s:Value) (a:List Nat) (d:Nat) (w:World) (hs:Rd w s a) (ha:Low a) (hd:1<=d) (hd2:d<=999999999) (hl:a.length<=2000000000) :
  Calls Tryz.prog 185 #[s,.int .u32 (d:Nat)] w fun e W'=>∃ v,e=.returned (.tuple #[v,.int .u32 (val a%d:Nat)]) /\
   W'.ownsRow w.heap.size 133 1 v (dig (val a / d)).length (cells32 (dig (val a / d)))/\Below w.heap.size w W':=by
 obtain⟨p,c,rfl,_,_⟩:=hs.form
 exact callsIn_wide.1 (b1C a d p c w hs ha hd hd2 hl)
end
end Go.Proofs.YtgplhbhfdgempaaGreat
