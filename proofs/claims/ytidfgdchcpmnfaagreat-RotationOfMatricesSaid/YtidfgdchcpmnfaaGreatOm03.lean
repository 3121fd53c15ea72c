/-
  Lemmas for the theorem vofmatrices_holds, part 3 of 32.
-/
import Derived.Deep.RegionHeld3
import Derived.Deep.RegionWith
import Derived.Test.YtidfgdchcpmnfaaGreatOm02
namespace Go.Proofs.YtidfgdchcpmnfaaGreat
open Go.RowKit Go.Shelf
set_option maxRecDepth 100000
set_option maxHeartbeats 2000000
set_option linter.unusedSimpArgs false
set_option linter.unusedVariables false
attribute [local go_sem] Oper.semAt_some
def shf (a:List Nat) (d:Nat) (pre:List (Fin a.length)):List Nat × Nat :=
 pre.foldl (fun s x=>(s.1.set x.1 ((s.2*BB+gr a x.1) / d),(s.2*BB+gr a x.1)%d)) (List.replicate a.length 0,0)
theorem QY (a:List Nat) (d:Nat) (pre:List (Fin a.length)) (x:Fin a.length) :
 shf a d (pre++[x])=((shf a d pre).1.set x.1 (((shf a d pre).2*BB+gr a x.1) / d),((shf a d pre).2*BB+gr a x.1)%d):=by simp[shf]
theorem a4K {α:Type} {pre:List α} {n:Nat} (h:pre.length=n+1):∃ q x,pre=q++[x] :=
 ⟨pre.dropLast,pre.getLast (by intro e;subst e;simp at h),(List.dropLast_concat_getLast _).symm⟩
theorem a3c {a:List Nat} {d:Nat} (hd:1<=d) (hd2:d<=999999999) (ha:Low a) (pre:List (Fin a.length)):(shf a d pre).1.length=a.length/\(shf a d pre).2<=999999998/\(shf a d pre).2<d:=by
 suffices ∀ n (pre:List (Fin a.length)),pre.length=n->(shf a d pre).1.length=a.length/\(shf a d pre).2<=999999998/\(shf a d pre).2<d from this _ pre rfl
 intro n
 induction n with
 | zero=>intro pre h;rw[List.eq_nil_of_length_eq_zero h];simp[shf];omega
 | succ n ih =>
  intro pre h
  obtain⟨q,x,rfl⟩:=a4K h
  have h1:=ih q (by simp at h;exact h)
  rw[QY]
  have h2:=Nat.mod_lt ((shf a d q).2*BB+gr a x.1) (show 0<d by omega)
  exact⟨by simpa using h1.1,by simp only;omega,h2⟩
theorem iQ.init {n:Nat} {q:List (Fin n)} {x:Fin n} (h:iQ n (q++[x])):iQ n q/\x.1=n-1-q.length :=
 ⟨fun j y hj=>h j y (by rw[List.getElem?_append_left (List.getElem?_eq_some_iff.1 hj).1];exact hj),h q.length x (by simp)⟩
theorem a8Z {a:List Nat} {d:Nat} (hd:1<=d) (hd2:d<=999999999) (ha:Low a) {pre:List (Fin a.length)} (hb:iQ a.length pre) (hle:pre.length<=a.length) :
  (shf a d pre).2=val (a.drop (a.length-pre.length))%d/\val ((shf a d pre).1.drop (a.length-pre.length))=val (a.drop (a.length-pre.length)) / d/\Low (shf a d pre).1:=by
 suffices ∀ n (pre:List (Fin a.length)),pre.length=n->iQ a.length pre->pre.length<=a.length->(shf a d pre).2=val (a.drop (a.length-pre.length))%d/\val ((shf a d pre).1.drop (a.length-pre.length))=val (a.drop (a.length-pre.length)) / d/\Low (shf a d pre).1 from this _ pre rfl hb hle
 intro n
 induction n with
 | zero =>
  intro pre h _ _
  rw[List.eq_nil_of_length_eq_zero h]
  simp[shf,List.drop_replicate]
  exact fun g hg=>by rw[(List.mem_replicate.1 hg).2];exact iP
 | succ n ih =>
  intro pre h hb hle
  obtain⟨q,x,rfl⟩:=a4K h
  simp only[List.length_append,List.length_singleton] at h hle ⊢
  obtain⟨hbq,hx⟩:=hb.init
  obtain⟨h1,h2,h3⟩:=ih q (by omega) hbq (by omega)
  obtain⟨b1,b2,b3⟩:=a3c hd hd2 ha q
  have hg:=gK ha x.1
  rw[QY]
  obtain⟨m,hm⟩:∃ m,a.length-(q.length+1)=m:=⟨_,rfl⟩
  have em:a.length-q.length=m+1:=by omega
  have ex:x.1=m:=by omega
  rw[em] at h1 h2
  rw[hm,ex]
  have hml:m<a.length:=by omega
  have e1:val (a.drop m)=gr a m+BB*val (a.drop (m+1)):=by rw[List.drop_eq_getElem_cons hml,bY,oD hml]
  generalize val (a.drop (m+1))=V at *
  rw[ex] at hg
  generalize gr a m=g at *
  have e2:(shf a d q).2*BB+g<d*BB:=by
   rw[bG]
   have:((shf a d q).2+1)*1000000000<=d*1000000000:=Nat.mul_le_mul_right _ b3
   omega
  have hq:val (((shf a d q).1.set m (((shf a d q).2*BB+g) / d)).drop m)=((shf a d q).2*BB+g) / d+BB*(V / d):=by
   rw[List.drop_eq_getElem_cons (by simp;omega),bY,List.getElem_set_self,List.drop_set_of_lt (by omega),h2]
  have hdm:=Nat.mod_add_div V d
  have hV:g+BB*V=((shf a d q).2*BB+g)+d*(BB*(V / d)):=by
   rw[h1]
   generalize V / d=t at *
   generalize V%d=r at *
   rw[<-hdm]
   grind
  refine⟨?_,?_,?_⟩
  ·rw[e1,hV,Nat.add_mul_mod_self_left]
  ·rw[hq,e1,hV,Nat.add_mul_div_left _ _ (by omega)]
  ·refine low_set h3 ?_
   have:=(Nat.div_lt_iff_lt_mul (show 0<d by omega)).2 (by rw[Nat.mul_comm];exact e2)
   rw[bG] at this
   rw[bG];exact this
theorem b0M {a:List Nat} {d:Nat} (hd:1<=d) (hd2:d<=999999999) (ha:Low a) {pre:List (Fin a.length)} (hb:iQ a.length pre) (hle:pre.length=a.length) :
  (shf a d pre).2=val a%d/\val (shf a d pre).1=val a / d/\Low (shf a d pre).1:=by
 have:=a8Z hd hd2 ha hb (by omega)
 rw[hle] at this
 simpa using this
theorem b0y {n d v:Nat} (hd:1<=d) (hn:n<=999999998999999999) (hv:(n:Int) / d=v) (hw:IntKind.u64.wrap (v:Int)=v) (w:World):Sem.run Tryz.prog (binOp .quo 109 (.int .u64 (n:Nat)) (.int .u64 (d:Nat))) w=.ok (.int .u64 (v:Nat)) w:=by
 have hdz:((d:Int)==0)=false:=by simp;omega
 have hdn:¬ d=0:=by omega
 simp[go_sem, *]
theorem b0B {n d v:Nat} (hd:1<=d) (hn:n<=999999998999999999) (hv:(n:Int)%d=v) (hw:IntKind.u64.wrap (v:Int)=v) (w:World):Sem.run Tryz.prog (binOp .rem 109 (.int .u64 (n:Nat)) (.int .u64 (d:Nat))) w=.ok (.int .u64 (v:Nat)) w:=by
 rw[<-Int.tmod_eq_emod_of_nonneg (by omega)] at hv
 have hdz:((d:Int)==0)=false:=by simp;omega
 have hdn:¬ d=0:=by omega
 simp[go_sem, *]
structure a3w (a:List Nat) (d:Nat) (B:Nat) (pre:List (Fin a.length)) (W:World):Prop where
 dv:W.cell? ⟨B,0,none⟩=some (.int .u32 (d:Nat))
 qv:W.cell? ⟨B+1,0,none⟩=some (.slice (some ⟨B+1+1,0,none⟩) a.length a.length)
 qf:W.frozen? ⟨B+1,0,none⟩=false
 rv:W.cell? ⟨B+1+1+1,0,none⟩=some (.int .u64 ((shf a d pre).2:Nat))
 rf:W.frozen? ⟨B+1+1+1,0,none⟩=false
 row:W.ownsRow B 118 1 (.slice (some ⟨B+1+1,0,none⟩) a.length a.length) a.length (cells32 (shf a d pre).1)
theorem a3w.own (a:List Nat) (d B:Nat):Own (fun(pre:List (Fin a.length)) W=>a3w a d B pre W):=fun s A W row hs hg hr =>
 ⟨cell_kept hs.dv hg hr,cell_kept hs.qv hg hr,(frozen_kept hs.qv hg hr).trans hs.qf,cell_kept hs.rv hg hr,(frozen_kept hs.rv hg hr).trans hs.rf,
  hs.row.kept hg (.inr (fun e=>by
   obtain⟨o,ho,hc⟩:=hr (B+1+1) (by rw[<-e];rfl)
   rcases hs.row.2 with⟨h,_⟩|⟨g,cap,cur,h,_,hh,_⟩
   ·cases h
   ·cases h
    rw[hh] at ho
    cases ho
    cases hc))⟩
theorem a7X (w:World) (n:Nat) (hn:n<=2000000000):(Instr.makeSlice 26 (.int .i64 (n:Nat)) (.int .i64 (n:Nat))).run Tryz.prog w=.ok (.slice (some ⟨w.heap.size,0,none⟩) n n) (w.alloc (.cells (madeCells #[.int .u32 0] n) 118)):=by
 obtain⟨i0,hi,hz0,hz1,hz2⟩:=info_parts iI
 have:=run_make (P:=Tryz.prog) w 26 118 i0 (.int .u32 0) Tryz.underlying26 hi hz0 .i64 .i64 n n (by omega) (Int.le_refl _) (by rw[hz2];omega) (by omega)
 simpa [hz1,Value.cells] using this
theorem a9a (a:List Nat) (d:Nat) (p:Option Addr) (c:Nat) (w:World) (hI:Rd w (.slice p a.length c) a) (ha:Low a) (hd:1<=d) (hd2:d<=999999999) (hl:a.length<=2000000000) :
  CallsIn Fence.wide 3 Tryz.prog 168 #[.slice p a.length c,.int .u32 (d:Nat)] w fun e W'=>∃ v,e=.returned (.tuple #[v,.int .u32 (val a%d:Nat)]) /\
   W'.ownsRow w.heap.size 118 1 v (dig (val a / d)).length (cells32 (dig (val a / d)))/\Below w.heap.size w W':=by
 have hro:Fence.wide.round=none:=rfl
 have hmk:=fun w=>a7X w a.length hl
 refine callsIn_of_wp_marks Tryz.func168 rfl trivial ?_ hro
 simp only[Tryz.ntmps168,List.size_toArray,List.length_cons,List.length_nil,Nat.reduceAdd,Nat.reduceSub,Array.replicate_succ,Array.replicate_zero,List.push_toArray,List.append_toArray,List.nil_append,List.cons_append]
 gi_wp2_with (refine⟨trivial,?_⟩;gi_at_call 164;refine(tJ Fence.wide 2 trivial hro _ _ _ _).mono ?_;rintro e w' ⟨rfl,rfl⟩)
 have bD:=Boxed.new w 118 (.int .u32 (d:Nat))
 have bQ:=Boxed.new (w.alloc (.cells #[.int .u32 (d:Nat)] 118)) 26 (.slice (some ⟨w.heap.size+1+1,0,none⟩) a.length a.length)
 rw[World.size_alloc] at bQ
 obtain⟨W2,hW2⟩:∃ W2,(w.alloc (.cells #[.int .u32 (d:Nat)] 118)).alloc (.cells #[.slice (some ⟨w.heap.size+1+1,0,none⟩) a.length a.length] 26)=W2:=⟨_,rfl⟩
 have z2:W2.heap.size=w.heap.size+1+1:=by rw[<-hW2];simp
 have bR:=Boxed.new (W2.alloc (.cells (madeCells #[.int .u32 0] a.length) 118)) 109 (.int .u64 0)
 have bS:=Boxed.new ((W2.alloc (.cells (madeCells #[.int .u32 0] a.length) 118)).alloc (.cells #[.int .u64 0] 109)) 26 (.slice p a.length c)
 rw[World.size_alloc,z2] at bR
 rw[World.size_alloc,World.size_alloc,z2] at bS
 have hB2:Below w.heap.size w W2:=by rw[<-hW2];exact((Below.refl _ w).alloc (Nat.le_refl _) _).alloc (by simp) _
 have hO2:(W2.alloc (.cells (madeCells #[.int .u32 0] a.length) 118)).ownsRow w.heap.size 118 1 (.slice (some ⟨w.heap.size+1+1,0,none⟩) a.length a.length) a.length (cells32 (List.replicate a.length 0)):=by
  have:=World.ownsRow_lit (base:=w.heap.size) (e:=118) (size:=1) W2 (madeCells #[.int .u32 0] a.length) a.length (by omega) (by unfold maxLen;omega) (by simp[madeCells])
  rwa [z2,jH] at this
 rw[hW2] at bQ ⊢
 have bD2:Boxed W2 w.heap.size 118 (.int .u32 (d:Nat)):=by rw[<-hW2];exact bD.alloc _
 have hB0:Below w.heap.size w (((W2.alloc (.cells (madeCells #[.int .u32 0] a.length) 118)).alloc (.cells #[.int .u64 0] 109)).alloc (.cells #[.slice p a.length c] 26)):=((hB2.alloc hB2.size _).alloc (by simp;omega) _).alloc (by simp;omega) _
 refine wpIn_rangeFunc_ownG (n:=3) (α:=Fin a.length) hro (by omega) (gf:=178) (lb:=#[.pointer (some ⟨w.heap.size+1+1+1+1,0,none⟩)]) rfl trivial (enters_of Tryz.func178 (by kernel_rfl) rfl)
  (vY Fence.wide 2 trivial hro (by omega) (w.heap.size+1+1+1+1) w.heap.size _ a _ (by simp;omega) (by simp;omega) bS.cell (hI.b.below hB0)) (fun h k=>KB.trans h k) (KB.b (by simp;omega) (by simp;omega)) (Below.refl _ _) (fun _=>rfl)
  (fun(pre:List (Fin a.length)) W=>a3w a d w.heap.size pre W/\Below w.heap.size w W)
  (fun _ _ _=>False)
  (OwnFrom.and (Own.from (a3w.own a d w.heap.size) _) (ownFrom_below (Nat.le_refl _) (by simp;omega)))
  (fun _ _ _ _ _ hs _ _=>hs)
  ⟨⟨(((bD2.alloc _).alloc _).alloc _).cell,(((bQ.alloc _).alloc _).alloc _).cell,(((bQ.alloc _).alloc _).alloc _).frozen,(bR.alloc _).cell,(bR.alloc _).frozen,(hO2.alloc _).alloc _⟩,hB0⟩
  (fun(x:Fin a.length)=>{ tmps:=#[.slice p a.length c,.int .u32 (d:Nat),undef,.pointer (some ⟨w.heap.size,0,none⟩),.pointer (some ⟨w.heap.size+1,0,none⟩),.int .u32 0,.pointer (some ⟨w.heap.size+1+1+1,0,none⟩),.int .i64 (x.1:Nat),.int .u32 (gr a x.1:Nat),undef,.slice p a.length c,.int .i64 (a.length:Nat),.slice (some ⟨w.heap.size+1+1,0,none⟩) a.length a.length,.slice p a.length c,.func (.func 178) #[] #[.pointer (some ⟨w.heap.size+1+1+1+1,0,none⟩)],.int .i64 (x.1:Nat),.int .u32 (gr a x.1:Nat),undef,undef,undef,undef,undef,undef,undef,undef,undef,undef,undef,undef,undef,undef,undef,undef,undef,undef,undef,undef,undef],defers:=[] }) ?assign ?body ?done ?stop
 case assign =>
  intro l x W K hK
  gi_wp2
  exact hK
 case body =>
  rintro lo pre x W ⟨hS,hB⟩ _
  obtain⟨b1,b2,b3⟩:=a3c hd hd2 ha pre
  have hg:=gK ha x.1
  have hx:=x.2
  have HSN:=Lib.hid (QY a d pre x)
  obtain⟨h1,h2,h3,h4,h5,h6⟩:=hS
  generalize (shf a d pre).2=r at *
  generalize (shf a d pre).1=q at *
  have hcl:W.cell? ⟨w.heap.size+1+1,x.1,none⟩=some (.int .u32 (gr q x.1:Nat)):=by
   rw[h6.cellAt x.1 (by omega)];exact eH (by omega)
  have hfr:=h6.frozenAt x.1
  obtain⟨n,hn⟩:∃ n:Nat,(r:Int)*1000000000+gr a x.1=n:=⟨r*1000000000+gr a x.1,by omega⟩
  have hn2:r*BB+gr a x.1=n:=by rw[bG];omega
  have hn3:n<d*1000000000:=by omega
  have hn4:n<=999999998999999999:=by omega
  rw[hn2] at HSN
  obtain⟨v,hv⟩:∃ v:Nat,(n:Int) / d=v:=⟨n / d,by simp⟩
  obtain⟨u,hu⟩:∃ u:Nat,(n:Int)%d=u:=⟨n%d,by simp⟩
  have hv2:n / d=v:=by
   have:((n / d:Nat):Int)=v:=by rw[<-hv];simp
   omega
  have hu2:n%d=u:=by
   have:((n%d:Nat):Int)=u:=by rw[<-hu];simp
   omega
  have hv3:v<=999999999:=by
   have:=(Nat.div_lt_iff_lt_mul (show 0<d by omega)).2 (by rw[Nat.mul_comm] at hn3;exact hn3)
   omega
  have hu3:u<=999999998:=by have:=Nat.mod_lt n (show 0<d by omega);omega
  rw[hv2,hu2] at HSN
  clear hn2 hn3 hv2 hu2
  have hdz:((d:Int)==0)=false:=by simp;omega
  have hw1:IntKind.u64.wrap (v:Int)=v:=by simp[IntKind.wrap,IntKind.bits,IntKind.signed];omega
  have hw2:IntKind.u64.wrap (u:Int)=u:=by simp[IntKind.wrap,IntKind.bits,IntKind.signed];omega
  have a7N:∀ w,Sem.run Tryz.prog (binOp .quo 109 (.int .u64 (n:Nat)) (.int .u64 (d:Nat))) w=.ok (.int .u64 (v:Nat)) w:=fun w=>b0y (by omega) (by omega) hv hw1 w
  have a7O:∀ w,Sem.run Tryz.prog (binOp .rem 109 (.int .u64 (n:Nat)) (.int .u64 (d:Nat))) w=.ok (.int .u64 (u:Nat)) w:=fun w=>b0B (by omega) (by omega) hu hw2 w
  have hdn:¬ d=0:=by omega
  have hw3:IntKind.u64.wrap (d:Int)=d:=by simp[IntKind.wrap,IntKind.bits,IntKind.signed];omega
  have hw4:IntKind.u32.wrap (v:Int)=v:=by simp[IntKind.wrap,IntKind.bits,IntKind.signed];omega
  have a0l:Tryz.prog.follows .mixedOrders=true:=by kernel_rfl
  clear hW2 hmk bD bQ bR bS hB0 hB2 hO2 bD2
  gi_wp2
  refine wpIn_region_any a0l ?_
  refine a1D (fun L a' W'=>L.size=14/\(∃ t22 t23 t24 t25 t26 t27 t28 t29 t30 t31 t32 t33:Value,a'=⟨#[.slice p a.length c,.int .u32 (d:Nat),undef,.pointer (some ⟨w.heap.size,0,none⟩),.pointer (some ⟨w.heap.size+1,0,none⟩),.int .u32 0,.pointer (some ⟨w.heap.size+1+1+1,0,none⟩),.int .i64 (x.1:Nat),.int .u32 (gr a x.1:Nat),.int .u64 (n:Nat),.slice p a.length c,.int .i64 (a.length:Nat),.slice (some ⟨w.heap.size+1+1,0,none⟩) a.length a.length,.slice p a.length c,.func (.func 178) #[] #[.pointer (some ⟨w.heap.size+1+1+1+1,0,none⟩)],.int .i64 (x.1:Nat),.int .u32 (gr a x.1:Nat),.int .u64 (r:Nat),.int .u64 ((r:Int)*1000000000),.int .u32 (gr a x.1:Nat),.int .u64 (gr a x.1:Nat),.int .u64 (n:Nat),t22,t23,t24,t25,t26,t27,t28,t29,t30,t31,t32,t33,undef,undef,undef,undef],[]⟩/\(L.getD 0 false=true->t22=.slice (some ⟨w.heap.size+1+1,0,none⟩) a.length a.length)/\(L.getD 1 false=true->t23=.int .i64 (x.1:Nat))/\(L.getD 2 false=true->t24=.int .u64 (n:Nat))/\(L.getD 3 false=true->t25=.int .u32 (d:Nat))/\(L.getD 4 false=true->t26=.int .u64 (d:Nat))/\(L.getD 5 false=true->t27=.int .u64 (v:Nat))/\(L.getD 6 false=true->t28=.int .u32 (v:Nat))/\(L.getD 7 false=true->t29=.int .u64 (n:Nat))/\(L.getD 8 false=true->t30=.int .u32 (d:Nat))/\(L.getD 9 false=true->t31=.int .u64 (d:Nat))/\(L.getD 10 false=true->t32=.int .u64 (u:Nat))/\(L.getD 11 false=true->t33=.pointer (some ⟨w.heap.size+1+1,x.1,none⟩)))/\((L.getD 12 false=false/\L.getD 13 false=false/\W'=W.drew)\/(L.getD 12 false=true/\L.getD 13 false=false/\W'=(W.drew.setCell ⟨w.heap.size+1+1,x.1,none⟩ (.int .u32 (v:Nat))))\/(L.getD 12 false=true/\L.getD 13 false=true/\W'=((W.drew.setCell ⟨w.heap.size+1+1,x.1,none⟩ (.int .u32 (v:Nat))).setCell ⟨w.heap.size+1+1+1,0,none⟩ (.int .u64 (u:Nat)))))) (by kernel_rfl) ?hend ?hstep _ _ _ _ (by rw[DN];exact Nat.le_refl _) ?h0
  case h0 =>
   refine⟨by simp,⟨undef,undef,undef,undef,undef,undef,undef,undef,undef,undef,undef,undef,rfl,?_⟩,.inl ⟨yM _ _,yM _ _,rfl⟩⟩
   simp[yM]
  case hend =>
   rintro L a' W' ⟨hL,⟨t22,t23,t24,t25,t26,t27,t28,t29,t30,t31,t32,t33,rfl,hc⟩,hw⟩ hall
   have h12:=nM hL (by omega) (hall 12 (by show 12<14;omega))
   have h13:=nM hL (by omega) (hall 13 (by show 13<14;omega))
   rcases hw with⟨e,_⟩|⟨_,e,_⟩|⟨_,_,rfl⟩
   ·rw[h12] at e;cases e
   ·rw[h13] at e;cases e
   ·clear hc hall
    have hst:=h6.stored x.1 (.int .u32 (v:Nat))
    rw[fO] at hst
    have hBd:Below w.heap.size w W.drew:=hB.drew
    have hKB:KB w.heap.size (w.heap.size+1+1+1+1) W ((W.drew.setCell ⟨w.heap.size+1+1,x.1,none⟩ (.int .u32 (v:Nat))).setCell ⟨w.heap.size+1+1+1,0,none⟩ (.int .u64 (u:Nat))) :=
     (KB.trans (⟨(Below.refl _ W).drew,rfl⟩:KB w.heap.size (w.heap.size+1+1+1+1) W W.drew) (KB.setCell (p:=⟨w.heap.size+1+1,x.1,none⟩) (by simp;omega) (by simp) _)).trans (KB.setCell (p:=⟨w.heap.size+1+1+1,0,none⟩) (by simp;omega) (by simp) _)
    refine⟨(((KeepsOthers.drew W).trans (KeepsOthers.setCell _ _ _)).trans (KeepsOthers.setCell _ _ _)).from _,hKB,⟨?_,?_,?_,?_,?_,?_⟩,hB.trans hKB.1⟩
    ·simp[go_sem,h1]
    ·simp[go_sem,h2]
    ·simp[go_sem,h3]
    ·rw[HSN.out];exact World.cell?_setCell_same' _ _ _ (by simp[go_sem,h4])
    ·simp[go_sem,h5]
    ·rw[HSN.out]
     have h7:(W.drew.setCell ⟨w.heap.size+1+1,x.1,none⟩ (.int .u32 (v:Nat))).ownsRow w.heap.size 118 1 (.slice (some ⟨w.heap.size+1+1,0,none⟩) a.length a.length) a.length (cells32 (q.set x.1 v)):=hst.1
     refine h7.kept (row:=some (w.heap.size+1+1+1)) ⟨rfl,rfl,rfl,by simp[World.setCell],fun k hk hne=>Below.heap_setCell _ _ _ _ (by intro e;exact hne (by rw[e]))⟩ (.inr (by simp[Value.ownBlock]))
  case hstep =>
   have hu2:(n:Int).tmod d=u:=by rw[Int.tmod_eq_emod_of_nonneg (by omega)];exact hu
   clear hI ha hd hd2 hl hro z2 hB hg b1 b2 b3 h6 hn hn4 hu hv3 hu3 HSN a0l a7N a7O
   rintro L a' W' i o ⟨hL,⟨t22,t23,t24,t25,t26,t27,t28,t29,t30,t31,t32,t33,rfl,hc⟩,hw⟩ ho hl gY
   have hi:i<14:=(Array.getElem?_eq_some_iff.1 ho).1
   obtain⟨k0,k1,k2,k3,k4,k5,k6,k7,k8,k9,k10,k11⟩:=hc
   have hs:=jI hl
   have hl':=uO hl
   obtain rfl|rfl|rfl|rfl|rfl|rfl|rfl|rfl|rfl|rfl|rfl|rfl|rfl|rfl:i=0\/i=1\/i=2\/i=3\/i=4\/i=5\/i=6\/i=7\/i=8\/i=9\/i=10\/i=11\/i=12\/i=13:=by omega
   all_goals cases ho
   all_goals simp[Region.binds] at gY
   all_goals simp only[Array.getD_eq_getD_getElem?] at k0 k1 k2 k3 k4 k5 k6 k7 k8 k9 k10 k11 hw hl'
   ·
    clear gY
    rcases hw with⟨e12,e13,rfl⟩|⟨e12,e13,rfl⟩|⟨e12,e13,rfl⟩
    all_goals (unfold wpOpIn;simp[go_sem,h1,h2,h3,h4,h5,hcl,hfr,hw3,hw4])
    all_goals (first|(refine⟨hL,⟨_,_,_,_,_,_,_,_,_,_,_,_,⟨rfl,rfl,rfl,rfl,rfl,rfl,rfl,rfl,rfl,rfl,rfl,rfl⟩,?_⟩,?_⟩<;>(simp_all;done))|(simp_all;done)|trace_state)
   ·
    clear gY
    rcases hw with⟨e12,e13,rfl⟩|⟨e12,e13,rfl⟩|⟨e12,e13,rfl⟩
    all_goals (unfold wpOpIn;simp[go_sem,h1,h2,h3,h4,h5,hcl,hfr,hw3,hw4])
    all_goals (first|(refine⟨hL,⟨_,_,_,_,_,_,_,_,_,_,_,_,⟨rfl,rfl,rfl,rfl,rfl,rfl,rfl,rfl,rfl,rfl,rfl,rfl⟩,?_⟩,?_⟩<;>(simp_all;done))|(simp_all;done)|trace_state)
   ·
    clear gY
    rcases hw with⟨e12,e13,rfl⟩|⟨e12,e13,rfl⟩|⟨e12,e13,rfl⟩
    all_goals (unfold wpOpIn;simp[go_sem,h1,h2,h3,h4,h5,hcl,hfr,hw3,hw4])
    all_goals (first|(refine⟨hL,⟨_,_,_,_,_,_,_,_,_,_,_,_,⟨rfl,rfl,rfl,rfl,rfl,rfl,rfl,rfl,rfl,rfl,rfl,rfl⟩,?_⟩,?_⟩<;>(simp_all;done))|(simp_all;done)|trace_state)
   ·
    clear gY
    rcases hw with⟨e12,e13,rfl⟩|⟨e12,e13,rfl⟩|⟨e12,e13,rfl⟩
    all_goals (unfold wpOpIn;simp[go_sem,h1,h2,h3,h4,h5,hcl,hfr,hw3,hw4])
    all_goals (first|(refine⟨hL,⟨_,_,_,_,_,_,_,_,_,_,_,_,⟨rfl,rfl,rfl,rfl,rfl,rfl,rfl,rfl,rfl,rfl,rfl,rfl⟩,?_⟩,?_⟩<;>(simp_all;done))|(simp_all;done)|trace_state)
   ·
    obtain rfl:=k3 (by simp[gY])
    clear gY
    rcases hw with⟨e12,e13,rfl⟩|⟨e12,e13,rfl⟩|⟨e12,e13,rfl⟩
    all_goals (unfold wpOpIn;simp[go_sem,h1,h2,h3,h4,h5,hcl,hfr,hw3,hw4])
    all_goals (first|(refine⟨hL,⟨_,_,_,_,_,_,_,_,_,_,_,_,⟨rfl,rfl,rfl,rfl,rfl,rfl,rfl,rfl,rfl,rfl,rfl,rfl⟩,?_⟩,?_⟩<;>(simp_all;done))|(simp_all;done)|trace_state)
   ·
    obtain rfl:=k2 (by simp[gY])
    obtain rfl:=k4 (by simp[gY])
    clear gY
    rcases hw with⟨e12,e13,rfl⟩|⟨e12,e13,rfl⟩|⟨e12,e13,rfl⟩
    all_goals (unfold wpOpIn;simp[go_sem,h1,h2,h3,h4,h5,hcl,hfr,hw3,hw4,hdz,hdn,hv,hu2,hw1,hw2])
    all_goals (first|(refine⟨hL,⟨_,_,_,_,_,_,_,_,_,_,_,_,⟨rfl,rfl,rfl,rfl,rfl,rfl,rfl,rfl,rfl,rfl,rfl,rfl⟩,?_⟩,?_⟩<;>(simp_all;done))|(simp_all;done)|trace_state)
   ·
    obtain rfl:=k5 (by simp[gY])
    clear gY
    rcases hw with⟨e12,e13,rfl⟩|⟨e12,e13,rfl⟩|⟨e12,e13,rfl⟩
    all_goals (unfold wpOpIn;simp[go_sem,h1,h2,h3,h4,h5,hcl,hfr,hw3,hw4])
    all_goals (first|(refine⟨hL,⟨_,_,_,_,_,_,_,_,_,_,_,_,⟨rfl,rfl,rfl,rfl,rfl,rfl,rfl,rfl,rfl,rfl,rfl,rfl⟩,?_⟩,?_⟩<;>(simp_all;done))|(simp_all;done)|trace_state)
   ·
    clear gY
    rcases hw with⟨e12,e13,rfl⟩|⟨e12,e13,rfl⟩|⟨e12,e13,rfl⟩
    all_goals (unfold wpOpIn;simp[go_sem,h1,h2,h3,h4,h5,hcl,hfr,hw3,hw4])
    all_goals (first|(refine⟨hL,⟨_,_,_,_,_,_,_,_,_,_,_,_,⟨rfl,rfl,rfl,rfl,rfl,rfl,rfl,rfl,rfl,rfl,rfl,rfl⟩,?_⟩,?_⟩<;>(simp_all;done))|(simp_all;done)|trace_state)
   ·
    clear gY
    rcases hw with⟨e12,e13,rfl⟩|⟨e12,e13,rfl⟩|⟨e12,e13,rfl⟩
    all_goals (unfold wpOpIn;simp[go_sem,h1,h2,h3,h4,h5,hcl,hfr,hw3,hw4])
    all_goals (first|(refine⟨hL,⟨_,_,_,_,_,_,_,_,_,_,_,_,⟨rfl,rfl,rfl,rfl,rfl,rfl,rfl,rfl,rfl,rfl,rfl,rfl⟩,?_⟩,?_⟩<;>(simp_all;done))|(simp_all;done)|trace_state)
   ·
    obtain rfl:=k8 (by simp[gY])
    clear gY
    rcases hw with⟨e12,e13,rfl⟩|⟨e12,e13,rfl⟩|⟨e12,e13,rfl⟩
    all_goals (unfold wpOpIn;simp[go_sem,h1,h2,h3,h4,h5,hcl,hfr,hw3,hw4])
    all_goals (first|(refine⟨hL,⟨_,_,_,_,_,_,_,_,_,_,_,_,⟨rfl,rfl,rfl,rfl,rfl,rfl,rfl,rfl,rfl,rfl,rfl,rfl⟩,?_⟩,?_⟩<;>(simp_all;done))|(simp_all;done)|trace_state)
   ·
    obtain rfl:=k7 (by simp[gY])
    obtain rfl:=k9 (by simp[gY])
    clear gY
    rcases hw with⟨e12,e13,rfl⟩|⟨e12,e13,rfl⟩|⟨e12,e13,rfl⟩
    all_goals (unfold wpOpIn;simp[go_sem,h1,h2,h3,h4,h5,hcl,hfr,hw3,hw4,hdz,hdn,hv,hu2,hw1,hw2])
    all_goals (first|(refine⟨hL,⟨_,_,_,_,_,_,_,_,_,_,_,_,⟨rfl,rfl,rfl,rfl,rfl,rfl,rfl,rfl,rfl,rfl,rfl,rfl⟩,?_⟩,?_⟩<;>(simp_all;done))|(simp_all;done)|trace_state)
   ·
    obtain rfl:=k0 (by simp[gY])
    obtain rfl:=k1 (by simp[gY])
    clear gY
    rcases hw with⟨e12,e13,rfl⟩|⟨e12,e13,rfl⟩|⟨e12,e13,rfl⟩
    all_goals (unfold wpOpIn;simp[go_sem,h1,h2,h3,h4,h5,hcl,hfr,hw3,hw4])
    all_goals (first|(refine⟨hL,⟨_,_,_,_,_,_,_,_,_,_,_,_,⟨rfl,rfl,rfl,rfl,rfl,rfl,rfl,rfl,rfl,rfl,rfl,rfl⟩,?_⟩,?_⟩<;>(simp_all;done))|(simp_all;done)|trace_state)
   ·
    obtain rfl:=k11 (by simp[gY])
    obtain rfl:=k6 (by simp[gY])
    clear gY
    rcases hw with⟨e12,e13,rfl⟩|⟨e12,e13,rfl⟩|⟨e12,e13,rfl⟩
    all_goals (unfold wpOpIn;simp[go_sem,h1,h2,h3,h4,h5,hcl,hfr,hw3,hw4])
    all_goals (first|(refine⟨hL,⟨_,_,_,_,_,_,_,_,_,_,_,_,⟨rfl,rfl,rfl,rfl,rfl,rfl,rfl,rfl,rfl,rfl,rfl,rfl⟩,?_⟩,?_⟩<;>(simp_all;done))|(simp_all;done)|trace_state)
   ·
    obtain rfl:=k10 (by simp[gY])
    rcases hw with⟨e12,e13,rfl⟩|⟨e12,e13,rfl⟩|⟨e12,e13,rfl⟩
    all_goals (unfold wpOpIn;simp[go_sem,h1,h2,h3,h4,h5,hcl,hfr,hw3,hw4])
    all_goals (first|(refine⟨hL,⟨_,_,_,_,_,_,_,_,_,_,_,_,⟨rfl,rfl,rfl,rfl,rfl,rfl,rfl,rfl,rfl,rfl,rfl,rfl⟩,?_⟩,?_⟩<;>(simp_all;done))|(simp_all;done)|trace_state)
 case done =>
  rintro D ys W hD ⟨hb,hlen⟩ ⟨hS,hB⟩ hK
  obtain⟨e1,e2,e3⟩:=b0M hd hd2 ha hb hlen
  obtain⟨b1,b2,b3⟩:=a3c hd hd2 ha ys
  obtain⟨h1,h2,h3,h4,h5,h6⟩:=hS
  generalize (shf a d ys).2=r at *
  generalize (shf a d ys).1=q at *
  have hR:=Rd.bZ (l:=q) (by rw[b1];exact h6)
  clear hW2 hmk bD bQ bR bS hB0 hB2 hO2 bD2
  have a0l:Tryz.prog.follows .mixedOrders=true:=by kernel_rfl
  have hR2:Rd W.drew (.slice (some ⟨w.heap.size+1+1,0,none⟩) a.length a.length) q:=hR.drew
  have hw1:IntKind.u32.wrap (r:Int)=r:=by simp[IntKind.wrap,IntKind.bits,IntKind.signed];omega
  have HT:Hid (eY q=dig (val a / d)):=by unfold Hid eY;rw[e2]
  have HR:Hid (r=val a%d):=e1
  clear e1 e2
  gi_wp2
  refine wpIn_wide.2 (wp_region_noPanic ?_)
  go_region_with (go_at_call 157;refine(JF _ _ _ q _ hR2 e3 b1).mono ?_;rintro e w' ⟨rfl,rfl⟩)
  all_goals refine NoPanic.normal ?_
  all_goals gi_wp2
  all_goals
   have hK':(W.drew.setCell ⟨w.heap.size+1,0,none⟩ (.slice (some ⟨w.heap.size+1+1,0,none⟩) (eY q).length a.length)).heap[D]?=some (.deferred (some [])):=(KeepsOthers.setCell W.drew ⟨w.heap.size+1,0,none⟩ _).same D _ hK rfl
   have hc5:=cell_kept (World.cell?_setCell_same' W.drew ⟨w.heap.size+1,0,none⟩ (.slice (some ⟨w.heap.size+1+1,0,none⟩) (eY q).length a.length) (by simp[go_sem,h2])) (grownBy_putObj' _ D (.deferred none)) (fun r e=>by cases e;exact⟨_,hK',rfl⟩)
   have hc6:((W.setCell ⟨w.heap.size+1,0,none⟩ (.slice (some ⟨w.heap.size+1+1,0,none⟩) (eY q).length a.length)).drew.putObj D (.deferred none)).cell? ⟨w.heap.size+1,0,none⟩=some (.slice (some ⟨w.heap.size+1+1,0,none⟩) (eY q).length a.length):=hc5
   have hO:=rF h6 e3 b1
   have hO2:(W.drew.setCell ⟨w.heap.size+1,0,none⟩ (.slice (some ⟨w.heap.size+1+1,0,none⟩) (eY q).length a.length)).ownsRow w.heap.size 118 1 (.slice (some ⟨w.heap.size+1+1,0,none⟩) (eY q).length a.length) (eY q).length (cells32 (eY q)):=by
    have hO1:W.drew.ownsRow w.heap.size 118 1 (.slice (some ⟨w.heap.size+1+1,0,none⟩) (eY q).length a.length) (eY q).length (cells32 (eY q)):=hO
    refine hO1.kept (row:=some (w.heap.size+1)) ⟨rfl,rfl,rfl,by simp[World.setCell],fun k hk hne=>Below.heap_setCell _ _ _ _ (by intro e;exact hne (by rw[e]))⟩ (.inr (by simp[Value.ownBlock]))
   refine⟨by simp,.inl ⟨_,_,rfl,run_takeDeferred hK',?_⟩⟩
   refine⟨.tuple #[.slice (some ⟨w.heap.size+1+1,0,none⟩) (eY q).length a.length,.int .u32 (r:Nat)],?_,.slice (some ⟨w.heap.size+1+1,0,none⟩) (eY q).length a.length,?_,?_,?_⟩
   ·simp[results,Tryz.f168,go_sem,hc6]
   ·rw[HR.out]
   ·rw[<-HT.out];exact ownsRow_putObj hO2 _ hK' rfl
   ·exact(hB.drew.setCell (p:=⟨w.heap.size+1,0,none⟩) (by simp) _).trans (belowK_b (w:=w) (Nat.le_refl _) _ D _ _ (by simp at hD;omega) hK' rfl rfl)
 case stop =>
  rintro D c pre W _ _ h _
  exact h.elim
theorem short_any (s:Value) (a:List Nat) (d:Nat) (w:World) (hs:Rd w s a) (ha:Low a) (hd:1<=d) (hd2:d<=999999999) (hl:a.length<=2000000000) :
  Calls Tryz.prog 168 #[s,.int .u32 (d:Nat)] w fun e W'=>∃ v,e=.returned (.tuple #[v,.int .u32 (val a%d:Nat)]) /\
   W'.ownsRow w.heap.size 118 1 v (dig (val a / d)).length (cells32 (dig (val a / d)))/\Below w.heap.size w W':=by
 obtain⟨p,c,rfl,_,_⟩:=hs.form
 exact callsIn_wide.1 (a9a a d p c w hs ha hd hd2 hl)
end Go.Proofs.YtidfgdchcpmnfaaGreat
namespace Go.Proofs.YtidfgdchcpmnfaaGreat
open Go.RowKit
set_option maxRecDepth 100000
set_option maxHeartbeats 800000
set_option linter.unusedSimpArgs false
set_option linter.unusedVariables false
theorem sum_any (neg oth:Bool) (s t:Value) (a b:List Nat) (w:World) (hs:Rd w s a) (ht:Rd w t b) (ha:Canon a) (hb:Canon b) (la:a.length<=1000000000) (lb:b.length<=1000000000) :
  Calls Tryz.prog 150 #[.bool neg,s,.bool oth,t] w (kP (sg neg (val a)+sg oth (val b)) w):=by
 have q0:=Bx.new w [.bool false,.slice none 0 0] 28
 have hs1:=hs.alloc (.cells #[.bool false,.slice none 0 0] 28)
 have ht1:=ht.alloc (.cells #[.bool false,.slice none 0 0] 28)
 have hB0:Below w.heap.size w (w.alloc (.cells #[.bool false,.slice none 0 0] 28)):=(Below.refl _ _).alloc (Nat.le_refl _) _
 by_cases he:neg=oth
 ·subst he
  have hd:(neg==neg)=true:=by simp
  have HX:Hid (sg neg (val (dig (val a+val b)))=sg neg (val a)+sg neg (val b)):=by unfold Hid;rw[aK];cases neg<;>simp[sg]<;>omega
  go_enter Tryz.func150,Tryz.ntmps150
  go_wp2_with fail
  refine(a0J _ _ a b _ hs1 ht1 ha.1 hb.1 la lb).mono ?_
  rintro e w1 ⟨v1,rfl,ho1,hb1⟩
  go_wp2_with fail
  refine(iF neg _ _ _ (Rd.bZ ho1) (bK _)).mono ?_
  rw[HX.out]
  rintro e w2 ⟨v2,rfl,hi2,hb2⟩
  obtain⟨g2,p2,n2,c2,rfl⟩:=hi2.form
  have q2:=(q0.to hb1).to hb2
  have r0:=q2.c0
  have r1:=q2.c1
  have f0:=q2.f0
  have f1:=q2.f1
  have hB:Below w.heap.size w w2:=(hB0.trans (hb1.mono (by simp))).trans (hb2.mono (by have:=hb1.size;simp at this;omega))
  go_wp2_with fail
  exact bodyPost_ret (v:=.agg #[.bool g2,.slice p2 n2 c2]) (by simp[results,Tryz.results150,go_sem,r0,r1]) rfl ⟨_,rfl,hi2.xY r0 r1 _ _,jY hB (Nat.le_refl _) _ _⟩
 ·have hd:(neg==oth)=false:=by simpa using he
  by_cases hle:val b<=val a
  ·have HX:Hid (sg neg (val (dig (val a-val b)))=sg neg (val a)+sg oth (val b)):=by unfold Hid;rw[aK];cases neg<;>cases oth<;>simp[sg] at he ⊢<;>omega
   have hlen:b.length<=a.length:=by
    have:=aQ hle
    rwa [dX ha,dX hb] at this
   have hc:0<=dB (val a) (val b):=by unfold dB;rw[if_neg (by omega)];split<;>omega
   have hdc:decide (0<=dB (val a) (val b))=true:=by simpa using hc
   have HE:=Lib.hid he
   clear he hc
   generalize hcv:dB (val a) (val b)=cv at hdc
   have HCV:=Lib.hid hcv
   clear hcv
   go_enter Tryz.func150,Tryz.ntmps150
   go_wp2_with fail
   refine(kS _ _ a b _ hs1 ht1 ha hb).mono ?_
   rw[HCV.out]
   rintro e w1 ⟨rfl,hb1⟩
   go_wp2_with fail
   refine(IW _ _ a b _ (hs1.below hb1) (ht1.below hb1) ha.1 hb.1 la hlen hle).mono ?_
   rintro e w2 ⟨v2,rfl,ho2,hb2⟩
   go_wp2_with fail
   refine(iF neg _ _ _ (Rd.bZ ho2) (bK _)).mono ?_
   rw[HX.out]
   rintro e w3 ⟨v3,rfl,hi3,hb3⟩
   obtain⟨g2,p2,n2,c2,rfl⟩:=hi3.form
   have q2:=((q0.to hb1).to hb2).to hb3
   have r0:=q2.c0
   have r1:=q2.c1
   have f0:=q2.f0
   have f1:=q2.f1
   have hz1:=hb1.size
   have hz2:=hb2.size
   simp at hz1
   have hB:Below w.heap.size w w3:=((hB0.trans (hb1.mono (by simp))).trans (hb2.mono (by omega))).trans (hb3.mono (by omega))
   go_wp2_with fail
   exact bodyPost_ret (v:=.agg #[.bool g2,.slice p2 n2 c2]) (by simp[results,Tryz.results150,go_sem,r0,r1]) rfl ⟨_,rfl,hi3.xY r0 r1 _ _,jY hB (Nat.le_refl _) _ _⟩
  ·have HX:Hid (sg oth (val (dig (val b-val a)))=sg neg (val a)+sg oth (val b)):=by unfold Hid;rw[aK];cases neg<;>cases oth<;>simp[sg] at he ⊢<;>omega
   have hle':val a<=val b:=by omega
   have hlen:a.length<=b.length:=by
    have:=aQ hle'
    rwa [dX ha,dX hb] at this
   have hc:dB (val a) (val b)<0:=by unfold dB;rw[if_pos (by omega)];omega
   have hdc:decide (0<=dB (val a) (val b))=false:=by simpa using hc
   have HE:=Lib.hid he
   clear he hc hle
   generalize hcv:dB (val a) (val b)=cv at hdc
   have HCV:=Lib.hid hcv
   clear hcv
   go_enter Tryz.func150,Tryz.ntmps150
   go_wp2_with fail
   refine(kS _ _ a b _ hs1 ht1 ha hb).mono ?_
   rw[HCV.out]
   rintro e w1 ⟨rfl,hb1⟩
   go_wp2_with fail
   refine(IW _ _ b a _ (ht1.below hb1) (hs1.below hb1) hb.1 ha.1 lb hlen hle').mono ?_
   rintro e w2 ⟨v2,rfl,ho2,hb2⟩
   go_wp2_with fail
   refine(iF oth _ _ _ (Rd.bZ ho2) (bK _)).mono ?_
   rw[HX.out]
   rintro e w3 ⟨v3,rfl,hi3,hb3⟩
   obtain⟨g2,p2,n2,c2,rfl⟩:=hi3.form
   have q2:=((q0.to hb1).to hb2).to hb3
   have r0:=q2.c0
   have r1:=q2.c1
   have f0:=q2.f0
   have f1:=q2.f1
   have hz1:=hb1.size
   have hz2:=hb2.size
   simp at hz1
   have hB:Below w.heap.size w w3:=((hB0.trans (hb1.mono (by simp))).trans (hb2.mono (by omega))).trans (hb3.mono (by omega))
   go_wp2_with fail
   exact bodyPost_ret (v:=.agg #[.bool g2,.slice p2 n2 c2]) (by simp[results,Tryz.results150,go_sem,r0,r1]) rfl ⟨_,rfl,hi3.xY r0 r1 _ _,jY hB (Nat.le_refl _) _ _⟩
set_option maxHeartbeats 2000000
theorem a9t (v:Value) (x:Int) (w:World) (hv:Raw w v x) (hl:isz x<=1000000000) :
  Calls Tryz.prog 131 #[v] w (kP (x.natAbs:Nat) w):=by
 obtain⟨b,p,n,c,rfl⟩:=hv.form
 have HX:Hid (sg false (val (dig x.natAbs))=(x.natAbs:Nat)):=by unfold Hid;rw[aK];rfl
 have aY:Below w.heap.size w w:=Below.refl _ _
 have nC:=hv.alloc (.cells #[.bool b,.slice p n c] 28)
 have lS:=Below.alloc aY aY.size (.cells #[.bool b,.slice p n c] 28)
 clear aY
 have q_1:Bx (w.alloc (.cells #[.bool b,.slice p n c] 28)) (w.heap.size) [.bool b,.slice p n c]:=by
  have:=Bx.new w [.bool b,.slice p n c] 28
  simpa using this
 have wH:=nC.alloc (.cells #[.bool false,.slice none 0 0] 28)
 have pW:=Below.alloc lS lS.size (.cells #[.bool false,.slice none 0 0] 28)
 have q_2:=q_1.alloc (.cells #[.bool false,.slice none 0 0] 28)
 clear nC lS q_1
 have r_2:Bx ((w.alloc (.cells #[.bool b,.slice p n c] 28)).alloc (.cells #[.bool false,.slice none 0 0] 28)) (w.heap.size+1) [.bool false,.slice none 0 0]:=by
  have:=Bx.new (w.alloc (.cells #[.bool b,.slice p n c] 28)) [.bool false,.slice none 0 0] 28
  simpa using this
 have e0:=q_2.c0
 have g0:=q_2.c1
 go_enter Tryz.func131,Tryz.ntmps131
 go_wp2_with fail
 refine(dP _ x _ wH).mono ?_
 rintro e w1 ⟨s1,rfl,hs1,hb1⟩
 have yQ:=wH.below hb1
 have sV:=pW.trans (hb1.mono pW.size)
 have q_3:=q_2.to hb1
 have r_3:=r_2.to hb1
 clear wH pW q_2 r_2
 go_wp2_with fail
 refine(clone_any _ _ _ hs1 hl).mono ?_
 rintro e w2 ⟨s2,rfl,ho2,hb2⟩
 have BH:=yQ.below hb2
 have uQ:=sV.trans (hb2.mono sV.size)
 have q_4:=q_3.to hb2
 have r_4:=r_3.to hb2
 have b6F:=hs1.below hb2
 clear yQ sV q_3 r_3 hs1
 have hs2:=Rd.bZ ho2
 go_wp2_with fail
 refine(iF _ _ _ _ hs2 (bK _)).mono ?_
 rintro e w3 ⟨s3,rfl,hi3,hb3⟩
 have SG:=BH.below hb3
 have EK:=uQ.trans (hb3.mono uQ.size)
 have q_5:=q_4.to hb3
 have r_5:=r_4.to hb3
 have b9u:=b6F.below hb3
 have d0:=hs2.below hb3
 clear BH uQ q_4 r_4 b6F
 obtain⟨g3,p3,n3,c3,rfl⟩:=hi3.form
 have a0:=r_5.c0
 have h0:=r_5.f0
 have b0:=r_5.c1
 have i0:=r_5.f1
 go_wp2_with fail
 exact bodyPost_ret (v:=.agg #[.bool g3,.slice p3 n3 c3]) (by simp[results,Tryz.results131,go_sem, *]) rfl ⟨_,rfl,by rw[<-HX.out];exact hi3.xY a0 b0 _ _,jY EK (by omega) _ _⟩
theorem vN (v:Value) (x:Int) (w:World) (hv:Raw w v x) :
  Calls Tryz.prog 117 #[v] w fun e w'=>e=.returned (.int .i64 x.sign)/\Below w.heap.size w w':=by
 obtain⟨b,p,n,c,rfl⟩:=hv.form
 have aY:Below w.heap.size w w:=Below.refl _ _
 have nC:=hv.alloc (.cells #[.bool b,.slice p n c] 28)
 have lS:=Below.alloc aY aY.size (.cells #[.bool b,.slice p n c] 28)
 clear aY
 have q_1:Bx (w.alloc (.cells #[.bool b,.slice p n c] 28)) (w.heap.size) [.bool b,.slice p n c]:=by
  have:=Bx.new w [.bool b,.slice p n c] 28
  simpa using this
 have d0:=q_1.c0
 have e0:=q_1.c1
 have HS:=Lib.hid (fun h:x≠0=>hv.sign h)
 by_cases hx:x=0
 ·have hl0:(dig x.natAbs).length=0:=by subst hx;simp[dQ]
  have HV:=Lib.hid hx
  clear hx
  go_enter Tryz.func117,Tryz.ntmps117
  go_wp2_with fail
  refine(dP _ x _ nC).mono ?_
  rintro e w1 ⟨s1,rfl,hs1,hb1⟩
  have wH:=nC.below hb1
  have pW:=lS.trans (hb1.mono lS.size)
  have q_2:=q_1.to hb1
  clear nC lS q_1
  obtain⟨p1,c1,rfl,hc1,hc2⟩:=hs1.form
  rw[hl0]
  go_wp2_with fail
  go_ret
  exact⟨by rw[HV.out];rfl,pW⟩
 ·have hb:b=decide (x<0):=HS.out hx
  have hl0:0<(dig x.natAbs).length:=by
   rcases Nat.eq_zero_or_pos (dig x.natAbs).length with h|h
   ·have:=(jB (n:=x.natAbs)).1 (List.eq_nil_of_length_eq_zero h)
    omega
   ·exact h
  by_cases hn:x<0
  ·have hbt:b=true:=by rw[hb];simpa using hn
   have HV:=Lib.hid (And.intro hx hn)
   clear hx hn hb
   subst hbt
   go_enter Tryz.func117,Tryz.ntmps117
   go_wp2_with fail
   refine(dP _ x _ nC).mono ?_
   rintro e w1 ⟨s1,rfl,hs1,hb1⟩
   have wH:=nC.below hb1
   have pW:=lS.trans (hb1.mono lS.size)
   have q_2:=q_1.to hb1
   clear nC lS q_1
   obtain⟨p1,c1,rfl,hc1,hc2⟩:=hs1.form
   have a0:=q_2.c0
   have b0:=q_2.c1
   go_wp2_with fail
   go_ret
   exact⟨by rw[Int.sign_eq_neg_one_of_neg HV.out.2];rfl,pW⟩
  ·have hbt:b=false:=by rw[hb];simpa using hn
   have HV:=Lib.hid (And.intro hx hn)
   clear hx hn hb
   subst hbt
   go_enter Tryz.func117,Tryz.ntmps117
   go_wp2_with fail
   refine(dP _ x _ nC).mono ?_
   rintro e w1 ⟨s1,rfl,hs1,hb1⟩
   have wH:=nC.below hb1
   have pW:=lS.trans (hb1.mono lS.size)
   have q_2:=q_1.to hb1
   clear nC lS q_1
   obtain⟨p1,c1,rfl,hc1,hc2⟩:=hs1.form
   have a0:=q_2.c0
   have b0:=q_2.c1
   go_wp2_with fail
   go_ret
   exact⟨by rw[Int.sign_eq_one_of_pos (by have:=HV.out;omega)];rfl,pW⟩
theorem add_any (v u:Value) (x y:Int) (w:World) (hv:Raw w v x) (hu:Raw w u y) (hl:isz x<=1000000000) (hl2:isz y<=1000000000) :
  Calls Tryz.prog 107 #[v,u] w (kP (x+y) w):=by
 obtain⟨b,p,n,c,rfl⟩:=hv.form
 obtain⟨d,o,m,e,rfl⟩:=hu.form
 have HX:Hid (sg b (val (dig x.natAbs))+sg d (val (dig y.natAbs))=x+y):=by unfold Hid;rw[aK,aK,vM hv,vM hu]
 have aY:Below w.heap.size w w:=Below.refl _ _
 have nC:=hv.alloc (.cells #[.bool b,.slice p n c] 28)
 have iU:=hu.alloc (.cells #[.bool b,.slice p n c] 28)
 have lS:=Below.alloc aY aY.size (.cells #[.bool b,.slice p n c] 28)
 clear aY
 have q_1:Bx (w.alloc (.cells #[.bool b,.slice p n c] 28)) (w.heap.size) [.bool b,.slice p n c]:=by
  have:=Bx.new w [.bool b,.slice p n c] 28
  simpa using this
 have wH:=nC.alloc (.cells #[.bool d,.slice o m e] 28)
 have SE:=iU.alloc (.cells #[.bool d,.slice o m e] 28)
 have pW:=Below.alloc lS lS.size (.cells #[.bool d,.slice o m e] 28)
 have q_2:=q_1.alloc (.cells #[.bool d,.slice o m e] 28)
 clear nC iU lS q_1
 have t_2:Bx ((w.alloc (.cells #[.bool b,.slice p n c] 28)).alloc (.cells #[.bool d,.slice o m e] 28)) (w.heap.size+1) [.bool d,.slice o m e]:=by
  have:=Bx.new (w.alloc (.cells #[.bool b,.slice p n c] 28)) [.bool d,.slice o m e] 28
  simpa using this
 have yQ:=wH.alloc (.cells #[.bool false,.slice none 0 0] 28)
 have EN:=SE.alloc (.cells #[.bool false,.slice none 0 0] 28)
 have sV:=Below.alloc pW pW.size (.cells #[.bool false,.slice none 0 0] 28)
 have q_3:=q_2.alloc (.cells #[.bool false,.slice none 0 0] 28)
 have t_3:=t_2.alloc (.cells #[.bool false,.slice none 0 0] 28)
 clear wH SE pW q_2 t_2
 have r_3:Bx (((w.alloc (.cells #[.bool b,.slice p n c] 28)).alloc (.cells #[.bool d,.slice o m e] 28)).alloc (.cells #[.bool false,.slice none 0 0] 28)) (w.heap.size+2) [.bool false,.slice none 0 0]:=by
  have:=Bx.new ((w.alloc (.cells #[.bool b,.slice p n c] 28)).alloc (.cells #[.bool d,.slice o m e] 28)) [.bool false,.slice none 0 0] 28
  simpa using this
 have BH:=yQ.drew
 have CW:=EN.drew
 have uQ:=sV.drew
 have q_4:=q_3.drew
 have t_4:=t_3.drew
 have r_4:=r_3.drew
 clear yQ EN sV q_3 t_3 r_3
 have S0:(fun w':World=>w'.cell? ⟨w.heap.size,0,none⟩=some (.bool b)/\w'.cell? ⟨w.heap.size,1,none⟩=some (.slice p n c)/\w'.cell? ⟨w.heap.size+1,0,none⟩=some (.bool d)/\w'.cell? ⟨w.heap.size+1,1,none⟩=some (.slice o m e)/\w.heap.size+1<w'.heap.size) (((w.alloc (.cells #[.bool b,.slice p n c] 28)).alloc (.cells #[.bool d,.slice o m e] 28)).alloc (.cells #[.bool false,.slice none 0 0] 28)).drew:=⟨q_4.c0,q_4.c1,t_4.c0,t_4.c1,t_4.1⟩
 have K:∀ A B:World,(fun w':World=>w'.cell? ⟨w.heap.size,0,none⟩=some (.bool b)/\w'.cell? ⟨w.heap.size,1,none⟩=some (.slice p n c)/\w'.cell? ⟨w.heap.size+1,0,none⟩=some (.bool d)/\w'.cell? ⟨w.heap.size+1,1,none⟩=some (.slice o m e)/\w.heap.size+1<w'.heap.size) A->Below A.heap.size A B->(fun w':World=>w'.cell? ⟨w.heap.size,0,none⟩=some (.bool b)/\w'.cell? ⟨w.heap.size,1,none⟩=some (.slice p n c)/\w'.cell? ⟨w.heap.size+1,0,none⟩=some (.bool d)/\w'.cell? ⟨w.heap.size+1,1,none⟩=some (.slice o m e)/\w.heap.size+1<w'.heap.size) B:=by
  rintro A B ⟨h0,h1,h2,h3,h4⟩ hb
  have hs:=hb.size
  exact⟨by rw[(eX hb).1 _ _ (by omega)];exact h0,by rw[(eX hb).1 _ _ (by omega)];exact h1,by rw[(eX hb).1 _ _ (by omega)];exact h2,by rw[(eX hb).1 _ _ (by omega)];exact h3,by omega⟩
 have KS0:∀ (A:World) (x0 x1:Value),(fun w':World=>w'.cell? ⟨w.heap.size,0,none⟩=some (.bool b)/\w'.cell? ⟨w.heap.size,1,none⟩=some (.slice p n c)/\w'.cell? ⟨w.heap.size+1,0,none⟩=some (.bool d)/\w'.cell? ⟨w.heap.size+1,1,none⟩=some (.slice o m e)/\w.heap.size+1<w'.heap.size) A->(fun w':World=>w'.cell? ⟨w.heap.size,0,none⟩=some (.bool b)/\w'.cell? ⟨w.heap.size,1,none⟩=some (.slice p n c)/\w'.cell? ⟨w.heap.size+1,0,none⟩=some (.bool d)/\w'.cell? ⟨w.heap.size+1,1,none⟩=some (.slice o m e)/\w.heap.size+1<w'.heap.size) ((A.setCell ⟨w.heap.size+2,0,none⟩ x0).setCell ⟨w.heap.size+2,1,none⟩ x1):=by
  rintro A x0 x1 ⟨h0,h1,h2,h3,h4⟩
  simp[go_sem,h0,h1,h2,h3,h4]
 have tk1:True:=trivial
 have tk2:True:=trivial
 go_enter Tryz.func107,Tryz.ntmps107
 go_wp2_with fail
 go_region_held3 (fun w':World=>w'.cell? ⟨w.heap.size,0,none⟩=some (.bool b)/\w'.cell? ⟨w.heap.size,1,none⟩=some (.slice p n c)/\w'.cell? ⟨w.heap.size+1,0,none⟩=some (.bool d)/\w'.cell? ⟨w.heap.size+1,1,none⟩=some (.slice o m e)/\w.heap.size+1<w'.heap.size) (first|exact S0|(simp;done)|exact K _ _ (by assumption) (by assumption)|exact KS0 _ _ _ (by assumption))
  (first
   | ((have:=tk1;skip);clear tk1;go_at_call 119;refine(dP _ x _ BH).mono ?_;rintro e w1 ⟨s1,rfl,hs1,hb1⟩;have SG:=BH.below hb1;have OO:=CW.below hb1;have EK:=uQ.trans (hb1.mono uQ.size);have q_5:=q_4.to hb1;have t_5:=t_4.to hb1;have r_5:=r_4.to hb1;clear BH CW uQ q_4 t_4 r_4)
   | ((have:=tk2;skip);clear tk2;go_at_call 119;refine(dP _ y _ OO).mono ?_;rintro e w2 ⟨s2,rfl,hs2,hb2⟩;have XG:=SG.below hb2;have a0p:=OO.below hb2;have OJ:=EK.trans (hb2.mono EK.size);have q_6:=q_5.to hb2;have t_6:=t_5.to hb2;have r_6:=r_5.to hb2;have a2l:=hs1.below hb2;clear SG OO EK q_5 t_5 r_5 hs1)
   | (go_at_call 150;refine(sum_any _ _ _ _ _ _ _ a2l hs2 (bH _) (bH _) hl hl2).mono ?_;rintro e w3 ⟨s3,rfl,hi3,hb3⟩;have a5v:=XG.below hb3;have a2m:=a0p.below hb3;have WZ:=OJ.trans (hb3.mono OJ.size);have q_7:=q_6.to hb3;have t_7:=t_6.to hb3;have r_7:=r_6.to hb3;have b2b:=a2l.below hb3;have d0:=hs2.below hb3;clear XG a0p OJ q_6 t_6 r_6 a2l;obtain⟨g3,p3,n3,c3,rfl⟩:=hi3.form;have a0:=r_7.c0;have e0:=r_7.f0;have b0:=r_7.c1;have g0:=r_7.f1))
 go_wp2_with fail
 exact bodyPost_ret (v:=.agg #[.bool g3,.slice p3 n3 c3]) (by simp[results,Tryz.results107,go_sem, *]) rfl ⟨_,rfl,by rw[<-HX.out];exact hi3.xY a0 b0 _ _,jY WZ (by omega) _ _⟩
theorem mul_any (v u:Value) (x y:Int) (w:World) (hv:Raw w v x) (hu:Raw w u y) (hl:isz x<=1000000000) (hl2:isz y<=1000000000) :
  Calls Tryz.prog 71 #[v,u] w (kP (x*y) w):=by
 obtain⟨b,p,n,c,rfl⟩:=hv.form
 obtain⟨d,o,m,e,rfl⟩:=hu.form
 have HX:Hid (sg (b != d) (val (dig (val (dig x.natAbs)*val (dig y.natAbs))))=x*y):=by
  have h1:=vM hv
  have h2:=vM hu
  unfold Hid;rw[aK,aK,aK]
  generalize x.natAbs=k at *
  generalize y.natAbs=l at *
  subst h1
  subst h2
  cases b<;>cases d<;>simp[sg,Int.neg_mul,Int.mul_neg]
 have aY:Below w.heap.size w w:=Below.refl _ _
 have nC:=hv.alloc (.cells #[.bool b,.slice p n c] 28)
 have iU:=hu.alloc (.cells #[.bool b,.slice p n c] 28)
 have lS:=Below.alloc aY aY.size (.cells #[.bool b,.slice p n c] 28)
 clear aY
 have q_1:Bx (w.alloc (.cells #[.bool b,.slice p n c] 28)) (w.heap.size) [.bool b,.slice p n c]:=by
  have:=Bx.new w [.bool b,.slice p n c] 28
  simpa using this
 have wH:=nC.alloc (.cells #[.bool d,.slice o m e] 28)
 have SE:=iU.alloc (.cells #[.bool d,.slice o m e] 28)
 have pW:=Below.alloc lS lS.size (.cells #[.bool d,.slice o m e] 28)
 have q_2:=q_1.alloc (.cells #[.bool d,.slice o m e] 28)
 clear nC iU lS q_1
 have t_2:Bx ((w.alloc (.cells #[.bool b,.slice p n c] 28)).alloc (.cells #[.bool d,.slice o m e] 28)) (w.heap.size+1) [.bool d,.slice o m e]:=by
  have:=Bx.new (w.alloc (.cells #[.bool b,.slice p n c] 28)) [.bool d,.slice o m e] 28
  simpa using this
 have yQ:=wH.alloc (.cells #[.bool false,.slice none 0 0] 28)
 have EN:=SE.alloc (.cells #[.bool false,.slice none 0 0] 28)
 have sV:=Below.alloc pW pW.size (.cells #[.bool false,.slice none 0 0] 28)
 have q_3:=q_2.alloc (.cells #[.bool false,.slice none 0 0] 28)
 have t_3:=t_2.alloc (.cells #[.bool false,.slice none 0 0] 28)
 clear wH SE pW q_2 t_2
 have r_3:Bx (((w.alloc (.cells #[.bool b,.slice p n c] 28)).alloc (.cells #[.bool d,.slice o m e] 28)).alloc (.cells #[.bool false,.slice none 0 0] 28)) (w.heap.size+2) [.bool false,.slice none 0 0]:=by
  have:=Bx.new ((w.alloc (.cells #[.bool b,.slice p n c] 28)).alloc (.cells #[.bool d,.slice o m e] 28)) [.bool false,.slice none 0 0] 28
  simpa using this
 have BH:=yQ.drew
 have CW:=EN.drew
 have uQ:=sV.drew
 have q_4:=q_3.drew
 have t_4:=t_3.drew
 have r_4:=r_3.drew
 clear yQ EN sV q_3 t_3 r_3
 have S0:(fun w':World=>w'.cell? ⟨w.heap.size,0,none⟩=some (.bool b)/\w'.cell? ⟨w.heap.size,1,none⟩=some (.slice p n c)/\w'.cell? ⟨w.heap.size+1,0,none⟩=some (.bool d)/\w'.cell? ⟨w.heap.size+1,1,none⟩=some (.slice o m e)/\w.heap.size+1<w'.heap.size) (((w.alloc (.cells #[.bool b,.slice p n c] 28)).alloc (.cells #[.bool d,.slice o m e] 28)).alloc (.cells #[.bool false,.slice none 0 0] 28)).drew:=⟨q_4.c0,q_4.c1,t_4.c0,t_4.c1,t_4.1⟩
 have K:∀ A B:World,(fun w':World=>w'.cell? ⟨w.heap.size,0,none⟩=some (.bool b)/\w'.cell? ⟨w.heap.size,1,none⟩=some (.slice p n c)/\w'.cell? ⟨w.heap.size+1,0,none⟩=some (.bool d)/\w'.cell? ⟨w.heap.size+1,1,none⟩=some (.slice o m e)/\w.heap.size+1<w'.heap.size) A->Below A.heap.size A B->(fun w':World=>w'.cell? ⟨w.heap.size,0,none⟩=some (.bool b)/\w'.cell? ⟨w.heap.size,1,none⟩=some (.slice p n c)/\w'.cell? ⟨w.heap.size+1,0,none⟩=some (.bool d)/\w'.cell? ⟨w.heap.size+1,1,none⟩=some (.slice o m e)/\w.heap.size+1<w'.heap.size) B:=by
  rintro A B ⟨h0,h1,h2,h3,h4⟩ hb
  have hs:=hb.size
  exact⟨by rw[(eX hb).1 _ _ (by omega)];exact h0,by rw[(eX hb).1 _ _ (by omega)];exact h1,by rw[(eX hb).1 _ _ (by omega)];exact h2,by rw[(eX hb).1 _ _ (by omega)];exact h3,by omega⟩
 have KS0:∀ (A:World) (x0 x1:Value),(fun w':World=>w'.cell? ⟨w.heap.size,0,none⟩=some (.bool b)/\w'.cell? ⟨w.heap.size,1,none⟩=some (.slice p n c)/\w'.cell? ⟨w.heap.size+1,0,none⟩=some (.bool d)/\w'.cell? ⟨w.heap.size+1,1,none⟩=some (.slice o m e)/\w.heap.size+1<w'.heap.size) A->(fun w':World=>w'.cell? ⟨w.heap.size,0,none⟩=some (.bool b)/\w'.cell? ⟨w.heap.size,1,none⟩=some (.slice p n c)/\w'.cell? ⟨w.heap.size+1,0,none⟩=some (.bool d)/\w'.cell? ⟨w.heap.size+1,1,none⟩=some (.slice o m e)/\w.heap.size+1<w'.heap.size) ((A.setCell ⟨w.heap.size+2,0,none⟩ x0).setCell ⟨w.heap.size+2,1,none⟩ x1):=by
  rintro A x0 x1 ⟨h0,h1,h2,h3,h4⟩
  simp[go_sem,h0,h1,h2,h3,h4]
 have tk1:True:=trivial
 have tk2:True:=trivial
 go_enter Tryz.func71,Tryz.ntmps71
 go_wp2_with fail
 go_region_held3 (fun w':World=>w'.cell? ⟨w.heap.size,0,none⟩=some (.bool b)/\w'.cell? ⟨w.heap.size,1,none⟩=some (.slice p n c)/\w'.cell? ⟨w.heap.size+1,0,none⟩=some (.bool d)/\w'.cell? ⟨w.heap.size+1,1,none⟩=some (.slice o m e)/\w.heap.size+1<w'.heap.size) (first|exact S0|(simp;done)|exact K _ _ (by assumption) (by assumption)|exact KS0 _ _ _ (by assumption))
  (first
   | ((have:=tk1;skip);clear tk1;go_at_call 119;refine(dP _ x _ BH).mono ?_;rintro e w1 ⟨s1,rfl,hs1,hb1⟩;have SG:=BH.below hb1;have OO:=CW.below hb1;have EK:=uQ.trans (hb1.mono uQ.size);have q_5:=q_4.to hb1;have t_5:=t_4.to hb1;have r_5:=r_4.to hb1;clear BH CW uQ q_4 t_4 r_4)
   | ((have:=tk2;skip);clear tk2;go_at_call 119;refine(dP _ y _ OO).mono ?_;rintro e w2 ⟨s2,rfl,hs2,hb2⟩;have XG:=SG.below hb2;have a0p:=OO.below hb2;have OJ:=EK.trans (hb2.mono EK.size);have q_6:=q_5.to hb2;have t_6:=t_5.to hb2;have r_6:=r_5.to hb2;have a2l:=hs1.below hb2;clear SG OO EK q_5 t_5 r_5 hs1)
   | (go_at_call 118;refine(times_any _ _ _ _ _ a2l hs2 (bK _) (bK _) hl hl2).mono ?_;rintro e w3 ⟨s3,rfl,hs3,hb3⟩;have a5v:=XG.below hb3;have a2m:=a0p.below hb3;have WZ:=OJ.trans (hb3.mono OJ.size);have q_7:=q_6.to hb3;have t_7:=t_6.to hb3;have r_7:=r_6.to hb3;have b2b:=a2l.below hb3;have a0:=hs2.below hb3;clear XG a0p OJ q_6 t_6 r_6 a2l;have b2a:=Rd.bZ hs3)
   | (go_at_call 114;refine(iF _ _ _ _ b2a (bK _)).mono ?_;rintro e w4 ⟨s4,rfl,hi4,hb4⟩;have b2g:=a5v.below hb4;have b2f:=a2m.below hb4;have a7y:=WZ.trans (hb4.mono WZ.size);have q_8:=q_7.to hb4;have t_8:=t_7.to hb4;have r_8:=r_7.to hb4;have a9V:=b2b.below hb4;have e0:=a0.below hb4;have g0:=b2a.below hb4;clear a5v a2m WZ q_7 t_7 r_7 b2b a0 b2a;obtain⟨g4,p4,n4,c4,rfl⟩:=hi4.form;have b0:=r_8.c0;have i0:=r_8.f0;have d0:=r_8.c1;have j0:=r_8.f1))
 go_wp2_with fail
 exact bodyPost_ret (v:=.agg #[.bool g4,.slice p4 n4 c4]) (by simp[results,Tryz.results71,go_sem, *]) rfl ⟨_,rfl,by rw[<-HX.out];exact hi4.xY b0 d0 _ _,jY a7y (by omega) _ _⟩
end Go.Proofs.YtidfgdchcpmnfaaGreat
