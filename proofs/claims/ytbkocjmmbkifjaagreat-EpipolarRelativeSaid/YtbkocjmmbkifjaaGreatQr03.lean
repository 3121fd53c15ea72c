/-
  Lemmas for the theorem vrelative28_holds, part 3 of 35.
-/
import Derived.Deep.RegionWith
import Derived.Test.YtbkocjmmbkifjaaGreatQr02
namespace Go.Proofs.YtbkocjmmbkifjaaGreat
open Go Go.RowKit
theorem jl:type_of% @Nat.mul_le_mul_right:=@Nat.mul_le_mul_right
theorem Bf:type_of% @Int.tmod_eq_emod_of_nonneg:=@Int.tmod_eq_emod_of_nonneg
theorem Aw:type_of% @Int.le_refl:=@Int.le_refl
theorem Aq:type_of% @Nat.add_mul:=@Nat.add_mul
section
open Go.RowKit Go.Shelf
set_option maxRecDepth 100000
set_option maxHeartbeats 2000000
set_option linter.unusedSimpArgs false
set_option linter.unusedVariables false
attribute [local go_sem] Oper.semAt_some
def shf (a:List Nat) (d:Nat) (pre:List (Fin a.length)):List Nat × Nat :=
 pre.foldl (fun s x=>(s.1.set x.1 ((s.2*BB+gr a x.1) / d),(s.2*BB+gr a x.1)%d)) (List.replicate a.length 0,0)
theorem VL (a:List Nat) (d:Nat) (pre:List (Fin a.length)) (x:Fin a.length) :
 shf a d (pre++[x])=((shf a d pre).1.set x.1 (((shf a d pre).2*BB+gr a x.1) / d),((shf a d pre).2*BB+gr a x.1)%d):=by simp[shf]
theorem a7G {α:Type} {pre:List α} {n:Nat} (h:pre.length=n+1):∃ q x,pre=q++[x] :=
 ⟨pre.dropLast,pre.getLast (by intro e;subst e;simp at h),(List.dropLast_concat_getLast _).symm⟩
theorem a5k {a:List Nat} {d:Nat} (hd:1<=d) (hd2:d<=999999999) (ha:Low a) (pre:List (Fin a.length)):(shf a d pre).1.length=a.length/\(shf a d pre).2<=999999998/\(shf a d pre).2<d:=by
 suffices ∀ n (pre:List (Fin a.length)),pre.length=n->(shf a d pre).1.length=a.length/\(shf a d pre).2<=999999998/\(shf a d pre).2<d from this _ pre rfl
 intro n
 induction n with
 | zero=>intro pre h;rw[ng h];simp[shf];omega
 | succ n ih =>
  intro pre h;obtain⟨q,x,rfl⟩:=a7G h;have h1:=ih q (by simp at h;exact h);rw[VL];have h2:=xg ((shf a d q).2*BB+gr a x.1) (show 0<d by omega);exact⟨by simpa using h1.1,by simp only;omega,h2⟩
theorem iO.init {n:Nat} {q:List (Fin n)} {x:Fin n} (h:iO n (q++[x])):iO n q/\x.1=n-1-q.length :=
 ⟨fun j y hj=>h j y (by rw[Ak (jy.1 hj).1];exact hj),h q.length x (by simp)⟩
theorem b3K {a:List Nat} {d:Nat} (hd:1<=d) (hd2:d<=999999999) (ha:Low a) {pre:List (Fin a.length)} (hb:iO a.length pre) (hle:pre.length<=a.length) :
  (shf a d pre).2=val (a.drop (a.length-pre.length))%d/\val ((shf a d pre).1.drop (a.length-pre.length))=val (a.drop (a.length-pre.length)) / d/\Low (shf a d pre).1:=by
 suffices ∀ n (pre:List (Fin a.length)),pre.length=n->iO a.length pre->pre.length<=a.length->(shf a d pre).2=val (a.drop (a.length-pre.length))%d/\val ((shf a d pre).1.drop (a.length-pre.length))=val (a.drop (a.length-pre.length)) / d/\Low (shf a d pre).1 from this _ pre rfl hb hle
 intro n
 induction n with
 | zero =>
  intro pre h _ _;rw[ng h];simp[shf,List.drop_replicate];exact fun g hg=>by rw[(Em.1 hg).2];exact gU
 | succ n ih =>
  intro pre h hb hle;obtain⟨q,x,rfl⟩:=a7G h;simp only[dh,List.length_singleton] at h hle ⊢;obtain⟨hbq,hx⟩:=hb.init;obtain⟨h1,h2,h3⟩:=ih q (by omega) hbq (by omega);obtain⟨b1,b2,b3⟩:=a5k hd hd2 ha q;have hg:=gJ ha x.1;rw[VL];obtain⟨m,hm⟩:∃ m,a.length-(q.length+1)=m:=⟨_,rfl⟩;have em:a.length-q.length=m+1:=by omega
  have ex:x.1=m:=by omega
  rw[em] at h1 h2;rw[hm,ex];have hml:m<a.length:=by omega
  have e1:val (a.drop m)=gr a m+BB*val (a.drop (m+1)):=by rw[Bh hml,dA,qL hml]
  generalize val (a.drop (m+1))=V at *
  rw[ex] at hg;generalize gr a m=g at *
  have e2:(shf a d q).2*BB+g<d*BB:=by rw[bV];have:((shf a d q).2+1)*1000000000<=d*1000000000:=jl _ b3;omega
  have hq:val (((shf a d q).1.set m (((shf a d q).2*BB+g) / d)).drop m)=((shf a d q).2*BB+g) / d+BB*(V / d):=by rw[Bh (by simp;omega),dA,List.getElem_set_self,List.drop_set_of_lt (by omega),h2]
  have hdm:=Nat.mod_add_div V d;have hV:g+BB*V=((shf a d q).2*BB+g)+d*(BB*(V / d)):=by
   rw[h1];generalize V / d=t at *
   generalize V%d=r at *
   rw[<-hdm];grind
  refine⟨?_,?_,?_⟩
  ·rw[e1,hV,Nat.add_mul_mod_self_left]
  ·rw[hq,e1,hV,Nat.add_mul_div_left _ _ (by omega)]
  ·refine low_set h3 ?_;have:=(Nat.div_lt_iff_lt_mul (show 0<d by omega)).2 (by rw[vw];exact e2);rw[bV] at this;rw[bV];exact this
theorem b7q {a:List Nat} {d:Nat} (hd:1<=d) (hd2:d<=999999999) (ha:Low a) {pre:List (Fin a.length)} (hb:iO a.length pre) (hle:pre.length=a.length) :
  (shf a d pre).2=val a%d/\val (shf a d pre).1=val a / d/\Low (shf a d pre).1:=by
 have:=b3K hd hd2 ha hb (by omega);rw[hle] at this;simpa using this
theorem b6W {n d v:Nat} (hd:1<=d) (hn:n<=999999998999999999) (hv:(n:Int) / d=v) (hw:IntKind.u64.wrap (v:Int)=v) (w:World):Sem.run Tryz.prog (binOp .quo 147 (.int .u64 (n:Nat)) (.int .u64 (d:Nat))) w=.ok (.int .u64 (v:Nat)) w:=by
 have hdz:((d:Int)==0)=false:=by simp;omega
 have hdn:¬ d=0:=by omega
 simp[go_sem, *]
theorem b7b {n d v:Nat} (hd:1<=d) (hn:n<=999999998999999999) (hv:(n:Int)%d=v) (hw:IntKind.u64.wrap (v:Int)=v) (w:World):Sem.run Tryz.prog (binOp .rem 147 (.int .u64 (n:Nat)) (.int .u64 (d:Nat))) w=.ok (.int .u64 (v:Nat)) w:=by
 rw[<-Bf (by omega)] at hv;have hdz:((d:Int)==0)=false:=by simp;omega
 have hdn:¬ d=0:=by omega
 simp[go_sem, *]
structure a5B (a:List Nat) (d:Nat) (B:Nat) (pre:List (Fin a.length)) (W:World):Prop where
 dv:W.cell? ⟨B,0,none⟩=some (.int .u32 (d:Nat))
 qv:W.cell? ⟨B+1,0,none⟩=some (.slice (some ⟨B+1+1,0,none⟩) a.length a.length)
 qf:W.frozen? ⟨B+1,0,none⟩=false
 rv:W.cell? ⟨B+1+1+1,0,none⟩=some (.int .u64 ((shf a d pre).2:Nat))
 rf:W.frozen? ⟨B+1+1+1,0,none⟩=false
 row:W.ownsRow B 148 1 (.slice (some ⟨B+1+1,0,none⟩) a.length a.length) a.length (cells32 (shf a d pre).1)
theorem a5B.own (a:List Nat) (d B:Nat):Own (fun(pre:List (Fin a.length)) W=>a5B a d B pre W):=fun s A W row hs hg hr =>
 ⟨Eo hs.dv hg hr,Eo hs.qv hg hr,(frozen_kept hs.qv hg hr).trans hs.qf,Eo hs.rv hg hr,(frozen_kept hs.rv hg hr).trans hs.rf,
  hs.row.kept hg (.inr (fun e=>by
   obtain⟨o,ho,hc⟩:=hr (B+1+1) (by rw[<-e];rfl);rcases hs.row.2 with⟨h,_⟩|⟨g,cap,cur,h,_,hh,_⟩
   ·cases h
   ·cases h;rw[hh] at ho;cases ho;cases hc))⟩
theorem b1J (w:World) (n:Nat) (hn:n<=2000000000):(Instr.makeSlice 43 (.int .i64 (n:Nat)) (.int .i64 (n:Nat))).run Tryz.prog w=.ok (.slice (some ⟨w.heap.size,0,none⟩) n n) (w.alloc (.cells (madeCells #[.int .u32 0] n) 148)):=by obtain⟨i0,hi,hz0,hz1,hz2⟩:=Ag gX;have:=run_make (P:=Tryz.prog) w 43 148 i0 (.int .u32 0) ji hi hz0 .i64 .i64 n n (by omega) (Aw _) (by rw[hz2];omega) (by omega);simpa [hz1,Value.cells] using this
theorem b3L (a:List Nat) (d:Nat) (p:Option Addr) (c:Nat) (w:World) (hI:Rd w (.slice p a.length c) a) (ha:Low a) (hd:1<=d) (hd2:d<=999999999) (hl:a.length<=2000000000) :
  CallsIn Fence.wide 3 Tryz.prog 252 #[.slice p a.length c,.int .u32 (d:Nat)] w fun e W'=>∃ v,e=.returned (.tuple #[v,.int .u32 (val a%d:Nat)]) /\
   W'.ownsRow w.heap.size 148 1 v (dig (val a / d)).length (cells32 (dig (val a / d)))/\Below w.heap.size w W':=by
 have hro:Fence.wide.round=none:=rfl;have hmk:=fun w=>b1J w a.length hl;refine callsIn_of_wp_marks Tryz.func252 rfl trivial ?_ hro;simp only[Tryz.ntmps252,Dk,List.length_cons,List.length_nil,Nat.reduceAdd,Nat.reduceSub,Dy,Array.replicate_zero,Et,Ec,List.nil_append,List.cons_append]
 gi_wp2_with (refine⟨trivial,?_⟩;gi_at_call 278;refine(vY Fence.wide 2 trivial hro _ _ _ _).mono ?_;rintro e w' ⟨rfl,rfl⟩)
 have bD:=Boxed.new w 148 (.int .u32 (d:Nat));have bQ:=Boxed.new (w.alloc (.cells #[.int .u32 (d:Nat)] 148)) 43 (.slice (some ⟨w.heap.size+1+1,0,none⟩) a.length a.length);rw[Ce] at bQ;obtain⟨W2,hW2⟩:∃ W2,(w.alloc (.cells #[.int .u32 (d:Nat)] 148)).alloc (.cells #[.slice (some ⟨w.heap.size+1+1,0,none⟩) a.length a.length] 43)=W2:=⟨_,rfl⟩;have z2:W2.heap.size=w.heap.size+1+1:=by rw[<-hW2];simp
 have bR:=Boxed.new (W2.alloc (.cells (madeCells #[.int .u32 0] a.length) 148)) 147 (.int .u64 0);have bS:=Boxed.new ((W2.alloc (.cells (madeCells #[.int .u32 0] a.length) 148)).alloc (.cells #[.int .u64 0] 147)) 43 (.slice p a.length c);rw[Ce,z2] at bR;rw[Ce,Ce,z2] at bS;have hB2:Below w.heap.size w W2:=by rw[<-hW2];exact((gy _ w).alloc (aj _) _).alloc (by simp) _
 have hO2:(W2.alloc (.cells (madeCells #[.int .u32 0] a.length) 148)).ownsRow w.heap.size 148 1 (.slice (some ⟨w.heap.size+1+1,0,none⟩) a.length a.length) a.length (cells32 (List.replicate a.length 0)):=by have:=World.ownsRow_lit (base:=w.heap.size) (e:=148) (size:=1) W2 (madeCells #[.int .u32 0] a.length) a.length (by omega) (by unfold maxLen;omega) (by simp[madeCells]);rwa [z2,iR] at this
 rw[hW2] at bQ ⊢;have bD2:Boxed W2 w.heap.size 148 (.int .u32 (d:Nat)):=by rw[<-hW2];exact bD.alloc _
 have hB0:Below w.heap.size w (((W2.alloc (.cells (madeCells #[.int .u32 0] a.length) 148)).alloc (.cells #[.int .u64 0] 147)).alloc (.cells #[.slice p a.length c] 43)):=((hB2.alloc hB2.size _).alloc (by simp;omega) _).alloc (by simp;omega) _;refine wpIn_rangeFunc_ownG (n:=3) (α:=Fin a.length) hro (by omega) (gf:=288) (lb:=#[.pointer (some ⟨w.heap.size+1+1+1+1,0,none⟩)]) rfl trivial (enters_of Tryz.func288 (by kernel_rfl) rfl)
  (yF Fence.wide 2 trivial hro (by omega) (w.heap.size+1+1+1+1) w.heap.size _ a _ (by simp;omega) (by simp;omega) bS.cell (hI.b.below hB0)) (fun h k=>KB.trans h k) (KB.b (by simp;omega) (by simp;omega)) (gy _ _) (fun _=>rfl)
  (fun(pre:List (Fin a.length)) W=>a5B a d w.heap.size pre W/\Below w.heap.size w W)
  (fun _ _ _=>False)
  (OwnFrom.and (Own.from (a5B.own a d w.heap.size) _) (ownFrom_below (aj _) (by simp;omega)))
  (fun _ _ _ _ _ hs _ _=>hs)
  ⟨⟨(((bD2.alloc _).alloc _).alloc _).cell,(((bQ.alloc _).alloc _).alloc _).cell,(((bQ.alloc _).alloc _).alloc _).frozen,(bR.alloc _).cell,(bR.alloc _).frozen,(hO2.alloc _).alloc _⟩,hB0⟩
  (fun(x:Fin a.length)=>{ tmps:=#[.slice p a.length c,.int .u32 (d:Nat),undef,.pointer (some ⟨w.heap.size,0,none⟩),.pointer (some ⟨w.heap.size+1,0,none⟩),.int .u32 0,.pointer (some ⟨w.heap.size+1+1+1,0,none⟩),.int .i64 (x.1:Nat),.int .u32 (gr a x.1:Nat),undef,.slice p a.length c,.int .i64 (a.length:Nat),.slice (some ⟨w.heap.size+1+1,0,none⟩) a.length a.length,.slice p a.length c,.func (.func 288) #[] #[.pointer (some ⟨w.heap.size+1+1+1+1,0,none⟩)],.int .i64 (x.1:Nat),.int .u32 (gr a x.1:Nat),undef,undef,undef,undef,undef,undef,undef,undef,undef,undef,undef,undef,undef,undef,undef,undef,undef,undef,undef,undef,undef],defers:=[] }) ?assign ?body ?done ?stop
 case assign =>
  intro l x W K hK
  gi_wp2
  exact hK
 case body =>
  rintro lo pre x W ⟨hS,hB⟩ _;obtain⟨b1,b2,b3⟩:=a5k hd hd2 ha pre;have hg:=gJ ha x.1;have hx:=x.2;have HSN:=bf (VL a d pre x);obtain⟨h1,h2,h3,h4,h5,h6⟩:=hS;generalize (shf a d pre).2=r at *
  generalize (shf a d pre).1=q at *
  have hcl:W.cell? ⟨w.heap.size+1+1,x.1,none⟩=some (.int .u32 (gr q x.1:Nat)):=by rw[h6.cellAt x.1 (by omega)];exact eX (by omega)
  have hfr:=h6.frozenAt x.1;obtain⟨n,hn⟩:∃ n:Nat,(r:Int)*1000000000+gr a x.1=n:=⟨r*1000000000+gr a x.1,by omega⟩;have hn2:r*BB+gr a x.1=n:=by rw[bV];omega
  have hn3:n<d*1000000000:=by omega
  have hn4:n<=999999998999999999:=by omega
  rw[hn2] at HSN;obtain⟨v,hv⟩:∃ v:Nat,(n:Int) / d=v:=⟨n / d,by simp⟩;obtain⟨u,hu⟩:∃ u:Nat,(n:Int)%d=u:=⟨n%d,by simp⟩;have hv2:n / d=v:=by
   have:((n / d:Nat):Int)=v:=by rw[<-hv];simp
   omega
  have hu2:n%d=u:=by
   have:((n%d:Nat):Int)=u:=by rw[<-hu];simp
   omega
  have hv3:v<=999999999:=by have:=(Nat.div_lt_iff_lt_mul (show 0<d by omega)).2 (by rw[vw] at hn3;exact hn3);omega
  have hu3:u<=999999998:=by have:=xg n (show 0<d by omega);omega
  rw[hv2,hu2] at HSN;clear hn2 hn3 hv2 hu2;have hdz:((d:Int)==0)=false:=by simp;omega
  have hw1:IntKind.u64.wrap (v:Int)=v:=by simp[IntKind.wrap,IntKind.bits,IntKind.signed];omega
  have hw2:IntKind.u64.wrap (u:Int)=u:=by simp[IntKind.wrap,IntKind.bits,IntKind.signed];omega
  have b1C:∀ w,Sem.run Tryz.prog (binOp .quo 147 (.int .u64 (n:Nat)) (.int .u64 (d:Nat))) w=.ok (.int .u64 (v:Nat)) w:=fun w=>b6W (by omega) (by omega) hv hw1 w;have b5A:∀ w,Sem.run Tryz.prog (binOp .rem 147 (.int .u64 (n:Nat)) (.int .u64 (d:Nat))) w=.ok (.int .u64 (u:Nat)) w:=fun w=>b7b (by omega) (by omega) hu hw2 w;have hdn:¬ d=0:=by omega
  have hw3:IntKind.u64.wrap (d:Int)=d:=by simp[IntKind.wrap,IntKind.bits,IntKind.signed];omega
  have hw4:IntKind.u32.wrap (v:Int)=v:=by simp[IntKind.wrap,IntKind.bits,IntKind.signed];omega
  have a2N:Tryz.prog.follows .mixedOrders=true:=by kernel_rfl
  clear hW2 hmk bD bQ bR bS hB0 hB2 hO2 bD2
  gi_wp2
  refine wpIn_region_any a2N ?_;refine a3W (fun L a' W'=>L.size=14/\(∃ t22 t23 t24 t25 t26 t27 t28 t29 t30 t31 t32 t33:Value,a'=⟨#[.slice p a.length c,.int .u32 (d:Nat),undef,.pointer (some ⟨w.heap.size,0,none⟩),.pointer (some ⟨w.heap.size+1,0,none⟩),.int .u32 0,.pointer (some ⟨w.heap.size+1+1+1,0,none⟩),.int .i64 (x.1:Nat),.int .u32 (gr a x.1:Nat),.int .u64 (n:Nat),.slice p a.length c,.int .i64 (a.length:Nat),.slice (some ⟨w.heap.size+1+1,0,none⟩) a.length a.length,.slice p a.length c,.func (.func 288) #[] #[.pointer (some ⟨w.heap.size+1+1+1+1,0,none⟩)],.int .i64 (x.1:Nat),.int .u32 (gr a x.1:Nat),.int .u64 (r:Nat),.int .u64 ((r:Int)*1000000000),.int .u32 (gr a x.1:Nat),.int .u64 (gr a x.1:Nat),.int .u64 (n:Nat),t22,t23,t24,t25,t26,t27,t28,t29,t30,t31,t32,t33,undef,undef,undef,undef],[]⟩/\(L.getD 0 false=true->t22=.slice (some ⟨w.heap.size+1+1,0,none⟩) a.length a.length)/\(L.getD 1 false=true->t23=.int .i64 (x.1:Nat))/\(L.getD 2 false=true->t24=.int .u64 (n:Nat))/\(L.getD 3 false=true->t25=.int .u32 (d:Nat))/\(L.getD 4 false=true->t26=.int .u64 (d:Nat))/\(L.getD 5 false=true->t27=.int .u64 (v:Nat))/\(L.getD 6 false=true->t28=.int .u32 (v:Nat))/\(L.getD 7 false=true->t29=.int .u64 (n:Nat))/\(L.getD 8 false=true->t30=.int .u32 (d:Nat))/\(L.getD 9 false=true->t31=.int .u64 (d:Nat))/\(L.getD 10 false=true->t32=.int .u64 (u:Nat))/\(L.getD 11 false=true->t33=.pointer (some ⟨w.heap.size+1+1,x.1,none⟩)))/\((L.getD 12 false=false/\L.getD 13 false=false/\W'=W.drew)\/(L.getD 12 false=true/\L.getD 13 false=false/\W'=(W.drew.setCell ⟨w.heap.size+1+1,x.1,none⟩ (.int .u32 (v:Nat))))\/(L.getD 12 false=true/\L.getD 13 false=true/\W'=((W.drew.setCell ⟨w.heap.size+1+1,x.1,none⟩ (.int .u32 (v:Nat))).setCell ⟨w.heap.size+1+1+1,0,none⟩ (.int .u64 (u:Nat)))))) (by kernel_rfl) ?hend ?hstep _ _ _ _ (by rw[WA];exact aj _) ?h0
  case h0 =>
   refine⟨by simp,⟨undef,undef,undef,undef,undef,undef,undef,undef,undef,undef,undef,undef,rfl,?_⟩,.inl ⟨JU _ _,JU _ _,rfl⟩⟩;simp[JU]
  case hend =>
   rintro L a' W' ⟨hL,⟨t22,t23,t24,t25,t26,t27,t28,t29,t30,t31,t32,t33,rfl,hc⟩,hw⟩ hall;have h12:=yL hL (by omega) (hall 12 (by show 12<14;omega));have h13:=yL hL (by omega) (hall 13 (by show 13<14;omega));rcases hw with⟨e,_⟩|⟨_,e,_⟩|⟨_,_,rfl⟩
   ·rw[h12] at e;cases e
   ·rw[h13] at e;cases e
   ·clear hc hall;have hst:=h6.stored x.1 (.int .u32 (v:Nat));rw[fP] at hst;have hBd:Below w.heap.size w W.drew:=hB.drew;have hKB:KB w.heap.size (w.heap.size+1+1+1+1) W ((W.drew.setCell ⟨w.heap.size+1+1,x.1,none⟩ (.int .u32 (v:Nat))).setCell ⟨w.heap.size+1+1+1,0,none⟩ (.int .u64 (u:Nat))) :=
     (KB.trans (⟨(gy _ W).drew,rfl⟩:KB w.heap.size (w.heap.size+1+1+1+1) W W.drew) (KB.setCell (p:=⟨w.heap.size+1+1,x.1,none⟩) (by simp;omega) (by simp) _)).trans (KB.setCell (p:=⟨w.heap.size+1+1+1,0,none⟩) (by simp;omega) (by simp) _)
    refine⟨(((KeepsOthers.drew W).trans (ug _ _ _)).trans (ug _ _ _)).from _,hKB,⟨?_,?_,?_,?_,?_,?_⟩,hB.trans hKB.1⟩
    ·simp[go_sem,h1]
    ·simp[go_sem,h2]
    ·simp[go_sem,h3]
    ·rw[HSN.out];exact Am _ _ _ (by simp[go_sem,h4])
    ·simp[go_sem,h5]
    ·rw[HSN.out];have h7:(W.drew.setCell ⟨w.heap.size+1+1,x.1,none⟩ (.int .u32 (v:Nat))).ownsRow w.heap.size 148 1 (.slice (some ⟨w.heap.size+1+1,0,none⟩) a.length a.length) a.length (cells32 (q.set x.1 v)):=hst.1;refine h7.kept (row:=some (w.heap.size+1+1+1)) ⟨rfl,rfl,rfl,by simp[World.setCell],fun k hk hne=>Below.heap_setCell _ _ _ _ (by intro e;exact hne (by rw[e]))⟩ (.inr (by simp[Value.ownBlock]))
  case hstep =>
   have hu2:(n:Int).tmod d=u:=by rw[Bf (by omega)];exact hu
   clear hI ha hd hd2 hl hro z2 hB hg b1 b2 b3 h6 hn hn4 hu hv3 hu3 HSN a2N b1C b5A;rintro L a' W' i o ⟨hL,⟨t22,t23,t24,t25,t26,t27,t28,t29,t30,t31,t32,t33,rfl,hc⟩,hw⟩ ho hl qA;have hi:i<14:=(Ah.1 ho).1;obtain⟨k0,k1,k2,k3,k4,k5,k6,k7,k8,k9,k10,k11⟩:=hc;have hs:=wX hl;have hl':=FY hl;obtain rfl|rfl|rfl|rfl|rfl|rfl|rfl|rfl|rfl|rfl|rfl|rfl|rfl|rfl:i=0\/i=1\/i=2\/i=3\/i=4\/i=5\/i=6\/i=7\/i=8\/i=9\/i=10\/i=11\/i=12\/i=13:=by omega
   all_goals cases ho
   all_goals simp[Region.binds] at qA
   all_goals simp only[jm] at k0 k1 k2 k3 k4 k5 k6 k7 k8 k9 k10 k11 hw hl'
   ·
    clear qA;rcases hw with⟨e12,e13,rfl⟩|⟨e12,e13,rfl⟩|⟨e12,e13,rfl⟩;all_goals (unfold wpOpIn;simp[go_sem,h1,h2,h3,h4,h5,hcl,hfr,hw3,hw4])
    all_goals (first|(refine⟨hL,⟨_,_,_,_,_,_,_,_,_,_,_,_,⟨rfl,rfl,rfl,rfl,rfl,rfl,rfl,rfl,rfl,rfl,rfl,rfl⟩,?_⟩,?_⟩<;>(simp_all;done))|(simp_all;done)|trace_state)
   ·
    clear qA;rcases hw with⟨e12,e13,rfl⟩|⟨e12,e13,rfl⟩|⟨e12,e13,rfl⟩;all_goals (unfold wpOpIn;simp[go_sem,h1,h2,h3,h4,h5,hcl,hfr,hw3,hw4])
    all_goals (first|(refine⟨hL,⟨_,_,_,_,_,_,_,_,_,_,_,_,⟨rfl,rfl,rfl,rfl,rfl,rfl,rfl,rfl,rfl,rfl,rfl,rfl⟩,?_⟩,?_⟩<;>(simp_all;done))|(simp_all;done)|trace_state)
   ·
    clear qA;rcases hw with⟨e12,e13,rfl⟩|⟨e12,e13,rfl⟩|⟨e12,e13,rfl⟩;all_goals (unfold wpOpIn;simp[go_sem,h1,h2,h3,h4,h5,hcl,hfr,hw3,hw4])
    all_goals (first|(refine⟨hL,⟨_,_,_,_,_,_,_,_,_,_,_,_,⟨rfl,rfl,rfl,rfl,rfl,rfl,rfl,rfl,rfl,rfl,rfl,rfl⟩,?_⟩,?_⟩<;>(simp_all;done))|(simp_all;done)|trace_state)
   ·
    clear qA;rcases hw with⟨e12,e13,rfl⟩|⟨e12,e13,rfl⟩|⟨e12,e13,rfl⟩;all_goals (unfold wpOpIn;simp[go_sem,h1,h2,h3,h4,h5,hcl,hfr,hw3,hw4])
    all_goals (first|(refine⟨hL,⟨_,_,_,_,_,_,_,_,_,_,_,_,⟨rfl,rfl,rfl,rfl,rfl,rfl,rfl,rfl,rfl,rfl,rfl,rfl⟩,?_⟩,?_⟩<;>(simp_all;done))|(simp_all;done)|trace_state)
   ·
    obtain rfl:=k3 (by simp[qA]);clear qA;rcases hw with⟨e12,e13,rfl⟩|⟨e12,e13,rfl⟩|⟨e12,e13,rfl⟩;all_goals (unfold wpOpIn;simp[go_sem,h1,h2,h3,h4,h5,hcl,hfr,hw3,hw4])
    all_goals (first|(refine⟨hL,⟨_,_,_,_,_,_,_,_,_,_,_,_,⟨rfl,rfl,rfl,rfl,rfl,rfl,rfl,rfl,rfl,rfl,rfl,rfl⟩,?_⟩,?_⟩<;>(simp_all;done))|(simp_all;done)|trace_state)
   ·
    obtain rfl:=k2 (by simp[qA]);obtain rfl:=k4 (by simp[qA]);clear qA;rcases hw with⟨e12,e13,rfl⟩|⟨e12,e13,rfl⟩|⟨e12,e13,rfl⟩;all_goals (unfold wpOpIn;simp[go_sem,h1,h2,h3,h4,h5,hcl,hfr,hw3,hw4,hdz,hdn,hv,hu2,hw1,hw2])
    all_goals (first|(refine⟨hL,⟨_,_,_,_,_,_,_,_,_,_,_,_,⟨rfl,rfl,rfl,rfl,rfl,rfl,rfl,rfl,rfl,rfl,rfl,rfl⟩,?_⟩,?_⟩<;>(simp_all;done))|(simp_all;done)|trace_state)
   ·
    obtain rfl:=k5 (by simp[qA]);clear qA;rcases hw with⟨e12,e13,rfl⟩|⟨e12,e13,rfl⟩|⟨e12,e13,rfl⟩;all_goals (unfold wpOpIn;simp[go_sem,h1,h2,h3,h4,h5,hcl,hfr,hw3,hw4])
    all_goals (first|(refine⟨hL,⟨_,_,_,_,_,_,_,_,_,_,_,_,⟨rfl,rfl,rfl,rfl,rfl,rfl,rfl,rfl,rfl,rfl,rfl,rfl⟩,?_⟩,?_⟩<;>(simp_all;done))|(simp_all;done)|trace_state)
   ·
    clear qA;rcases hw with⟨e12,e13,rfl⟩|⟨e12,e13,rfl⟩|⟨e12,e13,rfl⟩;all_goals (unfold wpOpIn;simp[go_sem,h1,h2,h3,h4,h5,hcl,hfr,hw3,hw4])
    all_goals (first|(refine⟨hL,⟨_,_,_,_,_,_,_,_,_,_,_,_,⟨rfl,rfl,rfl,rfl,rfl,rfl,rfl,rfl,rfl,rfl,rfl,rfl⟩,?_⟩,?_⟩<;>(simp_all;done))|(simp_all;done)|trace_state)
   ·
    clear qA;rcases hw with⟨e12,e13,rfl⟩|⟨e12,e13,rfl⟩|⟨e12,e13,rfl⟩;all_goals (unfold wpOpIn;simp[go_sem,h1,h2,h3,h4,h5,hcl,hfr,hw3,hw4])
    all_goals (first|(refine⟨hL,⟨_,_,_,_,_,_,_,_,_,_,_,_,⟨rfl,rfl,rfl,rfl,rfl,rfl,rfl,rfl,rfl,rfl,rfl,rfl⟩,?_⟩,?_⟩<;>(simp_all;done))|(simp_all;done)|trace_state)
   ·
    obtain rfl:=k8 (by simp[qA]);clear qA;rcases hw with⟨e12,e13,rfl⟩|⟨e12,e13,rfl⟩|⟨e12,e13,rfl⟩;all_goals (unfold wpOpIn;simp[go_sem,h1,h2,h3,h4,h5,hcl,hfr,hw3,hw4])
    all_goals (first|(refine⟨hL,⟨_,_,_,_,_,_,_,_,_,_,_,_,⟨rfl,rfl,rfl,rfl,rfl,rfl,rfl,rfl,rfl,rfl,rfl,rfl⟩,?_⟩,?_⟩<;>(simp_all;done))|(simp_all;done)|trace_state)
   ·
    obtain rfl:=k7 (by simp[qA]);obtain rfl:=k9 (by simp[qA]);clear qA;rcases hw with⟨e12,e13,rfl⟩|⟨e12,e13,rfl⟩|⟨e12,e13,rfl⟩;all_goals (unfold wpOpIn;simp[go_sem,h1,h2,h3,h4,h5,hcl,hfr,hw3,hw4,hdz,hdn,hv,hu2,hw1,hw2])
    all_goals (first|(refine⟨hL,⟨_,_,_,_,_,_,_,_,_,_,_,_,⟨rfl,rfl,rfl,rfl,rfl,rfl,rfl,rfl,rfl,rfl,rfl,rfl⟩,?_⟩,?_⟩<;>(simp_all;done))|(simp_all;done)|trace_state)
   ·
    obtain rfl:=k0 (by simp[qA]);obtain rfl:=k1 (by simp[qA]);clear qA;rcases hw with⟨e12,e13,rfl⟩|⟨e12,e13,rfl⟩|⟨e12,e13,rfl⟩;all_goals (unfold wpOpIn;simp[go_sem,h1,h2,h3,h4,h5,hcl,hfr,hw3,hw4])
    all_goals (first|(refine⟨hL,⟨_,_,_,_,_,_,_,_,_,_,_,_,⟨rfl,rfl,rfl,rfl,rfl,rfl,rfl,rfl,rfl,rfl,rfl,rfl⟩,?_⟩,?_⟩<;>(simp_all;done))|(simp_all;done)|trace_state)
   ·
    obtain rfl:=k11 (by simp[qA]);obtain rfl:=k6 (by simp[qA]);clear qA;rcases hw with⟨e12,e13,rfl⟩|⟨e12,e13,rfl⟩|⟨e12,e13,rfl⟩;all_goals (unfold wpOpIn;simp[go_sem,h1,h2,h3,h4,h5,hcl,hfr,hw3,hw4])
    all_goals (first|(refine⟨hL,⟨_,_,_,_,_,_,_,_,_,_,_,_,⟨rfl,rfl,rfl,rfl,rfl,rfl,rfl,rfl,rfl,rfl,rfl,rfl⟩,?_⟩,?_⟩<;>(simp_all;done))|(simp_all;done)|trace_state)
   ·
    obtain rfl:=k10 (by simp[qA]);rcases hw with⟨e12,e13,rfl⟩|⟨e12,e13,rfl⟩|⟨e12,e13,rfl⟩;all_goals (unfold wpOpIn;simp[go_sem,h1,h2,h3,h4,h5,hcl,hfr,hw3,hw4])
    all_goals (first|(refine⟨hL,⟨_,_,_,_,_,_,_,_,_,_,_,_,⟨rfl,rfl,rfl,rfl,rfl,rfl,rfl,rfl,rfl,rfl,rfl,rfl⟩,?_⟩,?_⟩<;>(simp_all;done))|(simp_all;done)|trace_state)
 case done =>
  rintro D ys W hD ⟨hb,hlen⟩ ⟨hS,hB⟩ hK;obtain⟨e1,e2,e3⟩:=b7q hd hd2 ha hb hlen;obtain⟨b1,b2,b3⟩:=a5k hd hd2 ha ys;obtain⟨h1,h2,h3,h4,h5,h6⟩:=hS;generalize (shf a d ys).2=r at *
  generalize (shf a d ys).1=q at *
  have hR:=Rd.dN (l:=q) (by rw[b1];exact h6);clear hW2 hmk bD bQ bR bS hB0 hB2 hO2 bD2;have a2N:Tryz.prog.follows .mixedOrders=true:=by kernel_rfl
  have hR2:Rd W.drew (.slice (some ⟨w.heap.size+1+1,0,none⟩) a.length a.length) q:=hR.drew;have hw1:IntKind.u32.wrap (r:Int)=r:=by simp[IntKind.wrap,IntKind.bits,IntKind.signed];omega
  have HT:Hid (fA q=dig (val a / d)):=by unfold Hid fA;rw[e2]
  have HR:Hid (r=val a%d):=e1;clear e1 e2
  gi_wp2
  refine wpIn_wide.2 (wp_region_noPanic ?_)
  go_region_with (go_at_call 257;refine(OC _ _ _ q _ hR2 e3 b1).mono ?_;rintro e w' ⟨rfl,rfl⟩)
  all_goals refine NoPanic.normal ?_
  all_goals gi_wp2
  all_goals
   have hK':(W.drew.setCell ⟨w.heap.size+1,0,none⟩ (.slice (some ⟨w.heap.size+1+1,0,none⟩) (fA q).length a.length)).heap[D]?=some (.deferred (some [])):=(ug W.drew ⟨w.heap.size+1,0,none⟩ _).same D _ hK rfl;have hc5:=Eo (Am W.drew ⟨w.heap.size+1,0,none⟩ (.slice (some ⟨w.heap.size+1+1,0,none⟩) (fA q).length a.length) (by simp[go_sem,h2])) (Ep _ D (.deferred none)) (fun r e=>by cases e;exact⟨_,hK',rfl⟩);have hc6:((W.setCell ⟨w.heap.size+1,0,none⟩ (.slice (some ⟨w.heap.size+1+1,0,none⟩) (fA q).length a.length)).drew.putObj D (.deferred none)).cell? ⟨w.heap.size+1,0,none⟩=some (.slice (some ⟨w.heap.size+1+1,0,none⟩) (fA q).length a.length):=hc5;have hO:=uM h6 e3 b1;have hO2:(W.drew.setCell ⟨w.heap.size+1,0,none⟩ (.slice (some ⟨w.heap.size+1+1,0,none⟩) (fA q).length a.length)).ownsRow w.heap.size 148 1 (.slice (some ⟨w.heap.size+1+1,0,none⟩) (fA q).length a.length) (fA q).length (cells32 (fA q)):=by have hO1:W.drew.ownsRow w.heap.size 148 1 (.slice (some ⟨w.heap.size+1+1,0,none⟩) (fA q).length a.length) (fA q).length (cells32 (fA q)):=hO;refine hO1.kept (row:=some (w.heap.size+1)) ⟨rfl,rfl,rfl,by simp[World.setCell],fun k hk hne=>Below.heap_setCell _ _ _ _ (by intro e;exact hne (by rw[e]))⟩ (.inr (by simp[Value.ownBlock]))
   refine⟨by simp,.inl ⟨_,_,rfl,Dv hK',?_⟩⟩;refine⟨.tuple #[.slice (some ⟨w.heap.size+1+1,0,none⟩) (fA q).length a.length,.int .u32 (r:Nat)],?_,.slice (some ⟨w.heap.size+1+1,0,none⟩) (fA q).length a.length,?_,?_,?_⟩
   ·simp[results,Tryz.f252,go_sem,hc6]
   ·rw[HR.out]
   ·rw[<-HT.out];exact ownsRow_putObj hO2 _ hK' rfl
   ·exact(hB.drew.setCell (p:=⟨w.heap.size+1,0,none⟩) (by simp) _).trans (belowK_b (w:=w) (aj _) _ D _ _ (by simp at hD;omega) hK' rfl rfl)
 case stop =>
  rintro D c pre W _ _ h _;exact h.elim
theorem short_any (s:Value) (a:List Nat) (d:Nat) (w:World) (hs:Rd w s a) (ha:Low a) (hd:1<=d) (hd2:d<=999999999) (hl:a.length<=2000000000) :
  Calls Tryz.prog 252 #[s,.int .u32 (d:Nat)] w fun e W'=>∃ v,e=.returned (.tuple #[v,.int .u32 (val a%d:Nat)]) /\
   W'.ownsRow w.heap.size 148 1 v (dig (val a / d)).length (cells32 (dig (val a / d)))/\Below w.heap.size w W':=by
 obtain⟨p,c,rfl,_,_⟩:=hs.form;exact callsIn_wide.1 (b3L a d p c w hs ha hd hd2 hl)
end
set_option linter.unusedVariables false
theorem a1P {l:List Nat} {k v:Nat} (h:k<l.length):val (l.set k v)+BB ^ k*gr l k=val l+BB ^ k*v:=by
 induction l generalizing k with
 | nil=>simp at h
 | cons g l ih =>
  cases k with
  | zero=>simp[dA,gr];omega
  | succ k =>
   have:=ih (k:=k) (by simpa using h);have e:gr (g::l) (k+1)=gr l k:=by simp[gr]
   rw[List.set_cons_succ,dA,dA,e,Nat.pow_succ];generalize val (l.set k v)=a at *
   generalize BB ^ k=p at *
   grind
theorem a2J {X D P T m g xl:Nat} (hX:X=T*P+xl) (hxl:xl<P) (hD:m*P<=D) (h:T<g*m):X<g*D:=by
 have h1:(T+1)*P<=g*m*P:=jl _ h;have h2:g*(m*P)<=g*D:=xw _ hD;rw[Nat.mul_assoc] at h1;have h3:(T+1)*P=T*P+P:=by rw[Aq,Nat.one_mul]
 omega
theorem b1q {X D P T m g:Nat} (hX:T*P<=X) (hD:D<(m+1)*P) (hg:g<=m+1) (h:g*m<=T):g*D<=X+D:=by
 cases g with
 | zero=>simp
 | succ g =>
  have h1:g*D<=g*((m+1)*P):=xw _ (by omega);have h2:g*(m+1)<=T:=by
   have:(g+1)*m=g*m+m:=by rw[Aq,Nat.one_mul]
   have:g*(m+1)=g*m+g:=by rw[Nat.mul_add,Nat.mul_one]
   omega
  have h3:g*(m+1)*P<=T*P:=jl _ h2;rw[Nat.mul_assoc] at h3;have h4:(g+1)*D=g*D+D:=by rw[Aq,Nat.one_mul]
  omega
structure kG (S V n L:Nat) (u q:List Nat) (k:Nat):Prop where
 lu:u.length=L
 low:Low u
 lq:q.length+n=L
 c0j:Low q
 zero:∀ m,m<k->gr q m=0
 eq:val u+V*val q=S
 lt:val u<V*BB ^ k
structure a5A (X D g:Nat):Prop where
 hi:X<(g+1)*D
 lo:g*D<=X+D
theorem WG (l:List Nat) (k:Nat):val l=val (l.take k)+BB ^ (min k l.length)*val (l.drop k):=by
 conv=>lhs;rw[<-yu k l]
 rw[val_append,jk]
theorem b2e {l:List Nat} (h:l≠[]):l.getLast?=some (gr l (l.length-1)):=by have:0<l.length:=yc.2 h;rw[List.getLast?_eq_getElem?,qL (by omega)];exact dw _
theorem RU {l:List Nat} {k:Nat} (h:∀ m,k<=m->gr l m=0):val l=val (l.take k):=by
 by_cases hk:k<l.length
 ·rw[WG l k];have:val (l.drop k)=0:=by
   suffices ∀ r:List Nat,(∀ m,gr r m=0)->val r=0 by
    refine this _ (fun m=>?_);have:=h (k+m) (by omega);simpa [gr,List.getElem?_drop] using this
   intro r
   induction r with
   | nil=>intro _;rfl
   | cons g r ih =>
    intro hz;have h0:=hz 0;have h1:=ih (fun m=>by have:=hz (m+1);simpa [gr] using this);simp[gr] at h0;rw[dA,h0,h1];simp
  rw[this];simp
 ·rw[jf (by omega)]
structure yE (u v o:List Nat) (L g j i bo ca:Nat):Prop where
 len:o.length=L
 low:Low o
 same:∀ m,j+i<=m->gr o m=gr u m
 vl:val (o.take (j+i))+BB ^ j*(g*val (v.take i))=val (u.take (j+i))+BB ^ (j+i)*(bo+ca)
 bor:bo<=1
 car:ca<1000000000
theorem yE.start {u v:List Nat} {L g j:Nat} (h1:u.length=L) (h2:Low u):yE u v u L g j 0 0 0:=⟨h1,h2,fun _ _=>rfl,by simp,by omega,by omega⟩
theorem yE.step {u v o:List Nat} {L g j i bo ca d bo':Nat} (h:yE u v o L g j i bo ca) (hg:g<1000000000) (hv:gr v i<1000000000) (hk:j+i<L)
  (hd:d<1000000000) (hb:bo'<=1) (he:gr o (j+i)+1000000000*bo'=d+bo+(g*gr v i+ca)%1000000000) :
  yE u v (o.set (j+i) d) L g j (i+1) bo' ((g*gr v i+ca) / 1000000000):=by
 have hl:j+i<o.length:=by rw[h.len];exact hk
 have hc:=h.car;have hm:g*gr v i<=999999999*999999999:=uy (by omega) (by omega);refine⟨by simp[h.len],low_set h.low hd,?_,?_,hb,by omega⟩
 ·intro m hm;rw[AX hl,bn (by omega)];exact h.same m (by omega)
 ·have e1:=h.vl;have e2:=h.same (j+i) (aj _);have e3:=bG u (j+i);have e4:=bG v i;rw[show j+(i+1)=(j+i)+1 from by omega,fH hl,val_append,jk,zf (by omega),e3,e4,<-e2];simp only[dA,uG];have e5:=Nat.mod_add_div (g*gr v i+ca) 1000000000;generalize (g*gr v i+ca)%1000000000=r at *
  generalize (g*gr v i+ca) / 1000000000=c' at *
  rw[Nat.pow_succ,En] at *
  rw[bV] at *
  have e6:1000000000 ^ j*1000000000 ^ i*(r+1000000000*c')=1000000000 ^ j*1000000000 ^ i*(g*gr v i+ca):=by rw[e5]
  have e7:1000000000 ^ j*1000000000 ^ i*(gr o (j+i)+1000000000*bo')=1000000000 ^ j*1000000000 ^ i*(d+bo+r):=by rw[he]
  grind
structure zU (u v o:List Nat) (L j i c:Nat):Prop where
 len:o.length=L
 low:Low o
 same:∀ m,j+i<=m->gr o m=gr u m
 vl:val (o.take (j+i))+BB ^ (j+i)*c=val (u.take (j+i))+BB ^ j*val (v.take i)
 car:c<=1
theorem zU.start {u v:List Nat} {L j:Nat} (h1:u.length=L) (h2:Low u):zU u v u L j 0 0:=⟨h1,h2,fun _ _=>rfl,by simp,by omega⟩
theorem zU.step {u v o:List Nat} {L j i c d c':Nat} (h:zU u v o L j i c) (hk:j+i<L) (hd:d<1000000000) (hc:c'<=1) (he:gr o (j+i)+gr v i+c=d+1000000000*c') :
  zU u v (o.set (j+i) d) L j (i+1) c':=by
 have hl:j+i<o.length:=by rw[h.len];exact hk
 refine⟨by simp[h.len],low_set h.low hd,?_,?_,hc⟩
 ·intro m hm;rw[AX hl,bn (by omega)];exact h.same m (by omega)
 ·have e1:=h.vl;have e2:=h.same (j+i) (aj _);have e3:=bG u (j+i);have e4:=bG v i;rw[show j+(i+1)=(j+i)+1 from by omega,fH hl,val_append,jk,zf (by omega),e3,e4,<-e2];simp only[dA,uG];rw[Nat.pow_succ,En] at *
  rw[bV] at *
  have e7:1000000000 ^ j*1000000000 ^ i*(gr o (j+i)+gr v i+c)=1000000000 ^ j*1000000000 ^ i*(d+1000000000*c'):=by rw[he]
  grind
theorem vI {l:List Nat} {k m:Nat} (hv:val l<BB ^ k) (hk:k<=m):gr l m=0:=by
 rcases Ai (gr l m) with h|h
 ·exact h
 ·exfalso;have h1:=bG l m;have h2:val (l.take (m+1))<=val l:=by rw[WG l (m+1)];omega
  have h3:BB ^ m*1<=BB ^ m*gr l m:=xw _ h;have h4:BB ^ k<=BB ^ m:=vg gU hk;omega
theorem pG {l:List Nat} (h:Low l) (k:Nat):val (l.take k)<BB ^ k :=
 qh (mG (h.take k)) (vg gU (by rw[jk];omega))
theorem zF {v:List Nat} {n:Nat} (h:Low v) (hn:v.length=n):val v<BB ^ n:=by subst hn;exact mG h
theorem kG.bound {S n L j:Nat} {u q v:List Nat} (h:kG S (val v) n L u q (j+1)) (hv:Low v) (hn:v.length=n):val u<BB ^ (j+n+1):=by have h1:=h.lt;have h2:=zF hv hn;have h3:val v*BB ^ (j+1)<=BB ^ n*BB ^ (j+1):=jl _ (by omega);rw[<-En] at h3;rw[show j+n+1=n+(j+1) from by omega];omega
theorem kG.top {S n L j:Nat} {u q v:List Nat} (h:kG S (val v) n L u q (j+1)) (hv:Low v) (hn:v.length=n):val u=val (u.take (j+n))+BB ^ (j+n)*gr u (j+n):=by rw[<-bG];exact RU (fun m hm=>vI (h.bound hv hn) hm)
structure a3Y (X D v1 v2 uh u1 u2 P:Nat):Prop where
 x:∃ xl,X=((uh*BB+u1)*BB+u2)*P+xl/\xl<P
 d1:(v1*BB+v2)*P<=D
 d2:D<(v1*BB+v2+1)*P
 xb:X<BB*D
 uv:uh<=v1
 v1p:1<=v1
 b1:v1<1000000000
 b2:v2<1000000000
 b3:u1<1000000000
 b4:u2<1000000000
theorem kG.c8A {S n L j:Nat} {u q v:List Nat} (h:kG S (val v) n L u q (j+1)) (hv:Canon v) (hn:v.length=n) (h2:2<=n) :
  a3Y (val u) (BB ^ j*val v) (gr v (n-1)) (gr v (n-2)) (gr u (j+n)) (gr u (j+n-1)) (gr u (j+n-2)) (BB ^ (j+n-2)):=by
 obtain⟨m,rfl⟩:∃ m,n=m+2:=⟨n-2,by omega⟩;have hne:v≠[]:=by intro e;subst e;simp at hn
 have hp:1<=gr v (m+1):=by
  have:=hv.2;rw[b2e hne,hn] at this;have h3:gr v (m+2-1)≠0:=by simpa using this
  have:m+2-1=m+1:=by omega
  rw[this] at h3;omega
 have e1:m+2-1=m+1:=by omega
 have e2:m+2-2=m:=by omega
 have e3:j+(m+2)-1=j+m+1:=by omega
 have e4:j+(m+2)-2=j+m:=by omega
 have e5:j+(m+2)=j+m+2:=by omega
 have hV:val v=val (v.take m)+BB ^ m*gr v m+BB ^ (m+1)*gr v (m+1):=by rw[<-bG,<-bG,dR (by omega)]
 have hX:val u=val (u.take (j+m))+BB ^ (j+m)*gr u (j+m)+BB ^ (j+m+1)*gr u (j+m+1)+BB ^ (j+m+2)*gr u (j+m+2):=by rw[<-bG,<-bG,<-bG];exact RU (fun k hk=>vI (h.bound hv.1 hn) (by omega))
 have hvl:=pG hv.1 m;have hul:=pG h.low (j+m);have hlt:=h.lt;rw[e1,e2,e3,e4,e5];have hP:BB ^ (j+m)=BB ^ j*BB ^ m:=En _ _ _;have hd:BB ^ j*val v=(gr v (m+1)*BB+gr v m)*BB ^ (j+m)+BB ^ j*val (v.take m):=by rw[hV,hP,Nat.pow_succ];grind
 have hd2:BB ^ j*val (v.take m)<BB ^ (j+m):=by rw[hP];exact Nat.mul_lt_mul_of_pos_left hvl (Nat.pow_pos gU)
 refine⟨⟨val (u.take (j+m)),?_,hul⟩,?_,?_,?_,?_,hp,GY hv.1 _,GY hv.1 _,GY h.low _,GY h.low _⟩
 ·rw[hX,Nat.pow_succ,Nat.pow_succ];grind
 ·rw[hd];omega
 ·rw[hd,Aq _ 1,Nat.one_mul];omega
 ·rw[Nat.pow_succ] at hlt;have:BB*(BB ^ j*val v)=val v*(BB ^ j*BB):=by grind
  omega
 ·
  rcases Ad (gr v (m+1)) (gr u (j+m+2)) with h4|h4
  ·exfalso;have h5:BB ^ (j+m+2)*(gr v (m+1)+1)<=BB ^ (j+m+2)*gr u (j+m+2):=xw _ h4;have h6:val v<BB ^ (m+1)*(gr v (m+1)+1):=by have:=pG hv.1 (m+1);have h7:=bG v (m+1);rw[dR (by omega)] at h7;rw[Nat.mul_add,Nat.mul_one];omega
   have h8:val v*BB ^ (j+1)<BB ^ (m+1)*(gr v (m+1)+1)*BB ^ (j+1):=Nat.mul_lt_mul_of_pos_right h6 (Nat.pow_pos gU);have h9:BB ^ (m+1)*(gr v (m+1)+1)*BB ^ (j+1)=BB ^ (j+m+2)*(gr v (m+1)+1):=by rw[show j+m+2=(m+1)+(j+1) from by omega,En];grind
   omega
  ·exact h4
structure GInv (X D v1 uh u1 g r:Nat):Prop where
 eq:g*v1+r=uh*BB+u1
 hi:X<(g+1)*D
theorem a3Y.start {X D v1 v2 uh u1 u2 P:Nat} (h:a3Y X D v1 v2 uh u1 u2 P):GInv X D v1 uh u1 ((uh*BB+u1) / v1) ((uh*BB+u1)%v1):=by
 have hp:=h.v1p;have e:=Nat.mod_add_div (uh*BB+u1) v1;have hm:=xg (uh*BB+u1) (show 0<v1 by omega);refine⟨by rw[vw];omega,?_⟩;obtain⟨xl,hx,hxl⟩:=h.x;refine a2J hx hxl h.d1 ?_;generalize (uh*BB+u1) / v1=g at *
 generalize (uh*BB+u1)%v1=r at *
 have h1:uh*BB+u1+1<=(g+1)*v1:=by rw[Aq,vw g];omega
 have h2:(uh*BB+u1+1)*BB<=(g+1)*v1*BB:=jl _ h1;have h3:=h.b4;have h4:(g+1)*(v1*BB+v2)=(g+1)*v1*BB+(g+1)*v2:=by grind
 rw[h4];rw[bV] at *
 omega
theorem GInv.le {X D v1 v2 uh u1 u2 P g r:Nat} (h:a3Y X D v1 v2 uh u1 u2 P) (k:GInv X D v1 uh u1 g r):g<=2*BB:=by
 rcases Ad (2*BB) g with h1|h1
 ·exfalso;have e:=k.eq;have h2:(2*BB+1)*v1<=g*v1:=jl _ h1;have h3:uh*BB<=v1*BB:=jl _ h.uv;have h4:=h.b3;have h5:=h.v1p;rw[bV] at *
  omega
 ·exact h1
theorem GInv.step {X D v1 v2 uh u1 u2 P g r:Nat} (h:a3Y X D v1 v2 uh u1 u2 P) (k:GInv X D v1 uh u1 g r) (hc:BB<=g\/r*BB+u2<g*v2):1<=g/\GInv X D v1 uh u1 (g-1) (r+v1):=by
 have hg:1<=g:=by
  rcases hc with hc|hc
  ·rw[bV] at hc;omega
  ·rcases Ai g with e|e
   ·subst e;omega
   ·exact e
 obtain⟨g',rfl⟩:∃ g',g=g'+1:=⟨g-1,by omega⟩;refine⟨hg,?_,?_⟩
 ·have:=k.eq;rw[Aq,Nat.one_mul] at this;rw[Nat.add_sub_cancel];omega
 ·rw[Nat.add_sub_cancel];rcases hc with hc|hc
  ·exact qh h.xb (jl _ hc)
  ·obtain⟨xl,hx,hxl⟩:=h.x;refine a2J hx hxl h.d1 ?_;have e:=k.eq;have e2:(uh*BB+u1)*BB=((g'+1)*v1+r)*BB:=by rw[e]
   rw[e2];have:(g'+1)*(v1*BB+v2)=(g'+1)*v1*BB+(g'+1)*v2:=by grind
   rw[this,Aq];omega
theorem GInv.done {X D v1 v2 uh u1 u2 P g r:Nat} (h:a3Y X D v1 v2 uh u1 u2 P) (k:GInv X D v1 uh u1 g r) (hg:g<BB) (hr:g*v2<=r*BB+u2):a5A X D g:=by
 refine⟨k.hi,?_⟩;obtain⟨xl,hx,hxl⟩:=h.x;have hp:=h.v1p;refine b1q (T:=(uh*BB+u1)*BB+u2) (by omega) h.d2 ?_ ?_
 ·have:1*BB<=v1*BB:=jl _ hp;omega
 ·have e:=k.eq;have e2:(uh*BB+u1)*BB=(g*v1+r)*BB:=by rw[e]
  rw[e2];have:g*(v1*BB+v2)=g*v1*BB+g*v2:=by grind
  rw[this,Aq];omega
theorem GInv.brk {X D v1 v2 uh u1 u2 P g r:Nat} (h:a3Y X D v1 v2 uh u1 u2 P) (k:GInv X D v1 uh u1 g r) (hr:BB<=r):g<BB/\g*v2<=r*BB+u2:=by
 have e:=k.eq;have h3:uh*BB<=v1*BB:=jl _ h.uv;have h4:=h.b3;have hg:g<BB:=by
  rcases Ad g BB with h1|h1
  ·exact h1
  ·exfalso;have h2:BB*v1<=g*v1:=jl _ h1;rw[vw BB v1] at h2;rw[bV] at *
   omega
 refine⟨hg,?_⟩;have h5:g*v2<=BB*BB:=uy (by omega) (by have:=h.b2;rw[bV];omega);have h6:BB*BB<=r*BB:=jl _ hr;omega
theorem PO {o:List Nat} {k d X:Nat} (hl:k<o.length) (hz:∀ m,k+1<=m->gr o m=0):val (o.set k d)=val (o.take k)+BB ^ k*d:=by
 have h1:=a1P (l:=o) (k:=k) (v:=d) hl;have h2:val o=val (o.take k)+BB ^ k*gr o k:=by rw[<-bG];exact RU hz
 omega
theorem a4B {S n L j g bo ca:Nat} {u q v o:List Nat} (h:kG S (val v) n L u q (j+1)) (hv:Low v) (hn:v.length=n) (hj:j+n<L) (hG:a5A (val u) (BB ^ j*val v) g) (hg:g<BB)
  (hS:yE u v o L g j n bo ca) (hd:bo+ca<=gr u (j+n)) :
  gr u (j+n)=bo+ca/\kG S (val v) n L (o.set (j+n) 0) (q.set j g) j:=by
 have e1:=hS.vl;rw[dR (show v.length<=n by omega)] at e1;have e2:=h.top hv hn;have e3:=pG hS.low (j+n);have e4:=hG.hi;have e5:BB ^ j*val v<BB ^ (j+n):=by rw[En];exact Nat.mul_lt_mul_of_pos_left (zF hv hn) (Nat.pow_pos gU)
 obtain⟨d,hdd⟩:∃ d,gr u (j+n)=bo+ca+d:=⟨gr u (j+n)-(bo+ca),by omega⟩;have e6:BB ^ j*(g*val v)=g*(BB ^ j*val v):=by grind
 rw[e6] at e1;have e7:(g+1)*(BB ^ j*val v)=g*(BB ^ j*val v)+BB ^ j*val v:=by rw[Aq,Nat.one_mul]
 rw[e7] at e4;have e8:BB ^ (j+n)*(bo+ca+d)=BB ^ (j+n)*(bo+ca)+BB ^ (j+n)*d:=Nat.mul_add _ _ _;rw[hdd,e8] at e2;have hd0:d=0:=by
  rcases Ai d with e|e
  ·exact e
  ·exfalso;have:BB ^ (j+n)*1<=BB ^ (j+n)*d:=xw _ e;omega
 subst hd0;refine⟨by omega,?_⟩;have hol:j+n<o.length:=by rw[hS.len];exact hj
 have hz:∀ m,j+n+1<=m->gr o m=0:=fun m hm=>by rw[hS.same m (by omega)];exact vI (h.bound hv hn) hm
 have e9:=PO (X:=0) (d:=0) hol hz;have hjq:j<q.length:=by have:=h.lq;omega
 have e10:=a1P (l:=q) (k:=j) (v:=g) hjq;rw[h.zero j (by omega)] at e10;have e11:=h.eq;refine⟨by simp[hS.len],low_set hS.low (by omega),by simpa using h.lq,low_set h.c0j (by rw[bV] at hg;exact hg),?_,?_,?_⟩
 ·intro m hm;rw[AX hjq,bn (by omega)];exact h.zero m (by omega)
 ·rw[e9];have e12:val (q.set j g)=val q+BB ^ j*g:=by omega
  rw[e12];have e13:val v*(val q+BB ^ j*g)=val v*val q+g*(BB ^ j*val v):=by grind
  rw[e13];omega
 ·rw[e9,vw (val v)];omega
theorem UJ {S n L j g bo ca c:Nat} {u q v o o2:List Nat} (h:kG S (val v) n L u q (j+1)) (hv:Low v) (hn:v.length=n) (hj:j+n<L) (hG:a5A (val u) (BB ^ j*val v) g) (hg:g<BB)
  (hS:yE u v o L g j n bo ca) (hd:gr u (j+n)<bo+ca) :
  bo+ca=gr u (j+n)+1/\1<=g/\(zU (o.set (j+n) 999999999) v o2 L j n c->c=1/\gr o2 (j+n)=999999999/\kG S (val v) n L (o2.set (j+n) 0) (q.set j (g-1)) j):=by
 have e1:=hS.vl;rw[dR (show v.length<=n by omega)] at e1;have e2:=h.top hv hn;have e3:=pG hS.low (j+n);have e4:=hG.lo;have e5:BB ^ j*val v<BB ^ (j+n):=by rw[En];exact Nat.mul_lt_mul_of_pos_left (zF hv hn) (Nat.pow_pos gU)
 obtain⟨d,hdd⟩:∃ d,bo+ca=gr u (j+n)+1+d:=⟨bo+ca-gr u (j+n)-1,by omega⟩;have e6:BB ^ j*(g*val v)=g*(BB ^ j*val v):=by grind
 rw[e6] at e1;have e8:BB ^ (j+n)*(gr u (j+n)+1+d)=BB ^ (j+n)*gr u (j+n)+BB ^ (j+n)+BB ^ (j+n)*d:=by rw[Nat.mul_add,Nat.mul_add,Nat.mul_one]
 rw[hdd,e8] at e1;have hd0:d=0:=by
  rcases Ai d with e|e
  ·exact e
  ·exfalso;have:BB ^ (j+n)*1<=BB ^ (j+n)*d:=xw _ e;omega
 subst hd0;have hg1:1<=g:=by
  rcases Ai g with e|e
  ·subst e;simp at e1;omega
  ·exact e
 refine⟨by omega,hg1,fun hA=>?_⟩;have hol:j+n<o.length:=by rw[hS.len];exact hj
 have ho2:j+n<o2.length:=by rw[hA.len];exact hj
 have a1:=hA.vl;rw[dR (show v.length<=n by omega),a3L (aj _)] at a1;have a3:=pG hA.low (j+n);have hc:c=0\/c=1:=by have:=hA.car;omega
 have hc1:c=1:=by
  rcases hc with rfl|rfl
  ·exfalso;simp at e1 a1;omega
  ·rfl
 subst hc1;have g2:gr o2 (j+n)=999999999:=by rw[hA.same _ (aj _),AX hol,dn rfl]
 refine⟨rfl,g2,?_⟩;have hz:∀ m,j+n+1<=m->gr o2 m=0:=fun m hm=>by rw[hA.same m (by omega),AX hol,bn (by omega),hS.same m (by omega)];exact vI (h.bound hv hn) hm
 have e9:=PO (X:=0) (d:=0) ho2 hz;have hjq:j<q.length:=by have:=h.lq;omega
 have e10:=a1P (l:=q) (k:=j) (v:=g-1) hjq;rw[h.zero j (by omega)] at e10;have e11:=h.eq;obtain⟨g',rfl⟩:∃ g',g=g'+1:=⟨g-1,by omega⟩;rw[Nat.add_sub_cancel] at *
 have e7:(g'+1)*(BB ^ j*val v)=g'*(BB ^ j*val v)+BB ^ j*val v:=by rw[Aq,Nat.one_mul]
 rw[e7] at e1 e4;refine⟨by simp[hA.len],low_set hA.low (by omega),by simpa using h.lq,low_set h.c0j (by rw[bV] at hg;omega),?_,?_,?_⟩
 ·intro m hm;rw[AX hjq,bn (by omega)];exact h.zero m (by omega)
 ·rw[e9];have e12:val (q.set j g')=val q+BB ^ j*g':=by omega
  rw[e12];have e13:val v*(val q+BB ^ j*g')=val v*val q+g'*(BB ^ j*val v):=by grind
  rw[e13];simp only[Nat.mul_one,Nat.mul_zero,Nat.add_zero] at *
  omega
 ·rw[e9,vw (val v)];simp only[Nat.mul_one,Nat.mul_zero,Nat.add_zero] at *
  omega
theorem kG.done {S n L:Nat} {u q v:List Nat} (h:kG S (val v) n L u q 0):val q=S / val v/\val u=S%val v:=by
 have h1:=h.lt;have h2:=h.eq;simp at h1;have hp:0<val v:=by omega
 have h3:S=val u+val v*val q:=h2.symm;constructor
 ·rw[h3,Nat.add_mul_div_left _ _ hp,Ez h1];omega
 ·rw[h3,Nat.add_mul_mod_self_left,Ef h1]
end Go.Proofs.YtbkocjmmbkifjaaGreat
