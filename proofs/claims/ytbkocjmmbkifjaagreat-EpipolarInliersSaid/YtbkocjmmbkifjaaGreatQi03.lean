/-
  Lemmas for the theorem vinliers_holds, part 3 of 32.
-/
import Derived.Deep.RegionWith
import Derived.Test.YtbkocjmmbkifjaaGreatQi02
namespace Go.Proofs.YtbkocjmmbkifjaaGreat
open Go Go.RowKit
theorem ku:type_of% @Nat.mul_le_mul_right:=@Nat.mul_le_mul_right
theorem Bg:type_of% @Int.tmod_eq_emod_of_nonneg:=@Int.tmod_eq_emod_of_nonneg
theorem uo:type_of% @Int.sign_eq_neg_one_of_neg:=@Int.sign_eq_neg_one_of_neg
theorem vg:type_of% @Int.sign_eq_one_of_pos:=@Int.sign_eq_one_of_pos
section
open Go.RowKit Go.Shelf
set_option maxRecDepth 100000
set_option maxHeartbeats 2000000
set_option linter.unusedSimpArgs false
set_option linter.unusedVariables false
attribute [local go_sem] Oper.semAt_some
def shf (a:List Nat) (d:Nat) (pre:List (Fin a.length)):List Nat × Nat :=
 pre.foldl (fun s x=>(s.1.set x.1 ((s.2*BB+gr a x.1) / d),(s.2*BB+gr a x.1)%d)) (List.replicate a.length 0,0)
theorem QV (a:List Nat) (d:Nat) (pre:List (Fin a.length)) (x:Fin a.length) :
 shf a d (pre++[x])=((shf a d pre).1.set x.1 (((shf a d pre).2*BB+gr a x.1) / d),((shf a d pre).2*BB+gr a x.1)%d):=by simp[shf]
theorem a4M {α:Type} {pre:List α} {n:Nat} (h:pre.length=n+1):∃ q x,pre=q++[x] :=
 ⟨pre.dropLast,pre.getLast (by intro e;subst e;simp at h),(List.dropLast_concat_getLast _).symm⟩
theorem a2S {a:List Nat} {d:Nat} (hd:1<=d) (hd2:d<=999999999) (ha:Low a) (pre:List (Fin a.length)):(shf a d pre).1.length=a.length/\(shf a d pre).2<=999999998/\(shf a d pre).2<d:=by
 suffices ∀ n (pre:List (Fin a.length)),pre.length=n->(shf a d pre).1.length=a.length/\(shf a d pre).2<=999999998/\(shf a d pre).2<d from this _ pre rfl
 intro n
 induction n with
 | zero=>intro pre h;rw[qg h];simp[shf];omega
 | succ n ih =>
  intro pre h
  obtain⟨q,x,rfl⟩:=a4M h
  have h1:=ih q (by simp at h;exact h)
  rw[QV]
  have h2:=wu ((shf a d q).2*BB+gr a x.1) (show 0<d by omega)
  exact⟨by simpa using h1.1,by simp only;omega,h2⟩
theorem gZ.init {n:Nat} {q:List (Fin n)} {x:Fin n} (h:gZ n (q++[x])):gZ n q/\x.1=n-1-q.length :=
 ⟨fun j y hj=>h j y (by rw[zq (ou.1 hj).1];exact hj),h q.length x (by simp)⟩
theorem a9R {a:List Nat} {d:Nat} (hd:1<=d) (hd2:d<=999999999) (ha:Low a) {pre:List (Fin a.length)} (hb:gZ a.length pre) (hle:pre.length<=a.length) :
  (shf a d pre).2=val (a.drop (a.length-pre.length))%d/\val ((shf a d pre).1.drop (a.length-pre.length))=val (a.drop (a.length-pre.length)) / d/\Low (shf a d pre).1:=by
 suffices ∀ n (pre:List (Fin a.length)),pre.length=n->gZ a.length pre->pre.length<=a.length->(shf a d pre).2=val (a.drop (a.length-pre.length))%d/\val ((shf a d pre).1.drop (a.length-pre.length))=val (a.drop (a.length-pre.length)) / d/\Low (shf a d pre).1 from this _ pre rfl hb hle
 intro n
 induction n with
 | zero =>
  intro pre h _ _
  rw[qg h]
  simp[shf,List.drop_replicate]
  exact fun g hg=>by rw[(Di.1 hg).2];exact gV
 | succ n ih =>
  intro pre h hb hle
  obtain⟨q,x,rfl⟩:=a4M h
  simp only[dw,List.length_singleton] at h hle ⊢
  obtain⟨hbq,hx⟩:=hb.init
  obtain⟨h1,h2,h3⟩:=ih q (by omega) hbq (by omega)
  obtain⟨b1,b2,b3⟩:=a2S hd hd2 ha q
  have hg:=fU ha x.1
  rw[QV]
  obtain⟨m,hm⟩:∃ m,a.length-(q.length+1)=m:=⟨_,rfl⟩
  have em:a.length-q.length=m+1:=by omega
  have ex:x.1=m:=by omega
  rw[em] at h1 h2
  rw[hm,ex]
  have hml:m<a.length:=by omega
  have e1:val (a.drop m)=gr a m+BB*val (a.drop (m+1)):=by rw[Ai hml,bP,oG hml]
  generalize val (a.drop (m+1))=V at *
  rw[ex] at hg
  generalize gr a m=g at *
  have e2:(shf a d q).2*BB+g<d*BB:=by
   rw[bI]
   have:((shf a d q).2+1)*1000000000<=d*1000000000:=ku _ b3
   omega
  have hq:val (((shf a d q).1.set m (((shf a d q).2*BB+g) / d)).drop m)=((shf a d q).2*BB+g) / d+BB*(V / d):=by
   rw[Ai (by simp;omega),bP,List.getElem_set_self,List.drop_set_of_lt (by omega),h2]
  have hdm:=Nat.mod_add_div V d
  have hV:g+BB*V=((shf a d q).2*BB+g)+d*(BB*(V / d)):=by
   rw[h1]
   generalize V / d=t at *
   generalize V%d=r at *
   rw[<-hdm]
   grind
  refine⟨?_,?_,?_⟩
  ·rw[e1,hV,Nat.add_mul_mod_self_left]
  ·rw[hq,e1,hV,Nat.add_mul_div_left _ _ (by omega)]
  ·refine low_set h3 ?_
   have:=(Nat.div_lt_iff_lt_mul (show 0<d by omega)).2 (by rw[uw];exact e2)
   rw[bI] at this
   rw[bI];exact this
theorem b2v {a:List Nat} {d:Nat} (hd:1<=d) (hd2:d<=999999999) (ha:Low a) {pre:List (Fin a.length)} (hb:gZ a.length pre) (hle:pre.length=a.length) :
  (shf a d pre).2=val a%d/\val (shf a d pre).1=val a / d/\Low (shf a d pre).1:=by
 have:=a9R hd hd2 ha hb (by omega)
 rw[hle] at this
 simpa using this
theorem b1Z {n d v:Nat} (hd:1<=d) (hn:n<=999999998999999999) (hv:(n:Int) / d=v) (hw:IntKind.u64.wrap (v:Int)=v) (w:World):Sem.run Tryz.prog (binOp .quo 147 (.int .u64 (n:Nat)) (.int .u64 (d:Nat))) w=.ok (.int .u64 (v:Nat)) w:=by
 have hdz:((d:Int)==0)=false:=by simp;omega
 have hdn:¬ d=0:=by omega
 simp[go_sem, *]
theorem b2e {n d v:Nat} (hd:1<=d) (hn:n<=999999998999999999) (hv:(n:Int)%d=v) (hw:IntKind.u64.wrap (v:Int)=v) (w:World):Sem.run Tryz.prog (binOp .rem 147 (.int .u64 (n:Nat)) (.int .u64 (d:Nat))) w=.ok (.int .u64 (v:Nat)) w:=by
 rw[<-Bg (by omega)] at hv
 have hdz:((d:Int)==0)=false:=by simp;omega
 have hdn:¬ d=0:=by omega
 simp[go_sem, *]
structure a3n (a:List Nat) (d:Nat) (B:Nat) (pre:List (Fin a.length)) (W:World):Prop where
 dv:W.cell? ⟨B,0,none⟩=some (.int .u32 (d:Nat))
 qv:W.cell? ⟨B+1,0,none⟩=some (.slice (some ⟨B+1+1,0,none⟩) a.length a.length)
 qf:W.frozen? ⟨B+1,0,none⟩=false
 rv:W.cell? ⟨B+1+1+1,0,none⟩=some (.int .u64 ((shf a d pre).2:Nat))
 rf:W.frozen? ⟨B+1+1+1,0,none⟩=false
 row:W.ownsRow B 148 1 (.slice (some ⟨B+1+1,0,none⟩) a.length a.length) a.length (cells32 (shf a d pre).1)
theorem a3n.own (a:List Nat) (d B:Nat):Own (fun(pre:List (Fin a.length)) W=>a3n a d B pre W):=fun s A W row hs hg hr =>
 ⟨Dk hs.dv hg hr,Dk hs.qv hg hr,(frozen_kept hs.qv hg hr).trans hs.qf,Dk hs.rv hg hr,(frozen_kept hs.rv hg hr).trans hs.rf,
  hs.row.kept hg (.inr (fun e=>by
   obtain⟨o,ho,hc⟩:=hr (B+1+1) (by rw[<-e];rfl)
   rcases hs.row.2 with⟨h,_⟩|⟨g,cap,cur,h,_,hh,_⟩
   ·cases h
   ·cases h
    rw[hh] at ho
    cases ho
    cases hc))⟩
theorem a8a (w:World) (n:Nat) (hn:n<=2000000000):(Instr.makeSlice 43 (.int .i64 (n:Nat)) (.int .i64 (n:Nat))).run Tryz.prog w=.ok (.slice (some ⟨w.heap.size,0,none⟩) n n) (w.alloc (.cells (madeCells #[.int .u32 0] n) 148)):=by
 obtain⟨i0,hi,hz0,hz1,hz2⟩:=zh gB
 have:=run_make (P:=Tryz.prog) w 43 148 i0 (.int .u32 0) jw hi hz0 .i64 .i64 n n (by omega) (Int.le_refl _) (by rw[hz2];omega) (by omega)
 simpa [hz1,Value.cells] using this
theorem a9S (a:List Nat) (d:Nat) (p:Option Addr) (c:Nat) (w:World) (hI:Rd w (.slice p a.length c) a) (ha:Low a) (hd:1<=d) (hd2:d<=999999999) (hl:a.length<=2000000000) :
  CallsIn Fence.wide 3 Tryz.prog 252 #[.slice p a.length c,.int .u32 (d:Nat)] w fun e W'=>∃ v,e=.returned (.tuple #[v,.int .u32 (val a%d:Nat)]) /\
   W'.ownsRow w.heap.size 148 1 v (dig (val a / d)).length (cells32 (dig (val a / d)))/\Below w.heap.size w W':=by
 have hro:Fence.wide.round=none:=rfl
 have hmk:=fun w=>a8a w a.length hl
 refine callsIn_of_wp_marks Tryz.func252 rfl trivial ?_ hro
 simp only[Tryz.ntmps252,Ba,List.length_cons,List.length_nil,Nat.reduceAdd,Nat.reduceSub,Bq,Array.replicate_zero,Dp,Cc,List.nil_append,List.cons_append]
 gi_wp2_with (refine⟨trivial,?_⟩;gi_at_call 278;refine(sW Fence.wide 2 trivial hro _ _ _ _).mono ?_;rintro e w' ⟨rfl,rfl⟩)
 have bD:=Boxed.new w 148 (.int .u32 (d:Nat))
 have bQ:=Boxed.new (w.alloc (.cells #[.int .u32 (d:Nat)] 148)) 43 (.slice (some ⟨w.heap.size+1+1,0,none⟩) a.length a.length)
 rw[Ae] at bQ
 obtain⟨W2,hW2⟩:∃ W2,(w.alloc (.cells #[.int .u32 (d:Nat)] 148)).alloc (.cells #[.slice (some ⟨w.heap.size+1+1,0,none⟩) a.length a.length] 43)=W2:=⟨_,rfl⟩
 have z2:W2.heap.size=w.heap.size+1+1:=by rw[<-hW2];simp
 have bR:=Boxed.new (W2.alloc (.cells (madeCells #[.int .u32 0] a.length) 148)) 147 (.int .u64 0)
 have bS:=Boxed.new ((W2.alloc (.cells (madeCells #[.int .u32 0] a.length) 148)).alloc (.cells #[.int .u64 0] 147)) 43 (.slice p a.length c)
 rw[Ae,z2] at bR
 rw[Ae,Ae,z2] at bS
 have hB2:Below w.heap.size w W2:=by rw[<-hW2];exact((bg _ w).alloc (ak _) _).alloc (by simp) _
 have hO2:(W2.alloc (.cells (madeCells #[.int .u32 0] a.length) 148)).ownsRow w.heap.size 148 1 (.slice (some ⟨w.heap.size+1+1,0,none⟩) a.length a.length) a.length (cells32 (List.replicate a.length 0)):=by
  have:=World.ownsRow_lit (base:=w.heap.size) (e:=148) (size:=1) W2 (madeCells #[.int .u32 0] a.length) a.length (by omega) (by unfold maxLen;omega) (by simp[madeCells])
  rwa [z2,iE] at this
 rw[hW2] at bQ ⊢
 have bD2:Boxed W2 w.heap.size 148 (.int .u32 (d:Nat)):=by rw[<-hW2];exact bD.alloc _
 have hB0:Below w.heap.size w (((W2.alloc (.cells (madeCells #[.int .u32 0] a.length) 148)).alloc (.cells #[.int .u64 0] 147)).alloc (.cells #[.slice p a.length c] 43)):=((hB2.alloc hB2.size _).alloc (by simp;omega) _).alloc (by simp;omega) _
 refine wpIn_rangeFunc_ownG (n:=3) (α:=Fin a.length) hro (by omega) (gf:=288) (lb:=#[.pointer (some ⟨w.heap.size+1+1+1+1,0,none⟩)]) rfl trivial (enters_of Tryz.func288 (by kernel_rfl) rfl)
  (wC Fence.wide 2 trivial hro (by omega) (w.heap.size+1+1+1+1) w.heap.size _ a _ (by simp;omega) (by simp;omega) bS.cell (hI.b.below hB0)) (fun h k=>KB.trans h k) (KB.b (by simp;omega) (by simp;omega)) (bg _ _) (fun _=>rfl)
  (fun(pre:List (Fin a.length)) W=>a3n a d w.heap.size pre W/\Below w.heap.size w W)
  (fun _ _ _=>False)
  (OwnFrom.and (Own.from (a3n.own a d w.heap.size) _) (ownFrom_below (ak _) (by simp;omega)))
  (fun _ _ _ _ _ hs _ _=>hs)
  ⟨⟨(((bD2.alloc _).alloc _).alloc _).cell,(((bQ.alloc _).alloc _).alloc _).cell,(((bQ.alloc _).alloc _).alloc _).frozen,(bR.alloc _).cell,(bR.alloc _).frozen,(hO2.alloc _).alloc _⟩,hB0⟩
  (fun(x:Fin a.length)=>{ tmps:=#[.slice p a.length c,.int .u32 (d:Nat),undef,.pointer (some ⟨w.heap.size,0,none⟩),.pointer (some ⟨w.heap.size+1,0,none⟩),.int .u32 0,.pointer (some ⟨w.heap.size+1+1+1,0,none⟩),.int .i64 (x.1:Nat),.int .u32 (gr a x.1:Nat),undef,.slice p a.length c,.int .i64 (a.length:Nat),.slice (some ⟨w.heap.size+1+1,0,none⟩) a.length a.length,.slice p a.length c,.func (.func 288) #[] #[.pointer (some ⟨w.heap.size+1+1+1+1,0,none⟩)],.int .i64 (x.1:Nat),.int .u32 (gr a x.1:Nat),undef,undef,undef,undef,undef,undef,undef,undef,undef,undef,undef,undef,undef,undef,undef,undef,undef,undef,undef,undef,undef],defers:=[] }) ?assign ?body ?done ?stop
 case assign =>
  intro l x W K hK
  gi_wp2
  exact hK
 case body =>
  rintro lo pre x W ⟨hS,hB⟩ _
  obtain⟨b1,b2,b3⟩:=a2S hd hd2 ha pre
  have hg:=fU ha x.1
  have hx:=x.2
  have HSN:=bn (QV a d pre x)
  obtain⟨h1,h2,h3,h4,h5,h6⟩:=hS
  generalize (shf a d pre).2=r at *
  generalize (shf a d pre).1=q at *
  have hcl:W.cell? ⟨w.heap.size+1+1,x.1,none⟩=some (.int .u32 (gr q x.1:Nat)):=by
   rw[h6.cellAt x.1 (by omega)];exact eF (by omega)
  have hfr:=h6.frozenAt x.1
  obtain⟨n,hn⟩:∃ n:Nat,(r:Int)*1000000000+gr a x.1=n:=⟨r*1000000000+gr a x.1,by omega⟩
  have hn2:r*BB+gr a x.1=n:=by rw[bI];omega
  have hn3:n<d*1000000000:=by omega
  have hn4:n<=999999998999999999:=by omega
  rw[hn2] at HSN
  obtain⟨v,hv⟩:∃ v:Nat,(n:Int) / d=v:=⟨n / d,by simp⟩
  obtain⟨u,hu⟩:∃ u:Nat,(n:Int)%d=u:=⟨n%d,by simp⟩
  have hv2:n / d=v:=by
   have:((n / d:Nat):Int)=v:=by rw[<-hv];simp
   omega
  have hu2:n%d=u:=by
   have:((n%d:Nat):Int)=u:=by rw[<-hu];simp
   omega
  have hv3:v<=999999999:=by
   have:=(Nat.div_lt_iff_lt_mul (show 0<d by omega)).2 (by rw[uw] at hn3;exact hn3)
   omega
  have hu3:u<=999999998:=by have:=wu n (show 0<d by omega);omega
  rw[hv2,hu2] at HSN
  clear hn2 hn3 hv2 hu2
  have hdz:((d:Int)==0)=false:=by simp;omega
  have hw1:IntKind.u64.wrap (v:Int)=v:=by simp[IntKind.wrap,IntKind.bits,IntKind.signed];omega
  have hw2:IntKind.u64.wrap (u:Int)=u:=by simp[IntKind.wrap,IntKind.bits,IntKind.signed];omega
  have a7T:∀ w,Sem.run Tryz.prog (binOp .quo 147 (.int .u64 (n:Nat)) (.int .u64 (d:Nat))) w=.ok (.int .u64 (v:Nat)) w:=fun w=>b1Z (by omega) (by omega) hv hw1 w
  have a7U:∀ w,Sem.run Tryz.prog (binOp .rem 147 (.int .u64 (n:Nat)) (.int .u64 (d:Nat))) w=.ok (.int .u64 (u:Nat)) w:=fun w=>b2e (by omega) (by omega) hu hw2 w
  have hdn:¬ d=0:=by omega
  have hw3:IntKind.u64.wrap (d:Int)=d:=by simp[IntKind.wrap,IntKind.bits,IntKind.signed];omega
  have hw4:IntKind.u32.wrap (v:Int)=v:=by simp[IntKind.wrap,IntKind.bits,IntKind.signed];omega
  have a5G:Tryz.prog.follows .mixedOrders=true:=by kernel_rfl
  clear hW2 hmk bD bQ bR bS hB0 hB2 hO2 bD2
  gi_wp2
  refine wpIn_region_any a5G ?_
  refine a1L (fun L a' W'=>L.size=14/\(∃ t22 t23 t24 t25 t26 t27 t28 t29 t30 t31 t32 t33:Value,a'=⟨#[.slice p a.length c,.int .u32 (d:Nat),undef,.pointer (some ⟨w.heap.size,0,none⟩),.pointer (some ⟨w.heap.size+1,0,none⟩),.int .u32 0,.pointer (some ⟨w.heap.size+1+1+1,0,none⟩),.int .i64 (x.1:Nat),.int .u32 (gr a x.1:Nat),.int .u64 (n:Nat),.slice p a.length c,.int .i64 (a.length:Nat),.slice (some ⟨w.heap.size+1+1,0,none⟩) a.length a.length,.slice p a.length c,.func (.func 288) #[] #[.pointer (some ⟨w.heap.size+1+1+1+1,0,none⟩)],.int .i64 (x.1:Nat),.int .u32 (gr a x.1:Nat),.int .u64 (r:Nat),.int .u64 ((r:Int)*1000000000),.int .u32 (gr a x.1:Nat),.int .u64 (gr a x.1:Nat),.int .u64 (n:Nat),t22,t23,t24,t25,t26,t27,t28,t29,t30,t31,t32,t33,undef,undef,undef,undef],[]⟩/\(L.getD 0 false=true->t22=.slice (some ⟨w.heap.size+1+1,0,none⟩) a.length a.length)/\(L.getD 1 false=true->t23=.int .i64 (x.1:Nat))/\(L.getD 2 false=true->t24=.int .u64 (n:Nat))/\(L.getD 3 false=true->t25=.int .u32 (d:Nat))/\(L.getD 4 false=true->t26=.int .u64 (d:Nat))/\(L.getD 5 false=true->t27=.int .u64 (v:Nat))/\(L.getD 6 false=true->t28=.int .u32 (v:Nat))/\(L.getD 7 false=true->t29=.int .u64 (n:Nat))/\(L.getD 8 false=true->t30=.int .u32 (d:Nat))/\(L.getD 9 false=true->t31=.int .u64 (d:Nat))/\(L.getD 10 false=true->t32=.int .u64 (u:Nat))/\(L.getD 11 false=true->t33=.pointer (some ⟨w.heap.size+1+1,x.1,none⟩)))/\((L.getD 12 false=false/\L.getD 13 false=false/\W'=W.drew)\/(L.getD 12 false=true/\L.getD 13 false=false/\W'=(W.drew.setCell ⟨w.heap.size+1+1,x.1,none⟩ (.int .u32 (v:Nat))))\/(L.getD 12 false=true/\L.getD 13 false=true/\W'=((W.drew.setCell ⟨w.heap.size+1+1,x.1,none⟩ (.int .u32 (v:Nat))).setCell ⟨w.heap.size+1+1+1,0,none⟩ (.int .u64 (u:Nat)))))) (by kernel_rfl) ?hend ?hstep _ _ _ _ (by rw[RH];exact ak _) ?h0
  case h0 =>
   refine⟨by simp,⟨undef,undef,undef,undef,undef,undef,undef,undef,undef,undef,undef,undef,rfl,?_⟩,.inl ⟨EN _ _,EN _ _,rfl⟩⟩
   simp[EN]
  case hend =>
   rintro L a' W' ⟨hL,⟨t22,t23,t24,t25,t26,t27,t28,t29,t30,t31,t32,t33,rfl,hc⟩,hw⟩ hall
   have h12:=wJ hL (by omega) (hall 12 (by show 12<14;omega))
   have h13:=wJ hL (by omega) (hall 13 (by show 13<14;omega))
   rcases hw with⟨e,_⟩|⟨_,e,_⟩|⟨_,_,rfl⟩
   ·rw[h12] at e;cases e
   ·rw[h13] at e;cases e
   ·clear hc hall
    have hst:=h6.stored x.1 (.int .u32 (v:Nat))
    rw[fA] at hst
    have hBd:Below w.heap.size w W.drew:=hB.drew
    have hKB:KB w.heap.size (w.heap.size+1+1+1+1) W ((W.drew.setCell ⟨w.heap.size+1+1,x.1,none⟩ (.int .u32 (v:Nat))).setCell ⟨w.heap.size+1+1+1,0,none⟩ (.int .u64 (u:Nat))) :=
     (KB.trans (⟨(bg _ W).drew,rfl⟩:KB w.heap.size (w.heap.size+1+1+1+1) W W.drew) (KB.setCell (p:=⟨w.heap.size+1+1,x.1,none⟩) (by simp;omega) (by simp) _)).trans (KB.setCell (p:=⟨w.heap.size+1+1+1,0,none⟩) (by simp;omega) (by simp) _)
    refine⟨(((KeepsOthers.drew W).trans (ug _ _ _)).trans (ug _ _ _)).from _,hKB,⟨?_,?_,?_,?_,?_,?_⟩,hB.trans hKB.1⟩
    ·simp[go_sem,h1]
    ·simp[go_sem,h2]
    ·simp[go_sem,h3]
    ·rw[HSN.out];exact zu _ _ _ (by simp[go_sem,h4])
    ·simp[go_sem,h5]
    ·rw[HSN.out]
     have h7:(W.drew.setCell ⟨w.heap.size+1+1,x.1,none⟩ (.int .u32 (v:Nat))).ownsRow w.heap.size 148 1 (.slice (some ⟨w.heap.size+1+1,0,none⟩) a.length a.length) a.length (cells32 (q.set x.1 v)):=hst.1
     refine h7.kept (row:=some (w.heap.size+1+1+1)) ⟨rfl,rfl,rfl,by simp[World.setCell],fun k hk hne=>Below.heap_setCell _ _ _ _ (by intro e;exact hne (by rw[e]))⟩ (.inr (by simp[Value.ownBlock]))
  case hstep =>
   have hu2:(n:Int).tmod d=u:=by rw[Bg (by omega)];exact hu
   clear hI ha hd hd2 hl hro z2 hB hg b1 b2 b3 h6 hn hn4 hu hv3 hu3 HSN a5G a7T a7U
   rintro L a' W' i o ⟨hL,⟨t22,t23,t24,t25,t26,t27,t28,t29,t30,t31,t32,t33,rfl,hc⟩,hw⟩ ho hl nO
   have hi:i<14:=(zk.1 ho).1
   obtain⟨k0,k1,k2,k3,k4,k5,k6,k7,k8,k9,k10,k11⟩:=hc
   have hs:=uP hl
   have hl':=BQ hl
   obtain rfl|rfl|rfl|rfl|rfl|rfl|rfl|rfl|rfl|rfl|rfl|rfl|rfl|rfl:i=0\/i=1\/i=2\/i=3\/i=4\/i=5\/i=6\/i=7\/i=8\/i=9\/i=10\/i=11\/i=12\/i=13:=by omega
   all_goals cases ho
   all_goals simp[Region.binds] at nO
   all_goals simp only[mg] at k0 k1 k2 k3 k4 k5 k6 k7 k8 k9 k10 k11 hw hl'
   ·
    clear nO
    rcases hw with⟨e12,e13,rfl⟩|⟨e12,e13,rfl⟩|⟨e12,e13,rfl⟩
    all_goals (unfold wpOpIn;simp[go_sem,h1,h2,h3,h4,h5,hcl,hfr,hw3,hw4])
    all_goals (first|(refine⟨hL,⟨_,_,_,_,_,_,_,_,_,_,_,_,⟨rfl,rfl,rfl,rfl,rfl,rfl,rfl,rfl,rfl,rfl,rfl,rfl⟩,?_⟩,?_⟩<;>(simp_all;done))|(simp_all;done)|trace_state)
   ·
    clear nO
    rcases hw with⟨e12,e13,rfl⟩|⟨e12,e13,rfl⟩|⟨e12,e13,rfl⟩
    all_goals (unfold wpOpIn;simp[go_sem,h1,h2,h3,h4,h5,hcl,hfr,hw3,hw4])
    all_goals (first|(refine⟨hL,⟨_,_,_,_,_,_,_,_,_,_,_,_,⟨rfl,rfl,rfl,rfl,rfl,rfl,rfl,rfl,rfl,rfl,rfl,rfl⟩,?_⟩,?_⟩<;>(simp_all;done))|(simp_all;done)|trace_state)
   ·
    clear nO
    rcases hw with⟨e12,e13,rfl⟩|⟨e12,e13,rfl⟩|⟨e12,e13,rfl⟩
    all_goals (unfold wpOpIn;simp[go_sem,h1,h2,h3,h4,h5,hcl,hfr,hw3,hw4])
    all_goals (first|(refine⟨hL,⟨_,_,_,_,_,_,_,_,_,_,_,_,⟨rfl,rfl,rfl,rfl,rfl,rfl,rfl,rfl,rfl,rfl,rfl,rfl⟩,?_⟩,?_⟩<;>(simp_all;done))|(simp_all;done)|trace_state)
   ·
    clear nO
    rcases hw with⟨e12,e13,rfl⟩|⟨e12,e13,rfl⟩|⟨e12,e13,rfl⟩
    all_goals (unfold wpOpIn;simp[go_sem,h1,h2,h3,h4,h5,hcl,hfr,hw3,hw4])
    all_goals (first|(refine⟨hL,⟨_,_,_,_,_,_,_,_,_,_,_,_,⟨rfl,rfl,rfl,rfl,rfl,rfl,rfl,rfl,rfl,rfl,rfl,rfl⟩,?_⟩,?_⟩<;>(simp_all;done))|(simp_all;done)|trace_state)
   ·
    obtain rfl:=k3 (by simp[nO])
    clear nO
    rcases hw with⟨e12,e13,rfl⟩|⟨e12,e13,rfl⟩|⟨e12,e13,rfl⟩
    all_goals (unfold wpOpIn;simp[go_sem,h1,h2,h3,h4,h5,hcl,hfr,hw3,hw4])
    all_goals (first|(refine⟨hL,⟨_,_,_,_,_,_,_,_,_,_,_,_,⟨rfl,rfl,rfl,rfl,rfl,rfl,rfl,rfl,rfl,rfl,rfl,rfl⟩,?_⟩,?_⟩<;>(simp_all;done))|(simp_all;done)|trace_state)
   ·
    obtain rfl:=k2 (by simp[nO])
    obtain rfl:=k4 (by simp[nO])
    clear nO
    rcases hw with⟨e12,e13,rfl⟩|⟨e12,e13,rfl⟩|⟨e12,e13,rfl⟩
    all_goals (unfold wpOpIn;simp[go_sem,h1,h2,h3,h4,h5,hcl,hfr,hw3,hw4,hdz,hdn,hv,hu2,hw1,hw2])
    all_goals (first|(refine⟨hL,⟨_,_,_,_,_,_,_,_,_,_,_,_,⟨rfl,rfl,rfl,rfl,rfl,rfl,rfl,rfl,rfl,rfl,rfl,rfl⟩,?_⟩,?_⟩<;>(simp_all;done))|(simp_all;done)|trace_state)
   ·
    obtain rfl:=k5 (by simp[nO])
    clear nO
    rcases hw with⟨e12,e13,rfl⟩|⟨e12,e13,rfl⟩|⟨e12,e13,rfl⟩
    all_goals (unfold wpOpIn;simp[go_sem,h1,h2,h3,h4,h5,hcl,hfr,hw3,hw4])
    all_goals (first|(refine⟨hL,⟨_,_,_,_,_,_,_,_,_,_,_,_,⟨rfl,rfl,rfl,rfl,rfl,rfl,rfl,rfl,rfl,rfl,rfl,rfl⟩,?_⟩,?_⟩<;>(simp_all;done))|(simp_all;done)|trace_state)
   ·
    clear nO
    rcases hw with⟨e12,e13,rfl⟩|⟨e12,e13,rfl⟩|⟨e12,e13,rfl⟩
    all_goals (unfold wpOpIn;simp[go_sem,h1,h2,h3,h4,h5,hcl,hfr,hw3,hw4])
    all_goals (first|(refine⟨hL,⟨_,_,_,_,_,_,_,_,_,_,_,_,⟨rfl,rfl,rfl,rfl,rfl,rfl,rfl,rfl,rfl,rfl,rfl,rfl⟩,?_⟩,?_⟩<;>(simp_all;done))|(simp_all;done)|trace_state)
   ·
    clear nO
    rcases hw with⟨e12,e13,rfl⟩|⟨e12,e13,rfl⟩|⟨e12,e13,rfl⟩
    all_goals (unfold wpOpIn;simp[go_sem,h1,h2,h3,h4,h5,hcl,hfr,hw3,hw4])
    all_goals (first|(refine⟨hL,⟨_,_,_,_,_,_,_,_,_,_,_,_,⟨rfl,rfl,rfl,rfl,rfl,rfl,rfl,rfl,rfl,rfl,rfl,rfl⟩,?_⟩,?_⟩<;>(simp_all;done))|(simp_all;done)|trace_state)
   ·
    obtain rfl:=k8 (by simp[nO])
    clear nO
    rcases hw with⟨e12,e13,rfl⟩|⟨e12,e13,rfl⟩|⟨e12,e13,rfl⟩
    all_goals (unfold wpOpIn;simp[go_sem,h1,h2,h3,h4,h5,hcl,hfr,hw3,hw4])
    all_goals (first|(refine⟨hL,⟨_,_,_,_,_,_,_,_,_,_,_,_,⟨rfl,rfl,rfl,rfl,rfl,rfl,rfl,rfl,rfl,rfl,rfl,rfl⟩,?_⟩,?_⟩<;>(simp_all;done))|(simp_all;done)|trace_state)
   ·
    obtain rfl:=k7 (by simp[nO])
    obtain rfl:=k9 (by simp[nO])
    clear nO
    rcases hw with⟨e12,e13,rfl⟩|⟨e12,e13,rfl⟩|⟨e12,e13,rfl⟩
    all_goals (unfold wpOpIn;simp[go_sem,h1,h2,h3,h4,h5,hcl,hfr,hw3,hw4,hdz,hdn,hv,hu2,hw1,hw2])
    all_goals (first|(refine⟨hL,⟨_,_,_,_,_,_,_,_,_,_,_,_,⟨rfl,rfl,rfl,rfl,rfl,rfl,rfl,rfl,rfl,rfl,rfl,rfl⟩,?_⟩,?_⟩<;>(simp_all;done))|(simp_all;done)|trace_state)
   ·
    obtain rfl:=k0 (by simp[nO])
    obtain rfl:=k1 (by simp[nO])
    clear nO
    rcases hw with⟨e12,e13,rfl⟩|⟨e12,e13,rfl⟩|⟨e12,e13,rfl⟩
    all_goals (unfold wpOpIn;simp[go_sem,h1,h2,h3,h4,h5,hcl,hfr,hw3,hw4])
    all_goals (first|(refine⟨hL,⟨_,_,_,_,_,_,_,_,_,_,_,_,⟨rfl,rfl,rfl,rfl,rfl,rfl,rfl,rfl,rfl,rfl,rfl,rfl⟩,?_⟩,?_⟩<;>(simp_all;done))|(simp_all;done)|trace_state)
   ·
    obtain rfl:=k11 (by simp[nO])
    obtain rfl:=k6 (by simp[nO])
    clear nO
    rcases hw with⟨e12,e13,rfl⟩|⟨e12,e13,rfl⟩|⟨e12,e13,rfl⟩
    all_goals (unfold wpOpIn;simp[go_sem,h1,h2,h3,h4,h5,hcl,hfr,hw3,hw4])
    all_goals (first|(refine⟨hL,⟨_,_,_,_,_,_,_,_,_,_,_,_,⟨rfl,rfl,rfl,rfl,rfl,rfl,rfl,rfl,rfl,rfl,rfl,rfl⟩,?_⟩,?_⟩<;>(simp_all;done))|(simp_all;done)|trace_state)
   ·
    obtain rfl:=k10 (by simp[nO])
    rcases hw with⟨e12,e13,rfl⟩|⟨e12,e13,rfl⟩|⟨e12,e13,rfl⟩
    all_goals (unfold wpOpIn;simp[go_sem,h1,h2,h3,h4,h5,hcl,hfr,hw3,hw4])
    all_goals (first|(refine⟨hL,⟨_,_,_,_,_,_,_,_,_,_,_,_,⟨rfl,rfl,rfl,rfl,rfl,rfl,rfl,rfl,rfl,rfl,rfl,rfl⟩,?_⟩,?_⟩<;>(simp_all;done))|(simp_all;done)|trace_state)
 case done =>
  rintro D ys W hD ⟨hb,hlen⟩ ⟨hS,hB⟩ hK
  obtain⟨e1,e2,e3⟩:=b2v hd hd2 ha hb hlen
  obtain⟨b1,b2,b3⟩:=a2S hd hd2 ha ys
  obtain⟨h1,h2,h3,h4,h5,h6⟩:=hS
  generalize (shf a d ys).2=r at *
  generalize (shf a d ys).1=q at *
  have hR:=Rd.bU (l:=q) (by rw[b1];exact h6)
  clear hW2 hmk bD bQ bR bS hB0 hB2 hO2 bD2
  have a5G:Tryz.prog.follows .mixedOrders=true:=by kernel_rfl
  have hR2:Rd W.drew (.slice (some ⟨w.heap.size+1+1,0,none⟩) a.length a.length) q:=hR.drew
  have hw1:IntKind.u32.wrap (r:Int)=r:=by simp[IntKind.wrap,IntKind.bits,IntKind.signed];omega
  have HT:Hid (eH q=dig (val a / d)):=by unfold Hid eH;rw[e2]
  have HR:Hid (r=val a%d):=e1
  clear e1 e2
  gi_wp2
  refine wpIn_wide.2 (wp_region_noPanic ?_)
  go_region_with (go_at_call 257;refine(JR _ _ _ q _ hR2 e3 b1).mono ?_;rintro e w' ⟨rfl,rfl⟩)
  all_goals refine NoPanic.normal ?_
  all_goals gi_wp2
  all_goals
   have hK':(W.drew.setCell ⟨w.heap.size+1,0,none⟩ (.slice (some ⟨w.heap.size+1+1,0,none⟩) (eH q).length a.length)).heap[D]?=some (.deferred (some [])):=(ug W.drew ⟨w.heap.size+1,0,none⟩ _).same D _ hK rfl
   have hc5:=Dk (zu W.drew ⟨w.heap.size+1,0,none⟩ (.slice (some ⟨w.heap.size+1+1,0,none⟩) (eH q).length a.length) (by simp[go_sem,h2])) (Dl _ D (.deferred none)) (fun r e=>by cases e;exact⟨_,hK',rfl⟩)
   have hc6:((W.setCell ⟨w.heap.size+1,0,none⟩ (.slice (some ⟨w.heap.size+1+1,0,none⟩) (eH q).length a.length)).drew.putObj D (.deferred none)).cell? ⟨w.heap.size+1,0,none⟩=some (.slice (some ⟨w.heap.size+1+1,0,none⟩) (eH q).length a.length):=hc5
   have hO:=rC h6 e3 b1
   have hO2:(W.drew.setCell ⟨w.heap.size+1,0,none⟩ (.slice (some ⟨w.heap.size+1+1,0,none⟩) (eH q).length a.length)).ownsRow w.heap.size 148 1 (.slice (some ⟨w.heap.size+1+1,0,none⟩) (eH q).length a.length) (eH q).length (cells32 (eH q)):=by
    have hO1:W.drew.ownsRow w.heap.size 148 1 (.slice (some ⟨w.heap.size+1+1,0,none⟩) (eH q).length a.length) (eH q).length (cells32 (eH q)):=hO
    refine hO1.kept (row:=some (w.heap.size+1)) ⟨rfl,rfl,rfl,by simp[World.setCell],fun k hk hne=>Below.heap_setCell _ _ _ _ (by intro e;exact hne (by rw[e]))⟩ (.inr (by simp[Value.ownBlock]))
   refine⟨by simp,.inl ⟨_,_,rfl,Bh hK',?_⟩⟩
   refine⟨.tuple #[.slice (some ⟨w.heap.size+1+1,0,none⟩) (eH q).length a.length,.int .u32 (r:Nat)],?_,.slice (some ⟨w.heap.size+1+1,0,none⟩) (eH q).length a.length,?_,?_,?_⟩
   ·simp[results,Tryz.f252,go_sem,hc6]
   ·rw[HR.out]
   ·rw[<-HT.out];exact ownsRow_putObj hO2 _ hK' rfl
   ·exact(hB.drew.setCell (p:=⟨w.heap.size+1,0,none⟩) (by simp) _).trans (belowK_b (w:=w) (ak _) _ D _ _ (by simp at hD;omega) hK' rfl rfl)
 case stop =>
  rintro D c pre W _ _ h _
  exact h.elim
theorem short_any (s:Value) (a:List Nat) (d:Nat) (w:World) (hs:Rd w s a) (ha:Low a) (hd:1<=d) (hd2:d<=999999999) (hl:a.length<=2000000000) :
  Calls Tryz.prog 252 #[s,.int .u32 (d:Nat)] w fun e W'=>∃ v,e=.returned (.tuple #[v,.int .u32 (val a%d:Nat)]) /\
   W'.ownsRow w.heap.size 148 1 v (dig (val a / d)).length (cells32 (dig (val a / d)))/\Below w.heap.size w W':=by
 obtain⟨p,c,rfl,_,_⟩:=hs.form
 exact callsIn_wide.1 (a9S a d p c w hs ha hd hd2 hl)
end
set_option maxRecDepth 100000
set_option maxHeartbeats 800000
set_option linter.unusedSimpArgs false
set_option linter.unusedVariables false
theorem sum_any (neg oth:Bool) (s t:Value) (a b:List Nat) (w:World) (hs:Rd w s a) (ht:Rd w t b) (ha:Canon a) (hb:Canon b) (la:a.length<=1000000000) (lb:b.length<=1000000000) :
  Calls Tryz.prog 248 #[.bool neg,s,.bool oth,t] w (lU (sg neg (val a)+sg oth (val b)) w):=by
 have q0:=Bx.new w [.bool false,.slice none 0 0] 45
 have hs1:=hs.alloc (.cells #[.bool false,.slice none 0 0] 45)
 have ht1:=ht.alloc (.cells #[.bool false,.slice none 0 0] 45)
 have hB0:Below w.heap.size w (w.alloc (.cells #[.bool false,.slice none 0 0] 45)):=(bg _ _).alloc (ak _) _
 by_cases he:neg=oth
 ·subst he
  have hd:(neg==neg)=true:=by simp
  have HX:Hid (sg neg (val (dig (val a+val b)))=sg neg (val a)+sg neg (val b)):=by unfold Hid;rw[aH];cases neg<;>simp[sg]<;>omega
  go_enter Tryz.func248,Tryz.ntmps248
  go_wp2_with fail
  refine(QE _ _ a b _ hs1 ht1 ha.1 hb.1 la lb).mono ?_
  rintro e w1 ⟨v1,rfl,ho1,hb1⟩
  go_wp2_with fail
  refine(gI neg _ _ _ (Rd.bU ho1) (bH _)).mono ?_
  rw[HX.out]
  rintro e w2 ⟨v2,rfl,hi2,hb2⟩
  obtain⟨g2,p2,n2,c2,rfl⟩:=hi2.form
  have q2:=(q0.to hb1).to hb2
  have r0:=q2.c0
  have r1:=q2.c1
  have f0:=q2.f0
  have f1:=q2.f1
  have hB:Below w.heap.size w w2:=(hB0.trans (hb1.mono (by simp))).trans (hb2.mono (by have:=hb1.size;simp at this;omega))
  go_wp2_with fail
  exact iw (v:=.agg #[.bool g2,.slice p2 n2 c2]) (by simp[results,Tryz.results248,go_sem,r0,r1]) rfl ⟨_,rfl,hi2.a0e r0 r1 _ _,kE hB (ak _) _ _⟩
 ·have hd:(neg==oth)=false:=by simpa using he
  by_cases hle:val b<=val a
  ·have HX:Hid (sg neg (val (dig (val a-val b)))=sg neg (val a)+sg oth (val b)):=by unfold Hid;rw[aH];cases neg<;>cases oth<;>simp[sg] at he ⊢<;>omega
   have hlen:b.length<=a.length:=by
    have:=aJ hle
    rwa [dN ha,dN hb] at this
   have hc:0<=dF (val a) (val b):=by unfold dF;rw[jk (by omega)];split<;>omega
   have hdc:decide (0<=dF (val a) (val b))=true:=by simpa using hc
   have HE:=bn he
   clear he hc
   generalize hcv:dF (val a) (val b)=cv at hdc
   have HCV:=bn hcv
   clear hcv
   go_enter Tryz.func248,Tryz.ntmps248
   go_wp2_with fail
   refine(iW _ _ a b _ hs1 ht1 ha hb).mono ?_
   rw[HCV.out]
   rintro e w1 ⟨rfl,hb1⟩
   go_wp2_with fail
   refine(JF _ _ a b _ (hs1.below hb1) (ht1.below hb1) ha.1 hb.1 la hlen hle).mono ?_
   rintro e w2 ⟨v2,rfl,ho2,hb2⟩
   go_wp2_with fail
   refine(gI neg _ _ _ (Rd.bU ho2) (bH _)).mono ?_
   rw[HX.out]
   rintro e w3 ⟨v3,rfl,hi3,hb3⟩
   obtain⟨g2,p2,n2,c2,rfl⟩:=hi3.form
   have q2:=((q0.to hb1).to hb2).to hb3
   have r0:=q2.c0
   have r1:=q2.c1
   have f0:=q2.f0
   have f1:=q2.f1
   have hz1:=hb1.size
   have hz2:=hb2.size
   simp at hz1
   have hB:Below w.heap.size w w3:=((hB0.trans (hb1.mono (by simp))).trans (hb2.mono (by omega))).trans (hb3.mono (by omega))
   go_wp2_with fail
   exact iw (v:=.agg #[.bool g2,.slice p2 n2 c2]) (by simp[results,Tryz.results248,go_sem,r0,r1]) rfl ⟨_,rfl,hi3.a0e r0 r1 _ _,kE hB (ak _) _ _⟩
  ·have HX:Hid (sg oth (val (dig (val b-val a)))=sg neg (val a)+sg oth (val b)):=by unfold Hid;rw[aH];cases neg<;>cases oth<;>simp[sg] at he ⊢<;>omega
   have hle':val a<=val b:=by omega
   have hlen:a.length<=b.length:=by
    have:=aJ hle'
    rwa [dN ha,dN hb] at this
   have hc:dF (val a) (val b)<0:=by unfold dF;rw[jq (by omega)];omega
   have hdc:decide (0<=dF (val a) (val b))=false:=by simpa using hc
   have HE:=bn he
   clear he hc hle
   generalize hcv:dF (val a) (val b)=cv at hdc
   have HCV:=bn hcv
   clear hcv
   go_enter Tryz.func248,Tryz.ntmps248
   go_wp2_with fail
   refine(iW _ _ a b _ hs1 ht1 ha hb).mono ?_
   rw[HCV.out]
   rintro e w1 ⟨rfl,hb1⟩
   go_wp2_with fail
   refine(JF _ _ b a _ (ht1.below hb1) (hs1.below hb1) hb.1 ha.1 lb hlen hle').mono ?_
   rintro e w2 ⟨v2,rfl,ho2,hb2⟩
   go_wp2_with fail
   refine(gI oth _ _ _ (Rd.bU ho2) (bH _)).mono ?_
   rw[HX.out]
   rintro e w3 ⟨v3,rfl,hi3,hb3⟩
   obtain⟨g2,p2,n2,c2,rfl⟩:=hi3.form
   have q2:=((q0.to hb1).to hb2).to hb3
   have r0:=q2.c0
   have r1:=q2.c1
   have f0:=q2.f0
   have f1:=q2.f1
   have hz1:=hb1.size
   have hz2:=hb2.size
   simp at hz1
   have hB:Below w.heap.size w w3:=((hB0.trans (hb1.mono (by simp))).trans (hb2.mono (by omega))).trans (hb3.mono (by omega))
   go_wp2_with fail
   exact iw (v:=.agg #[.bool g2,.slice p2 n2 c2]) (by simp[results,Tryz.results248,go_sem,r0,r1]) rfl ⟨_,rfl,hi3.a0e r0 r1 _ _,kE hB (ak _) _ _⟩
set_option maxHeartbeats 2000000
theorem vT (v:Value) (x:Int) (w:World) (hv:Raw w v x) :
  Calls Tryz.prog 179 #[v] w fun e w'=>e=.returned (.int .i64 x.sign)/\Below w.heap.size w w':=by
 obtain⟨b,p,n,c,rfl⟩:=hv.form
 have aZ:Below w.heap.size w w:=bg _ _
 have oN:=hv.alloc (.cells #[.bool b,.slice p n c] 45)
 have oM:=Below.alloc aZ aZ.size (.cells #[.bool b,.slice p n c] 45)
 clear aZ
 have q_1:Bx (w.alloc (.cells #[.bool b,.slice p n c] 45)) (w.heap.size) [.bool b,.slice p n c]:=by
  have:=Bx.new w [.bool b,.slice p n c] 45
  simpa using this
 have d0:=q_1.c0
 have e0:=q_1.c1
 have HS:=bn (fun h:x≠0=>hv.sign h)
 by_cases hx:x=0
 ·have hl0:(dig x.natAbs).length=0:=by subst hx;simp[dL]
  have HV:=bn hx
  clear hx
  go_enter Tryz.func179,Tryz.ntmps179
  go_wp2_with fail
  refine(dJ _ x _ oN).mono ?_
  rintro e w1 ⟨s1,rfl,hs1,hb1⟩
  have CY:=oN.below hb1
  have vJ:=oM.trans (hb1.mono oM.size)
  have q_2:=q_1.to hb1
  clear oN oM q_1
  obtain⟨p1,c1,rfl,hc1,hc2⟩:=hs1.form
  rw[hl0]
  go_wp2_with fail
  go_ret
  exact⟨by rw[HV.out];rfl,vJ⟩
 ·have hb:b=decide (x<0):=HS.out hx
  have hl0:0<(dig x.natAbs).length:=by
   rcases yj (dig x.natAbs).length with h|h
   ·have:=(iO (n:=x.natAbs)).1 (qg h)
    omega
   ·exact h
  by_cases hn:x<0
  ·have hbt:b=true:=by rw[hb];simpa using hn
   have HV:=bn (And.intro hx hn)
   clear hx hn hb
   subst hbt
   go_enter Tryz.func179,Tryz.ntmps179
   go_wp2_with fail
   refine(dJ _ x _ oN).mono ?_
   rintro e w1 ⟨s1,rfl,hs1,hb1⟩
   have CY:=oN.below hb1
   have vJ:=oM.trans (hb1.mono oM.size)
   have q_2:=q_1.to hb1
   clear oN oM q_1
   obtain⟨p1,c1,rfl,hc1,hc2⟩:=hs1.form
   have a0:=q_2.c0
   have b0:=q_2.c1
   go_wp2_with fail
   go_ret
   exact⟨by rw[uo HV.out.2];rfl,vJ⟩
  ·have hbt:b=false:=by rw[hb];simpa using hn
   have HV:=bn (And.intro hx hn)
   clear hx hn hb
   subst hbt
   go_enter Tryz.func179,Tryz.ntmps179
   go_wp2_with fail
   refine(dJ _ x _ oN).mono ?_
   rintro e w1 ⟨s1,rfl,hs1,hb1⟩
   have CY:=oN.below hb1
   have vJ:=oM.trans (hb1.mono oM.size)
   have q_2:=q_1.to hb1
   clear oN oM q_1
   obtain⟨p1,c1,rfl,hc1,hc2⟩:=hs1.form
   have a0:=q_2.c0
   have b0:=q_2.c1
   go_wp2_with fail
   go_ret
   exact⟨by rw[vg (by have:=HV.out;omega)];rfl,vJ⟩
theorem add_any (v u:Value) (x y:Int) (w:World) (hv:Raw w v x) (hu:Raw w u y) (hl:isz x<=1000000000) (hl2:isz y<=1000000000) :
  Calls Tryz.prog 176 #[v,u] w (lU (x+y) w):=by
 obtain⟨b,p,n,c,rfl⟩:=hv.form
 obtain⟨d,o,m,e,rfl⟩:=hu.form
 have HX:Hid (sg b (val (dig x.natAbs))+sg d (val (dig y.natAbs))=x+y):=by unfold Hid;rw[aH,aH,vS hv,vS hu]
 have aZ:Below w.heap.size w w:=bg _ _
 have oN:=hv.alloc (.cells #[.bool b,.slice p n c] 45)
 have iF:=hu.alloc (.cells #[.bool b,.slice p n c] 45)
 have oM:=Below.alloc aZ aZ.size (.cells #[.bool b,.slice p n c] 45)
 clear aZ
 have q_1:Bx (w.alloc (.cells #[.bool b,.slice p n c] 45)) (w.heap.size) [.bool b,.slice p n c]:=by
  have:=Bx.new w [.bool b,.slice p n c] 45
  simpa using this
 have CY:=oN.alloc (.cells #[.bool d,.slice o m e] 45)
 have SK:=iF.alloc (.cells #[.bool d,.slice o m e] 45)
 have vJ:=Below.alloc oM oM.size (.cells #[.bool d,.slice o m e] 45)
 have q_2:=q_1.alloc (.cells #[.bool d,.slice o m e] 45)
 clear oN iF oM q_1
 have t_2:Bx ((w.alloc (.cells #[.bool b,.slice p n c] 45)).alloc (.cells #[.bool d,.slice o m e] 45)) (w.heap.size+1) [.bool d,.slice o m e]:=by
  have:=Bx.new (w.alloc (.cells #[.bool b,.slice p n c] 45)) [.bool d,.slice o m e] 45
  simpa using this
 have EU:=CY.alloc (.cells #[.bool false,.slice none 0 0] 45)
 have ET:=SK.alloc (.cells #[.bool false,.slice none 0 0] 45)
 have xW:=Below.alloc vJ vJ.size (.cells #[.bool false,.slice none 0 0] 45)
 have q_3:=q_2.alloc (.cells #[.bool false,.slice none 0 0] 45)
 have t_3:=t_2.alloc (.cells #[.bool false,.slice none 0 0] 45)
 clear CY SK vJ q_2 t_2
 have r_3:Bx (((w.alloc (.cells #[.bool b,.slice p n c] 45)).alloc (.cells #[.bool d,.slice o m e] 45)).alloc (.cells #[.bool false,.slice none 0 0] 45)) (w.heap.size+2) [.bool false,.slice none 0 0]:=by
  have:=Bx.new ((w.alloc (.cells #[.bool b,.slice p n c] 45)).alloc (.cells #[.bool d,.slice o m e] 45)) [.bool false,.slice none 0 0] 45
  simpa using this
 have IW:=EU.drew
 have CX:=ET.drew
 have CW:=xW.drew
 have q_4:=q_3.drew
 have t_4:=t_3.drew
 have r_4:=r_3.drew
 clear EU ET xW q_3 t_3 r_3
 have S0:(fun w':World=>w'.cell? ⟨w.heap.size,0,none⟩=some (.bool b)/\w'.cell? ⟨w.heap.size,1,none⟩=some (.slice p n c)/\w'.cell? ⟨w.heap.size+1,0,none⟩=some (.bool d)/\w'.cell? ⟨w.heap.size+1,1,none⟩=some (.slice o m e)/\w.heap.size+1<w'.heap.size) (((w.alloc (.cells #[.bool b,.slice p n c] 45)).alloc (.cells #[.bool d,.slice o m e] 45)).alloc (.cells #[.bool false,.slice none 0 0] 45)).drew:=⟨q_4.c0,q_4.c1,t_4.c0,t_4.c1,t_4.1⟩
 have K:∀ A B:World,(fun w':World=>w'.cell? ⟨w.heap.size,0,none⟩=some (.bool b)/\w'.cell? ⟨w.heap.size,1,none⟩=some (.slice p n c)/\w'.cell? ⟨w.heap.size+1,0,none⟩=some (.bool d)/\w'.cell? ⟨w.heap.size+1,1,none⟩=some (.slice o m e)/\w.heap.size+1<w'.heap.size) A->Below A.heap.size A B->(fun w':World=>w'.cell? ⟨w.heap.size,0,none⟩=some (.bool b)/\w'.cell? ⟨w.heap.size,1,none⟩=some (.slice p n c)/\w'.cell? ⟨w.heap.size+1,0,none⟩=some (.bool d)/\w'.cell? ⟨w.heap.size+1,1,none⟩=some (.slice o m e)/\w.heap.size+1<w'.heap.size) B:=by
  rintro A B ⟨h0,h1,h2,h3,h4⟩ hb
  have hs:=hb.size
  exact⟨by rw[(eY hb).1 _ _ (by omega)];exact h0,by rw[(eY hb).1 _ _ (by omega)];exact h1,by rw[(eY hb).1 _ _ (by omega)];exact h2,by rw[(eY hb).1 _ _ (by omega)];exact h3,by omega⟩
 have KS0:∀ (A:World) (x0 x1:Value),(fun w':World=>w'.cell? ⟨w.heap.size,0,none⟩=some (.bool b)/\w'.cell? ⟨w.heap.size,1,none⟩=some (.slice p n c)/\w'.cell? ⟨w.heap.size+1,0,none⟩=some (.bool d)/\w'.cell? ⟨w.heap.size+1,1,none⟩=some (.slice o m e)/\w.heap.size+1<w'.heap.size) A->(fun w':World=>w'.cell? ⟨w.heap.size,0,none⟩=some (.bool b)/\w'.cell? ⟨w.heap.size,1,none⟩=some (.slice p n c)/\w'.cell? ⟨w.heap.size+1,0,none⟩=some (.bool d)/\w'.cell? ⟨w.heap.size+1,1,none⟩=some (.slice o m e)/\w.heap.size+1<w'.heap.size) ((A.setCell ⟨w.heap.size+2,0,none⟩ x0).setCell ⟨w.heap.size+2,1,none⟩ x1):=by
  rintro A x0 x1 ⟨h0,h1,h2,h3,h4⟩
  simp[go_sem,h0,h1,h2,h3,h4]
 have tk1:True:=trivial
 have tk2:True:=trivial
 go_enter Tryz.func176,Tryz.ntmps176
 go_wp2_with fail
 go_region_held3 (fun w':World=>w'.cell? ⟨w.heap.size,0,none⟩=some (.bool b)/\w'.cell? ⟨w.heap.size,1,none⟩=some (.slice p n c)/\w'.cell? ⟨w.heap.size+1,0,none⟩=some (.bool d)/\w'.cell? ⟨w.heap.size+1,1,none⟩=some (.slice o m e)/\w.heap.size+1<w'.heap.size) (first|exact S0|(simp;done)|exact K _ _ (by assumption) (by assumption)|exact KS0 _ _ _ (by assumption))
  (first
   | ((have:=tk1;skip);clear tk1;go_at_call 192;refine(dJ _ x _ IW).mono ?_;rintro e w1 ⟨s1,rfl,hs1,hb1⟩;have YB:=IW.below hb1;have OQ:=CX.below hb1;have LG:=CW.trans (hb1.mono CW.size);have q_5:=q_4.to hb1;have t_5:=t_4.to hb1;have r_5:=r_4.to hb1;clear IW CX CW q_4 t_4 r_4)
   | ((have:=tk2;skip);clear tk2;go_at_call 192;refine(dJ _ y _ OQ).mono ?_;rintro e w2 ⟨s2,rfl,hs2,hb2⟩;have YC:=YB.below hb2;have a0M:=OQ.below hb2;have OJ:=LG.trans (hb2.mono LG.size);have q_6:=q_5.to hb2;have t_6:=t_5.to hb2;have r_6:=r_5.to hb2;have a2e:=hs1.below hb2;clear YB OQ LG q_5 t_5 r_5 hs1)
   | (go_at_call 248;refine(sum_any _ _ _ _ _ _ _ a2e hs2 (aY _) (aY _) hl hl2).mono ?_;rintro e w3 ⟨s3,rfl,hi3,hb3⟩;have a5H:=YC.below hb3;have a2f:=a0M.below hb3;have XR:=OJ.trans (hb3.mono OJ.size);have q_7:=q_6.to hb3;have t_7:=t_6.to hb3;have r_7:=r_6.to hb3;have b4g:=a2e.below hb3;have d0:=hs2.below hb3;clear YC a0M OJ q_6 t_6 r_6 a2e;obtain⟨g3,p3,n3,c3,rfl⟩:=hi3.form;have a0:=r_7.c0;have e0:=r_7.f0;have b0:=r_7.c1;have g0:=r_7.f1))
 go_wp2_with fail
 exact iw (v:=.agg #[.bool g3,.slice p3 n3 c3]) (by simp[results,Tryz.results176,go_sem, *]) rfl ⟨_,rfl,by rw[<-HX.out];exact hi3.a0e a0 b0 _ _,kE XR (by omega) _ _⟩
theorem mul_any (v u:Value) (x y:Int) (w:World) (hv:Raw w v x) (hu:Raw w u y) (hl:isz x<=1000000000) (hl2:isz y<=1000000000) :
  Calls Tryz.prog 177 #[v,u] w (lU (x*y) w):=by
 obtain⟨b,p,n,c,rfl⟩:=hv.form
 obtain⟨d,o,m,e,rfl⟩:=hu.form
 have HX:Hid (sg (b != d) (val (dig (val (dig x.natAbs)*val (dig y.natAbs))))=x*y):=by
  have h1:=vS hv
  have h2:=vS hu
  unfold Hid;rw[aH,aH,aH]
  generalize x.natAbs=k at *
  generalize y.natAbs=l at *
  subst h1
  subst h2
  cases b<;>cases d<;>simp[sg,Int.neg_mul,Int.mul_neg]
 have aZ:Below w.heap.size w w:=bg _ _
 have oN:=hv.alloc (.cells #[.bool b,.slice p n c] 45)
 have iF:=hu.alloc (.cells #[.bool b,.slice p n c] 45)
 have oM:=Below.alloc aZ aZ.size (.cells #[.bool b,.slice p n c] 45)
 clear aZ
 have q_1:Bx (w.alloc (.cells #[.bool b,.slice p n c] 45)) (w.heap.size) [.bool b,.slice p n c]:=by
  have:=Bx.new w [.bool b,.slice p n c] 45
  simpa using this
 have CY:=oN.alloc (.cells #[.bool d,.slice o m e] 45)
 have SK:=iF.alloc (.cells #[.bool d,.slice o m e] 45)
 have vJ:=Below.alloc oM oM.size (.cells #[.bool d,.slice o m e] 45)
 have q_2:=q_1.alloc (.cells #[.bool d,.slice o m e] 45)
 clear oN iF oM q_1
 have t_2:Bx ((w.alloc (.cells #[.bool b,.slice p n c] 45)).alloc (.cells #[.bool d,.slice o m e] 45)) (w.heap.size+1) [.bool d,.slice o m e]:=by
  have:=Bx.new (w.alloc (.cells #[.bool b,.slice p n c] 45)) [.bool d,.slice o m e] 45
  simpa using this
 have EU:=CY.alloc (.cells #[.bool false,.slice none 0 0] 45)
 have ET:=SK.alloc (.cells #[.bool false,.slice none 0 0] 45)
 have xW:=Below.alloc vJ vJ.size (.cells #[.bool false,.slice none 0 0] 45)
 have q_3:=q_2.alloc (.cells #[.bool false,.slice none 0 0] 45)
 have t_3:=t_2.alloc (.cells #[.bool false,.slice none 0 0] 45)
 clear CY SK vJ q_2 t_2
 have r_3:Bx (((w.alloc (.cells #[.bool b,.slice p n c] 45)).alloc (.cells #[.bool d,.slice o m e] 45)).alloc (.cells #[.bool false,.slice none 0 0] 45)) (w.heap.size+2) [.bool false,.slice none 0 0]:=by
  have:=Bx.new ((w.alloc (.cells #[.bool b,.slice p n c] 45)).alloc (.cells #[.bool d,.slice o m e] 45)) [.bool false,.slice none 0 0] 45
  simpa using this
 have IW:=EU.drew
 have CX:=ET.drew
 have CW:=xW.drew
 have q_4:=q_3.drew
 have t_4:=t_3.drew
 have r_4:=r_3.drew
 clear EU ET xW q_3 t_3 r_3
 have S0:(fun w':World=>w'.cell? ⟨w.heap.size,0,none⟩=some (.bool b)/\w'.cell? ⟨w.heap.size,1,none⟩=some (.slice p n c)/\w'.cell? ⟨w.heap.size+1,0,none⟩=some (.bool d)/\w'.cell? ⟨w.heap.size+1,1,none⟩=some (.slice o m e)/\w.heap.size+1<w'.heap.size) (((w.alloc (.cells #[.bool b,.slice p n c] 45)).alloc (.cells #[.bool d,.slice o m e] 45)).alloc (.cells #[.bool false,.slice none 0 0] 45)).drew:=⟨q_4.c0,q_4.c1,t_4.c0,t_4.c1,t_4.1⟩
 have K:∀ A B:World,(fun w':World=>w'.cell? ⟨w.heap.size,0,none⟩=some (.bool b)/\w'.cell? ⟨w.heap.size,1,none⟩=some (.slice p n c)/\w'.cell? ⟨w.heap.size+1,0,none⟩=some (.bool d)/\w'.cell? ⟨w.heap.size+1,1,none⟩=some (.slice o m e)/\w.heap.size+1<w'.heap.size) A->Below A.heap.size A B->(fun w':World=>w'.cell? ⟨w.heap.size,0,none⟩=some (.bool b)/\w'.cell? ⟨w.heap.size,1,none⟩=some (.slice p n c)/\w'.cell? ⟨w.heap.size+1,0,none⟩=some (.bool d)/\w'.cell? ⟨w.heap.size+1,1,none⟩=some (.slice o m e)/\w.heap.size+1<w'.heap.size) B:=by
  rintro A B ⟨h0,h1,h2,h3,h4⟩ hb
  have hs:=hb.size
  exact⟨by rw[(eY hb).1 _ _ (by omega)];exact h0,by rw[(eY hb).1 _ _ (by omega)];exact h1,by rw[(eY hb).1 _ _ (by omega)];exact h2,by rw[(eY hb).1 _ _ (by omega)];exact h3,by omega⟩
 have KS0:∀ (A:World) (x0 x1:Value),(fun w':World=>w'.cell? ⟨w.heap.size,0,none⟩=some (.bool b)/\w'.cell? ⟨w.heap.size,1,none⟩=some (.slice p n c)/\w'.cell? ⟨w.heap.size+1,0,none⟩=some (.bool d)/\w'.cell? ⟨w.heap.size+1,1,none⟩=some (.slice o m e)/\w.heap.size+1<w'.heap.size) A->(fun w':World=>w'.cell? ⟨w.heap.size,0,none⟩=some (.bool b)/\w'.cell? ⟨w.heap.size,1,none⟩=some (.slice p n c)/\w'.cell? ⟨w.heap.size+1,0,none⟩=some (.bool d)/\w'.cell? ⟨w.heap.size+1,1,none⟩=some (.slice o m e)/\w.heap.size+1<w'.heap.size) ((A.setCell ⟨w.heap.size+2,0,none⟩ x0).setCell ⟨w.heap.size+2,1,none⟩ x1):=by
  rintro A x0 x1 ⟨h0,h1,h2,h3,h4⟩
  simp[go_sem,h0,h1,h2,h3,h4]
 have tk1:True:=trivial
 have tk2:True:=trivial
 go_enter Tryz.func177,Tryz.ntmps177
 go_wp2_with fail
 go_region_held3 (fun w':World=>w'.cell? ⟨w.heap.size,0,none⟩=some (.bool b)/\w'.cell? ⟨w.heap.size,1,none⟩=some (.slice p n c)/\w'.cell? ⟨w.heap.size+1,0,none⟩=some (.bool d)/\w'.cell? ⟨w.heap.size+1,1,none⟩=some (.slice o m e)/\w.heap.size+1<w'.heap.size) (first|exact S0|(simp;done)|exact K _ _ (by assumption) (by assumption)|exact KS0 _ _ _ (by assumption))
  (first
   | ((have:=tk1;skip);clear tk1;go_at_call 192;refine(dJ _ x _ IW).mono ?_;rintro e w1 ⟨s1,rfl,hs1,hb1⟩;have YB:=IW.below hb1;have OQ:=CX.below hb1;have LG:=CW.trans (hb1.mono CW.size);have q_5:=q_4.to hb1;have t_5:=t_4.to hb1;have r_5:=r_4.to hb1;clear IW CX CW q_4 t_4 r_4)
   | ((have:=tk2;skip);clear tk2;go_at_call 192;refine(dJ _ y _ OQ).mono ?_;rintro e w2 ⟨s2,rfl,hs2,hb2⟩;have YC:=YB.below hb2;have a0M:=OQ.below hb2;have OJ:=LG.trans (hb2.mono LG.size);have q_6:=q_5.to hb2;have t_6:=t_5.to hb2;have r_6:=r_5.to hb2;have a2e:=hs1.below hb2;clear YB OQ LG q_5 t_5 r_5 hs1)
   | (go_at_call 249;refine(times_any _ _ _ _ _ a2e hs2 (bH _) (bH _) hl hl2).mono ?_;rintro e w3 ⟨s3,rfl,hs3,hb3⟩;have a5H:=YC.below hb3;have a2f:=a0M.below hb3;have XR:=OJ.trans (hb3.mono OJ.size);have q_7:=q_6.to hb3;have t_7:=t_6.to hb3;have r_7:=r_6.to hb3;have b4g:=a2e.below hb3;have a0:=hs2.below hb3;clear YC a0M OJ q_6 t_6 r_6 a2e;have b4f:=Rd.bU hs3)
   | (go_at_call 190;refine(gI _ _ _ _ b4f (bH _)).mono ?_;rintro e w4 ⟨s4,rfl,hi4,hb4⟩;have b4l:=a5H.below hb4;have b4k:=a2f.below hb4;have a7H:=XR.trans (hb4.mono XR.size);have q_8:=q_7.to hb4;have t_8:=t_7.to hb4;have r_8:=r_7.to hb4;have b1l:=b4g.below hb4;have e0:=a0.below hb4;have g0:=b4f.below hb4;clear a5H a2f XR q_7 t_7 r_7 b4g a0 b4f;obtain⟨g4,p4,n4,c4,rfl⟩:=hi4.form;have b0:=r_8.c0;have i0:=r_8.f0;have d0:=r_8.c1;have j0:=r_8.f1))
 go_wp2_with fail
 exact iw (v:=.agg #[.bool g4,.slice p4 n4 c4]) (by simp[results,Tryz.results177,go_sem, *]) rfl ⟨_,rfl,by rw[<-HX.out];exact hi4.a0e b0 d0 _ _,kE a7H (by omega) _ _⟩
end Go.Proofs.YtbkocjmmbkifjaaGreat
