/-
  Lemmas for the theorem vrelative28_holds, part 2 of 35.
-/
import Derived.Deep.AppendLies
import Derived.LoopIn
import Derived.LoopNIn
import Derived.OrdersIn
import Derived.OwnWalkIn
import Derived.RangeFuncBound
import Derived.RangeFuncBox
import Derived.RangeFuncCalls
import Derived.RangeFuncLeaves
import Derived.RangeFuncNested
import Derived.RangeFuncWrites
import Derived.Shelf.Abstract
import Derived.Shelf.RegionOpen
import Derived.TacticsInMore
import Derived.Test.YtbkocjmmbkifjaaGreatQr01
namespace Go.Proofs.YtbkocjmmbkifjaaGreat
open Go Go.RowKit
theorem Ai:type_of% @Nat.eq_zero_or_pos:=@Nat.eq_zero_or_pos
theorem Dk:type_of% @List.size_toArray:=@List.size_toArray
theorem Dy:type_of% @Array.replicate_succ:=@Array.replicate_succ
theorem Et:type_of% @List.push_toArray:=@List.push_toArray
theorem Ec:type_of% @List.append_toArray:=@List.append_toArray
theorem Dz:type_of% @World.cell?_of_block:=@World.cell?_of_block
theorem Ak:type_of% @List.getElem?_append_left:=@List.getElem?_append_left
theorem Bh:type_of% @List.drop_eq_getElem_cons:=@List.drop_eq_getElem_cons
theorem Fb:type_of% @Nat.add_comm:=@Nat.add_comm
theorem Ce:type_of% @World.size_alloc:=@World.size_alloc
theorem Eo:type_of% @cell_kept:=@cell_kept
theorem ug:type_of% @KeepsOthers.setCell:=@KeepsOthers.setCell
theorem Am:type_of% @World.cell?_setCell_same':=@World.cell?_setCell_same'
theorem xq:type_of% @World.frozen?_setCell:=@World.frozen?_setCell
theorem Dv:type_of% @run_takeDeferred:=@run_takeDeferred
theorem yu:type_of% @List.take_append_drop:=@List.take_append_drop
theorem Ep:type_of% @grownBy_putObj':=@grownBy_putObj'
theorem jm:type_of% @Array.getD_eq_getD_getElem?:=@Array.getD_eq_getD_getElem?
theorem ay:type_of% @Bool.and_eq_true:=@Bool.and_eq_true
theorem zq:type_of% @Bool.not_eq_true':=@Bool.not_eq_true'
theorem oq:type_of% @List.mem_range:=@List.mem_range
theorem Ap:type_of% @Array.getElem?_eq_getElem:=@Array.getElem?_eq_getElem
theorem zh:type_of% @List.all_eq_true:=@List.all_eq_true
theorem jc:type_of% @decide_eq_true_eq:=@decide_eq_true_eq
theorem je:type_of% @List.mem_cons_self:=@List.mem_cons_self
set_option maxRecDepth 100000
set_option maxHeartbeats 400000
set_option linter.unusedSimpArgs false
set_option linter.unusedVariables false
theorem Rd.at {w:World} {p:Option Addr} {n c:Nat} {l:List Nat} (h:Rd w (.slice p n c) l) (hl:l≠[]):∃ b o,p=some ⟨b,o,none⟩/\b<w.heap.size/\∀ i,i<l.length->w.cell? ⟨b,o+i,none⟩=some (.int .u32 (gr l i:Nat)):=by
 rcases h with⟨_,_,h⟩|⟨b,o,c',h1,h2,h3,h4,h5⟩
 ·exact absurd h hl
 ·cases h1;exact⟨b,o,rfl,h4,h5⟩
theorem a8P (s t:Value) (a b:List Nat) (w:World) (hs:Rd w s a) (ht:Rd w t b) (ha:Low a) (hb:Low b) (la:a.length<=1000000000) (lb:b.length<=a.length) (hle:val b<=val a) :
  Calls Tryz.prog 272 #[s,t] w (a1U (dig (val a-val b)) w):=by
 obtain⟨i0,hi,hz0,hz1,hz2⟩:=Ag gX;obtain⟨p,c,rfl,_,_⟩:=hs.form;obtain⟨q,d,rfl,_,_⟩:=ht.form;have HA:=bf ha;have HB:=bf hb;have HLE:=bf hle;clear ha hb hle
 go_enter Tryz.func272,Tryz.ntmps272
 go_wp2_with (at_make;refine Eh _ rfl _ _ 43 rfl w.heap.size 148 i0 (.int .u32 0) 1 ji hi hz0 hz1 _ _ _ _ a.length rfl rfl (by omega) (by omega) (by rw[hz2];omega) (by unfold maxLen;omega) (aj _) ?_)
 intro w1 hown hgrow;rw[iR] at hown;have hB1:Below w.heap.size w w1:=(gy _ _).grown hgrow (aj _) (fun k e=>by cases e);clear hgrow
 go_wp2
 go_loopw [6,7,8,14,15,16,17,18,19,20,21,22,23,24,25,26,27,28,29,30,31,32,33,34,35,36,37,38,39,40,41,42,43,44,45,46,47] (fun c _ _ i _ _ _ _ _ _ _ _ _ _ _ _ _ _ _ _ _ _ _ _ _ _ _ _ _ _ _ _ _ _ _ _ _ wr=>∃ (k e:Nat) (o:List Nat),k<=a.length/\i=.int .i64 (k:Nat)/\c=.int .u32 (e:Nat)/\kV a b o a.length k e /\
   wr.ownsRow w.heap.size 148 1 (.slice (some ⟨w.heap.size,0,none⟩) a.length a.length) a.length (cells32 o)/\Below w.heap.size w wr)
  (fun _ _ _ i _ _ _ _ _ _ _ _ _ _ _ _ _ _ _ _ _ _ _ _ _ _ _ _ _ _ _ _ _ _ _ _ _ _=>a.length-(intOf i).toNat)
 case atStart=>exact⟨0,0,_,by omega,rfl,rfl,kV.zero _ _ _,hown,hB1⟩
 case round =>
  obtain⟨k,e,o,hk,rfl,rfl,hI,hO,hB⟩:=hrel;by_cases hlt:k<a.length
  ·have ga:gr a k<=999999999:=gJ HA.out k;have gb:gr b k<=999999999:=gJ HB.out k;have gc:=hI.car;obtain⟨ba,oa,rfl,hba,hca⟩:=hs.at (by intro e;subst e;simp at hlt);have hcell:wr.cell? ⟨ba,oa+k,none⟩=some (.int .u32 (gr a k:Nat)):=(hB.cell (p:=⟨ba,oa+k,none⟩) hba).trans (hca k hlt);have HCA:=bf hca;clear hca;have hcl:wr.cell? ⟨w.heap.size,k,none⟩=some (.int .u32 (gr o k:Nat)):=by rw[hO.cellAt k (by omega)];exact eX (by rw[hI.len];exact hlt)
   have hfr:=hO.frozenAt k;by_cases hsm:gr a k<gr b k+e
   ·obtain⟨r,hr⟩:∃ r,gr a k+1000000000=r+(gr b k+e):=⟨gr a k+1000000000-(gr b k+e),by omega⟩;have hN:=hI.MP (by omega) hlt hsm hr;have HR:=bf hr;have hrw:IntKind.u32.wrap ((gr a k:Int)+1000000000-(gr b k+e))=r:=by simp[IntKind.wrap,IntKind.bits,IntKind.signed];omega
    have hrw2:((gr a k:Int)+1000000000-(gr b k+e))=r:=by omega
    clear hr;have hd:decide ((gr a k:Int)<gr b k+e)=true:=by simp;omega
    go_wp2_with fail
    refine(MB _ b k _ (ht.below hB)).mono ?_;rintro e w' ⟨rfl,rfl⟩;dsimp only
    go_wp2
    have hst:=hO.stored k (.int .u32 (r:Nat));rw[fP] at hst
    go_roundw
    case rel=>exact⟨k+1,1,_,by omega,by go_num,rfl,hN,hst.1,hB.setCell (p:=⟨w.heap.size,k,none⟩) (aj _) _⟩
    case measure=>simp[intOf];omega
   ·obtain⟨r,hr⟩:∃ r,gr a k=r+(gr b k+e):=⟨gr a k-(gr b k+e),by omega⟩;have hN:=hI.UL (by omega) hlt hr;have HR:=bf hr;have hrw2:((gr a k:Int)-(gr b k+e))=r:=by omega
    have hle1:gr b k+e<=gr a k:=by omega
    clear hr;have hd:decide ((gr a k:Int)<gr b k+e)=false:=by simp;omega
    go_wp2_with fail
    refine(MB _ b k _ (ht.below hB)).mono ?_;rintro e w' ⟨rfl,rfl⟩;dsimp only
    go_wp2
    have hst:=hO.stored k (.int .u32 (r:Nat));rw[fP] at hst
    go_roundw
    case rel=>exact⟨k+1,0,_,by omega,by go_num,rfl,hN,hst.1,hB.setCell (p:=⟨w.heap.size,k,none⟩) (aj _) _⟩
    case measure=>simp[intOf];omega
  ·obtain rfl:k=a.length:=by omega
   obtain⟨hl,hv⟩:=hI.done (aj _) lb HLE.out;have HV:Hid (fA o=dig (val a-val b)):=by unfold Hid fA;rw[hv]
   clear hv
   go_wp2_with (go_at_call 257;refine(OC _ _ _ o _ (Rd.dN (by rw[hI.len];exact hO)) hl hI.len).mono ?_;rintro e w' ⟨rfl,rfl⟩)
   go_ret
   exact⟨_,rfl,by rw[<-HV.out];exact uM hO hl hI.len,hB⟩
set_option maxHeartbeats 800000
theorem times_any (s t:Value) (a b:List Nat) (w:World) (hs:Rd w s a) (ht:Rd w t b) (ha:Low a) (hb:Low b) (la:a.length<=1000000000) (lb:b.length<=1000000000) :
  Calls Tryz.prog 249 #[s,t] w (a1U (dig (val a*val b)) w):=by
 obtain⟨i0,hi,hz0,hz1,hz2⟩:=Ag gX;obtain⟨p,c,rfl,_,_⟩:=hs.form;obtain⟨q,d,rfl,_,_⟩:=ht.form;have HA:=bf ha;have HB:=bf hb;clear ha hb;obtain⟨n,hn⟩:∃ n:Nat,(a.length:Int)+b.length=n:=⟨a.length+b.length,by omega⟩;have hn':n=a.length+b.length:=by omega
 have HN:=bf hn';have n1:n<=2000000000:=by omega
 have n2:a.length+b.length<=n:=by omega
 clear hn'
 go_enter Tryz.func249,Tryz.ntmps249
 go_wp2_with (at_make;refine Eh _ rfl _ _ 43 rfl w.heap.size 148 i0 (.int .u32 0) 1 ji hi hz0 hz1 _ _ _ _ n rfl rfl (by omega) (by omega) (by rw[hz2];omega) (by unfold maxLen;omega) (aj _) ?_)
 intro w1 hown hgrow;rw[iR] at hown;have hB1:Below w.heap.size w w1:=(gy _ _).grown hgrow (aj _) (fun k e=>by cases e);clear hgrow hn
 go_wp2
 go_loopw [6,7,8,9,10,11,20,21,22,23,24,25,26,27,28,29,30,31,32,33,34,35,36,37,38,39,40,41,42,43,44,45,46,47,48,49,50,51,52,53,54,55,56,57,58,59,60,61,62,63,64,65,66] (fun _ _ _ _ _ _ i _ _ _ _ _ _ _ _ _ _ _ _ _ _ _ _ _ _ _ _ _ _ _ _ _ _ _ _ _ _ _ _ _ _ _ _ _ _ _ _ _ _ _ _ _ _ wr=>∃ (k:Nat) (o:List Nat),k<=a.length/\i=.int .i64 (k:Nat)/\nM a b o n k/\wr.ownsRow w.heap.size 148 1 (.slice (some ⟨w.heap.size,0,none⟩) n n) n (cells32 o)/\Below w.heap.size w wr) (fun _ _ _ _ _ _ i _ _ _ _ _ _ _ _ _ _ _ _ _ _ _ _ _ _ _ _ _ _ _ _ _ _ _ _ _ _ _ _ _ _ _ _ _ _ _ _ _ _ _ _ _ _ wr=>a.length-(intOf i).toNat)
 case atStart=>exact⟨0,_,by omega,rfl,nM.start _ _ _,hown,hB1⟩
 case round =>
  obtain⟨k,o0,hk,rfl,hI,hO,hB⟩:=hrel;by_cases hlt:k<a.length
  ·have ga:gr a k<=999999999:=gJ HA.out k;obtain⟨ba,oa,rfl,hba,hca⟩:=hs.at (by intro e;subst e;simp at hlt);have hcell:wr.cell? ⟨ba,oa+k,none⟩=some (.int .u32 (gr a k:Nat)):=(hB.cell (p:=⟨ba,oa+k,none⟩) hba).trans (hca k hlt);have HCA:=bf hca;clear hca
   go_wp2
   obtain⟨wo,rfl⟩:∃ wo:World,wo=wr:=⟨_,rfl⟩
   go_loopw [8,9,10,11,27,28,29,30,31,32,33,34,35,36,37,38,39,40,41,42,43,44,45,46,47,48,49,50,51,52,53,54,55,56,57] (fun cc _ _ _ i _ _ _ _ _ _ _ _ _ _ _ _ _ _ _ _ _ _ _ _ _ _ _ _ _ _ _ _ _ _ wr=>∃ (j e:Nat) (o:List Nat),j<=b.length/\i=.int .i64 (j:Nat)/\cc=.int .u64 (e:Nat)/\mJ o0 b o n k (gr a k) j e/\wr.ownsRow w.heap.size 148 1 (.slice (some ⟨w.heap.size,0,none⟩) n n) n (cells32 o)/\Below w.heap.size w wr) (fun cc _ _ _ i _ _ _ _ _ _ _ _ _ _ _ _ _ _ _ _ _ _ _ _ _ _ _ _ _ _ _ _ _ _ wr=>b.length-(intOf i).toNat)
   case atStart=>exact⟨0,0,o0,by omega,rfl,rfl,mJ.start hI.len hI.low,hO,hB⟩
   case round =>
    obtain⟨j,e,o,hj,rfl,rfl,hI2,hO2,hB2⟩:=hrel;by_cases b1A:j<b.length
    ·have gb:gr b j<=999999999:=gJ HB.out j;have ge:e<=999999999:=by have:=hI2.car;omega
     have go:gr o (k+j)<=999999999:=gJ hI2.low (k+j);obtain⟨bb,ob,rfl,hbb,hcb⟩:=ht.at (by intro e;subst e;simp at b1A);have a0:wr.cell? ⟨bb,ob+j,none⟩=some (.int .u32 (gr b j:Nat)):=(hB2.cell (p:=⟨bb,ob+j,none⟩) hbb).trans (hcb j b1A);have HCB:=bf hcb;clear hcb;have hcl:wr.cell? ⟨w.heap.size,k+j,none⟩=some (.int .u32 (gr o (k+j):Nat)):=by rw[hO2.cellAt (k+j) (by omega)];exact eX (by rw[hI2.len];omega)
     have hfr:=hO2.frozenAt (k+j);have hN:=hI2.step (by omega) (by omega) (by omega);obtain⟨m,hm⟩:∃ m:Nat,(gr a k:Int)*gr b j=m:=⟨gr a k*gr b j,by simp⟩;have hm2:m<=999999998000000001:=by
      have h1:gr a k*gr b j<=999999999*999999999:=uy ga gb;have h2:((gr a k*gr b j:Nat):Int)=m:=by rw[<-hm];simp
      omega
     have hm3:gr a k*gr b j=m:=by
      have h2:((gr a k*gr b j:Nat):Int)=m:=by rw[<-hm];simp
      omega
     rw[hm3] at hN;have HM3:=bf hm3;clear hm3;generalize hr:(gr o (k+j)+m+e)%1000000000=r at hN;generalize hv:(gr o (k+j)+m+e) / 1000000000=v at hN;have hr2:((gr o (k+j):Int)+m+e)%1000000000=r:=by omega
     have hv2:((gr o (k+j):Int)+m+e) / 1000000000=v:=by omega
     have hr3:r<=999999999:=by omega
     have hv3:v<=999999999:=by omega
     clear hr hv
     go_wp2
     have hst:=hO2.stored (k+j) (.int .u32 (r:Nat));rw[fP] at hst
     go_roundw
     case rel=>exact⟨j+1,v,_,by omega,by go_num,by rw[hv2],hN,hst.1,hB2.setCell (p:=⟨w.heap.size,k+j,none⟩) (aj _) _⟩
     case measure=>simp[intOf];omega
    ·obtain rfl:j=b.length:=by omega
     have ge:e<=999999999:=by have:=hI2.car;omega
     have hN:=mJ.done hI hI2 (by omega);have hcl:wr.cell? ⟨w.heap.size,k+b.length,none⟩=some (.int .u32 (gr o (k+b.length):Nat)):=by rw[hO2.cellAt (k+b.length) (by omega)];exact eX (by rw[hI2.len];omega)
     have hfr:=hO2.frozenAt (k+b.length)
     go_wp2
     have hst:=hO2.stored (k+b.length) (.int .u32 (e:Nat));rw[fP] at hst
     go_roundw
     case rel=>exact⟨k+1,_,by omega,by go_num,hN,hst.1,hB2.setCell (p:=⟨w.heap.size,k+b.length,none⟩) (aj _) _⟩
     case measure=>simp[intOf];omega
  ·obtain rfl:k=a.length:=by omega
   have hv:=hI.done HN.out;have HV:Hid (fA o0=dig (val a*val b)):=by unfold Hid fA;rw[hv]
   clear hv
   go_wp2_with (go_at_call 257;refine(OC _ _ _ o0 _ (Rd.dN (by rw[hI.len];exact hO)) hI.low hI.len).mono ?_;rintro e w' ⟨rfl,rfl⟩)
   go_ret
   exact⟨_,rfl,by rw[<-HV.out];exact uM hO hI.low hI.len,hB⟩
section
open Go.RowKit Go.Shelf
set_option maxHeartbeats 2000000
attribute [local go_sem] Oper.semAt_some
def iO (n:Nat) (pre:List (Fin n)):Prop:=∀ j x,pre[j]?=some x->x.1=n-1-j
theorem iO.nil (n:Nat):iO n []:=by intro j x h;simp at h
theorem iO.snoc {n:Nat} {pre:List (Fin n)} (h:iO n pre) {x:Fin n} (hx:x.1=n-1-pre.length):iO n (pre++[x]):=by
 intro j y hj;rw[List.getElem?_append] at hj;split at hj
 ·exact h j y hj
 ·rename_i hlt;have:j-pre.length=0:=by
   rcases Ai (j-pre.length) with e|e
   ·exact e
   ·rw[qm (by simp;omega)] at hj;cases hj
  rw[this] at hj;simp at hj;subst hj;rw[hx];congr 1;omega
def KB (n₀ Bs:Nat) (A B:World):Prop:=Below n₀ A B/\B.heap[Bs]?=A.heap[Bs]?
theorem KB.refl (n₀ Bs:Nat) (A:World):KB n₀ Bs A A:=⟨gy _ _,rfl⟩
theorem KB.trans {n₀ Bs:Nat} {A B C:World} (h:KB n₀ Bs A B) (k:KB n₀ Bs B C):KB n₀ Bs A C:=⟨h.1.trans k.1,k.2.trans h.2⟩
theorem KB.setCell {n₀ Bs:Nat} {W:World} {p:Addr} (h1:n₀<=p.block) (h2:p.block≠Bs) (u:Value):KB n₀ Bs W (W.setCell p u) :=
 ⟨(gy _ _).setCell h1 u,Below.heap_setCell _ _ _ _ (Ne.symm h2)⟩
theorem KB.b {n₀ Bs:Nat} {w:World} (hn:n₀<=w.heap.size) (hB:Bs<w.heap.size) (W:World) (l:Nat) (o o':Obj) (hl:w.heap.size<=l) (h:W.heap[l]?=some o) (hc:o.isCells=false) (hw:o.isWalk=false):KB n₀ Bs W (W.putObj l o') :=
 ⟨belowK_b hn W l o o' hl h hc hw,World.putObj_heap_other (by omega)⟩
theorem a9Q (F:Fence) (n:Nat) (h7:F.fn 288) (hro:F.round=none) (hn:1<=n) (lo Bs n₀ b off cap:Nat) (l:List Nat) (hreach:l.length<=9223372036854775807) (hb:b<n₀) (J Jx:List (Fin l.length)->World->Prop)
  (hY:∀ pre x W,J pre W->pre.length<l.length->YieldAt F (n-1) Tryz.prog lo #[.int .i64 (x.1:Nat),.int .u32 (gr l x.1:Nat)] W fun e W' =>
   (e=.returned (.bool true)/\J (pre++[x]) W'/\KB n₀ Bs W W')\/(e=.returned (.bool false)/\Jx (pre++[x]) W'))
  (W:World) (hBs:W.cell? ⟨Bs,0,none⟩=some (.slice (some ⟨b,off,none⟩) l.length cap)) (hc:∀ j,j<l.length->W.cell? ⟨b,off+j,none⟩=some (.int .u32 (gr l j:Nat))) (h0:J [] W) :
  CallsIn F n Tryz.prog 288 #[.func (.yield lo) #[] #[],.pointer (some ⟨Bs,0,none⟩)] W fun e W'=>(∃ v,e=.returned v) /\
   ((∃ ys,(iO l.length ys/\ys.length=l.length)/\J ys W')\/(∃ pre,(iO l.length pre/\pre.length<=l.length)/\Jx pre W')):=by
 refine callsIn_of_wp Tryz.func288 rfl h7 ?_ hro;simp only[Tryz.ntmps288,Dk,List.length_cons,List.length_nil,Nat.reduceAdd,Nat.reduceSub,Dy,Array.replicate_zero,Et,Ec,List.nil_append,List.cons_append];have HC:=bf hc;clear hc
 gi_wp2
 gi_loopw [3,7,8,9,10,11,12,13,14,15,16,17,18] (fun i _ _ _ _ _ _ _ _ _ _ _ _ wr=>∃ (k:Nat) (pre:List (Fin l.length)),k<=l.length/\i=.int .i64 ((l.length:Int)-1-k)/\Hid (iO l.length pre/\pre.length=k)/\J pre wr/\KB n₀ Bs W wr) (fun i _ _ _ _ _ _ _ _ _ _ _ _ wr=>(intOf i+1).toNat)
 case atStart=>exact⟨0,[],ru _,by go_num,⟨iO.nil _,rfl⟩,h0,KB.refl _ _ _⟩
 case round =>
  obtain⟨k,pre,hk,rfl,hP,hJs,hnx⟩:=hrel;have hBx:wr.cell? ⟨Bs,0,none⟩=some (.slice (some ⟨b,off,none⟩) l.length cap):=(Dz (w:=W) (a:=⟨Bs,0,none⟩) hnx.2).trans hBs;clear hBs;by_cases hlt:k<l.length
  ·obtain⟨m,hm⟩:∃ m,l.length-1-k=m:=⟨_,rfl⟩;have hmi:(l.length:Int)-1-k=m:=by omega
   have hml:m<l.length:=by omega
   have hcx:wr.cell? ⟨b,off+m,none⟩=some (.int .u32 (gr l m:Nat)):=(hnx.1.cell (p:=⟨b,off+m,none⟩) hb).trans (HC.out m hml);obtain⟨fn,tmps,assign,body,hy,hR⟩:=hY pre ⟨m,hml⟩ wr hJs (by rw[hP.out.2];exact hlt);dsimp only at hy;have HP2:Hid (iO l.length (pre++[⟨m,hml⟩])/\(pre++[(⟨m,hml⟩:Fin l.length)]).length=k+1):=⟨hP.out.1.snoc (by rw[hP.out.2];exact hm.symm),by simp[hP.out.2]⟩;have HM:=bf hm;clear hm
   gi_wp2
   refine hR.mono ?_;rintro e W3 (⟨rfl,hJ3,hk3⟩|⟨rfl,hJx3⟩)
   ·gi_wp2
    go_roundw
    case rel=>exact⟨k+1,_,by omega,by simp;omega,HP2,hJ3,hnx.trans hk3⟩
    case measure=>simp[intOf];omega
   ·gi_wp2
    refine xk (results_none rfl _ _ _) rfl ?_;exact⟨⟨_,rfl⟩,.inr ⟨_,⟨HP2.out.1,by rw[HP2.out.2];omega⟩,hJx3⟩⟩
  ·obtain rfl:k=l.length:=by omega
   have hmi:(l.length:Int)-1-l.length=-1:=by omega
   gi_wp2
   go_end0
   exact⟨⟨_,rfl⟩,.inl ⟨_,hP.out,hJs⟩⟩
theorem a0E (F:Fence) (n:Nat) (h7:F.fn 288) (hro:F.round=none) (lo Bs:Nat) (J:List (Fin 0)->World->Prop) (W:World) (p:Option Addr) (hBs:W.cell? ⟨Bs,0,none⟩=some (.slice p 0 0)) (h0:J [] W) :
  CallsIn F n Tryz.prog 288 #[.func (.yield lo) #[] #[],.pointer (some ⟨Bs,0,none⟩)] W fun e W'=>(∃ v,e=.returned v)/\J [] W':=by
 refine callsIn_of_wp Tryz.func288 rfl h7 ?_ hro;simp only[Tryz.ntmps288,Dk,List.length_cons,List.length_nil,Nat.reduceAdd,Nat.reduceSub,Dy,Array.replicate_zero,Et,Ec,List.nil_append,List.cons_append]
 gi_wp2
 gi_loopw [3] (fun i wr=>i=.int .i64 (-1)/\J [] wr) (fun _ _=>0)
 case atStart=>exact⟨rfl,h0⟩
 case round =>
  obtain⟨rfl,hJs⟩:=hrel
  gi_wp2
  go_end0
  exact⟨⟨_,rfl⟩,hJs⟩
theorem vY (F:Fence) (n:Nat) (h5:F.fn 278) (hro:F.round=none) (a:Option Addr) (len cap:Nat) (w:World) :
  CallsIn F n Tryz.prog 278 #[.slice a len cap] w fun e w'=>e=.returned (.func (.func 288) #[] #[.pointer (some ⟨w.heap.size,0,none⟩)])/\w'=w.alloc (.cells #[.slice a len cap] 43):=by
 refine callsIn_of_wp Tryz.func278 rfl h5 ?_ hro;simp only[Tryz.ntmps278,Dk,List.length_cons,List.length_nil,Nat.reduceAdd,Nat.reduceSub,Dy,Array.replicate_zero,Et,Ec,List.nil_append,List.cons_append]
 gi_wp2
 go_ret
 exact⟨rfl,rfl⟩
def RdB (n₀:Nat) (w:World) (s:Value) (l:List Nat):Prop :=
 (∃ p,s=.slice p 0 0/\l=[]) \/
 ∃ b o c,s=.slice (some ⟨b,o,none⟩) l.length c/\l.length<=9223372036854775807/\b<n₀/\∀ i,i<l.length->w.cell? ⟨b,o+i,none⟩=some (.int .u32 (gr l i:Nat))
theorem Rd.b {w:World} {s:Value} {l:List Nat} (h:Rd w s l):RdB w.heap.size w s l:=by
 rcases h with h|⟨b,o,c,h1,h2,h3,h4,h5⟩
 ·exact .inl h
 ·exact .inr ⟨b,o,c,h1,by omega,h4,h5⟩
theorem RdB.below {n₀:Nat} {A B:World} (h:Below n₀ A B) {s:Value} {l:List Nat}:RdB n₀ A s l->RdB n₀ B s l
 | .inl e=>.inl e
 | .inr ⟨b,o,c,h1,h2,h3,h4⟩=>.inr ⟨b,o,c,h1,h2,h3,fun i hi=>(h.cell (p:=⟨b,o+i,none⟩) h3).trans (h4 i hi)⟩
theorem yF (F:Fence) (n:Nat) (h7:F.fn 288) (hro:F.round=none) (hn:1<=n) (Bs n₀:Nat) (sv:Value) (l:List Nat) (w:World) (hBs:Bs<w.heap.size) (hn₀:n₀<=w.heap.size)
  (hc:w.cell? ⟨Bs,0,none⟩=some sv) (hI:RdB n₀ w sv l) :
  SeqStopsK F n Tryz.prog 288 #[.pointer (some ⟨Bs,0,none⟩)] (fun x:Fin l.length=>#[Value.int .i64 (x.1:Nat),Value.int .u32 (gr l x.1:Nat)]) (KB n₀ Bs) (fun ys=>iO l.length ys/\ys.length=l.length)
   (fun pre=>iO l.length pre/\pre.length<=l.length) l.length w:=fun lo J Jx W hW _ _ hY h0=>by
 have hc':=(hW.cell (p:=⟨Bs,0,none⟩) hBs).trans hc;rcases hI.below (hW.mono hn₀) with⟨p,rfl,rfl⟩|⟨b,off,cap,rfl,hr,hb,hcs⟩
 ·exact(a0E F n h7 hro lo Bs J W p hc' h0).mono fun e W' ⟨he,hj⟩=>⟨he,.inl ⟨[],⟨iO.nil _,rfl⟩,hj⟩⟩
 ·exact a9Q F n h7 hro hn lo Bs n₀ b off cap l hr hb J Jx hY W hc' hcs h0
end
section
open Go.RowKit Go.Shelf
set_option maxHeartbeats 2000000
attribute [local go_sem] Oper.semAt_some
def hval (l:List Nat) (pre:List (Fin l.length)):Nat:=pre.foldl (fun n x=>n*BB+gr l x.1) 0
theorem EM (l:List Nat) (pre:List (Fin l.length)) (x:Fin l.length):hval l (pre++[x])=hval l pre*BB+gr l x.1:=by simp[hval]
theorem b5B {l:List Nat} (hl:Low l) (pre:List (Fin l.length)):hval l pre<BB ^ pre.length:=by
 suffices ∀ n (pre:List (Fin l.length)),pre.length=n->hval l pre<BB ^ pre.length from this _ pre rfl
 intro n
 induction n with
 | zero=>intro pre h;rw[ng h];simp[hval]
 | succ n ih =>
  intro pre h;obtain⟨q,x,rfl⟩:∃ q x,pre=q++[x]:=⟨pre.dropLast,pre.getLast (by intro e;subst e;simp at h),(List.dropLast_concat_getLast _).symm⟩;have h1:=ih q (by simp at h;exact h);have h2:=GY hl x.1;rw[EM,dh,List.length_singleton,Nat.pow_succ];rw[bV] at *
  omega
theorem YS {l:List Nat} {pre:List (Fin l.length)} (h:iO l.length pre) (hle:pre.length<=l.length):hval l pre=val (l.drop (l.length-pre.length)):=by
 suffices ∀ n (pre:List (Fin l.length)),pre.length=n->iO l.length pre->pre.length<=l.length->hval l pre=val (l.drop (l.length-pre.length)) from this _ pre rfl h hle
 intro n
 induction n with
 | zero=>intro pre h _ _;rw[ng h];simp[hval]
 | succ n ih =>
  intro pre h hb hle;obtain⟨q,x,rfl⟩:∃ q x,pre=q++[x]:=⟨pre.dropLast,pre.getLast (by intro e;subst e;simp at h),(List.dropLast_concat_getLast _).symm⟩;simp only[dh,List.length_singleton] at h hle;have hq:iO l.length q:=fun j y hj=>hb j y (by rw[Ak (jy.1 hj).1];exact hj);have hx:x.1=l.length-1-q.length:=hb q.length x (by simp);rw[EM,ih q (by omega) hq (by omega),dh,List.length_singleton];have e1:l.length-q.length=(l.length-(q.length+1))+1:=by omega
  rw[e1,Bh (i:=l.length-(q.length+1)) (by omega),dA,hx,qL (by omega),vw,Fb];congr 2;omega
theorem a2P {l:List Nat} {pre:List (Fin l.length)} (h:iO l.length pre) (hle:pre.length=l.length):hval l pre=val l:=by rw[YS h (by omega),hle];simp
theorem b7F (F:Fence) (n:Nat) (h3:F.fn 265) (h5:F.fn 278) (h7:F.fn 288) (hro:F.round=none) (hn:3<=n) (a:Option Addr) (cap:Nat) (l:List Nat) (w:World) (hI:Rd w (.slice a l.length cap) l) (hl:Low l) (h2:l.length<=2) :
  CallsIn F n Tryz.prog 265 #[.slice a l.length cap] w fun e W'=>e=.returned (.tuple #[.int .u64 (val l:Nat),.bool true])/\Below w.heap.size w W':=by
 have h1:1<=n:=by omega
 refine callsIn_of_wp_marks Tryz.func265 rfl h3 ?_ hro;simp only[Tryz.ntmps265,Dk,List.length_cons,List.length_nil,Nat.reduceAdd,Nat.reduceSub,Dy,Array.replicate_zero,Et,Ec,List.nil_append,List.cons_append]
 gi_wp2_with (gi_at_call 278;refine(vY F (n-1) h5 hro _ _ _ _).mono ?_;rintro e w' ⟨rfl,rfl⟩)
 have bN:=Boxed.new w 147 (.int .u64 0);have bS:=Boxed.new (w.alloc (.cells #[.int .u64 0] 147)) 43 (.slice a l.length cap);rw[Ce] at bS;have hB0:Below w.heap.size w ((w.alloc (.cells #[.int .u64 0] 147)).alloc (.cells #[.slice a l.length cap] 43)):=((gy _ w).alloc (aj _) _).alloc (by simp) _;refine wpIn_rangeFunc_ownG hro h1 (gf:=288) (lb:=#[.pointer (some ⟨w.heap.size+1,0,none⟩)]) rfl h7 (enters_of Tryz.func288 (by kernel_rfl) rfl)
  (yF F (n-1) h7 hro (by omega) (w.heap.size+1) w.heap.size _ l _ (by simp) (by simp;omega) bS.cell (hI.b.below hB0)) (fun h k=>KB.trans h k) (KB.b (by simp;omega) (by simp)) (gy _ _) (fun _=>rfl)
  (fun pre W=>(W.cell? ⟨w.heap.size,0,none⟩=some (.int .u64 (hval l pre:Nat))/\W.frozen? ⟨w.heap.size,0,none⟩=false)/\Below w.heap.size w W)
  (fun _ _ _=>False)
  (OwnFrom.and (Own.from (fun s A B row hs hg hr=>⟨Eo hs.1 hg hr,(frozen_kept hs.1 hg hr).trans hs.2⟩) _) (ownFrom_below (aj _) (by simp;omega)))
  (fun _ _ _ _ _ hs _ _=>hs)
  ⟨⟨(bN.alloc _).cell,(bN.alloc _).frozen⟩,hB0⟩
  (fun x=>{ tmps:=#[.slice a l.length cap,undef,.int .u64 0,.bool false,.pointer (some ⟨w.heap.size,0,none⟩),undef,.int .u32 (gr l x.1:Nat),.slice a l.length cap,.int .i64 (l.length:Nat),.bool (decide (2<(l.length:Int))),.slice a l.length cap,.func (.func 288) #[] #[.pointer (some ⟨w.heap.size+1,0,none⟩)],.int .i64 (x.1:Nat),.int .u32 (gr l x.1:Nat),undef,undef,undef,undef,undef,undef],defers:=[] }) ?assign ?body ?done ?stop
 case assign =>
  intro l x W K hK
  gi_wp2
  exact hK
 case body =>
  rintro lo pre x W ⟨⟨hc,hf⟩,hB⟩ hlen;have hg:=gJ hl x.1;have hh:hval l pre<=999999999:=by
   have:=b5B hl pre;have h4:BB ^ pre.length<=BB ^ 1:=vg gU (by omega);rw[bV] at *
   omega
  have HS:=bf (EM l pre x)
  gi_wp2
  exact⟨(ug _ _ _).from _,KB.setCell (p:=⟨w.heap.size,0,none⟩) (aj _) (by simp) _,⟨by rw[HS.out,bV];exact Am _ _ _ (by rw[hc];rfl),by rw[xq];exact hf⟩,hB.setCell (p:=⟨w.heap.size,0,none⟩) (aj _) _⟩
 case done =>
  rintro D ys W hD ⟨hb,hlen⟩ ⟨⟨hc,_⟩,hB⟩ hK;rw[a2P hb hlen] at hc
  gi_wp2
  refine⟨by simp,.inl ⟨_,_,rfl,Dv hK,?_⟩⟩;exact⟨_,results_tmp2 rfl _ _ _,rfl,hB.trans (belowK_b (w:=w) (aj _) W D _ _ (by simp at hD;omega) hK rfl rfl)⟩
 case stop =>
  rintro D c pre W _ _ h _;exact h.elim
theorem DN (s:Value) (l:List Nat) (w:World) (hs:Rd w s l) (hl:Low l) (h2:l.length<=2) :
  Calls Tryz.prog 265 #[s] w fun e W'=>e=.returned (.tuple #[.int .u64 (val l:Nat),.bool true])/\Below w.heap.size w W':=by
 obtain⟨p,c,rfl,_,_⟩:=hs.form;exact callsIn_wide.1 (b7F Fence.wide 3 trivial trivial trivial rfl (by omega) p c l w hs hl h2)
theorem RV (s:Value) (l:List Nat) (w:World) (hs:Rd w s l) (h2:2<l.length) :
  Calls Tryz.prog 265 #[s] w fun e W'=>e=.returned (.tuple #[.int .u64 0,.bool false])/\Below w.heap.size w W':=by
 obtain⟨p,c,rfl,_,_⟩:=hs.form;have hd:decide ((2:Int)<l.length)=true:=by simp;omega
 go_enter Tryz.func265,Tryz.ntmps265
 go_wp2
 go_ret2
 exact⟨rfl,gy _ _⟩
end
section
open Go.RowKit Go.Shelf
set_option maxHeartbeats 2000000
attribute [local go_sem] Oper.semAt_some
def dF (x y:Int):Int:=if x<y then -1 else if y<x then 1 else 0
theorem SL (x y:Int) (w:World) :
  Calls Tryz.prog 255 #[.int .i64 x,.int .i64 y] w fun e w'=>e=.returned (.int .i64 (dF x y))/\w=w':=by
 by_cases h1:x<y
 ·have HV:Hid (dF x y=-1):=by unfold Hid dF;rw[dn h1]
  go_enter Tryz.func255,Tryz.ntmps255
  go_wp2
  go_ret
  exact⟨kJ HV.out.symm,rfl⟩
 ·by_cases h2:y<x
  ·have HV:Hid (dF x y=1):=by unfold Hid dF;rw[bn h1,dn h2]
   go_enter Tryz.func255,Tryz.ntmps255
   go_wp2
   go_ret
   exact⟨kJ HV.out.symm,rfl⟩
  ·have HV:Hid (dF x y=0):=by unfold Hid dF;rw[bn h1,bn h2]
   go_enter Tryz.func255,Tryz.ntmps255
   go_wp2
   go_ret
   exact⟨kJ HV.out.symm,rfl⟩
theorem a4l (x y:Nat) (w:World) :
  Calls Tryz.prog 280 #[.int .u32 (x:Nat),.int .u32 (y:Nat)] w fun e w'=>e=.returned (.int .i64 (dF x y))/\w=w':=by
 by_cases h1:x<y
 ·have HV:Hid (dF x y=-1):=by unfold Hid dF;rw[dn (by omega)]
  go_enter Tryz.func280,Tryz.ntmps280
  go_wp2
  go_ret
  exact⟨kJ HV.out.symm,rfl⟩
 ·by_cases h2:y<x
  ·have HV:Hid (dF x y=1):=by unfold Hid dF;rw[bn (by omega),dn (by omega)]
   go_enter Tryz.func280,Tryz.ntmps280
   go_wp2
   go_ret
   exact⟨kJ HV.out.symm,rfl⟩
  ·have HV:Hid (dF x y=0):=by unfold Hid dF;rw[bn (by omega),bn (by omega)]
   go_enter Tryz.func280,Tryz.ntmps280
   go_wp2
   go_ret
   exact⟨kJ HV.out.symm,rfl⟩
theorem IZ {a b:List Nat} (ha:Canon a) (hb:Canon b) (h:a.length<b.length):val a<val b:=by
 rcases Ad (val a) (val b) with h1|h1
 ·exact h1
 ·have:=aX h1;rw[dP ha,dP hb] at this;omega
theorem yD (l:List Nat) (i:Nat):val l=val (l.take i)+BB ^ i*(gr l i+BB*val (l.drop (i+1))):=by
 by_cases h:i<l.length
 ·conv=>lhs;rw[<-yu i l]
  rw[val_append,jk,zf (by omega),Bh h,dA,qL h]
 ·rw[wY (by omega),jf (by omega),List.drop_eq_nil_of_le (by omega)];simp
theorem EZ {a b:List Nat} {i:Nat} (ha:Low a) (hd:val (a.drop (i+1))=val (b.drop (i+1))) (h:gr a i<gr b i):val a<val b:=by
 rw[yD a i,yD b i,hd];have h1:val (a.take i)<BB ^ i:=by have:=mG (ha.take i);exact qh this (vg gU (by rw[jk];omega))
 have h2:BB ^ i*(gr a i+BB*val (b.drop (i+1))+1)<=BB ^ i*(gr b i+BB*val (b.drop (i+1))):=xw _ (by omega);rw[Nat.mul_add _ _ 1] at h2;omega
theorem wQ {a b:List Nat} {i:Nat} (hl:a.length=b.length) (h:∀ j,i<=j->gr a j=gr b j):a.drop i=b.drop i:=by
 apply List.ext_getElem
 ·simp[hl]
 ·intro j h1 h2;simp at h1 h2;have:=h (i+j) (by omega);rw[qL (by omega),qL (by omega)] at this;simpa using this
theorem a4m (s t:Value) (a b:List Nat) (w:World) (hs:Rd w s a) (ht:Rd w t b) (ha:Canon a) (hb:Canon b) (hne:a.length≠b.length) :
  Calls Tryz.prog 254 #[s,t] w fun e w'=>e=.returned (.int .i64 (dF (val a) (val b)))/\Below w.heap.size w w':=by
 obtain⟨p,c,rfl,_,_⟩:=hs.form;obtain⟨q,d,rfl,_,_⟩:=ht.form;have HV:Hid (dF a.length b.length=dF (val a) (val b)):=by
  unfold Hid dF;rcases Ad a.length b.length with h|h
  ·have:=IZ ha hb h;rw[dn (by omega),dn (by omega)]
  ·have:=IZ hb ha (by omega);rw[bn (by omega),dn (by omega),bn (by omega),dn (by omega)]
 have hd:((a.length:Int) != b.length)=true:=by simp;omega
 clear ha hb;have HNE:=bf hne;clear hne
 go_enter Tryz.func254,Tryz.ntmps254
 go_wp2_with (go_at_call 255;refine(SL _ _ _).mono ?_;rintro e w' ⟨rfl,rfl⟩)
 refine xk (v:=.int .i64 (dF a.length b.length)) (by simp[results,Tryz.results254,go_sem]) rfl ⟨kJ HV.out,?_⟩;exact((gy _ _).alloc (aj _) _).alloc (by simp) _
theorem WO (a b:List Nat) (p q:Option Addr) (c d:Nat) (w:World) (hI:Rd w (.slice p a.length c) a) (ht:Rd w (.slice q a.length d) b) (ha:Low a) (hb:Low b) (hlen:a.length=b.length) :
  CallsIn Fence.wide 3 Tryz.prog 254 #[.slice p a.length c,.slice q a.length d] w fun e W'=>e=.returned (.int .i64 (dF (val a) (val b)))/\Below w.heap.size w W':=by
 have hro:Fence.wide.round=none:=rfl;refine callsIn_of_wp_marks Tryz.func254 rfl trivial ?_ hro;simp only[Tryz.ntmps254,Dk,List.length_cons,List.length_nil,Nat.reduceAdd,Nat.reduceSub,Dy,Array.replicate_zero,Et,Ec,List.nil_append,List.cons_append];have HLEN:=bf hlen;clear hlen
 gi_wp2_with (refine⟨trivial,?_⟩;gi_at_call 278;refine(vY Fence.wide 2 trivial hro _ _ _ _).mono ?_;rintro e w' ⟨rfl,rfl⟩)
 have bB:=Boxed.new w 43 (.slice q a.length d);have bR:=Boxed.new (w.alloc (.cells #[.slice q a.length d] 43)) 3 (.int .i64 0);have bS:=Boxed.new ((w.alloc (.cells #[.slice q a.length d] 43)).alloc (.cells #[.int .i64 0] 3)) 43 (.slice p a.length c);rw[Ce] at bR;rw[Ce,Ce] at bS;have hB0:Below w.heap.size w (((w.alloc (.cells #[.slice q a.length d] 43)).alloc (.cells #[.int .i64 0] 3)).alloc (.cells #[.slice p a.length c] 43)):=(((gy _ w).alloc (aj _) _).alloc (by simp) _).alloc (by simp;omega) _;refine wpIn_rangeFunc_ownG (n:=3) (α:=Fin a.length) hro (by omega) (gf:=288) (lb:=#[.pointer (some ⟨w.heap.size+2,0,none⟩)]) rfl trivial (enters_of Tryz.func288 (by kernel_rfl) rfl)
  (yF Fence.wide 2 trivial hro (by omega) (w.heap.size+2) w.heap.size _ a _ (by simp) (by simp;omega) bS.cell (hI.b.below hB0)) (fun h k=>KB.trans h k) (KB.b (by simp;omega) (by simp)) (gy _ _) (fun _=>rfl)
  (fun(pre:List (Fin a.length)) W=>((∀ x ∈ pre,gr a x.1=gr b x.1)/\W.cell? ⟨w.heap.size,0,none⟩=some (.slice q a.length d)/\W.cell? ⟨w.heap.size+1,0,none⟩=some (.int .i64 0)/\W.frozen? ⟨w.heap.size+1,0,none⟩=false)/\Below w.heap.size w W)
  (fun cd (pre:List (Fin a.length)) W=>(cd=.ret/\∃ (ini:List (Fin a.length)) (x:Fin a.length),pre=ini++[x]/\(∀ y ∈ ini,gr a y.1=gr b y.1)/\gr a x.1≠gr b x.1/\W.cell? ⟨w.heap.size+1,0,none⟩=some (.int .i64 (dF (gr a x.1) (gr b x.1))))/\Below w.heap.size w W)
  (OwnFrom.and (Own.from (fun s A B row hs hg hr=>⟨hs.1,Eo hs.2.1 hg hr,Eo hs.2.2.1 hg hr,(frozen_kept hs.2.2.1 hg hr).trans hs.2.2.2⟩) _) (ownFrom_below (aj _) (by simp;omega)))
  (fun c=>OwnFrom.and (Own.from (fun s A B row hs hg hr=>by obtain⟨hc,ini,x,e1,e2,e3,e4⟩:=hs;exact⟨hc,ini,x,e1,e2,e3,Eo e4 hg hr⟩) _) (ownFrom_below (aj _) (by simp;omega)))
  ⟨⟨by simp,((bB.alloc _).alloc _).cell,(bR.alloc _).cell,(bR.alloc _).frozen⟩,hB0⟩
  (fun(x:Fin a.length)=>{ tmps:=#[.slice p a.length c,.slice q a.length d,undef,.pointer (some ⟨w.heap.size,0,none⟩),.pointer (some ⟨w.heap.size+1,0,none⟩),.int .i64 (x.1:Nat),.int .u32 (gr a x.1:Nat),.slice p a.length c,.int .i64 (a.length:Nat),.slice q a.length d,.int .i64 (a.length:Nat),.bool false,undef,undef,undef,undef,undef,.slice p a.length c,.func (.func 288) #[] #[.pointer (some ⟨w.heap.size+2,0,none⟩)],.int .i64 (x.1:Nat),.int .u32 (gr a x.1:Nat),undef,undef,undef,undef,undef,undef,undef,undef,undef,undef,undef,undef],defers:=[] }) ?assign ?body ?done ?stop
 case assign =>
  intro l x W K hK
  gi_wp2
  exact hK
 case body =>
  rintro lo pre x W ⟨⟨hall,hcb,hcr,hfr⟩,hB⟩ _;have hne:b≠[]:=by have h1:=HLEN.out;have h2:=x.2;intro e;rw[e] at h1;simp at h1;simp[h1] at h2
  obtain⟨bb,ob,rfl,hbb,hcells⟩:=ht.at hne;have hxl:=x.2;have hcx:W.cell? ⟨bb,ob+x.1,none⟩=some (.int .u32 (gr b x.1:Nat)):=(hB.cell (p:=⟨bb,ob+x.1,none⟩) hbb).trans (hcells x.1 (by have:=HLEN.out;omega));have a7Z:=bf hall;clear hall hcells;by_cases hx:gr a x.1=gr b x.1
  ·have hd:((gr a x.1:Int) != gr b x.1)=false:=by simp[hx]
   have HX:=bf hx;clear hx
   gi_wp2
   exact⟨KeepsFrom.refl _ _,KB.refl _ _ _,⟨fun y hy=>(tu.1 hy).elim (a7Z.out y) (fun e=>by simp at e;subst e;exact HX.out),hcb,hcr,hfr⟩,hB⟩
  ·have hd:((gr a x.1:Int) != gr b x.1)=true:=by simp;omega
   have HX:=bf hx;clear hx
   gi_wp2_with fail
   refine⟨trivial,?_⟩;refine(CallsIn.inRound lo (callsIn_wide.2 (a4l _ _ _))).mono ?_;rintro e w' ⟨rfl,rfl⟩
   gi_wp2
   exact⟨(ug _ _ _).from _,⟨rfl,pre,x,rfl,a7Z.out,HX.out,Am _ _ _ (by rw[hcr];rfl)⟩,hB.setCell (p:=⟨w.heap.size+1,0,none⟩) (by simp) _⟩
 case done =>
  rintro D ys W hD ⟨hbk,hyl⟩ ⟨⟨hall,_,hcr,hfr⟩,hB⟩ hK;have a7Z:=bf hall;clear hall
  gi_wp2
  have hK':=(ug W ⟨w.heap.size+1,0,none⟩ (.int .i64 0)).same D _ hK rfl;refine⟨by simp,.inl ⟨_,_,rfl,Dv hK',?_⟩⟩;have hc5:=Eo (Am W ⟨w.heap.size+1,0,none⟩ (.int .i64 0) (by rw[hcr];rfl)) (Ep _ D (.deferred none)) (fun r e=>by cases e;exact⟨_,hK',rfl⟩);refine⟨.int .i64 0,?_,kJ ?_,(hB.setCell (p:=⟨w.heap.size+1,0,none⟩) (by simp) _).trans (belowK_b (w:=w) (aj _) _ D _ _ (by simp at hD;omega) hK' rfl rfl)⟩
  ·simp[results,Tryz.results254,go_sem,hc5]
  ·have hab:a=b:=by
    have:=wQ (i:=0) HLEN.out (fun j _=>?_)
    ·simpa using this
    ·by_cases hj:j<a.length
     ·have hm:(⟨a.length-1-(a.length-1-j),by omega⟩:Fin a.length) ∈ ys:=by
       have h1:a.length-1-j<ys.length:=by omega
       have h2:=hbk (a.length-1-j) ys[a.length-1-j] (dw h1);have h3:ys[a.length-1-j]=⟨a.length-1-(a.length-1-j),by omega⟩:=Fin.ext h2;rw[<-h3];exact uq h1
      have:=a7Z.out _ hm;simp only at this;rwa [show a.length-1-(a.length-1-j)=j from by omega] at this
     ·rw[wY (by omega),wY (by have:=HLEN.out;omega)]
   rw[hab];unfold dF;simp
 case stop =>
  rintro D cd pre W hD ⟨hbk,hpl⟩ ⟨⟨rfl,ini,x,rfl,e2,e3,hcr⟩,hB⟩ hK;have HX:=bf e3;have a7Z:=bf e2;clear e3 e2
  gi_wp2
  refine⟨by simp,.inl ⟨_,_,rfl,Dv hK,?_⟩⟩;have hc5:=Eo hcr (Ep _ D (.deferred none)) (fun r e=>by cases e;exact⟨_,hK,rfl⟩);refine⟨.int .i64 (dF (gr a x.1) (gr b x.1)),?_,kJ ?_,hB.trans (belowK_b (w:=w) (aj _) W D _ _ (by simp at hD;omega) hK rfl rfl)⟩
  ·simp[results,Tryz.results254,go_sem,hc5]
  ·have hx:x.1=a.length-1-ini.length:=hbk ini.length x (by simp);have hil:ini.length<a.length:=by simp at hpl;omega
   have hdr:a.drop (x.1+1)=b.drop (x.1+1):=by
    refine wQ HLEN.out (fun j hj=>?_);by_cases hj2:j<a.length
    ·have h1:a.length-1-j<ini.length:=by omega
     have h2:=hbk (a.length-1-j) ini[a.length-1-j] (by rw[Ak h1];exact dw h1);have h4:=a7Z.out _ (uq h1);rw[h2] at h4;rwa [show a.length-1-(a.length-1-j)=j from by omega] at h4
    ·rw[wY (by omega),wY (by have:=HLEN.out;omega)]
   have hne:=HX.out;unfold dF;rcases Ad (gr a x.1) (gr b x.1) with h|h
   ·have:=EZ ha (by rw[hdr]) h;rw[dn (by omega),dn (by omega)]
   ·have:=EZ (i:=x.1) hb (by rw[hdr]) (show gr b x.1<gr a x.1 by omega);rw[bn (by omega),dn (by omega),bn (by omega),dn (by omega)]
theorem lQ (s t:Value) (a b:List Nat) (w:World) (hs:Rd w s a) (ht:Rd w t b) (ha:Canon a) (hb:Canon b) :
  Calls Tryz.prog 254 #[s,t] w fun e w'=>e=.returned (.int .i64 (dF (val a) (val b)))/\Below w.heap.size w w':=by
 by_cases h:a.length=b.length
 ·obtain⟨p,c,rfl,_,_⟩:=hs.form;obtain⟨q,d,rfl,_,_⟩:=ht.form;rw[<-h] at ht ⊢;exact callsIn_wide.1 (WO a b p q c d w hs ht ha.1 hb.1 h)
 ·exact a4m s t a b w hs ht ha hb h
end
def IL (L:Array Bool):Nat:=(L.toList.filter (! ·)).length
theorem zD {L:Array Bool} {i:Nat} (hi:L.getD i true=false):IL (L.setIfInBounds i true)+1=IL L:=by
 unfold IL;rw[Array.toList_setIfInBounds];have h:L.toList[i]?=some false:=by
  rw[Array.getElem?_toList];rw[jm] at hi;cases he:L[i]? with
  | none=>rw[he] at hi;simp at hi
  | some b=>rw[he] at hi;simp at hi;rw[hi]
 generalize L.toList=l at *
 clear hi
 induction l generalizing i with
 | nil=>simp at h
 | cons b l ih =>
  cases i with
  | zero=>simp at h;subst h;simp
  | succ i =>
   simp at h;have:=ih h;rw[List.set_cons_succ];cases b<;>simp at this ⊢<;>omega
def uI (md:Region.Mode) (ops:Array Oper):Bool:=ops.toList.zipIdx.all fun(o,i)=>o.after.all fun e=>!Region.binds md e || decide (e.on<i)
theorem ET {md:Region.Mode} {ops:Array Oper} {L:Array Bool} {i:Nat} (h:i ∈ Region.ready md ops L) :
  ∃ o,ops[i]?=some o/\L.getD i true=false/\∀ e ∈ o.after,Region.binds md e=true->L.getD e.on false=true:=by
 unfold Region.ready at h;rw[List.mem_filter] at h;obtain⟨h1,h2⟩:=h;cases ho:ops[i]? with
 | none=>rw[ho] at h2;simp at h2
 | some o =>
  rw[ho] at h2;simp only[Option.map_some,Option.getD_some,ay,zq] at h2;refine⟨o,rfl,h2.1,fun e he hb=>?_⟩;have:=Array.all_eq_true_iff_forall_mem.1 h2.2 e he;simpa [hb] using this
theorem pO {md:Region.Mode} {ops:Array Oper} {L:Array Bool} (hd:uI md ops=true) (h:Region.ready md ops L=[]):∀ i,i<ops.size->L.getD i true=true:=by
 intro i
 induction i using Nat.strongRecOn with
 | _ i ih =>
  intro hi;cases hl:L.getD i true with
  | true=>rfl
  | false =>
   exfalso;have hm:i ∈ Region.ready md ops L:=by
    unfold Region.ready;rw[List.mem_filter];refine⟨oq.2 hi,?_⟩;have ho:ops[i]?=some ops[i]:=Ap hi;rw[hl,ho];simp only[Bool.not_false,Option.map_some,Option.getD_some,Bool.true_and];rw[Array.all_eq_true_iff_forall_mem];intro e he;unfold uI at hd;rw[zh] at hd;have h1:=hd (ops[i],i) (by rw[List.mem_zipIdx_iff_getElem?];simp);have h2:=Array.all_eq_true_iff_forall_mem.1 h1 e he;cases hb:Region.binds md e with
    | false=>simp
    | true =>
     simp only[hb,Bool.not_true,Bool.false_or,jc] at h2 ⊢;have h3:=ih e.on h2 (by omega);rw[jm] at h3 ⊢;have:e.on<L.size:=by
      rcases Ad e.on L.size with h4|h4
      ·exact h4
      ·exfalso;rw[jm,Array.getElem?_eq_none (by omega)] at hl;simp at hl
     rw[Ap this] at h3 ⊢;simpa using h3
   rw[h] at hm;simp at hm
theorem a3W {F:Fence} {n:Nat} {P:Program} {md:Region.Mode} {ops:Array Oper} {Q:Exit->Act->World->Prop} (I:Array Bool->Act->World->Prop) (hd:uI md ops=true)
  (hend:∀ L a w,I L a w->(∀ i,i<ops.size->L.getD i true=true)->Q .normal a w)
  (hstep:∀ L a w i o,I L a w->ops[i]?=some o->L.getD i true=false->(∀ e ∈ o.after,Region.binds md e=true->L.getD e.on false=true)->wpOpIn F n P ops Q i (I (L.setIfInBounds i true)) a w) :
  ∀ fuel L a w,IL L<=fuel->I L a w->wpAnyIn F n P md ops Q fuel L a w:=by
 intro fuel
 induction fuel with
 | zero =>
  intro L a w hu hI;have hn:Region.ready md ops L=[]:=by
   cases hr:Region.ready md ops L with
   | nil=>rfl
   | cons i r =>
    exfalso;obtain⟨o,_,h2,_⟩:=ET (by rw[hr];exact je);have:=zD h2;omega
  exact⟨hn,hend L a w hI (pO hd hn)⟩
 | succ fuel ih =>
  intro L a w hu hI;refine⟨fun hn=>hend L a w hI (pO hd hn),fun i hi=>?_⟩;obtain⟨o,h1,h2,h3⟩:=ET hi;refine wpOpIn_mono (fun a' w' h'=>ih _ _ _ ?_ h') (hstep L a w i o hI h1 h2 h3);have:=zD h2;omega
theorem WA (n:Nat):IL (Array.replicate n false)=n:=by simp[IL]
theorem wX {L:Array Bool} {i:Nat} (h:L.getD i true=false):(L.setIfInBounds i true).getD i false=true:=by
 have hi:i<L.size:=by
  rcases Ad i L.size with h1|h1
  ·exact h1
  ·rw[jm,Array.getElem?_eq_none (by omega)] at h;simp at h
 rw[jm,Array.getElem?_setIfInBounds_self_of_lt hi];rfl
theorem pX {L:Array Bool} {i j:Nat} (h:i≠j):(L.setIfInBounds i true).getD j false=L.getD j false:=by rw[jm,Array.getElem?_setIfInBounds_ne h,<-jm]
theorem JU (n j:Nat):(Array.replicate n false).getD j false=false:=by rw[jm,Array.getElem?_replicate];split<;>rfl
theorem FY {L:Array Bool} {i:Nat} (h:L.getD i true=false):L.getD i false=false:=by
 rw[jm] at *
 cases hl:L[i]? with
 | none=>rfl
 | some b=>rw[hl] at h;simpa using h
theorem yL {L:Array Bool} {i n:Nat} (hn:L.size=n) (hi:i<n) (h:L.getD i true=true):L.getD i false=true:=by
 rw[jm] at *
 have:i<L.size:=by omega
 rw[Ap this] at *
 simpa using h
theorem wpList_append_lies {P:Program} {w:World} {ops:Array Oper} {rest:List Oper} {o:Oper} {a:Act} {Q:Exit->Act->World->Prop} (hgd:o.guard=none) (s x:Operand) (t:TypeId)
  (ho:o.op=.call { callee:=.builtin .append,args:=#[s,x],argTypes:=#[t,t] })
  (base:Nat) (e:TypeId) (i:TypeInfo) (z:Value) (size bytes:Nat) (ht:P.underlying t=some (.slice e)) (hi:P.info? e=some i) (hz:i.zero=some z)
  (hsize:i.size=size) (hby:i.bytes=bytes) (hzs:z.cells.size=size) (hsz:0<size)
  (v:Value) (n:Nat) (xs:List Value) (hs:a.eval s=v) (hown:w.ownsRow base e size v n xs)
  (ad:Addr) (m c:Nat) (news:List Value) (hx:a.eval x=.slice (some ad) m c) (hl:news.length=m*size) (hnews:∀ j u,news[j]?=some u->w.cell? (ad.add j)=some u) (h1:∀ u ∈ news,u.oneCell'=true)
  (hm:0<m) (h63:n+m<=maxLen) (hbytes:(n+m)*bytes<=140737488355328) (hbase:base<=w.heap.size)
  (h:∀ g cap w',w'.ownsRow base e size (.slice (some ⟨g,0,none⟩) (n+m) cap) (n+m) (xs++news)->w.grownBy w' v.ownBlock->(v.ownBlock=some g\/g=w.heap.size)->g<w'.heap.size->wpList P ops Q rest (a.put o.dst (.slice (some ⟨g,0,none⟩) (n+m) cap)) w') :
  wpList P ops Q (o::rest) a w :=
 wpList_plain hgd fun K hK=>wp_append_lies w s x t ho base e i z size bytes ht hi hz hsize hby hzs hsz v n xs hs hown ad m c news hx hl hnews h1 hm h63 hbytes hbase w.heap.size rfl
  fun g cap w' a1 a2 a3 a4=>hK _ _ (h g cap w' a1 a2 a3 a4)
theorem uK {w:World} {base base':Nat} {e:TypeId} {size:Nat} {v:Value} {n:Nat} {xs:List Value} (h:w.ownsRow base e size v n xs) (hb:base'<=base):w.ownsRow base' e size v n xs:=by
 obtain⟨h1,h2⟩:=h;refine⟨h1,?_⟩;rcases h2 with h2|⟨g,cap,cur,hv,hg,r⟩
 ·exact .inl h2
 ·exact .inr ⟨g,cap,cur,hv,by omega,r⟩
theorem a4N {w w':World} {base B:Nat} {e:TypeId} {size:Nat} {v:Value} {n:Nat} {xs:List Value} (h:w.ownsRow base e size v n xs) (hb:RowKit.Below B w w') (hB:∀ g,v.ownBlock=some g->g<B):w'.ownsRow base e size v n xs:=by
 obtain⟨h1,h2⟩:=h;refine⟨h1,?_⟩;rcases h2 with h2|⟨g,cap,cur,hv,hg,hh,r⟩
 ·exact .inl h2
 ·exact .inr ⟨g,cap,cur,hv,hg,by rw[hb.block g (hB g (by rw[hv];rfl))];exact hh,r⟩
theorem kH {w w':World} {base:Nat} {e:TypeId} {size:Nat} {v:Value} {n:Nat} {xs:List Value} (h:w.ownsRow base e size v n xs) (hb:RowKit.Below w.heap.size w w'):w'.ownsRow base e size v n xs :=
 a4N h hb fun g hg=>(h.lt g hg).2
theorem NP {w:World} {base:Nat} {e:TypeId} {size:Nat} {v:Value} {n:Nat} {xs:List Value} (h:w.ownsRow base e size v n xs) (hn:n≠0):∃ g cap,v=.slice (some ⟨g,0,none⟩) n cap/\base<=g/\g<w.heap.size/\n<=cap:=by
 rcases h.2 with⟨_,h0⟩|⟨g,cap,cur,hv,hg,hh,hc,_⟩
 ·exact absurd h0 hn
 ·exact⟨g,cap,hv,hg,(Ah.1 hh).1,hc⟩
theorem qG {w:World} {base:Nat} {e:TypeId} {size:Nat} {v:Value} {n:Nat} {xs:List Value} (h:w.ownsRow base e size v n xs) {a:Addr} (ha:v.ownBlock≠some a.block) (u:Value):(w.setCell a u).ownsRow base e size v n xs :=
 h.kept (row:=some a.block) ⟨rfl,rfl,rfl,by simp[World.setCell],fun k hk hne=>RowKit.Below.heap_setCell _ _ _ _ (by intro e;exact hne (by rw[e]))⟩ (.inr ha)
end Go.Proofs.YtbkocjmmbkifjaaGreat
