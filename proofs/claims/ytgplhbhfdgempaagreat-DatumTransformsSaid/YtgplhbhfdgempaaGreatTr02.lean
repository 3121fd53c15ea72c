/-
  Lemmas for the theorem vtransforms_holds, part 2 of 39.
-/
import Derived.LoopIn
import Derived.LoopNIn
import Derived.OwnWalkIn
import Derived.RangeFuncBound
import Derived.RangeFuncBox
import Derived.RangeFuncCalls
import Derived.RangeFuncLeaves
import Derived.RangeFuncNested
import Derived.RangeFuncWrites
import Derived.Shelf.Abstract
import Derived.Shelf.RegionOpen
import Derived.TacticsInMore
import Derived.Test.YtgplhbhfdgempaaGreatTr01
namespace Go.Proofs.YtgplhbhfdgempaaGreat
open Go Go.RowKit
theorem jd:type_of% @List.take_of_length_le:=@List.take_of_length_le
theorem uf:type_of% @Nat.mul_le_mul:=@Nat.mul_le_mul
theorem Dx:type_of% @wpList_make_full:=@wpList_make_full
theorem yj:type_of% @Nat.eq_zero_or_pos:=@Nat.eq_zero_or_pos
theorem Df:type_of% @List.size_toArray:=@List.size_toArray
theorem Dq:type_of% @Array.replicate_succ:=@Array.replicate_succ
theorem Dz:type_of% @List.append_toArray:=@List.append_toArray
theorem Cj:type_of% @World.cell?_of_block:=@World.cell?_of_block
theorem Ak:type_of% @List.getElem?_append_left:=@List.getElem?_append_left
theorem Bc:type_of% @List.drop_eq_getElem_cons:=@List.drop_eq_getElem_cons
theorem Eb:type_of% @Nat.add_comm:=@Nat.add_comm
theorem Ea:type_of% @KeepsOthers.setCell:=@KeepsOthers.setCell
theorem Dt:type_of% @World.cell?_setCell_same':=@World.cell?_setCell_same'
theorem Cb:type_of% @World.frozen?_setCell:=@World.frozen?_setCell
set_option linter.unusedVariables false
theorem bI (l:List Nat) (k:Nat):val (l.take (k+1))=val (l.take k)+BB ^ k*gr l k:=by
 by_cases h:k<l.length
 ·rw[List.take_succ_eq_append_getElem h,val_append,jm,yw (by omega),qQ h]
  simp[dH]
 ·rw[wP (by omega),jd (by omega),jd (by omega)]
  simp
theorem fF {l:List Nat} {k:Nat} (h:l.length<=k):val (l.take k)=val l:=by rw[jd h]
theorem gJ {l:List Nat} {k v:Nat} (h:k<l.length):(l.set k v).take (k+1)=l.take k++[v]:=by
 rw[List.take_succ_eq_append_getElem (by simpa using h)]
 simp[List.take_set_of_le]
structure oI (a b o:List Nat) (n k c:Nat):Prop where
 len:o.length=n
 low:Low (o.take k)
 vl:val (o.take k)+BB ^ k*c=val (a.take k)+val (b.take k)
 car:c<=1
theorem oI.zero (a b:List Nat) (n:Nat):oI a b (List.replicate n 0) n 0 0:=⟨by simp,by simp[Low.nil],by simp,by omega⟩
theorem oI.TS {a b o:List Nat} {n k c:Nat} (h:oI a b o n k c) (hk:k<n) (hs:gr a k+gr b k+c<1000000000):oI a b (o.set k (gr a k+gr b k+c)) n (k+1) 0:=by
 have hl:k<o.length:=by rw[h.len];exact hk
 refine⟨by simp[h.len],?_,?_,by omega⟩
 ·rw[gJ hl];exact Low.append.2 ⟨h.low,Low.cons.2 ⟨hs,Low.nil⟩⟩
 ·rw[gJ hl,val_append,bI,bI,jm,yw (by omega)]
  have:=h.vl
  simp only[dH,tX]
  grind
theorem oI.MG {a b o:List Nat} {n k c s:Nat} (h:oI a b o n k c) (ha:gr a k<1000000000) (hb:gr b k<1000000000) (hk:k<n) (hs:gr a k+gr b k+c=s+1000000000):oI a b (o.set k s) n (k+1) 1:=by
 have hl:k<o.length:=by rw[h.len];exact hk
 have hc:=h.car
 refine⟨by simp[h.len],?_,?_,by omega⟩
 ·rw[gJ hl];exact Low.append.2 ⟨h.low,Low.cons.2 ⟨by rw[dG];omega,Low.nil⟩⟩
 ·rw[gJ hl,val_append,bI,bI,jm,yw (by omega),Nat.pow_succ]
  have:=h.vl
  simp only[dH,tX,dG] at *
  have e:1000000000 ^ k*(gr a k+gr b k+c)=1000000000 ^ k*(s+1000000000):=by rw[hs]
  grind
theorem oI.done {a b o:List Nat} {n c:Nat} (ha:Low a) (hb:Low b) (h:oI a b o n n c) (h1:a.length<n) (h2:b.length<n):Low o/\val o=val a+val b:=by
 have ho:o.take n=o:=jd (by rw[h.len];exact aj _)
 have hv:=h.vl
 have hl:=h.low
 rw[ho] at hl hv
 rw[fF (by omega),fF (by omega)] at hv
 refine⟨hl,?_⟩
 have e1:val a<BB ^ (n-1):=ku (qH ha) (wz jL (by omega))
 have e2:val b<BB ^ (n-1):=ku (qH hb) (wz jL (by omega))
 have e3:BB ^ n=BB ^ (n-1)*BB:=by rw[<-Nat.pow_succ];congr 1;omega
 have hc:c=0\/c=1:=by have:=h.car;omega
 rcases hc with rfl|rfl
 ·simpa using hv
 ·rw[e3,dG] at hv
  rw[dG] at e1 e2
  omega
structure lM (a b o:List Nat) (n k c:Nat):Prop where
 len:o.length=n
 low:Low (o.take k)
 vl:val (o.take k)+val (b.take k)=val (a.take k)+BB ^ k*c
 car:c<=1
theorem lM.zero (a b:List Nat) (n:Nat):lM a b (List.replicate n 0) n 0 0:=⟨by simp,by simp[Low.nil],by simp,by omega⟩
theorem lM.TS {a b o:List Nat} {n k c s:Nat} (h:lM a b o n k c) (ha:gr a k<1000000000) (hk:k<n) (hs:gr a k=s+(gr b k+c)):lM a b (o.set k s) n (k+1) 0:=by
 have hl:k<o.length:=by rw[h.len];exact hk
 refine⟨by simp[h.len],?_,?_,by omega⟩
 ·rw[gJ hl];exact Low.append.2 ⟨h.low,Low.cons.2 ⟨by rw[dG];omega,Low.nil⟩⟩
 ·rw[gJ hl,val_append,bI,bI,jm,yw (by omega)]
  have:=h.vl
  simp only[dH,tX]
  have e:BB ^ k*gr a k=BB ^ k*(s+(gr b k+c)):=by rw[hs]
  grind
theorem lM.MG {a b o:List Nat} {n k c s:Nat} (h:lM a b o n k c) (hb:gr b k<1000000000) (hk:k<n) (hlt:gr a k<gr b k+c) (hs:gr a k+1000000000=s+(gr b k+c)):lM a b (o.set k s) n (k+1) 1:=by
 have hl:k<o.length:=by rw[h.len];exact hk
 have hc:=h.car
 refine⟨by simp[h.len],?_,?_,by omega⟩
 ·rw[gJ hl];exact Low.append.2 ⟨h.low,Low.cons.2 ⟨by rw[dG];omega,Low.nil⟩⟩
 ·rw[gJ hl,val_append,bI,bI,jm,yw (by omega),Nat.pow_succ]
  have:=h.vl
  simp only[dH,tX,dG] at *
  have e:1000000000 ^ k*(gr a k+1000000000)=1000000000 ^ k*(s+(gr b k+c)):=by rw[hs]
  grind
theorem lM.done {a b o:List Nat} {n c:Nat} (h:lM a b o n n c) (h1:a.length<=n) (h2:b.length<=n) (hle:val b<=val a):Low o/\val o=val a-val b:=by
 have ho:o.take n=o:=jd (by rw[h.len];exact aj _)
 have hv:=h.vl
 have hl:=h.low
 rw[ho] at hl hv
 rw[fF (by omega),fF (by omega)] at hv
 refine⟨hl,?_⟩
 have e1:val o<BB ^ n:=by have:=qH hl;rwa [h.len] at this
 have hc:c=0\/c=1:=by have:=h.car;omega
 rcases hc with rfl|rfl
 ·omega
 ·rw[dG] at hv e1
  omega
theorem CG {l:List Nat} {k m v:Nat} (h:k<l.length):gr (l.set k v) m=if m=k then v else gr l m:=by
 unfold gr
 rw[bf,bf,List.getElem?_set]
 by_cases e:k=m
 ·subst e;simp[h]
 ·simp[e,Ne.symm e]
theorem low_set {l:List Nat} {k v:Nat} (h:Low l) (hv:v<1000000000):Low (l.set k v):=by
 intro g hg
 rcases List.mem_or_eq_of_mem_set hg with h1|h1
 ·exact h g h1
 ·subst h1;rw[dG];exact hv
theorem a3n {l:List Nat} {k m v:Nat} (h:m<=k):(l.set k v).take m=l.take m:=by
 simp[List.take_set_of_le h]
structure nT (a b o:List Nat) (n i:Nat):Prop where
 len:o.length=n
 low:Low o
 zero:∀ m,i+b.length<=m->gr o m=0
 vl:val (o.take (i+b.length))=val (a.take i)*val b
structure nD (o0 b o:List Nat) (n i p j c:Nat):Prop where
 len:o.length=n
 low:Low o
 same:∀ m,i+j<=m->gr o m=gr o0 m
 vl:val (o.take (i+j))+BB ^ (i+j)*c=val (o0.take (i+j))+BB ^ i*p*val (b.take j)
 car:c<1000000000
theorem JX (n m:Nat):gr (List.replicate n 0) m=0:=by
 unfold gr
 rw[bf,List.getElem?_replicate]
 split<;>rfl
theorem YZ (n:Nat):val (List.replicate n 0)=0:=by
 induction n with
 | zero=>rfl
 | succ n ih=>rw[List.replicate_succ,dH,ih];simp
theorem nT.start (a b:List Nat) (n:Nat):nT a b (List.replicate n 0) n 0 :=
 ⟨by simp,fun g hg=>by rw[(List.mem_replicate.1 hg).2];exact jL,fun m _=>JX n m,by rw[List.take_replicate,YZ];simp⟩
theorem nD.start {o0 b:List Nat} {n i p:Nat} (h1:o0.length=n) (h2:Low o0):nD o0 b o0 n i p 0 0:=⟨h1,h2,fun _ _=>rfl,by simp,by omega⟩
theorem nD.step {o0 b o:List Nat} {n i p j c:Nat} (h:nD o0 b o n i p j c) (hp:p<1000000000) (hq:gr b j<1000000000) (hk:i+j<n) :
  nD o0 b (o.set (i+j) ((gr o (i+j)+p*gr b j+c)%1000000000)) n i p (j+1) ((gr o (i+j)+p*gr b j+c) / 1000000000):=by
 have hl:i+j<o.length:=by rw[h.len];exact hk
 have hc:=h.car
 have hg:=IG h.low (i+j)
 have hm:p*gr b j<=999999999*999999999:=uf (by omega) (by omega)
 refine⟨by simp[h.len],low_set h.low (yg _ (by omega)),?_,?_,by omega⟩
 ·intro m hm
  rw[CG hl,ig (by omega)]
  exact h.same m (by omega)
 ·have e1:=h.vl
  have e2:=h.same (i+j) (aj _)
  have e3:=bI o0 (i+j)
  have e4:=bI b j
  rw[show i+(j+1)=(i+j)+1 from by omega,gJ hl,val_append,jm,yw (by omega),e3,e4,<-e2]
  simp only[dH,tX]
  have e5:=Nat.mod_add_div (gr o (i+j)+p*gr b j+c) 1000000000
  generalize (gr o (i+j)+p*gr b j+c)%1000000000=r at *
  generalize (gr o (i+j)+p*gr b j+c) / 1000000000=d at *
  rw[Nat.pow_succ,Dy] at *
  rw[dG] at *
  have e6:1000000000 ^ i*1000000000 ^ j*(r+1000000000*d)=1000000000 ^ i*1000000000 ^ j*(gr o (i+j)+p*gr b j+c):=by rw[e5]
  grind
theorem nD.done {a b o0 o:List Nat} {n i c:Nat} (h0:nT a b o0 n i) (h:nD o0 b o n i (gr a i) b.length c) (hi:i+b.length<n):nT a b (o.set (i+b.length) c) n (i+1):=by
 have hl:i+b.length<o.length:=by rw[h.len];exact hi
 refine⟨by simp[h.len],low_set h.low h.car,?_,?_⟩
 ·intro m hm
  rw[CG hl,ig (by omega),h.same m (by omega)]
  exact h0.zero m (by omega)
 ·have e1:=h.vl
  have e2:=h0.vl
  have e3:=bI a i
  rw[show i+1+b.length=(i+b.length)+1 from by omega,gJ hl,val_append,jm,yw (by omega),e3]
  rw[fF (aj b.length)] at e1
  simp only[dH,tX]
  grind
theorem nT.done {a b o:List Nat} {n:Nat} (h:nT a b o n a.length) (hn:n=a.length+b.length):val o=val a*val b:=by
 have:=h.vl
 rwa [jd (by rw[h.len];omega),fF (aj _)] at this
set_option maxRecDepth 100000
set_option maxHeartbeats 400000
set_option linter.unusedSimpArgs false
theorem LU (s:Value) (l:List Nat) (k:Nat) (w:World) (hs:Rd w s l) :
  Calls Tryz.prog 191 #[s,.int .i64 (k:Nat)] w fun e w'=>e=.returned (.int .u32 (gr l k:Nat))/\w=w':=by
 have:=a8z s l k w hs (by omega)
 rwa [Int.toNat_natCast] at this
theorem gV (l:List Nat) (k v:Nat):(cells32 l).set k (.int .u32 (v:Nat))=cells32 (l.set k v):=by simp[cells32,List.map_set]
theorem fO {l:List Nat} {k:Nat} (h:k<l.length):(cells32 l)[k]?=some (.int .u32 (gr l k:Nat)):=by simp[cells32,qQ h,h]
theorem kE (n:Nat):(madeCells #[Value.int .u32 0] n).toList=cells32 (List.replicate n 0):=by
 rw[toList_madeCells_one]
 simp[cells32]
theorem NM (p:Option Addr) (c n:Nat) (l:List Nat) (w:World) (hs:Rd w (.slice p n c) l) (hl:Low l) (hn:l.length=n) :
  Calls Tryz.prog 179 #[.slice p n c] w fun e w'=>e=.returned (.slice p (fZ l).length c)/\w=w':=by
 subst hn
 exact VG p c l w hs hl
theorem KP {w:World} {base:Nat} {e:TypeId} {g n cap:Nat} {xs:List Value} (h:w.ownsRow base e 1 (.slice (some ⟨g,0,none⟩) n cap) n xs) {m:Nat} (hm:m<=n) :
  w.ownsRow base e 1 (.slice (some ⟨g,0,none⟩) m cap) m (xs.take m):=by
 obtain⟨h1,h2⟩:=h
 rcases h2 with⟨h2,_⟩|⟨g',cap',cur,h3,h4,h5,h6,h7,h8,h9⟩
 ·cases h2
 ·cases h3
  refine⟨by rw[jm,h1];omega,.inr ⟨g,cap,cur,rfl,h4,h5,by omega,h7,h8,?_⟩⟩
  rw[<-h9,List.take_take]
  congr 1
  omega
theorem uF {w:World} {base g n cap:Nat} {o:List Nat} (h:w.ownsRow base 133 1 (.slice (some ⟨g,0,none⟩) n cap) n (cells32 o)) (hl:Low o) (hn:o.length=n) :
  w.ownsRow base 133 1 (.slice (some ⟨g,0,none⟩) (fZ o).length cap) (fZ o).length (cells32 (fZ o)):=by
 have:=KP h (m:=(fZ o).length) (by have:=zQ hl;omega)
 have e:cells32 (fZ o)=(cells32 o).take (fZ o).length:=by
  rw[cells32,cells32,<-List.map_take,<-YV hl]
 rw[e];exact this
theorem a2G (s t:Value) (a b:List Nat) (w:World) (hs:Rd w s a) (ht:Rd w t b) (ha:Low a) (hb:Low b) (la:a.length<=1000000000) (lb:b.length<=1000000000) :
  Calls Tryz.prog 187 #[s,t] w (b2o (dig (val a+val b)) w):=by
 obtain⟨i0,hi,hz0,hz1,hz2⟩:=Aj iZ
 obtain⟨p,c,rfl,_,_⟩:=hs.form
 obtain⟨q,d,rfl,_,_⟩:=ht.form
 have HA:=bn ha
 have HB:=bn hb
 clear ha hb
 obtain⟨m,hm⟩:∃ m:Nat,(if a.length<b.length then (b.length:Int) else a.length)=m:=⟨max a.length b.length,by split<;>omega⟩
 have n1:a.length<m+1:=by split at hm<;>omega
 have n2:b.length<m+1:=by split at hm<;>omega
 have n3:m<=1000000000:=by split at hm<;>omega
 go_enter Tryz.func187,Tryz.ntmps187
 go_wp2_with (at_make;refine Dx _ rfl _ _ 60 rfl w.heap.size 133 i0 (.int .u32 0) 1 jo hi hz0 hz1 _ _ _ _ (m+1) rfl rfl (by omega) (by omega) (by rw[hz2];omega) (by unfold maxLen;omega) (aj _) ?_)
 intro w1 hown hgrow
 rw[kE] at hown
 have hB1:Below w.heap.size w w1:=(dn _ _).grown hgrow (aj _) (fun k e=>by cases e)
 clear hgrow hm
 go_wp2
 go_loopw [6,7,8,18,19,20,21,22,23,24,25,26,27,28,29,30,31,32,33,34,35,36,37,38] (fun c _ _ i _ _ _ _ _ _ _ _ _ _ _ _ _ _ _ _ _ _ _ _ wr=>∃ (k e:Nat) (o:List Nat),k<=m+1/\i=.int .i64 (k:Nat)/\c=.int .u32 (e:Nat)/\oI a b o (m+1) k e /\
   wr.ownsRow w.heap.size 133 1 (.slice (some ⟨w.heap.size,0,none⟩) (m+1) (m+1)) (m+1) (cells32 o)/\Below w.heap.size w wr)
  (fun _ _ _ i _ _ _ _ _ _ _ _ _ _ _ _ _ _ _ _ _ _ _ _ _=>m+1-(intOf i).toNat)
 case atStart=>exact⟨0,0,_,by omega,rfl,rfl,oI.zero _ _ _,hown,hB1⟩
 case round =>
  obtain⟨k,e,o,hk,rfl,rfl,hI,hO,hB⟩:=hrel
  by_cases hlt:k<m+1
  ·have ga:gr a k<=999999999:=iJ HA.out k
   have gb:gr b k<=999999999:=iJ HB.out k
   have gc:=hI.car
   have hcl:wr.cell? ⟨w.heap.size,k,none⟩=some (.int .u32 (gr o k:Nat)):=by
    rw[hO.cellAt k (by omega)];exact fO (by rw[hI.len];exact hlt)
   have hfr:=hO.frozenAt k
   by_cases hsm:gr a k+gr b k+e<=999999999
   ·have hN:=hI.TS hlt (by omega)
    have hd:decide ((1000000000:Int)<=gr a k+gr b k+e)=false:=by simp;omega
    go_wp2_with fail
    refine(LU _ a k _ (hs.below hB)).mono ?_
    rintro e w' ⟨rfl,rfl⟩
    go_wp2_with fail
    refine(LU _ b k _ (ht.below hB)).mono ?_
    rintro e w' ⟨rfl,rfl⟩
    dsimp only
    go_wp2
    have hst:=hO.stored k (.int .u32 (gr a k+gr b k+e:Nat))
    rw[gV] at hst
    go_roundw
    case rel=>exact⟨k+1,0,_,by omega,by go_num,rfl,hN,hst.1,hB.setCell (p:=⟨w.heap.size,k,none⟩) (aj _) _⟩
    case measure=>simp[intOf];omega
   ·obtain⟨r,hr⟩:∃ r,gr a k+gr b k+e=r+1000000000:=⟨gr a k+gr b k+e-1000000000,by omega⟩
    have hN:=hI.MG (by omega) (by omega) hlt hr
    have HR:=bn hr
    have hrw:IntKind.u32.wrap ((gr a k:Int)+gr b k+e-1000000000)=r:=by simp[IntKind.wrap,IntKind.bits,IntKind.signed];omega
    clear hr
    have hd:decide ((1000000000:Int)<=gr a k+gr b k+e)=true:=by simp;omega
    go_wp2_with fail
    refine(LU _ a k _ (hs.below hB)).mono ?_
    rintro e w' ⟨rfl,rfl⟩
    go_wp2_with fail
    refine(LU _ b k _ (ht.below hB)).mono ?_
    rintro e w' ⟨rfl,rfl⟩
    dsimp only
    go_wp2
    have hst:=hO.stored k (.int .u32 (r:Nat))
    rw[gV] at hst
    go_roundw
    case rel=>exact⟨k+1,1,_,by omega,by go_num,rfl,hN,hst.1,hB.setCell (p:=⟨w.heap.size,k,none⟩) (aj _) _⟩
    case measure=>simp[intOf];omega
  ·obtain rfl:k=m+1:=by omega
   obtain⟨hl,hv⟩:=hI.done HA.out HB.out n1 n2
   have HV:Hid (fZ o=dig (val a+val b)):=by unfold Hid fZ;rw[hv]
   clear hv
   go_wp2_with (go_at_call 179;refine(NM _ _ _ o _ (Rd.dO (by rw[hI.len];exact hO)) hl hI.len).mono ?_;rintro e w' ⟨rfl,rfl⟩)
   go_ret
   exact⟨_,rfl,by rw[<-HV.out];exact uF hO hl hI.len,hB⟩
theorem Rd.at {w:World} {p:Option Addr} {n c:Nat} {l:List Nat} (h:Rd w (.slice p n c) l) (hl:l≠[]):∃ b o,p=some ⟨b,o,none⟩/\b<w.heap.size/\∀ i,i<l.length->w.cell? ⟨b,o+i,none⟩=some (.int .u32 (gr l i:Nat)):=by
 rcases h with⟨_,_,h⟩|⟨b,o,c',h1,h2,h3,h4,h5⟩
 ·exact absurd h hl
 ·cases h1
  exact⟨b,o,rfl,h4,h5⟩
theorem MX (s t:Value) (a b:List Nat) (w:World) (hs:Rd w s a) (ht:Rd w t b) (ha:Low a) (hb:Low b) (la:a.length<=1000000000) (lb:b.length<=a.length) (hle:val b<=val a) :
  Calls Tryz.prog 188 #[s,t] w (b2o (dig (val a-val b)) w):=by
 obtain⟨i0,hi,hz0,hz1,hz2⟩:=Aj iZ
 obtain⟨p,c,rfl,_,_⟩:=hs.form
 obtain⟨q,d,rfl,_,_⟩:=ht.form
 have HA:=bn ha
 have HB:=bn hb
 have HLE:=bn hle
 clear ha hb hle
 go_enter Tryz.func188,Tryz.ntmps188
 go_wp2_with (at_make;refine Dx _ rfl _ _ 60 rfl w.heap.size 133 i0 (.int .u32 0) 1 jo hi hz0 hz1 _ _ _ _ a.length rfl rfl (by omega) (by omega) (by rw[hz2];omega) (by unfold maxLen;omega) (aj _) ?_)
 intro w1 hown hgrow
 rw[kE] at hown
 have hB1:Below w.heap.size w w1:=(dn _ _).grown hgrow (aj _) (fun k e=>by cases e)
 clear hgrow
 go_wp2
 go_loopw [6,7,8,14,15,16,17,18,19,20,21,22,23,24,25,26,27,28,29,30,31,32,33,34,35,36,37,38,39,40,41,42,43,44,45,46,47] (fun c _ _ i _ _ _ _ _ _ _ _ _ _ _ _ _ _ _ _ _ _ _ _ _ _ _ _ _ _ _ _ _ _ _ _ _ wr=>∃ (k e:Nat) (o:List Nat),k<=a.length/\i=.int .i64 (k:Nat)/\c=.int .u32 (e:Nat)/\lM a b o a.length k e /\
   wr.ownsRow w.heap.size 133 1 (.slice (some ⟨w.heap.size,0,none⟩) a.length a.length) a.length (cells32 o)/\Below w.heap.size w wr)
  (fun _ _ _ i _ _ _ _ _ _ _ _ _ _ _ _ _ _ _ _ _ _ _ _ _ _ _ _ _ _ _ _ _ _ _ _ _ _=>a.length-(intOf i).toNat)
 case atStart=>exact⟨0,0,_,by omega,rfl,rfl,lM.zero _ _ _,hown,hB1⟩
 case round =>
  obtain⟨k,e,o,hk,rfl,rfl,hI,hO,hB⟩:=hrel
  by_cases hlt:k<a.length
  ·have ga:gr a k<=999999999:=iJ HA.out k
   have gb:gr b k<=999999999:=iJ HB.out k
   have gc:=hI.car
   obtain⟨ba,oa,rfl,hba,hca⟩:=hs.at (by intro e;subst e;simp at hlt)
   have hcell:wr.cell? ⟨ba,oa+k,none⟩=some (.int .u32 (gr a k:Nat)):=(hB.cell (p:=⟨ba,oa+k,none⟩) hba).trans (hca k hlt)
   have HCA:=bn hca
   clear hca
   have hcl:wr.cell? ⟨w.heap.size,k,none⟩=some (.int .u32 (gr o k:Nat)):=by
    rw[hO.cellAt k (by omega)];exact fO (by rw[hI.len];exact hlt)
   have hfr:=hO.frozenAt k
   by_cases hsm:gr a k<gr b k+e
   ·obtain⟨r,hr⟩:∃ r,gr a k+1000000000=r+(gr b k+e):=⟨gr a k+1000000000-(gr b k+e),by omega⟩
    have hN:=hI.MG (by omega) hlt hsm hr
    have HR:=bn hr
    have hrw:IntKind.u32.wrap ((gr a k:Int)+1000000000-(gr b k+e))=r:=by simp[IntKind.wrap,IntKind.bits,IntKind.signed];omega
    have hrw2:((gr a k:Int)+1000000000-(gr b k+e))=r:=by omega
    clear hr
    have hd:decide ((gr a k:Int)<gr b k+e)=true:=by simp;omega
    go_wp2_with fail
    refine(LU _ b k _ (ht.below hB)).mono ?_
    rintro e w' ⟨rfl,rfl⟩
    dsimp only
    go_wp2
    have hst:=hO.stored k (.int .u32 (r:Nat))
    rw[gV] at hst
    go_roundw
    case rel=>exact⟨k+1,1,_,by omega,by go_num,rfl,hN,hst.1,hB.setCell (p:=⟨w.heap.size,k,none⟩) (aj _) _⟩
    case measure=>simp[intOf];omega
   ·obtain⟨r,hr⟩:∃ r,gr a k=r+(gr b k+e):=⟨gr a k-(gr b k+e),by omega⟩
    have hN:=hI.TS (by omega) hlt hr
    have HR:=bn hr
    have hrw2:((gr a k:Int)-(gr b k+e))=r:=by omega
    have hle1:gr b k+e<=gr a k:=by omega
    clear hr
    have hd:decide ((gr a k:Int)<gr b k+e)=false:=by simp;omega
    go_wp2_with fail
    refine(LU _ b k _ (ht.below hB)).mono ?_
    rintro e w' ⟨rfl,rfl⟩
    dsimp only
    go_wp2
    have hst:=hO.stored k (.int .u32 (r:Nat))
    rw[gV] at hst
    go_roundw
    case rel=>exact⟨k+1,0,_,by omega,by go_num,rfl,hN,hst.1,hB.setCell (p:=⟨w.heap.size,k,none⟩) (aj _) _⟩
    case measure=>simp[intOf];omega
  ·obtain rfl:k=a.length:=by omega
   obtain⟨hl,hv⟩:=hI.done (aj _) lb HLE.out
   have HV:Hid (fZ o=dig (val a-val b)):=by unfold Hid fZ;rw[hv]
   clear hv
   go_wp2_with (go_at_call 179;refine(NM _ _ _ o _ (Rd.dO (by rw[hI.len];exact hO)) hl hI.len).mono ?_;rintro e w' ⟨rfl,rfl⟩)
   go_ret
   exact⟨_,rfl,by rw[<-HV.out];exact uF hO hl hI.len,hB⟩
set_option maxHeartbeats 800000
theorem times_any (s t:Value) (a b:List Nat) (w:World) (hs:Rd w s a) (ht:Rd w t b) (ha:Low a) (hb:Low b) (la:a.length<=1000000000) (lb:b.length<=1000000000) :
  Calls Tryz.prog 166 #[s,t] w (b2o (dig (val a*val b)) w):=by
 obtain⟨i0,hi,hz0,hz1,hz2⟩:=Aj iZ
 obtain⟨p,c,rfl,_,_⟩:=hs.form
 obtain⟨q,d,rfl,_,_⟩:=ht.form
 have HA:=bn ha
 have HB:=bn hb
 clear ha hb
 obtain⟨n,hn⟩:∃ n:Nat,(a.length:Int)+b.length=n:=⟨a.length+b.length,by omega⟩
 have hn':n=a.length+b.length:=by omega
 have HN:=bn hn'
 have n1:n<=2000000000:=by omega
 have n2:a.length+b.length<=n:=by omega
 clear hn'
 go_enter Tryz.func166,Tryz.ntmps166
 go_wp2_with (at_make;refine Dx _ rfl _ _ 60 rfl w.heap.size 133 i0 (.int .u32 0) 1 jo hi hz0 hz1 _ _ _ _ n rfl rfl (by omega) (by omega) (by rw[hz2];omega) (by unfold maxLen;omega) (aj _) ?_)
 intro w1 hown hgrow
 rw[kE] at hown
 have hB1:Below w.heap.size w w1:=(dn _ _).grown hgrow (aj _) (fun k e=>by cases e)
 clear hgrow hn
 go_wp2
 go_loopw [6,7,8,9,10,11,20,21,22,23,24,25,26,27,28,29,30,31,32,33,34,35,36,37,38,39,40,41,42,43,44,45,46,47,48,49,50,51,52,53,54,55,56,57,58,59,60,61,62,63,64,65,66] (fun _ _ _ _ _ _ i _ _ _ _ _ _ _ _ _ _ _ _ _ _ _ _ _ _ _ _ _ _ _ _ _ _ _ _ _ _ _ _ _ _ _ _ _ _ _ _ _ _ _ _ _ _ wr=>∃ (k:Nat) (o:List Nat),k<=a.length/\i=.int .i64 (k:Nat)/\nT a b o n k/\wr.ownsRow w.heap.size 133 1 (.slice (some ⟨w.heap.size,0,none⟩) n n) n (cells32 o)/\Below w.heap.size w wr) (fun _ _ _ _ _ _ i _ _ _ _ _ _ _ _ _ _ _ _ _ _ _ _ _ _ _ _ _ _ _ _ _ _ _ _ _ _ _ _ _ _ _ _ _ _ _ _ _ _ _ _ _ _ wr=>a.length-(intOf i).toNat)
 case atStart=>exact⟨0,_,by omega,rfl,nT.start _ _ _,hown,hB1⟩
 case round =>
  obtain⟨k,o0,hk,rfl,hI,hO,hB⟩:=hrel
  by_cases hlt:k<a.length
  ·have ga:gr a k<=999999999:=iJ HA.out k
   obtain⟨ba,oa,rfl,hba,hca⟩:=hs.at (by intro e;subst e;simp at hlt)
   have hcell:wr.cell? ⟨ba,oa+k,none⟩=some (.int .u32 (gr a k:Nat)):=(hB.cell (p:=⟨ba,oa+k,none⟩) hba).trans (hca k hlt)
   have HCA:=bn hca
   clear hca
   go_wp2
   obtain⟨wo,rfl⟩:∃ wo:World,wo=wr:=⟨_,rfl⟩
   go_loopw [8,9,10,11,27,28,29,30,31,32,33,34,35,36,37,38,39,40,41,42,43,44,45,46,47,48,49,50,51,52,53,54,55,56,57] (fun cc _ _ _ i _ _ _ _ _ _ _ _ _ _ _ _ _ _ _ _ _ _ _ _ _ _ _ _ _ _ _ _ _ _ wr=>∃ (j e:Nat) (o:List Nat),j<=b.length/\i=.int .i64 (j:Nat)/\cc=.int .u64 (e:Nat)/\nD o0 b o n k (gr a k) j e/\wr.ownsRow w.heap.size 133 1 (.slice (some ⟨w.heap.size,0,none⟩) n n) n (cells32 o)/\Below w.heap.size w wr) (fun cc _ _ _ i _ _ _ _ _ _ _ _ _ _ _ _ _ _ _ _ _ _ _ _ _ _ _ _ _ _ _ _ _ _ wr=>b.length-(intOf i).toNat)
   case atStart=>exact⟨0,0,o0,by omega,rfl,rfl,nD.start hI.len hI.low,hO,hB⟩
   case round =>
    obtain⟨j,e,o,hj,rfl,rfl,hI2,hO2,hB2⟩:=hrel
    by_cases a9L:j<b.length
    ·have gb:gr b j<=999999999:=iJ HB.out j
     have ge:e<=999999999:=by have:=hI2.car;omega
     have go:gr o (k+j)<=999999999:=iJ hI2.low (k+j)
     obtain⟨bb,ob,rfl,hbb,hcb⟩:=ht.at (by intro e;subst e;simp at a9L)
     have a0:wr.cell? ⟨bb,ob+j,none⟩=some (.int .u32 (gr b j:Nat)):=(hB2.cell (p:=⟨bb,ob+j,none⟩) hbb).trans (hcb j a9L)
     have HCB:=bn hcb
     clear hcb
     have hcl:wr.cell? ⟨w.heap.size,k+j,none⟩=some (.int .u32 (gr o (k+j):Nat)):=by
      rw[hO2.cellAt (k+j) (by omega)];exact fO (by rw[hI2.len];omega)
     have hfr:=hO2.frozenAt (k+j)
     have hN:=hI2.step (by omega) (by omega) (by omega)
     obtain⟨m,hm⟩:∃ m:Nat,(gr a k:Int)*gr b j=m:=⟨gr a k*gr b j,by simp⟩
     have hm2:m<=999999998000000001:=by
      have h1:gr a k*gr b j<=999999999*999999999:=uf ga gb
      have h2:((gr a k*gr b j:Nat):Int)=m:=by rw[<-hm];simp
      omega
     have hm3:gr a k*gr b j=m:=by
      have h2:((gr a k*gr b j:Nat):Int)=m:=by rw[<-hm];simp
      omega
     rw[hm3] at hN
     have HM3:=bn hm3
     clear hm3
     generalize hr:(gr o (k+j)+m+e)%1000000000=r at hN
     generalize hv:(gr o (k+j)+m+e) / 1000000000=v at hN
     have hr2:((gr o (k+j):Int)+m+e)%1000000000=r:=by omega
     have hv2:((gr o (k+j):Int)+m+e) / 1000000000=v:=by omega
     have hr3:r<=999999999:=by omega
     have hv3:v<=999999999:=by omega
     clear hr hv
     go_wp2
     have hst:=hO2.stored (k+j) (.int .u32 (r:Nat))
     rw[gV] at hst
     go_roundw
     case rel=>exact⟨j+1,v,_,by omega,by go_num,by rw[hv2],hN,hst.1,hB2.setCell (p:=⟨w.heap.size,k+j,none⟩) (aj _) _⟩
     case measure=>simp[intOf];omega
    ·obtain rfl:j=b.length:=by omega
     have ge:e<=999999999:=by have:=hI2.car;omega
     have hN:=nD.done hI hI2 (by omega)
     have hcl:wr.cell? ⟨w.heap.size,k+b.length,none⟩=some (.int .u32 (gr o (k+b.length):Nat)):=by
      rw[hO2.cellAt (k+b.length) (by omega)];exact fO (by rw[hI2.len];omega)
     have hfr:=hO2.frozenAt (k+b.length)
     go_wp2
     have hst:=hO2.stored (k+b.length) (.int .u32 (e:Nat))
     rw[gV] at hst
     go_roundw
     case rel=>exact⟨k+1,_,by omega,by go_num,hN,hst.1,hB2.setCell (p:=⟨w.heap.size,k+b.length,none⟩) (aj _) _⟩
     case measure=>simp[intOf];omega
  ·obtain rfl:k=a.length:=by omega
   have hv:=hI.done HN.out
   have HV:Hid (fZ o0=dig (val a*val b)):=by unfold Hid fZ;rw[hv]
   clear hv
   go_wp2_with (go_at_call 179;refine(NM _ _ _ o0 _ (Rd.dO (by rw[hI.len];exact hO)) hI.low hI.len).mono ?_;rintro e w' ⟨rfl,rfl⟩)
   go_ret
   exact⟨_,rfl,by rw[<-HV.out];exact uF hO hI.low hI.len,hB⟩
section
open Go.RowKit Go.Shelf
set_option maxHeartbeats 2000000
attribute [local go_sem] Oper.semAt_some
def jM (n:Nat) (pre:List (Fin n)):Prop:=∀ j x,pre[j]?=some x->x.1=n-1-j
theorem jM.nil (n:Nat):jM n []:=by intro j x h;simp at h
theorem jM.snoc {n:Nat} {pre:List (Fin n)} (h:jM n pre) {x:Fin n} (hx:x.1=n-1-pre.length):jM n (pre++[x]):=by
 intro j y hj
 rw[List.getElem?_append] at hj
 split at hj
 ·exact h j y hj
 ·rename_i hlt
  have:j-pre.length=0:=by
   rcases yj (j-pre.length) with e|e
   ·exact e
   ·rw[xq (by simp;omega)] at hj;cases hj
  rw[this] at hj
  simp at hj
  subst hj
  rw[hx]
  congr 1
  omega
def KB (n₀ Bs:Nat) (A B:World):Prop:=Below n₀ A B/\B.heap[Bs]?=A.heap[Bs]?
theorem KB.refl (n₀ Bs:Nat) (A:World):KB n₀ Bs A A:=⟨dn _ _,rfl⟩
theorem KB.trans {n₀ Bs:Nat} {A B C:World} (h:KB n₀ Bs A B) (k:KB n₀ Bs B C):KB n₀ Bs A C:=⟨h.1.trans k.1,k.2.trans h.2⟩
theorem KB.setCell {n₀ Bs:Nat} {W:World} {p:Addr} (h1:n₀<=p.block) (h2:p.block≠Bs) (u:Value):KB n₀ Bs W (W.setCell p u) :=
 ⟨(dn _ _).setCell h1 u,Below.heap_setCell _ _ _ _ (Ne.symm h2)⟩
theorem KB.b {n₀ Bs:Nat} {w:World} (hn:n₀<=w.heap.size) (hB:Bs<w.heap.size) (W:World) (l:Nat) (o o':Obj) (hl:w.heap.size<=l) (h:W.heap[l]?=some o) (hc:o.isCells=false) (hw:o.isWalk=false):KB n₀ Bs W (W.putObj l o') :=
 ⟨belowK_b hn W l o o' hl h hc hw,World.putObj_heap_other (by omega)⟩
theorem a8A (F:Fence) (n:Nat) (h7:F.fn 189) (hro:F.round=none) (hn:1<=n) (lo Bs n₀ b off cap:Nat) (l:List Nat) (hreach:l.length<=9223372036854775807) (hb:b<n₀) (J Jx:List (Fin l.length)->World->Prop)
  (hY:∀ pre x W,J pre W->pre.length<l.length->YieldAt F (n-1) Tryz.prog lo #[.int .i64 (x.1:Nat),.int .u32 (gr l x.1:Nat)] W fun e W' =>
   (e=.returned (.bool true)/\J (pre++[x]) W'/\KB n₀ Bs W W')\/(e=.returned (.bool false)/\Jx (pre++[x]) W'))
  (W:World) (hBs:W.cell? ⟨Bs,0,none⟩=some (.slice (some ⟨b,off,none⟩) l.length cap)) (hc:∀ j,j<l.length->W.cell? ⟨b,off+j,none⟩=some (.int .u32 (gr l j:Nat))) (h0:J [] W) :
  CallsIn F n Tryz.prog 189 #[.func (.yield lo) #[] #[],.pointer (some ⟨Bs,0,none⟩)] W fun e W'=>(∃ v,e=.returned v) /\
   ((∃ ys,(jM l.length ys/\ys.length=l.length)/\J ys W')\/(∃ pre,(jM l.length pre/\pre.length<=l.length)/\Jx pre W')):=by
 refine callsIn_of_wp Tryz.func189 rfl h7 ?_ hro
 simp only[Tryz.ntmps189,Df,List.length_cons,List.length_nil,Nat.reduceAdd,Nat.reduceSub,Dq,Array.replicate_zero,List.push_toArray,Dz,List.nil_append,List.cons_append]
 have HC:=bn hc
 clear hc
 gi_wp2
 gi_loopw [3,7,8,9,10,11,12,13,14,15,16,17,18] (fun i _ _ _ _ _ _ _ _ _ _ _ _ wr=>∃ (k:Nat) (pre:List (Fin l.length)),k<=l.length/\i=.int .i64 ((l.length:Int)-1-k)/\Hid (jM l.length pre/\pre.length=k)/\J pre wr/\KB n₀ Bs W wr) (fun i _ _ _ _ _ _ _ _ _ _ _ _ wr=>(intOf i+1).toNat)
 case atStart=>exact⟨0,[],uw _,by go_num,⟨jM.nil _,rfl⟩,h0,KB.refl _ _ _⟩
 case round =>
  obtain⟨k,pre,hk,rfl,hP,hJs,hnx⟩:=hrel
  have hBx:wr.cell? ⟨Bs,0,none⟩=some (.slice (some ⟨b,off,none⟩) l.length cap):=(Cj (w:=W) (a:=⟨Bs,0,none⟩) hnx.2).trans hBs
  clear hBs
  by_cases hlt:k<l.length
  ·obtain⟨m,hm⟩:∃ m,l.length-1-k=m:=⟨_,rfl⟩
   have hmi:(l.length:Int)-1-k=m:=by omega
   have hml:m<l.length:=by omega
   have hcx:wr.cell? ⟨b,off+m,none⟩=some (.int .u32 (gr l m:Nat)):=(hnx.1.cell (p:=⟨b,off+m,none⟩) hb).trans (HC.out m hml)
   obtain⟨fn,tmps,assign,body,hy,hR⟩:=hY pre ⟨m,hml⟩ wr hJs (by rw[hP.out.2];exact hlt)
   dsimp only at hy
   have HP2:Hid (jM l.length (pre++[⟨m,hml⟩])/\(pre++[(⟨m,hml⟩:Fin l.length)]).length=k+1):=⟨hP.out.1.snoc (by rw[hP.out.2];exact hm.symm),by simp[hP.out.2]⟩
   have HM:=bn hm
   clear hm
   gi_wp2
   refine hR.mono ?_
   rintro e W3 (⟨rfl,hJ3,hk3⟩|⟨rfl,hJx3⟩)
   ·gi_wp2
    go_roundw
    case rel=>exact⟨k+1,_,by omega,by simp;omega,HP2,hJ3,hnx.trans hk3⟩
    case measure=>simp[intOf];omega
   ·gi_wp2
    refine jh (results_none rfl _ _ _) rfl ?_
    exact⟨⟨_,rfl⟩,.inr ⟨_,⟨HP2.out.1,by rw[HP2.out.2];omega⟩,hJx3⟩⟩
  ·obtain rfl:k=l.length:=by omega
   have hmi:(l.length:Int)-1-l.length=-1:=by omega
   gi_wp2
   go_end0
   exact⟨⟨_,rfl⟩,.inl ⟨_,hP.out,hJs⟩⟩
theorem ZQ (F:Fence) (n:Nat) (h7:F.fn 189) (hro:F.round=none) (lo Bs:Nat) (J:List (Fin 0)->World->Prop) (W:World) (p:Option Addr) (hBs:W.cell? ⟨Bs,0,none⟩=some (.slice p 0 0)) (h0:J [] W) :
  CallsIn F n Tryz.prog 189 #[.func (.yield lo) #[] #[],.pointer (some ⟨Bs,0,none⟩)] W fun e W'=>(∃ v,e=.returned v)/\J [] W':=by
 refine callsIn_of_wp Tryz.func189 rfl h7 ?_ hro
 simp only[Tryz.ntmps189,Df,List.length_cons,List.length_nil,Nat.reduceAdd,Nat.reduceSub,Dq,Array.replicate_zero,List.push_toArray,Dz,List.nil_append,List.cons_append]
 gi_wp2
 gi_loopw [3] (fun i wr=>i=.int .i64 (-1)/\J [] wr) (fun _ _=>0)
 case atStart=>exact⟨rfl,h0⟩
 case round =>
  obtain⟨rfl,hJs⟩:=hrel
  gi_wp2
  go_end0
  exact⟨⟨_,rfl⟩,hJs⟩
theorem BI (F:Fence) (n:Nat) (h5:F.fn 182) (hro:F.round=none) (a:Option Addr) (len cap:Nat) (w:World) :
  CallsIn F n Tryz.prog 182 #[.slice a len cap] w fun e w'=>e=.returned (.func (.func 189) #[] #[.pointer (some ⟨w.heap.size,0,none⟩)])/\w'=w.alloc (.cells #[.slice a len cap] 60):=by
 refine callsIn_of_wp Tryz.func182 rfl h5 ?_ hro
 simp only[Tryz.ntmps182,Df,List.length_cons,List.length_nil,Nat.reduceAdd,Nat.reduceSub,Dq,Array.replicate_zero,List.push_toArray,Dz,List.nil_append,List.cons_append]
 gi_wp2
 go_ret
 exact⟨rfl,rfl⟩
def RdB (n₀:Nat) (w:World) (s:Value) (l:List Nat):Prop :=
 (∃ p,s=.slice p 0 0/\l=[]) \/
 ∃ b o c,s=.slice (some ⟨b,o,none⟩) l.length c/\l.length<=9223372036854775807/\b<n₀/\∀ i,i<l.length->w.cell? ⟨b,o+i,none⟩=some (.int .u32 (gr l i:Nat))
theorem Rd.b {w:World} {s:Value} {l:List Nat} (h:Rd w s l):RdB w.heap.size w s l:=by
 rcases h with h|⟨b,o,c,h1,h2,h3,h4,h5⟩
 ·exact .inl h
 ·exact .inr ⟨b,o,c,h1,by omega,h4,h5⟩
theorem RdB.below {n₀:Nat} {A B:World} (h:Below n₀ A B) {s:Value} {l:List Nat}:RdB n₀ A s l->RdB n₀ B s l
 | .inl e=>.inl e
 | .inr ⟨b,o,c,h1,h2,h3,h4⟩=>.inr ⟨b,o,c,h1,h2,h3,fun i hi=>(h.cell (p:=⟨b,o+i,none⟩) h3).trans (h4 i hi)⟩
theorem GR (F:Fence) (n:Nat) (h7:F.fn 189) (hro:F.round=none) (hn:1<=n) (Bs n₀:Nat) (sv:Value) (l:List Nat) (w:World) (hBs:Bs<w.heap.size) (hn₀:n₀<=w.heap.size)
  (hc:w.cell? ⟨Bs,0,none⟩=some sv) (hI:RdB n₀ w sv l) :
  SeqStopsK F n Tryz.prog 189 #[.pointer (some ⟨Bs,0,none⟩)] (fun x:Fin l.length=>#[Value.int .i64 (x.1:Nat),Value.int .u32 (gr l x.1:Nat)]) (KB n₀ Bs) (fun ys=>jM l.length ys/\ys.length=l.length)
   (fun pre=>jM l.length pre/\pre.length<=l.length) l.length w:=fun lo J Jx W hW _ _ hY h0=>by
 have hc':=(hW.cell (p:=⟨Bs,0,none⟩) hBs).trans hc
 rcases hI.below (hW.mono hn₀) with⟨p,rfl,rfl⟩|⟨b,off,cap,rfl,hr,hb,hcs⟩
 ·exact(ZQ F n h7 hro lo Bs J W p hc' h0).mono fun e W' ⟨he,hj⟩=>⟨he,.inl ⟨[],⟨jM.nil _,rfl⟩,hj⟩⟩
 ·exact a8A F n h7 hro hn lo Bs n₀ b off cap l hr hb J Jx hY W hc' hcs h0
end
section
open Go.RowKit Go.Shelf
set_option maxHeartbeats 2000000
attribute [local go_sem] Oper.semAt_some
def hval (l:List Nat) (pre:List (Fin l.length)):Nat:=pre.foldl (fun n x=>n*BB+gr l x.1) 0
theorem MI (l:List Nat) (pre:List (Fin l.length)) (x:Fin l.length):hval l (pre++[x])=hval l pre*BB+gr l x.1:=by simp[hval]
theorem b3d {l:List Nat} (hl:Low l) (pre:List (Fin l.length)):hval l pre<BB ^ pre.length:=by
 suffices ∀ n (pre:List (Fin l.length)),pre.length=n->hval l pre<BB ^ pre.length from this _ pre rfl
 intro n
 induction n with
 | zero=>intro pre h;rw[ou h];simp[hval]
 | succ n ih =>
  intro pre h
  obtain⟨q,x,rfl⟩:∃ q x,pre=q++[x]:=⟨pre.dropLast,pre.getLast (by intro e;subst e;simp at h),(List.dropLast_concat_getLast _).symm⟩
  have h1:=ih q (by simp at h;exact h)
  have h2:=IG hl x.1
  rw[MI,iw,List.length_singleton,Nat.pow_succ]
  rw[dG] at *
  omega
theorem a7u {l:List Nat} {pre:List (Fin l.length)} (h:jM l.length pre) (hle:pre.length<=l.length):hval l pre=val (l.drop (l.length-pre.length)):=by
 suffices ∀ n (pre:List (Fin l.length)),pre.length=n->jM l.length pre->pre.length<=l.length->hval l pre=val (l.drop (l.length-pre.length)) from this _ pre rfl h hle
 intro n
 induction n with
 | zero=>intro pre h _ _;rw[ou h];simp[hval]
 | succ n ih =>
  intro pre h hb hle
  obtain⟨q,x,rfl⟩:∃ q x,pre=q++[x]:=⟨pre.dropLast,pre.getLast (by intro e;subst e;simp at h),(List.dropLast_concat_getLast _).symm⟩
  simp only[iw,List.length_singleton] at h hle
  have hq:jM l.length q:=fun j y hj=>hb j y (by rw[Ak (qg.1 hj).1];exact hj)
  have hx:x.1=l.length-1-q.length:=hb q.length x (by simp)
  rw[MI,ih q (by omega) hq (by omega),iw,List.length_singleton]
  have e1:l.length-q.length=(l.length-(q.length+1))+1:=by omega
  rw[e1,Bc (i:=l.length-(q.length+1)) (by omega),dH,hx,qQ (by omega),wu,Eb]
  congr 2
  omega
theorem a9S {l:List Nat} {pre:List (Fin l.length)} (h:jM l.length pre) (hle:pre.length=l.length):hval l pre=val l:=by
 rw[a7u h (by omega),hle];simp
theorem b4C (F:Fence) (n:Nat) (h3:F.fn 171) (h5:F.fn 182) (h7:F.fn 189) (hro:F.round=none) (hn:3<=n) (a:Option Addr) (cap:Nat) (l:List Nat) (w:World) (hI:Rd w (.slice a l.length cap) l) (hl:Low l) (h2:l.length<=2) :
  CallsIn F n Tryz.prog 171 #[.slice a l.length cap] w fun e W'=>e=.returned (.tuple #[.int .u64 (val l:Nat),.bool true])/\Below w.heap.size w W':=by
 have h1:1<=n:=by omega
 refine callsIn_of_wp_marks Tryz.func171 rfl h3 ?_ hro
 simp only[Tryz.ntmps171,Df,List.length_cons,List.length_nil,Nat.reduceAdd,Nat.reduceSub,Dq,Array.replicate_zero,List.push_toArray,Dz,List.nil_append,List.cons_append]
 gi_wp2_with (gi_at_call 182;refine(BI F (n-1) h5 hro _ _ _ _).mono ?_;rintro e w' ⟨rfl,rfl⟩)
 have bN:=Boxed.new w 132 (.int .u64 0)
 have bS:=Boxed.new (w.alloc (.cells #[.int .u64 0] 132)) 60 (.slice a l.length cap)
 rw[Bj] at bS
 have hB0:Below w.heap.size w ((w.alloc (.cells #[.int .u64 0] 132)).alloc (.cells #[.slice a l.length cap] 60)):=((dn _ w).alloc (aj _) _).alloc (by simp) _
 refine wpIn_rangeFunc_ownG hro h1 (gf:=189) (lb:=#[.pointer (some ⟨w.heap.size+1,0,none⟩)]) rfl h7 (enters_of Tryz.func189 (by kernel_rfl) rfl)
  (GR F (n-1) h7 hro (by omega) (w.heap.size+1) w.heap.size _ l _ (by simp) (by simp;omega) bS.cell (hI.b.below hB0)) (fun h k=>KB.trans h k) (KB.b (by simp;omega) (by simp)) (dn _ _) (fun _=>rfl)
  (fun pre W=>(W.cell? ⟨w.heap.size,0,none⟩=some (.int .u64 (hval l pre:Nat))/\W.frozen? ⟨w.heap.size,0,none⟩=false)/\Below w.heap.size w W)
  (fun _ _ _=>False)
  (OwnFrom.and (Own.from (fun s A B row hs hg hr=>⟨cell_kept hs.1 hg hr,(frozen_kept hs.1 hg hr).trans hs.2⟩) _) (ownFrom_below (aj _) (by simp;omega)))
  (fun _ _ _ _ _ hs _ _=>hs)
  ⟨⟨(bN.alloc _).cell,(bN.alloc _).frozen⟩,hB0⟩
  (fun x=>{ tmps:=#[.slice a l.length cap,undef,.int .u64 0,.bool false,.pointer (some ⟨w.heap.size,0,none⟩),undef,.int .u32 (gr l x.1:Nat),.slice a l.length cap,.int .i64 (l.length:Nat),.bool (decide (2<(l.length:Int))),.slice a l.length cap,.func (.func 189) #[] #[.pointer (some ⟨w.heap.size+1,0,none⟩)],.int .i64 (x.1:Nat),.int .u32 (gr l x.1:Nat),undef,undef,undef,undef,undef,undef],defers:=[] }) ?assign ?body ?done ?stop
 case assign =>
  intro l x W K hK
  gi_wp2
  exact hK
 case body =>
  rintro lo pre x W ⟨⟨hc,hf⟩,hB⟩ hlen
  have hg:=iJ hl x.1
  have hh:hval l pre<=999999999:=by
   have:=b3d hl pre
   have h4:BB ^ pre.length<=BB ^ 1:=wz jL (by omega)
   rw[dG] at *
   omega
  have HS:=bn (MI l pre x)
  gi_wp2
  exact⟨(Ea _ _ _).from _,KB.setCell (p:=⟨w.heap.size,0,none⟩) (aj _) (by simp) _,⟨by rw[HS.out,dG];exact Dt _ _ _ (by rw[hc];rfl),by rw[Cb];exact hf⟩,hB.setCell (p:=⟨w.heap.size,0,none⟩) (aj _) _⟩
 case done =>
  rintro D ys W hD ⟨hb,hlen⟩ ⟨⟨hc,_⟩,hB⟩ hK
  rw[a9S hb hlen] at hc
  gi_wp2
  refine⟨by simp,.inl ⟨_,_,rfl,run_takeDeferred hK,?_⟩⟩
  exact⟨_,results_tmp2 rfl _ _ _,rfl,hB.trans (belowK_b (w:=w) (aj _) W D _ _ (by simp at hD;omega) hK rfl rfl)⟩
 case stop =>
  rintro D c pre W _ _ h _
  exact h.elim
theorem sN (s:Value) (l:List Nat) (w:World) (hs:Rd w s l) (hl:Low l) (h2:l.length<=2) :
  Calls Tryz.prog 171 #[s] w fun e W'=>e=.returned (.tuple #[.int .u64 (val l:Nat),.bool true])/\Below w.heap.size w W':=by
 obtain⟨p,c,rfl,_,_⟩:=hs.form
 exact callsIn_wide.1 (b4C Fence.wide 3 trivial trivial trivial rfl (by omega) p c l w hs hl h2)
theorem zV (s:Value) (l:List Nat) (w:World) (hs:Rd w s l) (h2:2<l.length) :
  Calls Tryz.prog 171 #[s] w fun e W'=>e=.returned (.tuple #[.int .u64 0,.bool false])/\Below w.heap.size w W':=by
 obtain⟨p,c,rfl,_,_⟩:=hs.form
 have hd:decide ((2:Int)<l.length)=true:=by simp;omega
 go_enter Tryz.func171,Tryz.ntmps171
 go_wp2
 go_ret2
 exact⟨rfl,dn _ _⟩
end
end Go.Proofs.YtgplhbhfdgempaaGreat
