/-
  Lemmas for the theorem vrelative28_holds, part 22 of 35.
-/
import Derived.Lib.AppendZerosOnto
import Derived.Lib.Walk
import Derived.Test.YtbkocjmmbkifjaaGreatQr21
namespace Go.Proofs.YtbkocjmmbkifjaaGreat
open Go Go.RowKit
theorem jw:type_of% @Rat.mul_inv_cancel:=@Rat.mul_inv_cancel
set_option maxRecDepth 100000
set_option maxHeartbeats 1000000
set_option linter.unusedVariables false
set_option linter.unusedSimpArgs false
theorem DV {α:Type} {p:α->Bool} {xs:List α} {i:Nat} {d:α} (hi:i<xs.length) (h:p (xs.getD i d)=true):xs.any p=true:=by rw[bg,dw hi] at h;exact yx.mpr ⟨_,uq hi,h⟩
def mO (n:Int):Bool:=decide (n > 1048576) || decide (n < -1048576)
noncomputable def c7I:Ctr:=⟨[tI],[tB],fun x=>True,fun x=>(mO x.1,())⟩
noncomputable def c5d:Ctr:=⟨[.list tI],[tB],fun x=>(show List Int from x.1).length<=1000000,fun x=>((show List Int from x.1).any mO,())⟩
theorem a6m:aJ Tryz.prog 224 c7I:=by
 refine aN Lib.nil ⟨[],[],[]⟩ Tryz.func224 rfl (by decide) (fun x=>[]) (fun x hp=>?_);obtain⟨n,u⟩:=x;change Int at n;refine aP ((((decide (n < -1048576)==false)=true->(decide (n < -1048576)==false)=true/\True)/\(decide (n < -1048576)=false->(decide (n < -1048576)==false)=true)/\True)/\True/\(bif decide (n < -1048576) then true else decide (n > 1048576))=mO n/\True) (by kernel_rfl) ?_;try simp only[zP0]
 try dsimp only[aB,asT,aA,aC,Ty.den,Lf.den] at *
 try simp only[zP1]
 try simp only[zP2]
 exact⟨fun h=>iy h,Bool.or_comm _ _⟩
theorem b2i:aJ Tryz.prog 15 c5d:=by
 refine aN Lib.nil ⟨[],[],[]⟩ Tryz.func15 rfl (by decide) (fun x=>[.inv {k:Nat // k<=(show List Int from x.1).length/\((show List Int from x.1).take k).any mO=false} (fun k=>[(7,.val tI (k.1:Int))]) (fun k=>[]) (fun k=>(show List Int from x.1).length-k.1) ⟨0,by omega,rfl⟩ (fun _=>[])]) (fun x hp=>?_);obtain⟨x,u⟩:=x;change List Int at x;refine aP ((asT Int 0=0/\True)/\∀ (i:{ k:Nat // k<=List.length x/\List.any (List.take k x) mO=false }),let A₀:=(List.getD x (aB (aA i)).toNat 0 > 1048576);asT Bool true=true/\ifB (decide (aB (aA i)<aB x.length)) ((0<=aB (aA i)/\aB (aA i)<aB x.length/\True)/\(((decide A₀==false)=true->(decide A₀==false)=true/\True)/\(decide A₀=false->(decide A₀==false)=true)/\True)/\ifB (bif decide A₀ then true else decide (List.getD x (aB (aA i)).toNat 0 < -1048576)) (True/\true=List.any x mO/\True) (∃ (i':{ k:Nat // k<=List.length x/\List.any (List.take k x) mO=false }),List.length x-aA i'<List.length x-aA i/\IntKind.wrap IntKind.i64 (aB (aA i)+1)=aB (aA i')/\True)) (True/\false=List.any x mO/\True)) (by kernel_rfl) ?_;try simp only[zP0]
 try dsimp only[aB,asT,aA,aC,Ty.den,Lf.den] at *
 try simp only[zP1]
 try simp only[zP2]
 have hp:x.length<=1000000:=hp;refine fun i=>⟨fun h1=>⟨⟨by omega,h1⟩,fun h=>iy h,fun h=>?_,fun h=>⟨⟨i.1+1,by omega,?_⟩,by simp only;omega,?_⟩⟩,fun h1=>?_⟩
 ·exact(DV (i:=i.1) (d:=0) (by omega) (by unfold mO;rcases h with h|h<;>rw[h]<;>simp)).symm
 ·rw[jL (d:=0) (by omega),i.2.2];show (false || mO _)=false;unfold mO;rw[h.1,h.2];rfl
 ·rw[aG (by omega) (by omega)];rfl
 ·have h3:=i.2.2;rw[jf (by omega)] at h3;exact h3.symm
noncomputable def c5h:Ctr:=⟨[.list tI,.clo 224 .unit],[tI],fun x=>(show List (Int) from x.1).length<=1000000/\∀ q ∈ (show List (Int) from x.1),(fun _=>True) q,fun x=>(pI mO (show List (Int) from x.1),())⟩
theorem b1R:aJ Tryz.prog 218 c5h:=by
 refine aN (nil0.ad a6m) ⟨[],[],[]⟩ Tryz.func218 rfl (by decide) (fun x=>[.inv {k:Nat // k<=(show List (Int) from x.1).length/\((show List (Int) from x.1).take k).any mO=false} (fun k=>[(8,.val tI (k.1:Int))]) (fun k=>[]) (fun k=>(show List (Int) from x.1).length-k.1) ⟨0,by omega,rfl⟩ (fun _=>[])]) (fun x hp=>?_);obtain⟨x,c,u⟩:=x;change List (Int) at x;change Unit at c;refine aP ((asT Int 0=0/\True)/\∀ (i:{ k:Nat // k<=List.length x/\List.any (List.take k x) mO=false }),asT Bool true=true/\ifB (decide (aB (aA i)<aB x.length)) ((0<=aB (aA i)/\aB (aA i)<aB x.length/\True/\True)/\ifB (mO (List.getD x (aB (aA i)).toNat 0)) (True/\aB (aA i)=pI mO x/\True) (∃ (i':{ k:Nat // k<=List.length x/\List.any (List.take k x) mO=false }),List.length x-aA i'<List.length x-aA i/\IntKind.wrap IntKind.i64 (aB (aA i)+1)=aB (aA i')/\True)) (True/\-1=pI mO x/\True)) (by kernel_rfl) ?_;try simp only[zP0]
 try dsimp only[aB,asT,aA,aC,Ty.den,Lf.den] at *
 try simp only[zP1]
 try simp only[zP2]
 have hp:x.length<=1000000/\∀ q ∈ x,(fun _=>True) q:=hp;obtain⟨hl,hb⟩:=hp;refine fun i=>⟨fun h1=>⟨(by first|exact⟨by omega,h1,cO hb (by omega)⟩|exact⟨by omega,h1⟩),fun h2=>?_,fun h2=>⟨⟨i.1+1,by omega,?_⟩,by simp only;omega,?_⟩⟩,fun h1=>?_⟩
 ·exact(xI (d:=0) (by omega) i.2.2 (by first|exact h2|rw[h2];rfl)).symm
 ·rw[jL (d:=0) (by omega),i.2.2,h2];rfl
 ·rw[aG (by omega) (by omega)];rfl
 ·have h3:=i.2.2;rw[jf (by omega)] at h3;exact(EG h3).symm
noncomputable def c4R:Ctr:=⟨[.list tI,.clo 224 .unit],[tB],fun x=>(show List (Int) from x.1).length<=1000000/\∀ q ∈ (show List (Int) from x.1),(fun _=>True) q,fun x=>((show List (Int) from x.1).any mO,())⟩
theorem b0s:aJ Tryz.prog 136 c4R:=by refine aN ((nil0.ad a6m).ad b1R) ⟨[],[],[]⟩ Tryz.func136 rfl (by decide) (fun x=>[]) (fun x hp=>?_);obtain⟨x,c,u⟩:=x;change List (Int) at x;change Unit at c;refine aP (((List.length x<=1000000/\∀ (q:Int),q ∈ x->True)/\True)/\True/\decide (pI mO x ≥ 0)=List.any x mO/\True) (by kernel_rfl) ?_;exact⟨⟨hp,trivial⟩,trivial,xJ _ _,trivial⟩
theorem b2Q:aJ Tryz.prog 144 c5d:=by refine aN (nil0.ad b0s) ⟨[],[],[]⟩ Tryz.func144 rfl (by decide) (fun x=>[]) (fun x hp=>?_);obtain⟨x,u⟩:=x;change List Int at x;refine aP (((List.length x<=1000000/\∀ (q:Int),q ∈ x->True)/\True)/\True/\List.any x mO=List.any x mO/\True) (by kernel_rfl) ?_;exact⟨⟨⟨hp,fun _ _=>trivial⟩,trivial⟩,trivial,rfl,trivial⟩
theorem c4s:aJ Tryz.prog 282 a4j:=(XG fun v x w h1=>a0d v x w h1)
noncomputable def LZ:Lib:=(((((((LCa
 ).add 175 cIZ (a4h fun x w h0 h1=>b2H x w h0 h1)
 ).add 213 (cZ2 fun x y=>((Int.gcd x y:Nat):Int)) BF
 ).add 177 (cZ2 fun x y=>x*y) qB
 ).add 97 (cZ1 fun x=>-x) vJ
 ).add 179 (cZI Int.sign) qC
 ).add 282 a4j (XG fun v x w h1=>a0d v x w h1)
 ).add 229 cDiv BA
noncomputable def LZb:Lib:=((((LZ
 ).add 183 (cNew 1000000000 14) JQ
 ).add 147 a9X a0U
 ).add 172 (cQ1 s4 (fun x=>-x)) JO
 ).add 176 (cZ2 fun x y=>x+y) TV
section
open Go Go.RowKit Go.Lib
set_option maxHeartbeats 4000000
abbrev LY:Value:=.agg #[.bool false,.slice none 0 0,.bool false,.slice none 0 0]
theorem a8D:∃ i,Tryz.prog.info? 47=some i/\i.size=4/\i.bytes<=64/\i.zero=some LY:=by
 have h:(Tryz.prog.info? 47).map (fun i=>(i.size,decide (i.bytes<=64),i.zero))=some (4,true,some LY):=by kernel_rfl
 obtain⟨i,h1,h2⟩:=ig.1 h;simp only[ak,jc] at h2;exact⟨i,h1,h2.1,h2.2.1,h2.2.2⟩
theorem b1m (n:Nat) (w:World) (h0:0<n) (hn:n<=1000000000):Calls Tryz.prog 151 #[.slice none 0 0,.int .i64 n] w fun e w'=>∃ c,n<=c/\c<=maxLen/\e=.returned (.slice (some ⟨w.heap.size,0,none⟩) 0 c)/\w'=w.drew.alloc (.cells (#[]++Builtin.zeroCells LY.cells n++Builtin.zeroCells LY.cells (c-n)) 47):=by
 obtain⟨i,hi,hs,hb,hz⟩:=a8D;have hn1:n*i.bytes<=n*64:=xw _ hb;have hrz:∀ ty,(Builtin.append_ #[39,3] ty #[.slice none 0 0,.int .i64 (n:Nat)]).run Tryz.prog w=.ok (.slice (some ⟨w.heap.size,0,none⟩) (0+n) (grownCap w (0+n) 0 47)) (w.drew.alloc (.cells (#[]++Builtin.zeroCells LY.cells n++Builtin.zeroCells LY.cells (grownCap w (0+n) 0 47-(0+n))) 47)):=fun ty =>
  run_append_grow_zeros w 39 3 ty 47 i LY .i64 .i64 (by kernel_rfl) (by kernel_rfl) hi hz none 0 0 [] (run_firstCells_none w.drew _ 0 0 0) n h0 (by omega) (by omega) (by omega) (by omega) (growslice_fits (by omega) (by rw[qg];omega))
 have hG:=grownCap_ge w (0+n) 0 47;have hG2:=grownCap_le_maxLen w (0+n) 0 47 (by unfold maxLen;omega);obtain⟨G,hg⟩:∃ G,G=grownCap w (0+n) 0 47:=⟨_,rfl⟩;rw[<-hg] at hrz hG hG2;simp only[qg] at hrz hG;have hG63:G<=9223372036854775807:=by unfold maxLen at hG2;omega
 have h1:¬ ((n:Int)<0):=by omega
 have h4:(n:Int) > 0:=by omega
 clear hg hn1 hi hz hs hb
 go_enter Tryz.func151,Tryz.ntmps151
 go_wp2_with (at_builtin;refine Lib.wpList_append_run _ rfl _ _ _ _ rfl _ _ rfl rfl _ _ (hrz _) ?_)
 go_ret
 exact⟨G,hG,hG2,rfl,rfl⟩
theorem a8w (w:World):Calls Tryz.prog 151 #[.slice none 0 0,.int .i64 0] w fun e w'=>e=.returned (.slice none 0 0)/\w'=w:=by
 go_enter Tryz.func151,Tryz.ntmps151
 go_wp2
 go_ret
 exact⟨rfl,rfl⟩
abbrev LKr:LK:=.row 47 tR
def b7Q:lK:=.mk LKr [.nls tR,tI] (fun x=>(show Option (List aI) from x.1)=none/\0<=(show Int from x.2.1)/\(show Int from x.2.1)<=1000000000) (fun _=>([]:List aI))
theorem b7H (z:Array Value) (n:Nat):(Builtin.zeroCells z n).size=n*z.size:=by simp[Builtin.zeroCells]
theorem a7U:∀ u ∈ LY.cells.toList,dB u=true:=by intro u hu;have hu:u ∈ [Value.bool false,.slice none 0 0,.bool false,.slice none 0 0]:=hu;simp only[jh,Ci,or_false] at hu;rcases hu with rfl|rfl|rfl|rfl<;>rfl
theorem b1l:NOk Tryz.prog 151 b7Q:=by
 intro F w vs y hF hvs hp;obtain⟨v,vs',rfl,h1,u,vs'',rfl,h2,h3⟩:=hvs;have h3:vs''=[]:=h3;subst h3;obtain⟨p1,p2,p3⟩:=hp;have hv:v=.slice none 0 0:=by
  obtain⟨cs,rfl,hr⟩:=h1;rcases hr with⟨_,rfl⟩|⟨ys,b,o,c,ds,e,_⟩
  ·rfl
  ·rw[show y.1=(none:Option (List aI)) from p1] at e;cases e
 subst hv;obtain⟨n,hn⟩:=uf p2;have hu:u=.int .i64 (n:Int):=by rw[a2R h2];rw[show y.2.1=(n:Int) from hn]
 subst hu;have hn9:n<=1000000000:=by rw[hn] at p3;omega
 let E:Env:=⟨fun _=>none,fun _=>undef,fun q=>F q\/w.heap.size<=q,fun _ _=>undef,fun _=>False,fun _=>undef⟩
 have hhas:∀ r j q,¬ E.has r j q:=fun r j q h=>by cases j<;>cases h
 have hM:Mem E (aU []) w w:=⟨⟨rfl,rfl,rfl,aj _,fun _ _ _=>rfl⟩,fun r=>rfl,fun r j r' j' b e=>(hhas r j b e).elim,fun r j b e=>(hhas r j b e).elim,fun q hq=>hq.elim (fun h=>h.elim) .inr,fun r i _=>rfl,fun r k e=>(by cases e),fun b o n h=>h⟩;have fin:∀ (w':World) (b:Option Nat) (s:Value),Below w.heap.size w w'->(b=none\/b=some w.heap.size)->b=bK s->w'.ownsRow 0 47 4 s 0 []->CAv dB w' s->∃ v E9 ρ q v0,Ending.returned s=.returned v/\Mem E9 ρ w w'/\(∀ q,¬ E9.qF q)/\ρ q=LKr.res ([]:List aI) v0/\v=E9.sl q:=fun w' b s hb hbs hbl ho hc=>by
  have hsl:(E.put 0 b s).sl 0=s:=by show bJ E.sl 0 s 0=s;exact aF _ _ _
  obtain⟨m1,m2⟩:=hM.turn (w':=w') 0 (lH.below hb _) b s (.row 47 tR [] 0)
   ⟨by rw[hsl];show bJ E.blk 0 _ 0=_;rw[aF];exact hbl,rfl,[],by rw[hsl];exact ho,rfl,by rw[hsl];exact⟨hc,a3k _⟩⟩ (hbs.elim .inl (fun h=>.inr (.inr h))) rfl (fun k e=>by cases e) (fun h=>h.elim) (fun h=>h.elim) (fun v h=>h.elim) (fun v h=>h.elim) (fun v h=>h.elim)
  exact⟨s,_,_,0,0,rfl,m1,fun q h=>h,aF _ _ _,hsl.symm⟩
 by_cases h0:n=0
 ·subst h0;refine(a8w w).mono ?_;rintro e w' ⟨rfl,rfl⟩;obtain⟨v,E9,ρ,q,v0,h⟩:=fin w' none (.slice none 0 0) (gy _ _) (.inl rfl) rfl (Bg _ _ _ _) (fun g hg=>by cases hg);exact⟨v,E9,ρ,q,v0,h⟩
 ·refine(b1m n w (by omega) hn9).mono ?_;rintro e w' ⟨c,c1,c2,rfl,rfl⟩;have hcell:(w.drew.alloc (.cells (#[]++Builtin.zeroCells LY.cells n++Builtin.zeroCells LY.cells (c-n)) 47)).heap[w.heap.size]?=some (.cells (#[]++Builtin.zeroCells LY.cells n++Builtin.zeroCells LY.cells (c-n)) 47 (0,0)):=Dj w.drew (.cells (#[]++Builtin.zeroCells LY.cells n++Builtin.zeroCells LY.cells (c-n)) 47);obtain⟨v,E9,ρ,q,v0,h⟩:=fin _ (some w.heap.size) (.slice (some ⟨w.heap.size,0,none⟩) 0 c) ((gy _ _).drew.alloc (aj _) _) (.inr rfl) rfl ⟨rfl,.inr ⟨w.heap.size,c,_,rfl,ru _,hcell,ru _,c2,by
    simp only[Array.size_append,b7H,Array.size_empty];show 0+n*4+(c-n)*4=c*4;omega,by simp⟩⟩ (fun g hg i x hx=>by
    cases hg;have hx:=(yg _ w.heap.size i _ _ _ hcell).symm.trans hx;have hx2:=Array.mem_of_getElem? hx;simp only[Array.mem_append] at hx2;rcases hx2 with(hx2|hx2)|hx2
    ·exact absurd hx2 (by simp)
    ·exact zH a7U _ x (Ey.2 hx2)
    ·exact zH a7U _ x (Ey.2 hx2))
  exact⟨v,E9,ρ,q,v0,h⟩
end
def nzQ (q:aI):Bool:=decide (q.x≠0)
theorem b3J (x:Rat):(sgn x.num != 0)=decide (x≠0):=by
 by_cases h:x=0
 ·subst h;rfl
 ·rw[jg h,Eu];exact c4d fun e=>h (Bj.mp e)
theorem PG (x:Rat):(sgn x.num=0)↔x=0:=⟨fun h=>Bj.mp (wu.1 h),fun h=>by rw[h];rfl⟩
theorem a0T {α:Type} {K:Nat}:∀ {x:List (List α)},(∀ r ∈ x,r.length<=K)->x.flatten.length<=K*x.length
 | [],_=>by simp
 | r::x,h=>by have h1:=h r (je ..);have h2:=a0T fun s hs=>h s (jd _ hs);rw[List.flatten_cons,dh,List.length_cons,Nat.mul_succ];omega
theorem YE {α:Type} {x:List (List α)} {i:Nat} (hi:i<x.length):(x.take (i+1)).flatten=(x.take i).flatten++x.getD i []:=by rw[Ew,List.flatten_append,bg,dw hi];simp
noncomputable def c4X:Ctr:=⟨[.list (.list tR)],[.list tR],fun x=>(show MR from x.1).length<=1000/\∀ r ∈ (show MR from x.1),r.length<=1000,fun x=>((show MR from x.1).flatten,())⟩
theorem a2i:aJ Tryz.prog 63 c4X:=by
 refine aN (nil0.an b1l) ⟨[],[],[]⟩ Tryz.func63 rfl (by decide) (fun x=>[.inv {k:Nat // k<=(show MR from x.1).length} (fun k=>[(11,.val tI (k.1:Int)),(3,.val tI (((show MR from x.1).take k.1).flatten.length:Int))]) (fun k=>[]) (fun k=>(show MR from x.1).length-k.1) ⟨0,by omega⟩ (fun _=>[]),
  .inv {k:Nat // k<=(show MR from x.1).length} (fun k=>[(27,.val tI (k.1:Int)),(6,.own 24 0),(24,.any)]) (fun k=>[(24,.row 47 tR (((show MR from x.1).take k.1).flatten) 0)]) (fun k=>(show MR from x.1).length-k.1) ⟨0,by omega⟩ (fun _=>[])]) (fun x hp=>?_)
 obtain⟨x,u⟩:=x;change List (List aI) at x;refine aP ((asT Int 0=0/\0=aB (List.flatten (List.take 0 x)).length/\True)/\∀ (i:{ k:Nat // k<=List.length x }),let A₀:=(List.flatten (List.take (aA i) x)).length;let A₁:=(aB A₀+aB (List.getD x (aB (aA i)).toNat (aC aI)).length);asT Bool true=true/\ifB (decide (aB (aA i)<aB x.length)) ((0<=aB (aA i)/\aB (aA i)<aB x.length/\True)/\ifB (decide (IntKind.wrap IntKind.i64 A₁<0)) False (∃ (i':{ k:Nat // k<=List.length x }),List.length x-aA i'<List.length x-aA i/\IntKind.wrap IntKind.i64 (aB (aA i)+1)=aB (aA i')/\IntKind.wrap IntKind.i64 A₁=aB (List.flatten (List.take (aA i') x)).length/\True)) (((asT (Option (List aI)) none=none/\0<=aB A₀/\aB A₀<=1000000000)/\True)/\(asT Int 0=0/\asT (List aI) (aC aI)=aC aI/\True)/\∀ (i:{ k:Nat // k<=List.length x }),let A₂:=(List.take (aA i) x);asT Bool true=true/\ifB (decide (aB (aA i)<aB x.length)) ((0<=aB (aA i)/\aB (aA i)<aB x.length/\True)/\(List.length (List.flatten A₂)+List.length (List.getD x (aB (aA i)).toNat (aC aI))<=1000000000/\True)/\∃ (i':{ k:Nat // k<=List.length x }),List.length x-aA i'<List.length x-aA i/\IntKind.wrap IntKind.i64 (aB (aA i)+1)=aB (aA i')/\List.flatten A₂++List.getD x (aB (aA i)).toNat (aC aI)=List.flatten (List.take (aA i') x)/\True) (True/\List.flatten A₂=List.flatten x/\True))) (by kernel_rfl) ?_;try simp only[zP0]
 try dsimp only[aB,asT,aA,aC,Ty.den,Lf.den] at *
 try simp only[zP1]
 try simp only[zP2]
 obtain⟨hl,hr⟩:x.length<=1000/\∀ r ∈ x,r.length<=1000:=hp;have hf:∀ k,(x.take k).flatten.length<=1000000:=fun k=>by
  have h1:=a0T (K:=1000) (x:=x.take k) fun r h=>hr r (Dx h);have h2:(x.take k).length<=1000:=by rw[jk];omega
  omega
 have hg:∀ k,(x.getD k []).length<=1000:=fun k=>by
  by_cases h:k<x.length
  ·exact cO hr h
  ·rw[bg,qm (by omega)];simp
 refine⟨rfl,fun i=>⟨fun h1=>?_,fun h1=>⟨⟨by omega,by have:=hf i.1;omega⟩,fun j=>⟨fun h2=>⟨⟨by omega,h2⟩,by have:=hf j.1;have:=hg j.1;omega,⟨j.1+1,by omega⟩,by simp only;omega,by rw[aG (by omega) (by omega)];rfl,(YE (by omega)).symm⟩,fun h2=>by rw[jf (by omega)]⟩⟩⟩⟩;have e1:=hf i.1;have e2:=hg i.1;rw[aG (n:=((x.take i.1).flatten.length:Int)+((x.getD i.1 []).length:Int)) (by omega) (by omega)];refine⟨⟨by omega,h1⟩,fun h=>by omega,fun h=>⟨⟨i.1+1,by omega⟩,by simp only;omega,by rw[aG (by omega) (by omega)];rfl,?_⟩⟩;show _=(((x.take (i.1+1)).flatten.length:Nat):Int);rw[YE (by omega),dh];omega
theorem jH {α:Type} {xs:List α} {i:Nat} {d:α} (hi:i<xs.length):xs.getD i d ∈ xs:=by rw[bg,dw hi];exact uq hi
theorem a1F (x:Rat):(sgn x.num==0)=decide (x=0):=by
 by_cases h:x=0
 ·subst h;rfl
 ·rw[iy h];exact Af.mpr fun e=>h ((PG x).mp e)
abbrev ML:Type:=List (List (List aI))
theorem b0l (a:MR):nI a=0\/nI a=1:=by unfold nI;split<;>simp
def MC (l:ML):Int:=if l.any (fun a=>nI a != 0) then 1 else 0
noncomputable def c4P:Ctr:=⟨[.list tMR],[tI],fun x=>(show ML from x.1).length<=1000000/\∀ a ∈ (show ML from x.1),rH a,fun x=>(MC x.1,())⟩
theorem OZ:aJ Tryz.prog 230 c4P:=by
 refine kL (nil0.ad qX) [] Tryz.func230 rfl (by decide) (fun x=>[.inv {k:Nat // k<=(show ML from x.1).length/\((show ML from x.1).take k).any (fun a=>nI a != 0)=false} (fun k=>[(8,.val tI (k.1:Int))]) (fun k=>[]) (fun k=>(show ML from x.1).length-k.1) ⟨0,by omega,rfl⟩ (fun _=>[])]) (fun x hp=>?_);obtain⟨x,u⟩:=x;change List (List (List aI)) at x;refine aP ((asT Int 0=0/\True)/\∀ (i:{ k:Nat // k<=List.length x/\(List.any (List.take k x) fun(a:List (List aI))=>nI a != 0)=false }),asT Bool true=true/\ifB (decide (aB (aA i)<aB x.length)) ((0<=aB (aA i)/\aB (aA i)<aB x.length/\True)/\(rH (List.getD x (aB (aA i)).toNat (aC (List aI)))/\True)/\ifB (nI (List.getD x (aB (aA i)).toNat (aC (List aI))) != 0) (True/\nI (List.getD x (aB (aA i)).toNat (aC (List aI)))=MC x/\True) (∃ (i':{ k:Nat // k<=List.length x/\(List.any (List.take k x) fun(a:List (List aI))=>nI a != 0)=false }),List.length x-aA i'<List.length x-aA i/\IntKind.wrap IntKind.i64 (aB (aA i)+1)=aB (aA i')/\True)) (True/\0=MC x/\True)) (by kernel_rfl) ?_;obtain⟨hl,hb⟩:=hp;dsimp only[aB,asT,aA,aC] at *
 simp only[Int.toNat_natCast,gZ,jc,jv,Dt,Cb];refine fun i=>⟨fun h1=>⟨⟨by omega,h1⟩,cO hb (by omega),fun h2=>?_,fun h2=>⟨⟨i.1+1,by omega,?_⟩,by simp only;omega,?_⟩⟩,fun h1=>?_⟩
 ·have hi:i.1<x.length:=by omega
  have h3:x.any (fun a=>nI a != 0)=true:=yx.mpr ⟨x.getD i.1 [],by rw[bg,dw hi];exact uq hi,h2⟩;unfold MC;rw[h3];rcases b0l (x.getD i.1 []) with h|h
  ·rw[h] at h2;exact absurd h2 (by decide)
  ·rw[h];rfl
 ·rw[jL (d:=[]) (by omega),i.2.2,h2];rfl
 ·rw[aG (by omega) (by omega)];rfl
 ·have h3:=i.2.2;rw[jf (by omega)] at h3;unfold MC;rw[h3];rfl
abbrev MQ:Type:=List (List Rat)
abbrev ent (a:MQ) (i j:Nat):Rat:=(a.getD i []).getD j 0
def tab (R C:Nat) (f:Nat->Nat->Rat):MQ:=(List.range R).map fun i=>(List.range C).map fun j=>f i j
def aY (R C:Nat) (f:Nat->Nat->Rat):MR:=(List.range R).map fun i=>(List.range C).map fun j=>dK (f i j)
def isM (a:MQ) (R C:Nat):Prop:=a.length=R/\(∀ r ∈ a,r.length=C)/\1<=R/\R<=64/\1<=C/\C<=64
theorem gW (R C:Nat) (f:Nat->Nat->Rat):(aY R C f).length=R:=by simp[aY]
theorem b2s {α:Type} (X:List (List α)) (Z:List α) {k:Nat} (hk:k<X.length):List.map (fun i=>(X++[Z]).getD i []) ((List.range X.length).set k X.length)=X.set k Z:=by
 apply List.ext_getElem
 ·simp
 ·intro i h1 h2;have hi:i<X.length:=by simpa using h2
  rw[List.getElem_map,List.getElem_set,List.getElem_set];split
  ·simp
  ·rw[List.getElem_range,bg,Ak hi,dw hi];rfl
theorem b5T (n k:Nat):((List.range n).set k n).Nodup:=by
 refine List.nodup_iff_pairwise_ne.mpr (List.pairwise_iff_getElem.mpr fun i j hi hj h=>?_);have h1:i<n:=by simpa using hi
 have h2:j<n:=by simpa using hj
 rw[List.getElem_set,List.getElem_set];split<;>split<;>simp<;>omega
theorem b2t {α:Type} {H:List (List α)} {k R:Nat} (hH:H.length=k) (hk:k<R) (Z:List α):(H++List.replicate (R-k) []).set k Z=H++[Z]++List.replicate (R-k-1) []:=by obtain⟨d,rfl⟩:∃ d,R=k+d+1:=⟨R-k-1,by omega⟩;subst hH;rw[show H.length+d+1-H.length=d+1 by omega,show d+1-1=d by omega,List.set_append_right _ _ (aj _),Nat.sub_self,List.replicate_succ,List.set_cons_zero];simp
theorem a6D {α:Type} {H T:List (List α)} {k:Nat} (hH:H.length=k) (Z:List α):rowAt (H++[Z]++T) k=Z:=by subst hH;unfold rowAt;simp
theorem b2v {α:Type} {H T:List (List α)} {k:Nat} (hH:H.length=k) (Z Y:List α):(H++[Z]++T).set k Y=H++[Y]++T:=by subst hH;simp
theorem b2u {α:Type} (g:Nat->α) (z:α) {q C:Nat} (h:q<C):(List.map g (List.range q)++List.replicate (C-q) z).set q (g q)=List.map g (List.range (q+1))++List.replicate (C-(q+1)) z:=by obtain⟨d,rfl⟩:∃ d,C=q+d+1:=⟨C-q-1,by omega⟩;rw[show q+d+1-q=d+1 by omega,show q+d+1-(q+1)=d by omega,List.set_append_right _ _ (by simp),wz];simp[List.replicate_succ]
theorem a9w (k C:Nat) (f:Nat->Nat->Rat):aY (k+1) C f=aY k C f++[List.map (fun j=>dK (f k j)) (List.range C)]:=by unfold aY;rw[wz];simp
theorem iW {α:Type} {p:α->Prop}:∀ {xs:List α},fV p xs↔∀ x ∈ xs,p x
 | []=>by simp[fV]
 | x::xs=>by simp[fV,iW (xs:=xs)]
theorem wO (R C:Nat) (f:Nat->Nat->Rat):fV (fun x=>dH [fV (fun x=>dH [aI.ok x=true]) x]) (aY R C f):=by refine iW.mpr fun r hr=>⟨iW.mpr fun q hq=>⟨?_,trivial⟩,trivial⟩;obtain⟨i,_,rfl⟩:=jq.mp hr;obtain⟨j,_,rfl⟩:=jq.mp hq;rfl
theorem DF (R C:Nat) (f:Nat->Nat->Rat):List.map (fun xs=>List.map (fun x=>aI.x x) xs) (aY R C f)=tab R C f:=by unfold aY tab;simp[dK,Function.comp_def]
instance c9h (n:Nat):OfNat (Ty.den tI) n:=inferInstanceAs (OfNat Int n)
abbrev LQ':Type:=List Rat
abbrev lv (l:LQ') (i:Nat):Rat:=l.getD i 0
theorem jG {R C:Nat} {f:Nat->Nat->Rat}:(tab R C f).length=R:=by simp[tab]
theorem LJ {R C:Nat} {f:Nat->Nat->Rat} {i:Nat} (h:i<R):(tab R C f).getD i []=(List.range C).map (f i):=by simp[tab,bg,h]
theorem eF {R C:Nat} {f:Nat->Nat->Rat} {i j:Nat} (h1:i<R) (h2:j<C):ent (tab R C f) i j=f i j:=by show ((tab R C f).getD i []).getD j 0=_;rw[LJ h1];simp[bg,h2]
theorem b4f {R C:Nat} {f:Nat->Nat->Rat}:∀ r ∈ tab R C f,r.length=C:=by intro r hr;obtain⟨i,_,rfl⟩:=jq.mp hr;simp
theorem uF {R C:Nat} {f:Nat->Nat->Rat} (r1:1<=R) (r2:R<=64) (c1:1<=C) (c2:C<=64):isM (tab R C f) R C:=⟨jG,b4f,r1,r2,c1,c2⟩
theorem isM.wd {a:MQ} {R C:Nat} (h:isM a R C):wdM a=C:=cO (p:=fun r:List Rat=>r.length=C) h.2.1 (by have:=h.1;have:=h.2.2.1;omega)
theorem isM.row {a:MQ} {R C:Nat} (h:isM a R C) {i:Nat} (hi:i<R):(a.getD i []).length=C:=cO (p:=fun r:List Rat=>r.length=C) h.2.1 (by have:=h.1;omega)
theorem uS {R C:Nat} {f g:Nat->Nat->Rat} (h:∀ i,i<R->∀ j,j<C->f i j=g i j):tab R C f=tab R C g:=by unfold tab;refine og fun i hi=>og fun j hj=>h i (oq.mp hi) j (oq.mp hj)
theorem jT {R C:Nat} {f:Nat->Nat->Rat} {i:Nat} (h:i<R):(aY R C f).getD i []=(List.range C).map (fun c=>dK (f i c)):=by simp[aY,bg,h]
theorem map_set {α:Type} (g:Nat->α) (C c:Nat) (v:α):((List.range C).map g).set c v=(List.range C).map (fun d=>if d=c then v else g d):=by
 apply List.ext_getElem
 ·simp
 ·intro i h1 h2;rw[List.getElem_set];by_cases e:c=i
  ·subst e;simp
  ·rw[bn e];simp[show ¬ i=c by omega]
theorem VP {R C:Nat} {f:Nat->Nat->Rat} (i:Nat) (g:Nat->Rat):(aY R C f).set i ((List.range C).map fun c=>dK (g c))=aY R C (fun k=>if k=i then g else f k):=by
 unfold aY;rw[map_set];refine og fun k _=>?_;by_cases e:k=i
 ·simp only[dn e]
 ·simp only[bn e]
theorem iI {R C:Nat} {f g:Nat->Nat->Rat} (h:∀ i,i<R->∀ j,j<C->f i j=g i j):aY R C f=aY R C g:=by unfold aY;refine og fun i hi=>og fun j hj=>?_;rw[h i (oq.mp hi) j (oq.mp hj)]
theorem iL {α:Type} {g:Nat->α} {C c:Nat} {d:α} (h:c<C):((List.range C).map g).getD c d=g c:=by simp[bg,h]
def szM (a:MQ) (K:Nat):Prop:=∀ i,i<a.length->∀ j,j<wdM a->rsz (ent a i j)<=K
def okM (a:MQ):Prop:=isM a a.length (wdM a)/\szM a 100000000
abbrev liftM (a:MQ):MR:=List.map (fun xs=>List.map (fun x=>dK x) xs) a
theorem a8L (a:MQ):(liftM a).length=a.length:=by simp
theorem a8M (a:MQ) (i:Nat):(liftM a).getD i []=(a.getD i []).map dK:=by simp[bg];cases a[i]?<;>rfl
theorem b2j (a:MQ):wdM (liftM a)=wdM a:=by show ((liftM a).getD 0 []).length=(a.getD 0 []).length;rw[a8M,ny]
theorem okM.ent {a:MQ} (h:okM a) {r:List Rat} (hr:r ∈ a) {x:Rat} (hx:x ∈ r):rsz x<=100000000:=by
 obtain⟨i,hi,rfl⟩:=Dn hr;obtain⟨j,hj,rfl⟩:=Dn hx;have h1:=h.1.2.1 _ (uq hi);have h2:=h.2 i hi j (by rw[<-h1];exact hj);have e:Proofs.YtbkocjmmbkifjaaGreat.ent a i j=a[i][j]:=by show (a.getD i []).getD j 0=_;rw[show a.getD i []=a[i] by rw[bg,dw hi];rfl,bg,dw hj];rfl
 rwa [e] at h2
theorem a9c (x:Rat):(dK x).n<=rsz x/\(dK x).m<=rsz x:=⟨Nat.le_max_left _ _,Nat.le_max_right _ _⟩
theorem okM.short {a:MQ} (h:okM a):rH (liftM a):=by refine⟨by have:=h.1.2.2.2.1;simp;omega,fun r hr=>?_⟩;obtain⟨s,hs,rfl⟩:=jq.mp hr;refine⟨by have:=h.1.2.1 s hs;have:=h.1.2.2.2.2.2;simp;omega,fun q hq=>?_⟩;obtain⟨x,hx,rfl⟩:=jq.mp hq;have h1:=h.ent hs hx;have ⟨h2,h3⟩:=a9c x;exact⟨by omega,by omega⟩
theorem okM.chk {a:MQ} (h:okM a):nI (liftM a)=0:=by
 obtain⟨⟨h1,h2,h3,h4,h5,h6⟩,_⟩:=h;have hb:(liftM a).any (badR (wdM a))=false:=by
  refine List.any_eq_false.mpr fun r hr=>?_;obtain⟨s,hs,rfl⟩:=jq.mp hr;unfold badR;have:(List.map (fun x=>dK x) s).any (fun q=>!q.ok)=false:=List.any_eq_false.mpr fun q hq=>by obtain⟨x,_,rfl⟩:=jq.mp hq;simp[dK]
  rw[this,ny,h2 s hs];simp
 unfold nI;rw[a8L,b2j,hb,dn ⟨h3,h4,h5,h6,rfl⟩]
def tC (m n:Int) (f:Nat->Nat->Rat) (P:Int->Int->Prop) (Fin:MR->Prop):Prop:=(m=m/\0<=m/\m<=1000000000/\True)/\(asT Int 0=0/\List.replicate m.toNat (aC aI)=List.replicate (Int.toNat m-0) (aC aI)/\True)/\∀ (i:{ k:Nat // k<=Int.toNat m }),asT Bool true=true/\ifB (decide (aB (aA i)<aB (aW none (List.replicate m.toNat (aC aI))))) ((n=n/\0<=n/\n<=1000000000/\0<=aB (aA i)/\aB (aA i)<aB (aW none (aY (aA i) n.toNat f++List.replicate (Int.toNat m-aA i) (aC aI)))/\Int.toNat (aB (aA i))<aW none (aY (aA i) n.toNat f++List.replicate (Int.toNat m-aA i) (aC aI))/\True)/\(0<=aB (aA i)/\aB (aA i)<aB (aW (some (List.set (bW none (aY (aA i) n.toNat f++List.replicate (Int.toNat m-aA i) (aC aI))) (aB (aA i)).toNat (aY (aA i) n.toNat f++List.replicate (Int.toNat m-aA i) (aC aI)).length)) (aY (aA i) n.toNat f++List.replicate (Int.toNat m-aA i) (aC aI)++List.replicate n.toNat { ok:=false,x:=0,g:=aC Nat,h:=aC Nat }::aC (List aI)))/\Int.toNat (aB (aA i))<aW (some (List.set (bW none (aY (aA i) n.toNat f++List.replicate (Int.toNat m-aA i) (aC aI))) (aB (aA i)).toNat (aY (aA i) n.toNat f++List.replicate (Int.toNat m-aA i) (aC aI)).length)) (aY (aA i) n.toNat f++List.replicate (Int.toNat m-aA i) (aC aI)++List.replicate n.toNat { ok:=false,x:=0,g:=aC Nat,h:=aC Nat }::aC (List aI))/\True)/\(asT Int 0=0/\List.Nodup (List.set (bW none (aY (aA i) n.toNat f++List.replicate (Int.toNat m-aA i) (aC aI))) (aB (aA i)).toNat (aY (aA i) n.toNat f++List.replicate (Int.toNat m-aA i) (aC aI)).length)/\List.map (fun(i_1:Nat)=>List.getD (aY (aA i) n.toNat f++List.replicate (Int.toNat m-aA i) (aC aI)++List.replicate n.toNat { ok:=false,x:=0,g:=aC Nat,h:=aC Nat }::aC (List aI)) i_1 (aC aI)) (List.set (bW none (aY (aA i) n.toNat f++List.replicate (Int.toNat m-aA i) (aC aI))) (aB (aA i)).toNat (aY (aA i) n.toNat f++List.replicate (Int.toNat m-aA i) (aC aI)).length)=aY (aA i) n.toNat f++(List.map (fun(j:Nat)=>dK (f (aA i) j)) (List.range 0)++List.replicate (Int.toNat n-0) bP)::aC (List aI)++List.replicate (Int.toNat m-aA i-1) (aC aI)/\True)/\∀ (i_1:{ q:Nat // q<=Int.toNat n }),asT Bool true=true/\ifB (decide (aB (aA i_1)<aB (rowAt (aY (aA i) n.toNat f++List.replicate (Int.toNat m-aA i) (aC aI)++List.replicate n.toNat { ok:=false,x:=0,g:=aC Nat,h:=aC Nat }::aC (List aI)) (nameAt (some (List.set (bW none (aY (aA i) n.toNat f++List.replicate (Int.toNat m-aA i) (aC aI))) (aB (aA i)).toNat (aY (aA i) n.toNat f++List.replicate (Int.toNat m-aA i) (aC aI)).length)) (aB (aA i)).toNat)).length)) ((0<=aB (aA i)/\aB (aA i)<aB (aW none (aY (aA i) n.toNat f++(List.map (fun(j:Nat)=>dK (f (aA i) j)) (List.range (aA i_1))++List.replicate (Int.toNat n-aA i_1) bP)::aC (List aI)++List.replicate (Int.toNat m-aA i-1) (aC aI)))/\Int.toNat (aB (aA i))<aW none (aY (aA i) n.toNat f++(List.map (fun(j:Nat)=>dK (f (aA i) j)) (List.range (aA i_1))++List.replicate (Int.toNat n-aA i_1) bP)::aC (List aI)++List.replicate (Int.toNat m-aA i-1) (aC aI))/\P (aB (aA i)) (aB (aA i_1))/\0<=aB (aA i_1)/\aB (aA i_1)<aB (rowAt (aY (aA i) n.toNat f++(List.map (fun(j:Nat)=>dK (f (aA i) j)) (List.range (aA i_1))++List.replicate (Int.toNat n-aA i_1) bP)::aC (List aI)++List.replicate (Int.toNat m-aA i-1) (aC aI)) (nameAt none (aB (aA i)).toNat)).length/\Int.toNat (aB (aA i_1))<List.length (rowAt (aY (aA i) n.toNat f++(List.map (fun(j:Nat)=>dK (f (aA i) j)) (List.range (aA i_1))++List.replicate (Int.toNat n-aA i_1) bP)::aC (List aI)++List.replicate (Int.toNat m-aA i-1) (aC aI)) (nameAt none (aB (aA i)).toNat))/\True)/\∃ (i':{ q:Nat // q<=Int.toNat n }),Int.toNat n-aA i'<Int.toNat n-aA i_1/\IntKind.wrap IntKind.i64 (aB (aA i_1)+1)=aB (aA i')/\List.set (aY (aA i) n.toNat f++(List.map (fun(j:Nat)=>dK (f (aA i) j)) (List.range (aA i_1))++List.replicate (Int.toNat n-aA i_1) bP)::aC (List aI)++List.replicate (Int.toNat m-aA i-1) (aC aI)) (nameAt none (aB (aA i)).toNat) (List.set (rowAt (aY (aA i) n.toNat f++(List.map (fun(j:Nat)=>dK (f (aA i) j)) (List.range (aA i_1))++List.replicate (Int.toNat n-aA i_1) bP)::aC (List aI)++List.replicate (Int.toNat m-aA i-1) (aC aI)) (nameAt none (aB (aA i)).toNat)) (aB (aA i_1)).toNat (dK (f (aB (aA i)).toNat (aB (aA i_1)).toNat)))=aY (aA i) n.toNat f++(List.map (fun(j:Nat)=>dK (f (aA i) j)) (List.range (aA i'))++List.replicate (Int.toNat n-aA i') bP)::aC (List aI)++List.replicate (Int.toNat m-aA i-1) (aC aI)/\True) (∃ (i':{ k:Nat // k<=Int.toNat m }),Int.toNat m-aA i'<Int.toNat m-aA i/\IntKind.wrap IntKind.i64 (aB (aA i)+1)=aB (aA i')/\aY (aA i) n.toNat f++(List.map (fun(j:Nat)=>dK (f (aA i) j)) (List.range (aA i_1))++List.replicate (Int.toNat n-aA i_1) bP)::aC (List aI)++List.replicate (Int.toNat m-aA i-1) (aC aI)=aY (aA i') n.toNat f++List.replicate (Int.toNat m-aA i') (aC aI)/\True)) (Fin (aY (aA i) n.toNat f++List.replicate (Int.toNat m-aA i) (aC aI)))
theorem lC {R C:Nat} {f:Nat->Nat->Rat} {P:Int->Int->Prop} {Fin:MR->Prop} (r2:R<=1000) (c2:C<=1000) (hP:∀ i j:Nat,i<R->j<C->P i j) (hF:Fin (aY R C f)):tC R C f P Fin:=by
 unfold tC;have hZ:(⟨false,0,[],[]⟩:aI)=bP:=rfl;dsimp only[aB,asT,aA,aC] at *
 simp only[hZ,Int.toNat_natCast,gZ,jc,jv,Dt,Cb];have hX:∀ k,k<=R->(aY k C f++List.replicate (R-k) ([]:List aI)).length=R:=fun k hk=>by rw[dh,gW,Bo];omega
 have hY:∀ k (Z:List aI),k<R->(aY k C f++[Z]++List.replicate (R-k-1) ([]:List aI)).length=R:=fun k Z hk=>by rw[dh,dh,gW,Bo];simp;omega
 refine⟨by omega,by rw[Nat.sub_zero],fun i=>⟨fun h1=>?_,fun h1=>?_⟩⟩
 ·have hi:i.1<R:=by simpa [aW] using h1
  simp only[aW,nameAt,bW,hX i.1 i.2,hY i.1 _ hi,qp,jr];have e1:((List.range R).set i.1 R).getD i.1 0=R:=by simp[bg,hi]
  have e2:rowAt (aY i.1 C f++List.replicate (R-i.1) []++[List.replicate C bP]) R=List.replicate C bP:=by have:=a6D (T:=[]) (hX i.1 i.2) (List.replicate C bP);rwa [Aj] at this
  have e3:=b2s (aY i.1 C f++List.replicate (R-i.1) []) (List.replicate C bP) (k:=i.1) (by rw[hX i.1 i.2];exact hi);rw[hX i.1 i.2,b2t (gW _ _ _) hi] at e3;rw[e1,e2,e3,Bo];refine⟨⟨by omega,by omega,by omega,by omega,hi⟩,⟨by omega,by omega,hi⟩,⟨b5T R i.1,by simp⟩,fun q=>⟨fun h2=>?_,fun h2=>?_⟩⟩
  ·have hq:q.1<C:=by omega
   have hl:(List.map (fun j=>dK (f i.1 j)) (List.range q.1)++List.replicate (C-q.1) bP).length=C:=by simp;omega
   rw[a6D (gW _ _ _),hl];refine⟨⟨by omega,by omega,hi,hP _ _ hi hq,by omega,by omega,hq⟩,⟨q.1+1,by omega⟩,by simp only;omega,by rw[aG (by omega) (by omega)];rfl,?_⟩;rw[b2v (gW _ _ _),b2u (fun j=>dK (f i.1 j)) bP hq]
  ·have hq:q.1=C:=by have:=q.2;omega
   refine⟨⟨i.1+1,by omega⟩,by simp only;omega,by rw[aG (by omega) (by omega)];rfl,?_⟩;rw[hq,Nat.sub_self,List.replicate_zero,Aj,a9w,Nat.sub_sub]
 ·have hi:i.1=R:=by have:=i.2;simp only[aW,Bo] at h1;omega
  rw[hi,Nat.sub_self,List.replicate_zero,Aj];exact hF
def rQ (m n:Int) (f:Nat->Nat->Rat):List Ann:=[.inv {k:Nat // k<=m.toNat} (fun k=>[(14,.val tI (k.1:Int))]) (fun k=>[(11,.mat 39 47 tR none (aY k.1 n.toNat f++List.replicate (m.toNat-k.1) []) 0)]) (fun k=>m.toNat-k.1) ⟨0,by omega⟩ (fun k=>[
 .inv {q:Nat // q<=n.toNat} (fun q=>[(27,.val tI (q.1:Int)),(20,.any),(21,.any),(24,.any),(25,.any)]) (fun q=>[(11,.mat 39 47 tR none (aY k.1 n.toNat f++[(List.range q.1).map (fun j=>dK (f k.1 j))++List.replicate (n.toNat-q.1) bP]++List.replicate (m.toNat-k.1-1) []) 0)]) (fun q=>n.toNat-q.1) ⟨0,by omega⟩ (fun _=>[])])]
abbrev LKm:LK:=.mat 39 47 tR
noncomputable def WJ (T:List Ty) (ok:(nest T).den->Int->Int->Prop) (g:(nest T).den->Nat->Nat->Rat):Ctr:=⟨tI::tI::T,[tQ],fun x=>ok x.2.2 x.1 x.2.1,fun x=>(g x.2.2 (show Int from x.1).toNat (show Int from x.2.1).toNat,())⟩
def BO (T:List Ty) (ok:(nest T).den->Int->Int->Prop) (x:(nest [tI,tI,nest T]).den):Prop:=∃ R C:Nat,(show Int from x.1)=R/\(show Int from x.2.1)=C/\R<=1000/\C<=1000/\∀ i j:Nat,i<R->j<C->ok x.2.2.1 i j
noncomputable def GH (F:FuncId) (T:List Ty) (ok:(nest T).den->Int->Int->Prop) (g:(nest T).den->Nat->Nat->Rat):lK:=.mk (dec:=fun x=>⟨Classical.propDecidable _⟩) LKm [tI,tI,.clo F (nest T)] (fun x=>BO T ok x) (fun x=>aY (show Int from x.1).toNat (show Int from x.2.1).toNat (g x.2.2.1))
def sm:Nat->(Nat->Rat)->Rat
 | 0,_=>0
 | n+1,f=>sm n f+f n
theorem gV {f g:Nat->Rat}:∀ n,(∀ i,i<n->f i=g i)->sm n f=sm n g
 | 0,_=>rfl
 | n+1,h=>by show sm n f+f n=sm n g+g n;rw[gV n (fun i hi=>h i (by omega)),h n (by omega)]
theorem rV {f:Nat->Rat}:∀ n,(∀ i,i<n->f i=0)->sm n f=0
 | 0,_=>rfl
 | n+1,h=>by show sm n f+f n=0;rw[rV n (fun i hi=>h i (by omega)),h n (by omega)];grind
theorem NW (f g:Nat->Rat):∀ n,sm n (fun i=>f i+g i)=sm n f+sm n g
 | 0=>by show (0:Rat)=0+0;grind
 | n+1=>by show sm n _+(f n+g n)=(sm n f+f n)+(sm n g+g n);rw[NW f g n];grind
theorem NY (k:Rat) (f:Nat->Rat):∀ n,sm n (fun i=>k*f i)=k*sm n f
 | 0=>by show (0:Rat)=k*0;grind
 | n+1=>by show sm n _+k*f n=k*(sm n f+f n);rw[NY k f n];grind
theorem a1G (k:Rat) (f:Nat->Rat) (n:Nat):sm n (fun i=>f i*k)=sm n f*k:=by rw[show (fun i=>f i*k)=(fun i=>k*f i) from funext fun i=>by grind,NY];grind
theorem b3P (f g:Nat->Rat) (n:Nat):sm n (fun i=>f i-g i)=sm n f-sm n g:=by rw[show (fun i=>f i-g i)=(fun i=>f i+(-1)*g i) from funext fun i=>by grind,NW f (fun i=>(-1)*g i),NY];grind
theorem a1H (f:Nat->Nat->Rat) (m:Nat):∀ n,sm n (fun i=>sm m (fun j=>f i j))=sm m (fun j=>sm n (fun i=>f i j))
 | 0=>(rV m (fun j _=>rfl)).symm
 | n+1=>by show sm n (fun i=>sm m (fun j=>f i j))+sm m (fun j=>f n j)=sm m (fun j=>sm n (fun i=>f i j)+f n j);rw[a1H f m n,NW]
theorem NZ {f:Nat->Rat} (k:Nat):∀ n,k<n->(∀ i,i<n->i≠k->f i=0)->sm n f=f k
 | 0,h,_=>by omega
 | n+1,h,hz=>by
  show sm n f+f n=f k;by_cases e:k=n
  ·rw[rV n (fun i hi=>hz i (by omega) (by omega)),e];grind
  ·rw[NZ k n (by omega) (fun i hi hk=>hz i (by omega) hk),hz n (by omega) (by omega)];grind
theorem NR {x:Rat} (h:x≠0):x / x=1:=by rw[Rat.div_def,jw x h]
theorem b3N (f:Nat->Rat) (m:Nat):∀ n,sm (m+n) f=sm m f+sm n (fun i=>f (m+i))
 | 0=>by show sm m f=sm m f+0;grind
 | n+1=>by show sm (m+n) f+f (m+n)=sm m f+(sm n (fun i=>f (m+i))+f (m+n));rw[b3N f m n];grind
abbrev Mt:=Nat->Nat->Rat
def mm (n:Nat) (a b:Mt):Mt:=fun i j=>sm n fun k=>a i k*b k j
def mv (n:Nat) (a:Mt) (x:Nat->Rat):Nat->Rat:=fun i=>sm n fun k=>a i k*x k
def tr (a:Mt):Mt:=fun i j=>a j i
def idm:Mt:=fun i j=>if i=j then 1 else 0
def fk (e:Mt) (j:Nat):Nat->Nat->Nat
 | r,0=>r
 | r,n+1=>if e r j=0 then fk e j (r+1) n else r
theorem YD (e:Mt) (j:Nat):∀ n r,r<=fk e j r n/\fk e j r n<=r+n
 | 0,r=>⟨aj _,aj _⟩
 | n+1,r=>by have:=YD e j n (r+1);unfold fk;split<;>omega
theorem QK (e:Mt) (j:Nat):∀ n r i,r<=i->i<fk e j r n->e i j=0
 | 0,r,i,h1,h2=>by unfold fk at h2;omega
 | n+1,r,i,h1,h2=>by
  unfold fk at h2;split at h2
  ·rename_i h0;by_cases h:i=r
   ·rw[h];exact h0
   ·exact QK e j n (r+1) i (by omega) h2
  ·omega
theorem a2z (e:Mt) (j:Nat):∀ n r,fk e j r n<r+n->e (fk e j r n) j≠0
 | 0,r,h=>by unfold fk at h;omega
 | n+1,r,h=>by
  unfold fk at h ⊢;split at h
  ·rename_i h0;rw[dn h0];exact a2z e j n (r+1) (by omega)
  ·rename_i h0;rw[bn h0];exact h0
theorem a6k (e:Mt) (j r n k:Nat) (h1:r<=k) (h2:k<=r+n) (hz:∀ i,r<=i->i<k->e i j=0) (hn:k<r+n->e k j≠0):fk e j r n=k:=by
 have ⟨a1,a2⟩:=YD e j n r;rcases Nat.lt_trichotomy (fk e j r n) k with h|h|h
 ·exact absurd (hz _ a1 h) (a2z e j n r (by omega))
 ·exact h
 ·exact absurd (QK e j n r k h1 h) (hn (by omega))
theorem b1d {e f:Mt} {j:Nat} (n r:Nat) (h:∀ i,r<=i->i<r+n->e i j=f i j):fk e j r n=fk f j r n:=by
 have ⟨a1,a2⟩:=YD f j n r;refine a6k e j r n _ a1 a2 (fun i h1 h2=>?_) (fun h1=>?_)
 ·rw[h i h1 (by omega)];exact QK f j n r i h1 h2
 ·rw[h _ a1 h1];exact a2z f j n r h1
def fZ (e:Mt) (r k:Nat):Mt:=fun i=>if i=r then e k else if i=k then e r else e i
def mF (e:Mt) (r k j:Nat):Mt:=fun i c=>if i=r then e k c / e k j else fZ e r k i c-fZ e r k i j*(e k c / e k j)
def red (R:Nat) (e:Mt):Nat->Mt × List Nat
 | 0=>(e,[])
 | n+1 =>
  if fk (red R e n).1 n (red R e n).2.length (R-(red R e n).2.length)=R then red R e n
  else (mF (red R e n).1 (red R e n).2.length (fk (red R e n).1 n (red R e n).2.length (R-(red R e n).2.length)) n,(red R e n).2++[n])
structure Ech (R:Nat) (e:Mt) (n:Nat) (m:Mt) (p:List Nat):Prop where
 le:p.length<=R
 lt:∀ j ∈ p,j<n
 nd:p.Nodup
 unit:∀ t (h:t<p.length) i,i<R->m i p[t]=if i=t then 1 else 0
 rest:∀ i,p.length<=i->i<R->∀ c,c<n->m i c=0
 sol:∀ C (x:Nat->Rat),(∀ i,i<R->mv C e x i=0)↔(∀ i,i<R->mv C m x i=0)
theorem a1J (m:Mt) (r k j C:Nat) (x:Nat->Rat) (i:Nat):mv C (mF m r k j) x i=if i=r then mv C m x k / m k j else mv C (fZ m r k) x i-fZ m r k i j*(mv C m x k / m k j):=by
 unfold mv mF;by_cases h:i=r
 ·simp only[dn h];rw[show (fun c=>m k c / m k j*x c)=(fun c=>m k c*x c*(m k j)⁻¹) from funext fun c=>by rw[Rat.div_def];grind,a1G,Rat.div_def]
 ·simp only[bn h];rw[show (fun c=>(fZ m r k i c-fZ m r k i j*(m k c / m k j))*x c)=(fun c=>fZ m r k i c*x c-(fZ m r k i j*(m k j)⁻¹)*(m k c*x c)) from funext fun c=>by rw[Rat.div_def];grind,b3P (fun c=>fZ m r k i c*x c) (fun c=>(fZ m r k i j*(m k j)⁻¹)*(m k c*x c)),NY,Rat.div_def];grind
theorem b3T (m:Mt) (R r k j C:Nat) (x:Nat->Rat) (hr:r<R) (hk:k<R) (hz:m k j≠0):(∀ i,i<R->mv C m x i=0)↔(∀ i,i<R->mv C (mF m r k j) x i=0):=by
 have hsw:∀ i,mv C (fZ m r k) x i=if i=r then mv C m x k else if i=k then mv C m x r else mv C m x i:=fun i=>by
  unfold mv fZ;by_cases h1:i=r
  ·simp only[dn h1]
  ·by_cases h2:i=k
   ·simp only[bn h1,dn h2]
   ·simp only[bn h1,bn h2]
 constructor
 ·intro h i hi;rw[a1J,hsw,h k hk];split
  ·rw[Rat.div_def];grind
  ·have:=h i hi;have:=h r hr;rw[Rat.div_def];split<;>grind
 ·intro h;have h1:=h r hr;rw[a1J,dn rfl,Rat.div_def] at h1;have hkz:mv C m x k=0:=by
   have:mv C m x k=mv C m x k*(m k j)⁻¹*m k j:=by rw[Rat.mul_assoc,Rat.inv_mul_cancel _ hz];grind
   rw[this,h1];grind
  have hA:∀ i,i<R->i≠r->(if i=k then mv C m x r else mv C m x i)=0:=fun i hi hir=>by have:=h i hi;rw[a1J,bn hir,hsw,bn hir,hkz,Rat.div_def] at this;grind
  intro i hi;by_cases e1:i=k
  ·rw[e1];exact hkz
  ·by_cases e2:i=r
   ·have:=hA k hk (by omega);rw[dn rfl] at this;rw[e2];exact this
   ·have:=hA i hi e2;rw[bn e1] at this;exact this
theorem wL (R:Nat) (e:Mt):∀ n,Ech R e n (red R e n).1 (red R e n).2
 | 0=>⟨ru _,fun j h=>(nomatch h),List.nodup_nil,fun t h=>absurd h (Bl _),fun i _ _ c h=>absurd h (Bl _),fun _ _=>Iff.rfl⟩
 | n+1=>by
  have ih:=wL R e n;rw[show red R e (n+1)=(if fk (red R e n).1 n (red R e n).2.length (R-(red R e n).2.length)=R then ((red R e n).1,(red R e n).2) else (mF (red R e n).1 (red R e n).2.length (fk (red R e n).1 n (red R e n).2.length (R-(red R e n).2.length)) n,(red R e n).2++[n])) from rfl];generalize (red R e n).1=m at *
  generalize (red R e n).2=p at *
  generalize hk:fk m n p.length (R-p.length)=k;have ⟨k1,k2⟩:=YD m n (R-p.length) p.length;have k3:=QK m n (R-p.length) p.length;have k4:=a2z m n (R-p.length) p.length;rw[hk] at k1 k2 k3 k4;have hle:=ih.le;by_cases hR:k=R
  ·rw[dn hR];exact⟨ih.le,fun j hj=>Nat.lt_succ_of_lt (ih.lt j hj),ih.nd,ih.unit,fun i h1 h2 c hc=>by
    by_cases e1:c=n
    ·rw[e1];exact k3 i h1 (by omega)
    ·exact ih.rest i h1 h2 c (by omega),ih.sol⟩
  ·rw[bn hR];have hz:m k n≠0:=k4 (by omega);refine⟨by simp;omega,fun j hj=>?_,?_,fun t ht i hi=>?_,fun i h1 h2 c hc=>?_,fun C x=>?_⟩
   ·rcases tu.mp hj with h|h
    ·exact Nat.lt_succ_of_lt (ih.lt j h)
    ·rw[mg.mp h];omega
   ·refine List.nodup_append.mpr ⟨ih.nd,by simp,fun a ha b hb=>?_⟩;have:=ih.lt a ha;rw[mg.mp hb];omega
   ·have ht:t<p.length+1:=by simpa using ht
    show mF m p.length k n i (p++[n])[t]=_;by_cases e1:t=p.length
    ·have hc:(p++[n])[t]=n:=by simp[e1]
     rw[hc,e1];unfold mF;by_cases e2:i=p.length
     ·rw[dn e2,dn e2];exact NR hz
     ·rw[bn e2,bn e2,NR hz];grind
    ·have hl:t<p.length:=by omega
     have hc:(p++[n])[t]=p[t]:=by rw[List.getElem_append_left hl]
     have hkt:=ih.unit t hl k (by omega);rw[bn (show ¬ k=t by omega)] at hkt;rw[hc];unfold mF fZ;rw[hkt];by_cases e2:i=p.length
     ·rw[dn e2,bn (by omega),Rat.div_def];grind
     ·simp only[bn e2];by_cases e3:i=k
      ·simp only[dn e3];rw[ih.unit t hl p.length (by omega),bn (by omega),bn (by omega),Rat.div_def];grind
      ·simp only[bn e3];rw[ih.unit t hl i hi,Rat.div_def];grind
   ·have h1:p.length+1<=i:=by simpa using h1
    show mF m p.length k n i c=0;have hsz:∀ c,c<n->fZ m p.length k i c=0:=fun c hc=>by
     unfold fZ;rw[bn (by omega)];split
     ·exact ih.rest p.length (aj _) (by omega) c hc
     ·exact ih.rest i (by omega) h2 c hc
    unfold mF;rw[bn (by omega)];by_cases e1:c=n
    ·rw[e1,NR hz];grind
    ·rw[hsz c (by omega),ih.rest k k1 (by omega) c (by omega),Rat.div_def];grind
   ·rw[ih.sol C x];exact b3T m R p.length k n C x (by omega) (by omega) hz
end Go.Proofs.YtbkocjmmbkifjaaGreat
