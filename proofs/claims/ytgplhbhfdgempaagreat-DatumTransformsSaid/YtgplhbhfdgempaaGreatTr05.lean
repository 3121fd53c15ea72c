/-
  Lemmas for the theorem vtransforms_holds, part 5 of 39.
-/
import Derived.BigQuiet
import Derived.Deep.CutBlock
import Derived.Deep.DeepCutAuto
import Derived.Deep.LoopGhost
import Derived.Deep.QuietTactic
import Derived.Test.YtgplhbhfdgempaaGreatTr04
namespace Go.Proofs.YtgplhbhfdgempaaGreat
open Go Go.RowKit
theorem Ae:type_of% @Int.lt_trichotomy:=@Int.lt_trichotomy
theorem Dk:type_of% @if_true:=@if_true
theorem zq:type_of% @Bool.false_eq_true:=@Bool.false_eq_true
set_option maxRecDepth 1000000
set_option maxHeartbeats 4000000
set_option linter.unusedSimpArgs false
set_option linter.unusedVariables false
def qW:Code->Option Code
 | .loop c=>some c
 | .seq a b=>match qW a with
  | some c=>some c
  | none=>qW b
 | .block _ c=>qW c
 | .scope c=>qW c
 | .cond _ a b=>match qW a with
  | some c=>some c
  | none=>qW b
 | _=>none
noncomputable def b0k:Code:=((Tryz.f186.body.bind qW).getD .skip)
theorem UE {n d v:Nat} (hd:1<=d) (hn:n<=999999999999999999) (hv:(n:Int) / d=v) (hw:IntKind.u64.wrap (v:Int)=v) (w:World):Sem.run Tryz.prog (binOp .quo 132 (.int .u64 (n:Nat)) (.int .u64 (d:Nat))) w=.ok (.int .u64 (v:Nat)) w:=by
 have hdz:((d:Int)==0)=false:=by simp;omega
 have hdn:¬ d=0:=by omega
 simp[go_sem, *]
theorem KW {n d v:Nat} (hd:1<=d) (hn:n<=999999999999999999) (hv:(n:Int)%d=v) (hw:IntKind.u64.wrap (v:Int)=v) (w:World):Sem.run Tryz.prog (binOp .rem 132 (.int .u64 (n:Nat)) (.int .u64 (d:Nat))) w=.ok (.int .u64 (v:Nat)) w:=by
 rw[<-Bz (by omega)] at hv
 have hdz:((d:Int)==0)=false:=by simp;omega
 have hdn:¬ d=0:=by omega
 simp[go_sem, *]
theorem wrap_u64 {k:Nat} (h:k<=18446744073709551615):IntKind.u64.wrap (k:Int)=k:=by simp[IntKind.wrap,IntKind.bits,IntKind.signed];omega
structure lK (base gu gv gq L n M cu cv:Nat) (u V qq:List Nat) (w0 w:World):Prop where
 u:w.ownsRow base 133 1 (.slice (some ⟨gu,0,none⟩) L cu) L (cells32 u)
 v:w.ownsRow base 133 1 (.slice (some ⟨gv,0,none⟩) n cv) n (cells32 V)
 q:w.ownsRow base 133 1 (.slice (some ⟨gq,0,none⟩) M M) M (cells32 qq)
 b:Below base w0 w
theorem lK.drew {base gu gv gq L n M cu cv:Nat} {u V qq:List Nat} {w0 w:World} (h:lK base gu gv gq L n M cu cv u V qq w0 w):lK base gu gv gq L n M cu cv u V qq w0 w.drew :=
 ⟨kM h.u (dn _ _).drew,kM h.v (dn _ _).drew,kM h.q (dn _ _).drew,h.b.drew⟩
theorem lK.drewN {base gu gv gq L n M cu cv:Nat} {u V qq:List Nat} {w0 w:World} (h:lK base gu gv gq L n M cu cv u V qq w0 w) (m:Nat):lK base gu gv gq L n M cu cv u V qq w0 (w.drewN m):=by
 induction m with
 | zero=>exact h
 | succ m ih=>exact ih.drew
theorem lK.uc {base gu gv gq L n M cu cv:Nat} {u V qq:List Nat} {w0 w:World} (h:lK base gu gv gq L n M cu cv u V qq w0 w) {k x:Nat} (hk:k<L) (hl:u.length=L) (hx:gr u k=x):w.cell? ⟨gu,k,none⟩=some (.int .u32 (x:Nat)):=by
 subst hx;rw[h.u.cellAt _ (by omega)];exact fO (by omega)
theorem lK.vc {base gu gv gq L n M cu cv:Nat} {u V qq:List Nat} {w0 w:World} (h:lK base gu gv gq L n M cu cv u V qq w0 w) {k x:Nat} (hk:k<n) (hl:V.length=n) (hx:gr V k=x):w.cell? ⟨gv,k,none⟩=some (.int .u32 (x:Nat)):=by
 subst hx;rw[h.v.cellAt _ (by omega)];exact fO (by omega)
theorem lK.qc {base gu gv gq L n M cu cv:Nat} {u V qq:List Nat} {w0 w:World} (h:lK base gu gv gq L n M cu cv u V qq w0 w) {k:Nat} (hk:k<M) (hl:qq.length=M):w.cell? ⟨gq,k,none⟩=some (.int .u32 (gr qq k:Nat)):=by
 rw[h.q.cellAt _ (by omega)];exact fO (by omega)
theorem lK.su {base gu gv gq L n M cu cv:Nat} {u V qq:List Nat} {w0 w:World} (h:lK base gu gv gq L n M cu cv u V qq w0 w) (h1:gu≠gv) (h2:gu≠gq) (h3:base<=gu) (k x:Nat):lK base gu gv gq L n M cu cv (u.set k x) V qq w0 (w.setCell ⟨gu,k,none⟩ (.int .u32 (x:Nat))):=by
 have hst:=h.u.stored k (.int .u32 (x:Nat))
 rw[gV] at hst
 exact⟨hst.1,qE h.v (by simp[Value.ownBlock];omega) _,qE h.q (by simp[Value.ownBlock];omega) _,h.b.setCell (p:=⟨gu,k,none⟩) h3 _⟩
theorem lK.sq {base gu gv gq L n M cu cv:Nat} {u V qq:List Nat} {w0 w:World} (h:lK base gu gv gq L n M cu cv u V qq w0 w) (h1:gu≠gq) (h2:gv≠gq) (h3:base<=gq) (k x:Nat):lK base gu gv gq L n M cu cv u V (qq.set k x) w0 (w.setCell ⟨gq,k,none⟩ (.int .u32 (x:Nat))):=by
 have hst:=h.q.stored k (.int .u32 (x:Nat))
 rw[gV] at hst
 exact⟨qE h.u (by simp[Value.ownBlock];omega) _,qE h.v (by simp[Value.ownBlock];omega) _,hst.1,h.b.setCell (p:=⟨gq,k,none⟩) h3 _⟩
theorem a4d (S:Nat) (V u qq:List Nat) (gu gv gq L n M cu cv j base:Nat) (wr w0:World) (hVc:Canon V) (hVn:V.length=n) (hn2:2<=n) (hL:L<=2000000000) (hLM:M+n=L) (hcu:L<=cu)
  (hI:kL S (val V) n L u qq (j+1)) (hj:j+1<=M) (hne1:gu≠gv) (hne2:gu≠gq) (b3b:gv≠gq) (hb1:base<=gu) (hb2:base<=gq)
  (hu:wr.ownsRow base 133 1 (.slice (some ⟨gu,0,none⟩) L cu) L (cells32 u)) (hv:wr.ownsRow base 133 1 (.slice (some ⟨gv,0,none⟩) n cv) n (cells32 V)) (hq:wr.ownsRow base 133 1 (.slice (some ⟨gq,0,none⟩) M M) M (cells32 qq)) (hB:Below base w0 wr)
  (k0 k1 k5 k6 k23 k24 k25 k26 k27 k28 k29 k30 k31 k32 k33 k34 k35 k36 k37 k38 k39 k40 k41 k42 k43 k44 k45 k46 k47 k48 k49 k50 k51 k52 k53 k54 k55 k56 k57 k58 k59 k60 k61 k62 k63:Value) (Q:Exit->Act->World->Prop)
  (hQ:∀ (s11 s12 s13 s14 s15 s16 s17 s18 s19 s20 s21 s22 s64 s65 s66 s67 s68 s69 s70 s71 s72 s73 s74 s75 s76 s77 s78 s79 s80 s81 s82 s83 s84 s85 s86 s87 s88 s89 s90 s91 s92 s93 s94 s95 s96 s97 s98 s99 b6G b6H b6I b6J b6K b6L b6M b6N b6O b6P b6Q b6R b6S b6T b6U b6V b6W b6X b6Y b6Z b7a b7b b7c b7d b7e b7f b7g b7h b7i b7j b7k b7l b7m b7n b7o b7p b7q b7r b7s b7t b7u b7v b7w b7x b7y b7z b7A b7B b7C b7D b7E b7F b7G b7H b7I b7J b7K b7L b7M b7N b7O b7P b7Q b7R b7S b7T b7U b7V b7W b7X b7Y b7Z b8a b8b b8c b8d b8e b8f b8g b8h b8i b8j b8k b8l b8m b8n b8o b8p b8q b8r b8s b8t b8u b8v b8w b8x b8y b8z b8A b8B b8C b8D b8E b8F b8G b8H b8I b8J b8K b8L b8M b8N b8O b8P b8Q b8R b8S b8T b8U b8V b8W b8X b8Y b8Z b9a b9b b9c b9d b9e b9f b9g b9h b9i b9j b9k b9l b9m b9n b9o b9p b9q b9r b9s b9t b9u b9v b9w b9x b9y b9z b9A b9B b9C b9D:Value) (u' qq':List Nat) (w':World),kL S (val V) n L u' qq' j->w'.ownsRow base 133 1 (.slice (some ⟨gu,0,none⟩) L cu) L (cells32 u')->w'.ownsRow base 133 1 (.slice (some ⟨gv,0,none⟩) n cv) n (cells32 V)->w'.ownsRow base 133 1 (.slice (some ⟨gq,0,none⟩) M M) M (cells32 qq')->Below base w0 w' ->
   Q .normal ⟨#[k0,k1,undef,undef,.slice (some ⟨gq,0,none⟩) M M,k5,k6,(.slice (some ⟨gu,0,none⟩) L cu),(.slice (some ⟨gv,0,none⟩) n cv),.int .i64 (n:Nat),.int .i64 ((j:Int)-1),s11,s12,s13,s14,s15,s16,s17,s18,s19,s20,s21,s22,k23,k24,k25,k26,k27,k28,k29,k30,k31,k32,k33,k34,k35,k36,k37,k38,k39,k40,k41,k42,k43,k44,k45,k46,k47,k48,k49,k50,k51,k52,k53,k54,k55,k56,k57,k58,k59,k60,k61,k62,k63,s64,s65,s66,s67,s68,s69,s70,s71,s72,s73,s74,s75,s76,s77,s78,s79,s80,s81,s82,s83,s84,s85,s86,s87,s88,s89,s90,s91,s92,s93,s94,s95,s96,s97,s98,s99,b6G,b6H,b6I,b6J,b6K,b6L,b6M,b6N,b6O,b6P,b6Q,b6R,b6S,b6T,b6U,b6V,b6W,b6X,b6Y,b6Z,b7a,b7b,b7c,b7d,b7e,b7f,b7g,b7h,b7i,b7j,b7k,b7l,b7m,b7n,b7o,b7p,b7q,b7r,b7s,b7t,b7u,b7v,b7w,b7x,b7y,b7z,b7A,b7B,b7C,b7D,b7E,b7F,b7G,b7H,b7I,b7J,b7K,b7L,b7M,b7N,b7O,b7P,b7Q,b7R,b7S,b7T,b7U,b7V,b7W,b7X,b7Y,b7Z,b8a,b8b,b8c,b8d,b8e,b8f,b8g,b8h,b8i,b8j,b8k,b8l,b8m,b8n,b8o,b8p,b8q,b8r,b8s,b8t,b8u,b8v,b8w,b8x,b8y,b8z,b8A,b8B,b8C,b8D,b8E,b8F,b8G,b8H,b8I,b8J,b8K,b8L,b8M,b8N,b8O,b8P,b8Q,b8R,b8S,b8T,b8U,b8V,b8W,b8X,b8Y,b8Z,b9a,b9b,b9c,b9d,b9e,b9f,b9g,b9h,b9i,b9j,b9k,b9l,b9m,b9n,b9o,b9p,b9q,b9r,b9s,b9t,b9u,b9v,b9w,b9x,b9y,b9z,b9A,b9B,b9C,b9D,undef,undef,undef,undef,undef,undef,undef,undef,undef,undef,undef,undef],[]⟩ w')
  (s11 s12 s13 s14 s15 s16 s17 s18 s19 s20 s21 s22 s64 s65 s66 s67 s68 s69 s70 s71 s72 s73 s74 s75 s76 s77 s78 s79 s80 s81 s82 s83 s84 s85 s86 s87 s88 s89 s90 s91 s92 s93 s94 s95 s96 s97 s98 s99 b6G b6H b6I b6J b6K b6L b6M b6N b6O b6P b6Q b6R b6S b6T b6U b6V b6W b6X b6Y b6Z b7a b7b b7c b7d b7e b7f b7g b7h b7i b7j b7k b7l b7m b7n b7o b7p b7q b7r b7s b7t b7u b7v b7w b7x b7y b7z b7A b7B b7C b7D b7E b7F b7G b7H b7I b7J b7K b7L b7M b7N b7O b7P b7Q b7R b7S b7T b7U b7V b7W b7X b7Y b7Z b8a b8b b8c b8d b8e b8f b8g b8h b8i b8j b8k b8l b8m b8n b8o b8p b8q b8r b8s b8t b8u b8v b8w b8x b8y b8z b8A b8B b8C b8D b8E b8F b8G b8H b8I b8J b8K b8L b8M b8N b8O b8P b8Q b8R b8S b8T b8U b8V b8W b8X b8Y b8Z b9a b9b b9c b9d b9e b9f b9g b9h b9i b9j b9k b9l b9m b9n b9o b9p b9q b9r b9s b9t b9u b9v b9w b9x b9y b9z b9A b9B b9C b9D:Value) :
  b0k.wp Tryz.prog Q ⟨#[k0,k1,undef,undef,.slice (some ⟨gq,0,none⟩) M M,k5,k6,(.slice (some ⟨gu,0,none⟩) L cu),(.slice (some ⟨gv,0,none⟩) n cv),.int .i64 (n:Nat),.int .i64 (j:Int),s11,s12,s13,s14,s15,s16,s17,s18,s19,s20,s21,s22,k23,k24,k25,k26,k27,k28,k29,k30,k31,k32,k33,k34,k35,k36,k37,k38,k39,k40,k41,k42,k43,k44,k45,k46,k47,k48,k49,k50,k51,k52,k53,k54,k55,k56,k57,k58,k59,k60,k61,k62,k63,s64,s65,s66,s67,s68,s69,s70,s71,s72,s73,s74,s75,s76,s77,s78,s79,s80,s81,s82,s83,s84,s85,s86,s87,s88,s89,s90,s91,s92,s93,s94,s95,s96,s97,s98,s99,b6G,b6H,b6I,b6J,b6K,b6L,b6M,b6N,b6O,b6P,b6Q,b6R,b6S,b6T,b6U,b6V,b6W,b6X,b6Y,b6Z,b7a,b7b,b7c,b7d,b7e,b7f,b7g,b7h,b7i,b7j,b7k,b7l,b7m,b7n,b7o,b7p,b7q,b7r,b7s,b7t,b7u,b7v,b7w,b7x,b7y,b7z,b7A,b7B,b7C,b7D,b7E,b7F,b7G,b7H,b7I,b7J,b7K,b7L,b7M,b7N,b7O,b7P,b7Q,b7R,b7S,b7T,b7U,b7V,b7W,b7X,b7Y,b7Z,b8a,b8b,b8c,b8d,b8e,b8f,b8g,b8h,b8i,b8j,b8k,b8l,b8m,b8n,b8o,b8p,b8q,b8r,b8s,b8t,b8u,b8v,b8w,b8x,b8y,b8z,b8A,b8B,b8C,b8D,b8E,b8F,b8G,b8H,b8I,b8J,b8K,b8L,b8M,b8N,b8O,b8P,b8Q,b8R,b8S,b8T,b8U,b8V,b8W,b8X,b8Y,b8Z,b9a,b9b,b9c,b9d,b9e,b9f,b9g,b9h,b9i,b9j,b9k,b9l,b9m,b9n,b9o,b9p,b9q,b9r,b9s,b9t,b9u,b9v,b9w,b9x,b9y,b9z,b9A,b9B,b9C,b9D,undef,undef,undef,undef,undef,undef,undef,undef,undef,undef,undef,undef],[]⟩ wr:=by
 conv=>arg 2;whnf
 have hG:=bn (hI.c3z hVc hVn hn2)
 have b0m:=hI.low
 have b6k:=hI.lu
 have bh:gr u (j+n)<=999999999:=iJ b0m _
 have b1:gr u (j+n-1)<=999999999:=iJ b0m _
 have b2:gr u (j+n-2)<=999999999:=iJ b0m _
 have c1:gr V (n-1)<=999999999:=iJ hVc.1 _
 have c2:gr V (n-2)<=999999999:=iJ hVc.1 _
 have c0:1<=gr V (n-1):=hG.out.v1p
 have hRu:Rd wr (.slice (some ⟨gu,0,none⟩) L cu) u:=by have:=Rd.dO (l:=u) (by rw[b6k];exact hu);exact this
 have l1:wr.cell? ⟨gu,j+n-1,none⟩=some (.int .u32 (gr u (j+n-1):Nat)):=by
  rw[hu.cellAt _ (by omega)];exact fO (by omega)
 have l2:wr.cell? ⟨gu,j+n-2,none⟩=some (.int .u32 (gr u (j+n-2):Nat)):=by
  rw[hu.cellAt _ (by omega)];exact fO (by omega)
 have m1:wr.cell? ⟨gv,n-1,none⟩=some (.int .u32 (gr V (n-1):Nat)):=by
  rw[hv.cellAt _ (by omega)];exact fO (by omega)
 have m2:wr.cell? ⟨gv,n-2,none⟩=some (.int .u32 (gr V (n-2):Nat)):=by
  rw[hv.cellAt _ (by omega)];exact fO (by omega)
 have hjn:((j:Int)+n).toNat=j+n:=by omega
 have hat:=fun W h=>a8z (.slice (some ⟨gu,0,none⟩) L cu) u ((j:Int)+n) W h (by omega)
 rw[hjn] at hat
 obtain⟨xh,hxh⟩:∃ xh,gr u (j+n)=xh:=⟨_,rfl⟩
 obtain⟨x1,hx1⟩:∃ x1,gr u (j+n-1)=x1:=⟨_,rfl⟩
 obtain⟨x2,hx2⟩:∃ x2,gr u (j+n-2)=x2:=⟨_,rfl⟩
 obtain⟨y1,hy1⟩:∃ y1,gr V (n-1)=y1:=⟨_,rfl⟩
 obtain⟨y2,hy2⟩:∃ y2,gr V (n-2)=y2:=⟨_,rfl⟩
 rw[hxh] at hat bh hG
 rw[hx1] at b1 l1 hG
 rw[hx2] at b2 l2 hG
 rw[hy1] at c1 c0 m1 hG
 rw[hy2] at c2 m2 hG
 have HXH:=bn (And.intro hxh (And.intro hx1 (And.intro hx2 (And.intro hy1 hy2))))
 have HR0:=bn (lK.mk hu hv hq hB)
 have HAT:=bn hat
 have HI:=bn hI
 have HVC:=bn hVc
 have HVN:=bn hVn
 have HQ:=bn hQ
 have HL:=bn b0m
 have HLN:=bn b6k
 clear hxh hx1 hx2 hy1 hy2 hat hI hVc hVn hQ b0m b6k hjn
 have t1:((j:Int)+n-1).toNat=j+n-1:=by omega
 have t2:((n:Int)-1).toNat=n-1:=by omega
 have rd1:=hRu.drew
 have HR1:=bn hRu
 have HR2:=bn rd1
 clear hRu rd1
 obtain⟨T,hT0⟩:∃ T,xh*1000000000+x1=T:=⟨_,rfl⟩
 have hT:(xh:Int)*1000000000+x1=(T:Nat):=by omega
 have hT1:T<=999999999999999999:=by omega
 have hq0:=hG.out.start
 have hTB:xh*BB+x1=T:=by rw[dG];exact hT0
 rw[hTB] at hq0
 have hgb:T / y1<=2000000000:=by have:=hq0.le hG.out;rw[dG] at this;omega
 have hrb:T%y1<=999999998:=by have:=yg T (show 0<y1 by omega);omega
 obtain⟨g0,hg0⟩:∃ g0,T / y1=g0:=⟨_,rfl⟩
 obtain⟨r0,hr0⟩:∃ r0,T%y1=r0:=⟨_,rfl⟩
 have i1:(T:Int) / y1=g0:=by rw[<-hg0];simp
 have i2:(T:Int)%y1=r0:=by rw[<-hr0];simp
 rw[hg0] at hgb hq0
 rw[hr0] at hrb hq0
 have w1:IntKind.u64.wrap (g0:Int)=g0:=by exact wrap_u64 (by omega)
 have w2:IntKind.u64.wrap (r0:Int)=r0:=by exact wrap_u64 (by omega)
 have HG0:=bn hq0
 have HT0:=bn hT0
 have HTB:=bn hTB
 clear hq0 hT0 hTB hg0 hr0
 go_wp2_with fail
 go_quiet ((go_at_call 191;exact Calls.quiet_of_same ((HAT.out _ (by first|exact HR1.out|exact HR2.out)).mono fun e w' h=>⟨h.1,h.2.symm⟩)))
 go_wp2_with fail
 go_quiet (fail)
 go_upto_block 2 with(fail)
 go_cut [12] from 100 to 135 (fun g wx=>∃ gg:Nat,g=.int .u64 (gg:Nat)/\gg<=999999999/\Hid (a5i (val u) (BB ^ j*val V) gg)/\Hid (lK base gu gv gq L n M cu cv u V qq w0 wx))
 case first =>
  go_wp2_with fail
  go_loopg [12,13,100,101,102,103,104,105,106,107,108,109,110,111,112,113,114,115,116,117,118,119,120,121,122,123,124,125,126,127,128,129,130,131,132,133,134,135] g0 (fun k g r _ _ _ _ _ _ _ _ _ _ _ _ _ _ _ _ _ _ _ _ _ _ _ _ _ _ _ _ _ _ _ _ _ _ _ _ wr=>g=.int .u64 (k:Nat)/\k<=2000000000/\∃ rr:Nat,r=.int .u64 (rr:Nat)/\rr<=999999999/\Hid (GInv (val u) (BB ^ j*val V) y1 xh x1 k rr)/\Hid (lK base gu gv gq L n M cu cv u V qq w0 wr))
  case atStart=>exact⟨rfl,hgb,r0,xu (Value.int IntKind.u64) i2,by omega,HG0,bn ((HR0.out.drewN _).drewN _)⟩
  case round =>
   obtain⟨rfl,hk,rr,rfl,hrr,HG,HR⟩:=hrel
   clear l1 l2 m1 m2
   have HXB:=HXH.out
   have t3:((j:Int)+n-2).toNat=j+n-2:=by omega
   have t4:((n:Int)-2).toNat=n-2:=by omega
   have l2:=HR.out.uc (k:=j+n-2) (by omega) HLN.out HXB.2.2.1
   have m1:=HR.out.vc (k:=n-1) (by omega) HVN.out HXB.2.2.2.1
   have m2:=HR.out.vc (k:=n-2) (by omega) HVN.out HXB.2.2.2.2
   clear HXB
   by_cases hb:1000000000<=gk
   ·have hd:decide ((1000000000:Int)<=(gk:Int))=true:=by simp;omega
    have hg1:1<=gk:=by omega
    have HBB:=bn hb
    clear hb
    by_cases hb2:1000000000<=rr+y1
    ·have hd2:decide ((1000000000:Int)<=rr+y1)=true:=by simp;omega
     have HB2:=bn hb2
     clear hb2
     go_wp2_with fail
     go_quiet (fail)
     go_wp2_with fail
     go_meet
     obtain⟨s1,s2⟩:=GInv.step hG.out HG.out (.inl (by rw[dG];exact HBB.out))
     obtain⟨s3,s4⟩:=GInv.brk hG.out s2 (by rw[dG];exact HB2.out)
     rw[dG] at s3
     exact⟨gk-1,by rw[Int.ofNat_sub hg1];rfl,by omega,bn (GInv.done hG.out s2 (by rw[dG];exact s3) s4),bn (HR.out.drewN _)⟩
    ·have hd2:decide ((1000000000:Int)<=rr+y1)=false:=by simp;omega
     have hb3:rr+y1<=999999999:=by omega
     have HB2:=bn hb2
     clear hb2
     go_wp2_with fail
     go_quiet (fail)
     go_wp2_with fail
     go_roundg (gk-1)
     case measure=>omega
     case rel =>
      obtain⟨s1,s2⟩:=GInv.step hG.out HG.out (.inl (by rw[dG];exact HBB.out))
      exact⟨by rw[Int.ofNat_sub hg1];rfl,by omega,rr+y1,by simp,hb3,bn s2,bn (HR.out.drewN _)⟩
   ·have hd:decide ((1000000000:Int)<=(gk:Int))=false:=by simp;omega
    have hb':gk<=999999999:=by omega
    clear hb
    have b5O:gk*y2<=999999999*999999999:=uf hb' c2
    obtain⟨gp,FP⟩:∃ gp,gk*y2=gp:=⟨_,rfl⟩
    have hgp:(gk:Int)*y2=(gp:Nat):=by rw[<-FP];simp
    rw[FP] at b5O
    by_cases hc:rr*1000000000+x2<gp
    ·have hdc:decide ((rr:Int)*1000000000+x2<gp)=true:=by simp;omega
     have hg1:1<=gk:=by
      rcases yj gk with h|h
      ·subst h;simp at FP;omega
      ·exact h
     have HBB:=bn (And.intro hc FP)
     clear hc FP
     by_cases hb2:1000000000<=rr+y1
     ·have hd2:decide ((1000000000:Int)<=rr+y1)=true:=by simp;omega
      have HB2:=bn hb2
      clear hb2
      go_wp2_with fail
      go_quiet (fail)
      go_wp2_with fail
      go_meet
      obtain⟨s1,s2⟩:=GInv.step hG.out HG.out (.inr (by rw[dG,HBB.out.2];exact HBB.out.1))
      obtain⟨s3,s4⟩:=GInv.brk hG.out s2 (by rw[dG];exact HB2.out)
      rw[dG] at s3
      exact⟨gk-1,by rw[Int.ofNat_sub hg1];rfl,by omega,bn (GInv.done hG.out s2 (by rw[dG];exact s3) s4),bn (HR.out.drewN _)⟩
     ·have hd2:decide ((1000000000:Int)<=rr+y1)=false:=by simp;omega
      have hb3:rr+y1<=999999999:=by omega
      have HB2:=bn hb2
      clear hb2
      go_wp2_with fail
      go_quiet (fail)
      go_wp2_with fail
      go_roundg (gk-1)
      case measure=>omega
      case rel =>
       obtain⟨s1,s2⟩:=GInv.step hG.out HG.out (.inr (by rw[dG,HBB.out.2];exact HBB.out.1))
       exact⟨by rw[Int.ofNat_sub hg1];rfl,by omega,rr+y1,by simp,hb3,bn s2,bn (HR.out.drewN _)⟩
    ·have hdc:decide ((rr:Int)*1000000000+x2<gp)=false:=by simp;omega
     have HBB:=bn (And.intro hc FP)
     clear hc FP
     go_wp2_with fail
     go_quiet (fail)
     go_wp2_with fail
     go_meet
     exact⟨gk,rfl,hb',bn (GInv.done hG.out HG.out (by rw[dG];omega) (by rw[dG,HBB.out.2];exact Nat.le_of_not_lt HBB.out.1)),bn (HR.out.drewN _)⟩
 case rest =>
  obtain⟨g,rfl,hg,HGU,HR⟩:=hcut
  clear l1 l2 m1 m2 HAT HR1 HR2 HG0 hgb hrb i1 i2 w1 w2 hT hT1 HT0 HTB HR0
  go_wp2_with fail
  go_loopw [14,15,16,17,18,137,138,139,140,141,142,143,144,145,146,147,148,149,150,151,152,153,154,155,156,157,158,159,160,161,162,163,164,165,166,167,168,169,170,171,172,173,174,175] (fun b c _ _ _ i _ _ _ _ _ _ _ _ _ _ _ _ _ _ _ _ _ _ _ _ _ _ _ _ _ _ _ _ _ _ _ _ _ _ _ _ _ _ wr=>∃ (k bo ca:Nat) (o:List Nat),i=.int .i64 (k:Nat)/\k<=n/\b=.int .i64 (bo:Nat)/\c=.int .u64 (ca:Nat)/\Hid (yH u V o L g j k bo ca)/\Hid (lK base gu gv gq L n M cu cv o V qq w0 wr)) (fun b c _ _ _ i _ _ _ _ _ _ _ _ _ _ _ _ _ _ _ _ _ _ _ _ _ _ _ _ _ _ _ _ _ _ _ _ _ _ _ _ _ _ wr=>n-(intOf i).toNat)
  case atStart=>exact⟨0,0,0,u,rfl,by omega,rfl,rfl,bn (yH.start HLN.out HL.out),HR⟩
  case round =>
   obtain⟨k,bo,ca,o,rfl,hk,rfl,rfl,HS,HR⟩:=hrel
   have hbo:=HS.out.bor
   have hca:ca<=999999999:=by have:=HS.out.car;omega
   have hol:=HS.out.len
   by_cases hkn:k<n
   ·have hv1:gr V k<=999999999:=iJ HVC.out.1 _
    have hv2:gr o (j+k)<=999999999:=iJ HS.out.low _
    obtain⟨y,hy⟩:∃ y,gr V k=y:=⟨_,rfl⟩
    obtain⟨x,hx⟩:∃ x,gr o (j+k)=x:=⟨_,rfl⟩
    rw[hy] at hv1
    rw[hx] at hv2
    have cl1:=HR.out.vc hkn HVN.out hy
    have cl2:=HR.out.uc (k:=j+k) (by omega) hol hx
    have cf:=HR.out.u.frozenAt (j+k)
    have hti:((k:Int)+j).toNat=j+k:=by omega
    have b5O:g*y<=999999999*999999999:=uf hg hv1
    obtain⟨gp,FP⟩:∃ gp,g*y=gp:=⟨_,rfl⟩
    have hgp:(g:Int)*y=(gp:Nat):=by rw[<-FP];simp
    rw[FP] at b5O
    obtain⟨r,hr⟩:∃ r,(gp+ca)%1000000000=r:=⟨_,rfl⟩
    obtain⟨t,ht⟩:∃ t,(gp+ca) / 1000000000=t:=⟨_,rfl⟩
    have hr2:((gp:Int)+ca)%1000000000=r:=by omega
    have ht2:((gp:Int)+ca) / 1000000000=t:=by omega
    have hr3:r<=999999999:=by omega
    have ht3:t<=999999999:=by omega
    by_cases hc:x<bo+r
    ·obtain⟨d,hd0⟩:∃ d,x+1000000000-bo-r=d:=⟨_,rfl⟩
     have hd:(x:Int)-bo-r+1000000000=d:=by omega
     have hd1:d<=999999999:=by omega
     have hdc:decide ((x:Int)-bo-r<0)=true:=by simp;omega
     have HN:=bn (HS.out.step (d:=d) (bo':=1) (by omega) (by rw[hy];omega) (by omega) (by omega) (by omega) (by rw[hx,hy,FP,hr];omega))
     rw[hy,FP,ht] at HN
     have HC:=bn hc
     clear hc hd0 hr ht FP hx hy hol
     go_wp2_with fail
     go_roundw
     case rel=>exact⟨k+1,1,t,_,by go_num,by omega,rfl,xu (Value.int IntKind.u64) ht2,HN,bn (HR.out.su hne1 hne2 hb1 _ _)⟩
     case measure=>simp[intOf];omega
    ·obtain⟨d,hd0⟩:∃ d,x-bo-r=d:=⟨_,rfl⟩
     have hd:(x:Int)-bo-r=d:=by omega
     have hd1:d<=999999999:=by omega
     have HN:=bn (HS.out.step (d:=d) (bo':=0) (by omega) (by rw[hy];omega) (by omega) (by omega) (by omega) (by rw[hx,hy,FP,hr];omega))
     rw[hy,FP,ht] at HN
     clear hc hd0 hr ht FP hx hy hol
     go_wp2_with fail
     go_roundw
     case rel=>exact⟨k+1,0,t,_,by go_num,by omega,rfl,xu (Value.int IntKind.u64) ht2,HN,bn (HR.out.su hne1 hne2 hb1 _ _)⟩
     case measure=>simp[intOf];omega
   ·obtain rfl:k=n:=by omega
    clear hkn
    have hsx:gr o (j+k)=xh:=by rw[HS.out.same _ (by omega)];exact HXH.out.1
    have cl2:=HR.out.uc (k:=j+k) (by omega) hol hsx
    have cf:=HR.out.u.frozenAt (j+k)
    have hql:qq.length=M:=by have:=HI.out.lq;omega
    have cq:=HR.out.qc (k:=j) (by omega) hql
    have cqf:=HR.out.q.frozenAt j
    have hti:((j:Int)+k).toNat=j+k:=by omega
    by_cases hc:bo+ca<=xh
    ·have hN:=a4c HI.out HVC.out.1 HVN.out (by omega) HGU.out (by rw[dG];omega) HS.out (by rw[HXH.out.1];exact hc)
     rw[HXH.out.1] at hN
     have hz:(xh:Int)-bo-ca=0:=by omega
     have HN:=bn hN
     have HC:=bn hc
     have HSX:=bn hsx
     have HQL:=bn hql
     have HOL:=bn hol
     clear hc hN hsx hql hol
     go_wp2_with fail
     have hlr:=(HR.out.su hne1 hne2 hb1 (j+k) 0).sq hne2 b3b hb2 j g
     exact HQ.out _ _ _ _ _ _ _ _ _ _ _ _ _ _ _ _ _ _ _ _ _ _ _ _ _ _ _ _ _ _ _ _ _ _ _ _ _ _ _ _ _ _ _ _ _ _ _ _ _ _ _ _ _ _ _ _ _ _ _ _ _ _ _ _ _ _ _ _ _ _ _ _ _ _ _ _ _ _ _ _ _ _ _ _ _ _ _ _ _ _ _ _ _ _ _ _ _ _ _ _ _ _ _ _ _ _ _ _ _ _ _ _ _ _ _ _ _ _ _ _ _ _ _ _ _ _ _ _ _ _ _ _ _ _ _ _ _ _ _ _ _ _ _ _ _ _ _ _ _ _ _ _ _ _ _ _ _ _ _ _ _ _ _ _ _ _ _ _ _ _ _ _ _ _ _ _ _ _ _ _ _ _ _ _ _ _ _ _ _ _ _ _ _ _ _ _ _ _ _ _ _ _  _ _ _ HN.out.2 hlr.u hlr.v hlr.q hlr.b
    ·have hN:=TR (c:=1) (o2:=[]) HI.out HVC.out.1 HVN.out (by omega) HGU.out (by rw[dG];omega) HS.out (by rw[HXH.out.1];omega)
     rw[HXH.out.1] at hN
     have hg1:1<=g:=hN.2.1
     have hz:(xh:Int)-bo-ca=-1:=by omega
     have HC:=bn hc
     have HSX:=bn hsx
     have HQL:=bn hql
     have HOL:=bn hol
     clear hc hN hsx hql
     go_wp2_with fail
     have hLR:=HR.out.su hne1 hne2 hb1 (j+k) 999999999
     have HST:=bn (AY.start (v:=V) (j:=j) (u:=o.set (j+k) 999999999) (L:=L) (by simpa using hol) (low_set HS.out.low (by omega)))
     clear hol cl2 cf cq cqf
     obtain⟨n,hkn⟩:∃ n,n=k:=⟨_,rfl⟩
     subst hkn
     go_loopw [20,21,22,201,202,203,204,205,206,207,208,209,210,211,212,213,214,215,216,217,218,219,220,221,222,223,224,225,226,227] (fun c _ _ i _ _ _ _ _ _ _ _ _ _ _ _ _ _ _ _ _ _ _ _ _ _ _ _ _ _ wr=>∃ (k ca:Nat) (o2:List Nat),i=.int .i64 (k:Nat)/\k<=n/\c=.int .u32 (ca:Nat)/\Hid (AY (o.set (j+n) 999999999) V o2 L j k ca)/\Hid (lK base gu gv gq L n M cu cv o2 V qq w0 wr)) (fun c _ _ i _ _ _ _ _ _ _ _ _ _ _ _ _ _ _ _ _ _ _ _ _ _ _ _ _ _ wr=>n-(intOf i).toNat)
     case atStart=>exact⟨0,0,_,rfl,by omega,rfl,HST,bn hLR⟩
     case round =>
      obtain⟨k,c,o2,rfl,hk2,rfl,HA,HR⟩:=hrel
      have c4p:=HA.out.car
      have hol:=HA.out.len
      by_cases hkn:k<n
      ·have hv1:gr V k<=999999999:=iJ HVC.out.1 _
       have hv2:gr o2 (j+k)<=999999999:=iJ HA.out.low _
       obtain⟨y,hy⟩:∃ y,gr V k=y:=⟨_,rfl⟩
       obtain⟨x,hx⟩:∃ x,gr o2 (j+k)=x:=⟨_,rfl⟩
       rw[hy] at hv1
       rw[hx] at hv2
       have cl1:=HR.out.vc hkn HVN.out hy
       have cl2:=HR.out.uc (k:=j+k) (by omega) hol hx
       have cf:=HR.out.u.frozenAt (j+k)
       have hti:((k:Int)+j).toNat=j+k:=by omega
       by_cases hc:1000000000<=x+y+c
       ·obtain⟨d,hd0⟩:∃ d,x+y+c-1000000000=d:=⟨_,rfl⟩
        have hd:(x:Int)+y+c-1000000000=d:=by omega
        have hd1:d<=999999999:=by omega
        have hdc:decide ((1000000000:Int)<=x+y+c)=true:=by simp;omega
        have HN:=bn (HA.out.step (d:=d) (c':=1) (by omega) (by omega) (by omega) (by rw[hx,hy];omega))
        have HC2:=bn hc
        clear hc hd0 hx hy hol
        go_wp2_with fail
        go_quiet (fail)
        go_wp2_with fail
        go_roundw
        case rel=>exact⟨k+1,1,_,by go_num,by omega,rfl,HN,bn (lK.su (HR.out.drewN _) hne1 hne2 hb1 _ _)⟩
        case measure=>simp[intOf];omega
       ·obtain⟨d,hd0⟩:∃ d,x+y+c=d:=⟨_,rfl⟩
        have hd:(x:Int)+y+c=d:=by omega
        have hd1:d<=999999999:=by omega
        have hdc:decide ((1000000000:Int)<=d)=false:=by simp;omega
        have HN:=bn (HA.out.step (d:=d) (c':=0) (by omega) (by omega) (by omega) (by rw[hx,hy];omega))
        clear hc hd0 hx hy hol
        go_wp2_with fail
        go_quiet (fail)
        go_wp2_with fail
        go_roundw
        case rel=>exact⟨k+1,0,_,by go_num,by omega,rfl,HN,bn (lK.su (HR.out.drewN _) hne1 hne2 hb1 _ _)⟩
        case measure=>simp[intOf];omega
      ·obtain rfl:k=n:=by omega
       clear hkn
       have hN:=(TR HI.out HVC.out.1 HVN.out (by omega) HGU.out (by rw[dG];omega) HS.out (by rw[HXH.out.1];have:=HC.out;omega)).2.2 HA.out
       obtain⟨rfl,e2,e3⟩:=hN
       have cl2:=HR.out.uc (k:=j+k) (by omega) hol e2
       have cf:=HR.out.u.frozenAt (j+k)
       have cq:=HR.out.qc (k:=j) (by omega) HQL.out
       have cqf:=HR.out.q.frozenAt j
       have HN:=bn e3
       have HE:=bn e2
       have c4m:=bn hol
       clear e2 e3 hol
       go_wp2_with fail
       have hlr:=(HR.out.su hne1 hne2 hb1 (j+k) 0).sq hne2 b3b hb2 j (g-1)
       rw[show ((g-1:Nat):Int)=(g:Int)-1 from Int.ofNat_sub hg1] at hlr
       exact HQ.out _ _ _ _ _ _ _ _ _ _ _ _ _ _ _ _ _ _ _ _ _ _ _ _ _ _ _ _ _ _ _ _ _ _ _ _ _ _ _ _ _ _ _ _ _ _ _ _ _ _ _ _ _ _ _ _ _ _ _ _ _ _ _ _ _ _ _ _ _ _ _ _ _ _ _ _ _ _ _ _ _ _ _ _ _ _ _ _ _ _ _ _ _ _ _ _ _ _ _ _ _ _ _ _ _ _ _ _ _ _ _ _ _ _ _ _ _ _ _ _ _ _ _ _ _ _ _ _ _ _ _ _ _ _ _ _ _ _ _ _ _ _ _ _ _ _ _ _ _ _ _ _ _ _ _ _ _ _ _ _ _ _ _ _ _ _ _ _ _ _ _ _ _ _ _ _ _ _ _ _ _ _ _ _ _ _ _ _ _ _ _ _ _ _ _ _ _ _ _ _ _ _  _ _ _ HN.out hlr.u hlr.v hlr.q hlr.b
theorem a0E (w:World) (s:Nat):Rd (w.alloc (.cells #[.int .u32 (s:Nat)] 133)) (.slice (some ⟨w.heap.size,0,none⟩) 1 1) [s]:=by
 refine .inr ⟨w.heap.size,0,1,rfl,by simp,by omega,by simp,fun i hi=>?_⟩
 have:i=0:=by simp at hi;exact hi
 subst this
 simp[gr,World.cell?_alloc_at]
theorem a0a (l:List Nat) (g:Nat):cells32 (l++[g])=cells32 l++[.int .u32 (g:Nat)]:=by simp[cells32]
theorem b0l (s t:Value) (a b:List Nat) (w:World) (hs:Rd w s a) (ht:Rd w t b) (ha:Canon a) (hb:Canon b) (la:a.length<=1000000000) (hb2:2<=b.length) (hle:val b<=val a) :
  Calls Tryz.prog 186 #[s,t] w fun e w'=>∃ v1 v2,e=.returned (.tuple #[v1,v2])/\Rd w' v1 (dig (val a / val b))/\Rd w' v2 (dig (val a%val b))/\Below w.heap.size w w':=by
 obtain⟨i0,hi,hz0,hz1,hz2⟩:=Aj iZ
 obtain⟨p,c,rfl,_,_⟩:=hs.form
 obtain⟨q,d,rfl,_,_⟩:=ht.form
 have hbn:b≠[]:=by intro e;subst e;simp at hb2
 obtain⟨gb,ob,rfl,hgb,hcb⟩:=ht.at hbn
 have hlb:b.length<=a.length:=by
  have:=aN hle
  rwa [fE ha,fE hb] at this
 have htop:gr b (b.length-1)<=999999999:=iJ hb.1 _
 have hct:=hcb (b.length-1) (by omega)
 have htp:1<=gr b (b.length-1):=by
  have:=hb.2
  rw[PW hbn] at this
  have:gr b (b.length-1)≠0:=by simpa using this
  omega
 generalize gr b (b.length-1)=tp at htop hct htp
 obtain⟨sc,hsc⟩:∃ sc:Nat,(1000000000:Int) / ((tp:Int)+1)=sc:=⟨1000000000 / (tp+1),by simp⟩
 have hsc2:1000000000 / (tp+1)=sc:=by
  have:((1000000000 / (tp+1):Nat):Int)=sc:=by rw[<-hsc];simp
  omega
 have a2f:1<=sc:=by rw[<-hsc2];exact(Nat.le_div_iff_mul_le (by omega)).2 (by omega)
 have c3T:sc<=500000000:=by rw[<-hsc2];exact jg (Nat.div_le_div_left (c:=2) (by omega) (by omega)) (by omega)
 have HSC:=bn hsc2
 have HCB:=bn hcb
 clear hsc2 hcb
 have HA:=bn ha
 have HB:=bn hb
 have HLE:=bn hle
 clear ha hb hle
 have hw1:IntKind.u32.wrap (sc:Int)=sc:=by simp[IntKind.wrap,IntKind.bits,IntKind.signed];omega
 have hidx:((b.length:Int)-1).toNat=b.length-1:=by omega
 go_enter Tryz.func186,Tryz.ntmps186
 go_wp2_with fail
 have hs1:=hs.alloc (.cells #[.int .u32 (sc:Nat)] 133)
 have lsc:Low [sc]:=Low.cons.2 ⟨by rw[dG];omega,Low.nil⟩
 have vsc:val [sc]=sc:=by simp[dH]
 refine(times_any _ _ a [sc] _ hs1 (a0E w sc) HA.out.1 lsc la (by simp)).mono ?_
 rw[vsc]
 rintro e w1 ⟨uv,rfl,hu1,hb1⟩
 go_wp2_with fail
 have ht1:Rd (w1.alloc (.cells #[.int .u32 (sc:Nat)] 133)) (.slice (some ⟨gb,ob,none⟩) b.length d) b:=((ht.alloc _).below hb1).alloc _
 refine(times_any _ _ b [sc] _ ht1 (a0E w1 sc) HB.out.1 lsc (by omega) (by simp)).mono ?_
 rw[vsc]
 rintro e w2 ⟨vv,rfl,hv2,hb2'⟩
 have U0:a.length<=(dig (val a*sc)).length:=by
  have:=aN (show val a<=val a*sc from Nat.le_mul_of_pos_right _ a2f)
  rwa [fE HA.out] at this
 have U1:(dig (val a*sc)).length<=1000000001:=by
  have:=wB (val a) sc
  have h2:nsz sc<=1:=fM (by rw[dG];omega)
  unfold nsz at this h2
  rw[fE HA.out] at this
  omega
 have V0:b.length<=(dig (val b*sc)).length:=by
  have:=aN (show val b<=val b*sc from Nat.le_mul_of_pos_right _ a2f)
  rwa [fE HB.out] at this
 have V1:(dig (val b*sc)).length<=(dig (val a*sc)).length:=aN (jq _ HLE.out)
 have hz1':w.heap.size+1<=w1.heap.size:=by have:=hb1.size;simpa using this
 have hz2':w1.heap.size+1<=w2.heap.size:=by have:=hb2'.size;simpa using this
 obtain⟨gu,cu,hue,hgu1,hgu2,_⟩:=NC hu1 (by omega)
 obtain⟨gv,cv,hve,c1z,c3N,hcv⟩:=NC hv2 (by omega)
 rw[hue] at hu1
 rw[hve] at hv2
 rw[hue,hve]
 simp only[Bj] at hgu1 c1z
 have hu2:=kM (kM hu1 ((dn _ w1).alloc (aj _) (.cells #[.int .u32 (sc:Nat)] 133))) hb2'
 have hB2:Below w.heap.size w w2:=(((dn _ _).alloc (aj _) _).trans (hb1.mono (by simp))).trans (((dn _ _).alloc (by omega) _).trans (hb2'.mono (by simp;omega)))
 have HU:=bn (show val (dig (val a*sc))=val a*sc from aJ _)
 have HV:=bn (show val (dig (val b*sc))=val b*sc from aJ _)
 have HUc:=bn (cZ (val a*sc))
 have HVc:=bn (cZ (val b*sc))
 generalize dig (val a*sc)=U at *
 generalize dig (val b*sc)=V at *
 clear hue hve hu1 hb1 hb2' hs1 ht1 hct lsc vsc hidx hw1
 obtain⟨lu,hlu⟩:∃ lu,U.length=lu:=⟨_,rfl⟩
 obtain⟨n,hn⟩:∃ n,V.length=n:=⟨_,rfl⟩
 rw[hlu] at hu2 U0 U1 V1 ⊢
 rw[hn] at hv2 V0 V1 hcv ⊢
 have HLU:=bn hlu
 have HN:=bn hn
 clear hlu hn
 have hd1:decide ((lu:Int)+1<=a.length)=false:=by simp;omega
 go_wp2_with (at_builtin;refine wpList_append_lies rfl _ _ 60 rfl w.heap.size 133 i0 (.int .u32 0) 1 4 jo hi hz0 hz1 hz2 rfl (by decide) _ _ _ rfl ((uD hu2 (by simp)).alloc _) ⟨w2.heap.size,0,none⟩ 1 1 [.int .u32 (((0:Nat)):Int)] rfl rfl (cell_one_new _ _ _) (by simp[Value.oneCell']) (by omega) (by unfold maxLen;omega) (by omega) (by simp;omega) ?_)
 intro gu' cu' w3 hu3 b2V hgx hgl
 have hgu:gu'=gu\/gu'=w2.heap.size+1:=by
  rcases hgx with h|h
  ·left;simpa [Value.ownBlock] using h.symm
  ·right;simpa using h
 have hne1:gu'≠gv:=by omega
 have c3M:w.heap.size<=gu':=by omega
 have hv3:w3.ownsRow w.heap.size 133 1 (.slice (some ⟨gv,0,none⟩) n cv) n (cells32 V) :=
  ((uD hv2 (by simp;omega)).alloc _).kept b2V (.inr (by simp[Value.ownBlock];omega))
 have hB3:Below w.heap.size w w3:=(hB2.alloc (by omega) _).grown b2V (by simp;omega) (fun k e=>by simp[Value.ownBlock] at e;omega)
 have hz3:w2.heap.size+1<=w3.heap.size:=by have:=b2V.size;simpa using this
 have c1N:w3.ownsRow w.heap.size 133 1 (.slice (some ⟨gu',0,none⟩) (lu+1) cu') (lu+1) (cells32 (U++[0])):=by rw[a0a];exact hu3
 have hvb:gv<w3.heap.size:=by omega
 clear hgx b2V hu2 hv2 hu3 hgu2 c3N hB2
 obtain⟨M,hM⟩:∃ M:Nat,(lu:Int)+1-n=M:=⟨lu+1-n,by omega⟩
 have hM2:M+n=lu+1:=by omega
 go_wp2_with (at_make;refine Dx _ rfl _ _ 60 rfl w.heap.size 133 i0 (.int .u32 0) 1 jo hi hz0 hz1 _ _ _ _ M rfl rfl (by omega) (by omega) (by rw[hz2];omega) (by unfold maxLen;omega) (by omega) ?_)
 intro w4 hq4 b2W
 rw[kE] at hq4
 have hv4:=hv3.kept b2W (.inr (by simp[Value.ownBlock]))
 have hu4:=c1N.kept b2W (.inr (by simp[Value.ownBlock]))
 have hB4:Below w.heap.size w w4:=hB3.grown b2W (by omega) (fun k e=>by cases e)
 obtain⟨gq,hgq⟩:∃ gq,w3.heap.size=gq:=⟨_,rfl⟩
 rw[hgq] at hq4 hgl hvb ⊢
 have c3K:w.heap.size<=gq:=by omega
 have hne2:gu'≠gq:=by omega
 have b3b:gv≠gq:=by omega
 clear hv3 c1N hB3 b2W hgq hz3 hgu
 go_wp2
 have hI0:kL (val a*sc) (val V) n (lu+1) (U++[0]) (List.replicate M 0) M:=by
  have e1:=HLU.out
  have e2:=HN.out
  have e3:val (U++[0])=val a*sc:=by rw[val_append,HU.out];simp[dH]
  refine⟨by simp[e1],Low.append.2 ⟨HUc.out.1,Low.cons.2 ⟨jL,Low.nil⟩⟩,by simp;omega,fun g hg=>by rw[(List.mem_replicate.1 hg).2];exact jL,fun m _=>JX _ _,by rw[e3,YZ];simp,?_⟩
  rw[e3,<-HU.out]
  have h1:=qH HUc.out.1
  rw[e1] at h1
  have h2:BB ^ (n-1)<=val V:=by
   have:=xI (n:=val V) (k:=n-1) (by rw[fE HVc.out];omega)
   exact this
  have h3:BB ^ (n-1)*BB ^ M<=val V*BB ^ M:=jq _ h2
  rw[<-Dy,show n-1+M=lu from by omega] at h3
  omega
 have HI0:=bn hI0
 have hn2:2<=n:=by omega
 have hcu:lu+1<=cu':=by
  obtain⟨_,_,e1,_,_,e2⟩:=NC hu4 (by omega)
  cases e1;exact e2
 have b5r:=bn a2f
 have HNE:=bn hne1
 clear hI0 hi hz0 hz1 hz2 hcv hne1 hM U0 V0 V1 hsc a2f hd1 hgu1 c1z
 go_loopw [10,11,12,13,14,15,16,17,18,19,20,21,22,64,65,66,67,68,69,70,71,72,73,74,75,76,77,78,79,80,81,82,83,84,85,86,87,88,89,90,91,92,93,94,95,96,97,98,99,100,101,102,103,104,105,106,107,108,109,110,111,112,113,114,115,116,117,118,119,120,121,122,123,124,125,126,127,128,129,130,131,132,133,134,135,136,137,138,139,140,141,142,143,144,145,146,147,148,149,150,151,152,153,154,155,156,157,158,159,160,161,162,163,164,165,166,167,168,169,170,171,172,173,174,175,176,177,178,179,180,181,182,183,184,185,186,187,188,189,190,191,192,193,194,195,196,197,198,199,200,201,202,203,204,205,206,207,208,209,210,211,212,213,214,215,216,217,218,219,220,221,222,223,224,225,226,227,228,229,230,231,232,233,234,235,236,237,238,239,240,241,242,243,244,245,246,247,248,249,250,251,252,253] (fun i _ _ _ _ _ _ _ _ _ _ _ _ _ _ _ _ _ _ _ _ _ _ _ _ _ _ _ _ _ _ _ _ _ _ _ _ _ _ _ _ _ _ _ _ _ _ _ _ _ _ _ _ _ _ _ _ _ _ _ _ _ _ _ _ _ _ _ _ _ _ _ _ _ _ _ _ _ _ _ _ _ _ _ _ _ _ _ _ _ _ _ _ _ _ _ _ _ _ _ _ _ _ _ _ _ _ _ _ _ _ _ _ _ _ _ _ _ _ _ _ _ _ _ _ _ _ _ _ _ _ _ _ _ _ _ _ _ _ _ _ _ _ _ _ _ _ _ _ _ _ _ _ _ _ _ _ _ _ _ _ _ _ _ _ _ _ _ _ _ _ _ _ _ _ _ _ _ _ _ _ _ _ _ _ _ _ _ _ _ _ _ _ _ _ _ _ _ _ _ _ _ _ wr=>∃ (k:Nat) (i':Int) (u qq:List Nat),i=.int .i64 i'/\Hid (i'=(k:Int)-1)/\k<=M/\Hid (kL (val a*sc) (val V) n (lu+1) u qq k)/\wr.ownsRow w.heap.size 133 1 (.slice (some ⟨gu',0,none⟩) (lu+1) cu') (lu+1) (cells32 u)/\wr.ownsRow w.heap.size 133 1 (.slice (some ⟨gv,0,none⟩) n cv) n (cells32 V)/\wr.ownsRow w.heap.size 133 1 (.slice (some ⟨gq,0,none⟩) M M) M (cells32 qq)/\Below w.heap.size w wr) (fun i _ _ _ _ _ _ _ _ _ _ _ _ _ _ _ _ _ _ _ _ _ _ _ _ _ _ _ _ _ _ _ _ _ _ _ _ _ _ _ _ _ _ _ _ _ _ _ _ _ _ _ _ _ _ _ _ _ _ _ _ _ _ _ _ _ _ _ _ _ _ _ _ _ _ _ _ _ _ _ _ _ _ _ _ _ _ _ _ _ _ _ _ _ _ _ _ _ _ _ _ _ _ _ _ _ _ _ _ _ _ _ _ _ _ _ _ _ _ _ _ _ _ _ _ _ _ _ _ _ _ _ _ _ _ _ _ _ _ _ _ _ _ _ _ _ _ _ _ _ _ _ _ _ _ _ _ _ _ _ _ _ _ _ _ _ _ _ _ _ _ _ _ _ _ _ _ _ _ _ _ _ _ _ _ _ _ _ _ _ _ _ _ _ _ _ _ _ _ _ _ _ _ wr=>(intOf i+1).toNat)
 case atStart=>exact⟨M,_,_,_,rfl,rfl,aj _,HI0,hu4,hv4,hq4,hB4⟩
 case round =>
  obtain⟨k,i',u,qq,rfl,hk',hkM,hI,hu,hv,hq,hB⟩:=hrel
  clear hu4 hv4 hq4 hB4 HI0
  cases k with
  | zero =>
   obtain rfl:i'=-1:=by have:=hk'.out;simpa using this
   go_wp2_with fail
   have hd:=hI.out.done
   have hlt:=hI.out.lt
   rw[HV.out] at hd hlt
   rw[Nat.mul_mod_mul_right,Nat.mul_div_mul_right _ _ (by have:=b5r.out;omega)] at hd
   have c1B:=hI.out.lu
   have hlow:=hI.out.low
   have c1r:=zU HVc.out.1 HN.out
   rw[HV.out] at c1r
   have htk:val (u.take n)=val a%val b*sc:=by
    rw[<-QK (fun m hm=>uT (k:=n) (by simp at hlt;omega) hm)];exact hd.2
   have hown:=KP hu (m:=n) (by omega)
   have hck:(cells32 u).take n=cells32 (u.take n):=by simp[cells32,List.map_take]
   rw[hck] at hown
   have hlt2:(u.take n).length=n:=by rw[jm,c1B];omega
   have b2Y:Low (u.take n):=fun g hg=>hlow g (Dp hg)
   have hR:=Rd.dO (l:=u.take n) (by rw[hlt2];exact hown)
   refine(NM _ _ n _ _ hR b2Y hlt2).mono ?_
   rintro e w' ⟨rfl,rfl⟩
   have hto:=uF hown b2Y hlt2
   have hqd:=hd.1
   have b4W:=hI.out.b6m
   have hql:qq.length=M:=by have:=hI.out.lq;omega
   have htz:fZ (u.take n)=dig (val a%val b*sc):=by unfold fZ;rw[htk]
   rw[htz] at hto ⊢
   have hlen3:(dig (val a%val b*sc)).length<=2000000000:=by
    have h1:=zQ b2Y
    rw[htz,hlt2] at h1
    omega
   have HD:=bn hd
   have HTK:=bn htk
   have HX:=bn (And.intro hqd (And.intro b4W (And.intro hql (And.intro hown hlow))))
   have hRt:=Rd.dO hto
   clear hd htk hqd b4W hql hown hlow hlt c1B c1r hck hlt2 b2Y hR hto htz
   go_wp2_with fail
   refine(short_any _ _ sc _ hRt (dB _) b5r.out (by omega) hlen3).mono ?_
   rintro e w' ⟨v2,rfl,hv2,hbel⟩
   rw[aJ,Nat.mul_div_cancel _ (show 0<sc from b5r.out)] at hv2
   have hq5:=kM hq hbel
   have hB5:=hB.trans (hbel.mono hB.size)
   have hR2:=Rd.dO (l:=qq) (by rw[HX.out.2.2.1];exact hq5)
   have htq:=NM _ _ M _ _ hR2 HX.out.2.1 HX.out.2.2.1
   have hoq:=uF hq5 HX.out.2.1 HX.out.2.2.1
   have hR3:=Rd.dO hv2
   have hR4:=Rd.dO hoq
   have htz:fZ qq=dig (val a / val b):=by unfold fZ;rw[HX.out.1]
   rw[htz] at hR4
   have HR4:=bn hR4
   have HTZ:=bn htz
   clear hoq hR4 htz
   go_wp2_with fail
   refine htq.mono ?_
   rintro e w' ⟨rfl,rfl⟩
   rw[HTZ.out]
   go_wp2_with fail
   go_ret2
   exact⟨_,_,rfl,HR4.out,hR3,hB5⟩
  | succ j =>
   obtain rfl:i'=(j:Int):=by have:=hk'.out;simp at this;omega
   refine a4d (val a*sc) V u qq gu' gv gq (lu+1) n M cu' cv j w.heap.size wr w HVc.out HN.out hn2 (by omega) hM2 hcu hI.out hkM HNE.out hne2 b3b c3M c3K hu hv hq hB _ _ _ _ _ _ _ _ _ _ _ _ _ _ _ _ _ _ _ _ _ _ _ _ _ _ _ _ _ _ _ _ _ _ _ _ _ _ _ _ _ _ _ _ _  _ ?_ _ _ _ _ _ _ _ _ _ _ _ _ _ _ _ _ _ _ _ _ _ _ _ _ _ _ _ _ _ _ _ _ _ _ _ _ _ _ _ _ _ _ _ _ _ _ _ _ _ _ _ _ _ _ _ _ _ _ _ _ _ _ _ _ _ _ _ _ _ _ _ _ _ _ _ _ _ _ _ _ _ _ _ _ _ _ _ _ _ _ _ _ _ _ _ _ _ _ _ _ _ _ _ _ _ _ _ _ _ _ _ _ _ _ _ _ _ _ _ _ _ _ _ _ _ _ _ _ _ _ _ _ _ _ _ _ _ _ _ _ _ _ _ _ _ _ _ _ _ _ _ _ _ _ _ _ _ _ _ _ _ _ _ _ _ _ _ _ _ _ _ _ _ _ _ _ _ _ _ _ _ _ _ _ _ _ _ _ _ _ _ _ _ _ _ _ _ _ _ _ _ _
   intro _ _ _ _ _ _ _ _ _ _ _ _ _ _ _ _ _ _ _ _ _ _ _ _ _ _ _ _ _ _ _ _ _ _ _ _ _ _ _ _ _ _ _ _ _ _ _ _ _ _ _ _ _ _ _ _ _ _ _ _ _ _ _ _ _ _ _ _ _ _ _ _ _ _ _ _ _ _ _ _ _ _ _ _ _ _ _ _ _ _ _ _ _ _ _ _ _ _ _ _ _ _ _ _ _ _ _ _ _ _ _ _ _ _ _ _ _ _ _ _ _ _ _ _ _ _ _ _ _ _ _ _ _ _ _ _ _ _ _ _ _ _ _ _ _ _ _ _ _ _ _ _ _ _ _ _ _ _ _ _ _ _ _ _ _ _ _ _ _ _ _ _ _ _ _ _ _ _ _ _ _ _ _ _ _ _ _ _ _ _ _ _ _ _ _ _ _ _ _ _ _ _  u' qq' w' hI' hu' hv' hq' hB'
   go_wp2_with fail
   go_roundw
   case rel =>
    (repeat apply Exists.intro)
    exact⟨⟨j,_,u',qq',rfl,rfl,by omega,bn hI',hu',hv',hq',hB'⟩,rfl⟩
   case measure=>simp[intOf]
set_option maxRecDepth 100000
set_option maxHeartbeats 2000000
theorem a7c {x y:Int} (h:x.sign≠y.sign):dV x.sign y.sign=dV x y:=by
 rcases Ae x 0 with hx|rfl|hx<;>rcases Ae y 0 with hy|rfl|hy
 ·exact absurd (by rw[uz hx,uz hy]) h
 ·rw[uz hx];simp[dV,hx]
 ·rw[uz hx,vw hy];unfold dV;rw[gy (by omega),gy (by omega)]
 ·rw[uz hy];unfold dV;simp;omega
 ·simp at h
 ·rw[vw hy];unfold dV;simp;omega
 ·rw[vw hx,uz hy];unfold dV;rw[ig (by omega),gy (by omega),ig (by omega),gy (by omega)]
 ·rw[vw hx];unfold dV;simp;omega
 ·exact absurd (by rw[vw hx,vw hy]) h
theorem a8T {x y:Int} (h:x.sign=y.sign) (b:Bool) (hb:x≠0->b=decide (x<0)):(if b then -dV (x.natAbs:Nat) (y.natAbs:Nat) else dV (x.natAbs:Nat) (y.natAbs:Nat))=dV x y:=by
 rcases Ae x 0 with hx|rfl|hx
 ·have hy:y<0:=by
   rw[uz hx] at h
   exact Int.sign_eq_neg_one_iff_neg.1 h.symm
  rw[hb (by omega)]
  simp only[hx,decide_true,Dk]
  unfold dV
  split<;>split<;>(try split)<;>(try split)<;>omega
 ·simp at h
  have:y=0:=Int.sign_eq_zero_iff_zero.1 h.symm
  subst this
  cases b<;>simp[dV]
 ·have hy:0<y:=by
   rw[vw hx] at h
   exact Int.sign_eq_one_iff_pos.1 h.symm
  rw[hb (by omega)]
  have:¬ x<0:=by omega
  simp only[this,decide_false,zq,if_false]
  unfold dV
  split<;>split<;>(try split)<;>(try split)<;>omega
theorem a5u (x y:Int):-1<=dV x y/\dV x y<=1:=by unfold dV;split<;>(try split)<;>omega
theorem JK (v u:Value) (x y:Int) (w:World) (hv:Raw w v x) (hu:Raw w u y) :
  Calls Tryz.prog 135 #[v,u] w fun e w'=>e=.returned (.int .i64 (dV x y))/\Below w.heap.size w w':=by
 obtain⟨b,p,n,c,rfl⟩:=hv.form
 obtain⟨d,o,m,e,rfl⟩:=hu.form
 have HS:=bn (fun h:x≠0=>hv.sign h)
 obtain⟨sx,hsx⟩:∃ sx,x.sign=sx:=⟨_,rfl⟩
 obtain⟨sy,hsy⟩:∃ sy,y.sign=sy:=⟨_,rfl⟩
 have HSX:=bn hsx
 have HSY:=bn hsy
 clear hsx hsy
 obtain⟨cv,hcv⟩:∃ cv,dV (val (dig x.natAbs)) (val (dig y.natAbs))=cv:=⟨_,rfl⟩
 have hc1:-1<=cv:=by rw[<-hcv];exact(a5u _ _).1
 have hc2:cv<=1:=by rw[<-hcv];exact(a5u _ _).2
 have HCV:=bn hcv
 clear hcv
 have bZ:Below w.heap.size w w:=dn _ _
 have qZ:=hv.alloc (.cells #[.bool b,.slice p n c] 62)
 have jZ:=hu.alloc (.cells #[.bool b,.slice p n c] 62)
 have qY:=Below.alloc bZ bZ.size (.cells #[.bool b,.slice p n c] 62)
 clear bZ
 have q_1:Bx (w.alloc (.cells #[.bool b,.slice p n c] 62)) (w.heap.size) [.bool b,.slice p n c]:=by
  have:=Bx.new w [.bool b,.slice p n c] 62
  simpa using this
 have IK:=qZ.alloc (.cells #[.bool d,.slice o m e] 62)
 have VZ:=jZ.alloc (.cells #[.bool d,.slice o m e] 62)
 have xE:=Below.alloc qY qY.size (.cells #[.bool d,.slice o m e] 62)
 have q_2:=q_1.alloc (.cells #[.bool d,.slice o m e] 62)
 clear qZ jZ qY q_1
 have t_2:Bx ((w.alloc (.cells #[.bool b,.slice p n c] 62)).alloc (.cells #[.bool d,.slice o m e] 62)) (w.heap.size+1) [.bool d,.slice o m e]:=by
  have:=Bx.new (w.alloc (.cells #[.bool b,.slice p n c] 62)) [.bool d,.slice o m e] 62
  simpa using this
 have KD:=IK.drew
 have KC:=VZ.drew
 have AU:=xE.drew
 have q_3:=q_2.drew
 have t_3:=t_2.drew
 clear IK VZ xE q_2 t_2
 have S0:(fun w':World=>w'.cell? ⟨w.heap.size,0,none⟩=some (.bool b)/\w'.cell? ⟨w.heap.size,1,none⟩=some (.slice p n c)/\w'.cell? ⟨w.heap.size+1,0,none⟩=some (.bool d)/\w'.cell? ⟨w.heap.size+1,1,none⟩=some (.slice o m e)/\w.heap.size+1<w'.heap.size) ((w.alloc (.cells #[.bool b,.slice p n c] 62)).alloc (.cells #[.bool d,.slice o m e] 62)).drew:=⟨q_3.c0,q_3.c1,t_3.c0,t_3.c1,t_3.1⟩
 have K:∀ A B:World,(fun w':World=>w'.cell? ⟨w.heap.size,0,none⟩=some (.bool b)/\w'.cell? ⟨w.heap.size,1,none⟩=some (.slice p n c)/\w'.cell? ⟨w.heap.size+1,0,none⟩=some (.bool d)/\w'.cell? ⟨w.heap.size+1,1,none⟩=some (.slice o m e)/\w.heap.size+1<w'.heap.size) A->Below A.heap.size A B->(fun w':World=>w'.cell? ⟨w.heap.size,0,none⟩=some (.bool b)/\w'.cell? ⟨w.heap.size,1,none⟩=some (.slice p n c)/\w'.cell? ⟨w.heap.size+1,0,none⟩=some (.bool d)/\w'.cell? ⟨w.heap.size+1,1,none⟩=some (.slice o m e)/\w.heap.size+1<w'.heap.size) B:=by
  rintro A B ⟨h0,h1,h2,h3,h4⟩ hb
  have hs:=hb.size
  exact⟨by rw[(gU hb).1 _ _ (by omega)];exact h0,by rw[(gU hb).1 _ _ (by omega)];exact h1,by rw[(gU hb).1 _ _ (by omega)];exact h2,by rw[(gU hb).1 _ _ (by omega)];exact h3,by omega⟩
 have tk1:True:=trivial
 have tk2:True:=trivial
 by_cases hs:sx=sy
 ·have hne:(sx != sy)=false:=by simpa using hs
  have HE:=bn hs
  clear hs
  go_enter Tryz.func135,Tryz.ntmps135
  go_wp2_with fail
  go_region_held3 (fun w':World=>w'.cell? ⟨w.heap.size,0,none⟩=some (.bool b)/\w'.cell? ⟨w.heap.size,1,none⟩=some (.slice p n c)/\w'.cell? ⟨w.heap.size+1,0,none⟩=some (.bool d)/\w'.cell? ⟨w.heap.size+1,1,none⟩=some (.slice o m e)/\w.heap.size+1<w'.heap.size) (first|exact S0|(simp;done)|exact K _ _ (by assumption) (by assumption))
   (first
    | ((have:=tk1;skip);clear tk1;go_at_call 118;refine(DU _ x _ KD).mono ?_;rintro e w1 ⟨rfl,hb1⟩;have MH:=KD.below hb1;have IJ:=KC.below hb1;have II:=AU.trans (hb1.mono AU.size);have q_4:=q_3.to hb1;have t_4:=t_3.to hb1;clear KD KC AU q_3 t_3;rw[HSX.out])
    | ((have:=tk2;skip);clear tk2;go_at_call 118;refine(DU _ y _ IJ).mono ?_;rintro e w2 ⟨rfl,hb2⟩;have a0s:=MH.below hb2;have TB:=IJ.below hb2;have OZ:=II.trans (hb2.mono II.size);have q_5:=q_4.to hb2;have t_5:=t_4.to hb2;clear MH IJ II q_4 t_4;rw[HSY.out]))
  have a0t:=a0s.drew
  have a2g:=TB.drew
  have SV:=OZ.drew
  have q_6:=q_5.drew
  have t_6:=t_5.drew
  clear a0s TB OZ q_5 t_5
  have S0b:(fun w':World=>w'.cell? ⟨w.heap.size,0,none⟩=some (.bool b)/\w'.cell? ⟨w.heap.size,1,none⟩=some (.slice p n c)/\w'.cell? ⟨w.heap.size+1,0,none⟩=some (.bool d)/\w'.cell? ⟨w.heap.size+1,1,none⟩=some (.slice o m e)/\w.heap.size+1<w'.heap.size) w2.drew:=⟨q_6.c0,q_6.c1,t_6.c0,t_6.c1,t_6.1⟩
  have tk3:True:=trivial
  have tk4:True:=trivial
  go_wp2_with fail
  go_region_held3 (fun w':World=>w'.cell? ⟨w.heap.size,0,none⟩=some (.bool b)/\w'.cell? ⟨w.heap.size,1,none⟩=some (.slice p n c)/\w'.cell? ⟨w.heap.size+1,0,none⟩=some (.bool d)/\w'.cell? ⟨w.heap.size+1,1,none⟩=some (.slice o m e)/\w.heap.size+1<w'.heap.size) (first|exact S0b|(simp;done)|exact K _ _ (by assumption) (by assumption))
   (first
    | ((have:=tk3;skip);clear tk3;go_at_call 153;refine(fG _ x _ a0t).mono ?_;rintro e w3 ⟨s1,rfl,hs1,hb3⟩;have a7t:=a0t.below hb3;have a3V:=a2g.below hb3;have a0m:=SV.trans (hb3.mono SV.size);have q_7:=q_6.to hb3;have t_7:=t_6.to hb3;clear a0t a2g SV q_6 t_6)
    | ((have:=tk4;skip);clear tk4;go_at_call 153;refine(fG _ y _ a3V).mono ?_;rintro e w4 ⟨s2,rfl,hs2,hb4⟩;have b5X:=a7t.below hb4;have b5W:=a3V.below hb4;have a9C:=a0m.trans (hb4.mono a0m.size);have q_8:=q_7.to hb4;have t_8:=t_7.to hb4;have b3c:=hs1.below hb4;clear a7t a3V a0m q_7 t_7 hs1)
    | (go_at_call 165;refine(mG _ _ _ _ _ b3c hs2 (cZ _) (cZ _)).mono ?_;rintro e w5 ⟨rfl,hb5⟩;have c4E:=b5X.below hb5;have c4C:=b5W.below hb5;have c1o:=a9C.trans (hb5.mono a9C.size);have q_9:=q_8.to hb5;have t_9:=t_8.to hb5;have c4B:=b3c.below hb5;have a0:=hs2.below hb5;clear b5X b5W a9C q_8 t_8 b3c;rw[HCV.out];have b0:=q_9.c0;have d0:=q_9.c1))
  have hfin:=a8T (HSX.out.trans (HE.out.trans HSY.out.symm)) b HS.out
  rw[<-aJ x.natAbs,<-aJ y.natAbs,HCV.out] at hfin
  have HF:=bn hfin
  clear hfin
  cases b with
  | true =>
   go_wp2_with fail
   go_ret
   exact⟨by rw[<-HF.out];rfl,c1o⟩
  | false =>
   go_wp2_with fail
   go_ret
   exact⟨by rw[<-HF.out];rfl,c1o⟩
 ·have hne:(sx != sy)=true:=by simpa using hs
  have HE:=bn hs
  clear hs
  go_enter Tryz.func135,Tryz.ntmps135
  go_wp2_with fail
  go_region_held3 (fun w':World=>w'.cell? ⟨w.heap.size,0,none⟩=some (.bool b)/\w'.cell? ⟨w.heap.size,1,none⟩=some (.slice p n c)/\w'.cell? ⟨w.heap.size+1,0,none⟩=some (.bool d)/\w'.cell? ⟨w.heap.size+1,1,none⟩=some (.slice o m e)/\w.heap.size+1<w'.heap.size) (first|exact S0|(simp;done)|exact K _ _ (by assumption) (by assumption))
   (first
    | ((have:=tk1;skip);clear tk1;go_at_call 118;refine(DU _ x _ KD).mono ?_;rintro e w1 ⟨rfl,hb1⟩;have MH:=KD.below hb1;have IJ:=KC.below hb1;have II:=AU.trans (hb1.mono AU.size);have q_4:=q_3.to hb1;have t_4:=t_3.to hb1;clear KD KC AU q_3 t_3;rw[HSX.out])
    | ((have:=tk2;skip);clear tk2;go_at_call 118;refine(DU _ y _ IJ).mono ?_;rintro e w2 ⟨rfl,hb2⟩;have a0s:=MH.below hb2;have TB:=IJ.below hb2;have OZ:=II.trans (hb2.mono II.size);have q_5:=q_4.to hb2;have t_5:=t_4.to hb2;clear MH IJ II q_4 t_4;rw[HSY.out]))
  go_wp2_with fail
  refine(RG _ _ _).mono ?_
  rintro e w' ⟨rfl,rfl⟩
  go_wp2_with fail
  go_ret
  exact⟨by rw[<-HSX.out,<-HSY.out,a7c (fun h=>HE.out (HSX.out.symm.trans (h.trans HSY.out)))];rfl,OZ⟩
end Go.Proofs.YtgplhbhfdgempaaGreat
