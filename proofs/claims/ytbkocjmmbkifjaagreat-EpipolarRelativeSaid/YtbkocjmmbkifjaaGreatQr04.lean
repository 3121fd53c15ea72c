/-
  Lemmas for the theorem vrelative28_holds, part 4 of 35.
-/
import Derived.BigQuiet
import Derived.Deep.CutBlock
import Derived.Deep.DeepCutAuto
import Derived.Deep.LoopGhost
import Derived.Deep.QuietTactic
import Derived.Test.YtbkocjmmbkifjaaGreatQr03
namespace Go.Proofs.YtbkocjmmbkifjaaGreat
open Go Go.RowKit
theorem Ed:type_of% @Nat.le_mul_of_pos_right:=@Nat.le_mul_of_pos_right
theorem Dl:type_of% @Int.lt_trichotomy:=@Int.lt_trichotomy
theorem ql:type_of% @Int.sign_eq_neg_one_of_neg:=@Int.sign_eq_neg_one_of_neg
theorem uo:type_of% @Int.sign_eq_one_of_pos:=@Int.sign_eq_one_of_pos
theorem Du:type_of% @if_true:=@if_true
theorem wu:type_of% @Int.sign_eq_zero_iff_zero:=@Int.sign_eq_zero_iff_zero
theorem xu:type_of% @Bool.false_eq_true:=@Bool.false_eq_true
theorem zu:type_of% @Rat.divInt_eq_div:=@Rat.divInt_eq_div
theorem Bz:type_of% @Rat.num_divInt_den:=@Rat.num_divInt_den
theorem uw:type_of% @Rat.intCast_mul:=@Rat.intCast_mul
theorem Bj:type_of% @Rat.num_eq_zero:=@Rat.num_eq_zero
set_option maxRecDepth 1000000
set_option maxHeartbeats 4000000
set_option linter.unusedSimpArgs false
set_option linter.unusedVariables false
def qU:Code->Option Code
 | .loop c=>some c
 | .seq a b=>match qU a with
  | some c=>some c
  | none=>qU b
 | .block _ c=>qU c
 | .scope c=>qU c
 | .cond _ a b=>match qU a with
  | some c=>some c
  | none=>qU b
 | _=>none
noncomputable def b2o:Code:=((Tryz.f277.body.bind qU).getD .skip)
theorem VD {n d v:Nat} (hd:1<=d) (hn:n<=999999999999999999) (hv:(n:Int) / d=v) (hw:IntKind.u64.wrap (v:Int)=v) (w:World):Sem.run Tryz.prog (binOp .quo 147 (.int .u64 (n:Nat)) (.int .u64 (d:Nat))) w=.ok (.int .u64 (v:Nat)) w:=by
 have hdz:((d:Int)==0)=false:=by simp;omega
 have hdn:¬ d=0:=by omega
 simp[go_sem, *]
theorem VG {n d v:Nat} (hd:1<=d) (hn:n<=999999999999999999) (hv:(n:Int)%d=v) (hw:IntKind.u64.wrap (v:Int)=v) (w:World):Sem.run Tryz.prog (binOp .rem 147 (.int .u64 (n:Nat)) (.int .u64 (d:Nat))) w=.ok (.int .u64 (v:Nat)) w:=by
 rw[<-Bf (by omega)] at hv;have hdz:((d:Int)==0)=false:=by simp;omega
 have hdn:¬ d=0:=by omega
 simp[go_sem, *]
theorem wrap_u64 {k:Nat} (h:k<=18446744073709551615):IntKind.u64.wrap (k:Int)=k:=by simp[IntKind.wrap,IntKind.bits,IntKind.signed];omega
structure kU (base gu gv gq L n M cu cv:Nat) (u V qq:List Nat) (w0 w:World):Prop where
 u:w.ownsRow base 148 1 (.slice (some ⟨gu,0,none⟩) L cu) L (cells32 u)
 v:w.ownsRow base 148 1 (.slice (some ⟨gv,0,none⟩) n cv) n (cells32 V)
 q:w.ownsRow base 148 1 (.slice (some ⟨gq,0,none⟩) M M) M (cells32 qq)
 b:Below base w0 w
theorem kU.drew {base gu gv gq L n M cu cv:Nat} {u V qq:List Nat} {w0 w:World} (h:kU base gu gv gq L n M cu cv u V qq w0 w):kU base gu gv gq L n M cu cv u V qq w0 w.drew :=
 ⟨kH h.u (gy _ _).drew,kH h.v (gy _ _).drew,kH h.q (gy _ _).drew,h.b.drew⟩
theorem kU.drewN {base gu gv gq L n M cu cv:Nat} {u V qq:List Nat} {w0 w:World} (h:kU base gu gv gq L n M cu cv u V qq w0 w) (m:Nat):kU base gu gv gq L n M cu cv u V qq w0 (w.drewN m):=by
 induction m with
 | zero=>exact h
 | succ m ih=>exact ih.drew
theorem kU.uc {base gu gv gq L n M cu cv:Nat} {u V qq:List Nat} {w0 w:World} (h:kU base gu gv gq L n M cu cv u V qq w0 w) {k x:Nat} (hk:k<L) (hl:u.length=L) (hx:gr u k=x):w.cell? ⟨gu,k,none⟩=some (.int .u32 (x:Nat)):=by subst hx;rw[h.u.cellAt _ (by omega)];exact eX (by omega)
theorem kU.vc {base gu gv gq L n M cu cv:Nat} {u V qq:List Nat} {w0 w:World} (h:kU base gu gv gq L n M cu cv u V qq w0 w) {k x:Nat} (hk:k<n) (hl:V.length=n) (hx:gr V k=x):w.cell? ⟨gv,k,none⟩=some (.int .u32 (x:Nat)):=by subst hx;rw[h.v.cellAt _ (by omega)];exact eX (by omega)
theorem kU.qc {base gu gv gq L n M cu cv:Nat} {u V qq:List Nat} {w0 w:World} (h:kU base gu gv gq L n M cu cv u V qq w0 w) {k:Nat} (hk:k<M) (hl:qq.length=M):w.cell? ⟨gq,k,none⟩=some (.int .u32 (gr qq k:Nat)):=by rw[h.q.cellAt _ (by omega)];exact eX (by omega)
theorem kU.su {base gu gv gq L n M cu cv:Nat} {u V qq:List Nat} {w0 w:World} (h:kU base gu gv gq L n M cu cv u V qq w0 w) (h1:gu≠gv) (h2:gu≠gq) (h3:base<=gu) (k x:Nat):kU base gu gv gq L n M cu cv (u.set k x) V qq w0 (w.setCell ⟨gu,k,none⟩ (.int .u32 (x:Nat))):=by have hst:=h.u.stored k (.int .u32 (x:Nat));rw[fP] at hst;exact⟨hst.1,qG h.v (by simp[Value.ownBlock];omega) _,qG h.q (by simp[Value.ownBlock];omega) _,h.b.setCell (p:=⟨gu,k,none⟩) h3 _⟩
theorem kU.sq {base gu gv gq L n M cu cv:Nat} {u V qq:List Nat} {w0 w:World} (h:kU base gu gv gq L n M cu cv u V qq w0 w) (h1:gu≠gq) (h2:gv≠gq) (h3:base<=gq) (k x:Nat):kU base gu gv gq L n M cu cv u V (qq.set k x) w0 (w.setCell ⟨gq,k,none⟩ (.int .u32 (x:Nat))):=by have hst:=h.q.stored k (.int .u32 (x:Nat));rw[fP] at hst;exact⟨qG h.u (by simp[Value.ownBlock];omega) _,qG h.v (by simp[Value.ownBlock];omega) _,hst.1,h.b.setCell (p:=⟨gq,k,none⟩) h3 _⟩
theorem a4C (S:Nat) (V u qq:List Nat) (gu gv gq L n M cu cv j base:Nat) (wr w0:World) (hVc:Canon V) (hVn:V.length=n) (hn2:2<=n) (hL:L<=2000000000) (hLM:M+n=L) (hcu:L<=cu)
  (hI:kG S (val V) n L u qq (j+1)) (hj:j+1<=M) (hne1:gu≠gv) (hne2:gu≠gq) (b5z:gv≠gq) (hb1:base<=gu) (hb2:base<=gq)
  (hu:wr.ownsRow base 148 1 (.slice (some ⟨gu,0,none⟩) L cu) L (cells32 u)) (hv:wr.ownsRow base 148 1 (.slice (some ⟨gv,0,none⟩) n cv) n (cells32 V)) (hq:wr.ownsRow base 148 1 (.slice (some ⟨gq,0,none⟩) M M) M (cells32 qq)) (hB:Below base w0 wr)
  (k0 k1 k5 k6 k23 k24 k25 k26 k27 k28 k29 k30 k31 k32 k33 k34 k35 k36 k37 k38 k39 k40 k41 k42 k43 k44 k45 k46 k47 k48 k49 k50 k51 k52 k53 k54 k55 k56 k57 k58 k59 k60 k61 k62 k63:Value) (Q:Exit->Act->World->Prop)
  (hQ:∀ (s11 s12 s13 s14 s15 s16 s17 s18 s19 s20 s21 s22 s64 s65 s66 s67 s68 s69 s70 s71 s72 s73 s74 s75 s76 s77 s78 s79 s80 s81 s82 s83 s84 s85 s86 s87 s88 s89 s90 s91 s92 s93 s94 s95 s96 s97 s98 s99 c0N c0O c0P c0Q c0R c0S c0T c0U c0V c0W c0X c0Y c0Z c1b c1c c1d c1e c1f c1g c1h c1i c1j c1k c1l c1m c1n c1o c1p c1q c1r c1s c1t c1u c1w c1x c1y c1z c1A c1B c1C c1E c1F c1G c1H c1I c1J c1K c1M c1N c1O c1P c1Q c1R c1S c1T c1V c1W c1X c1Y c1Z c2a c2b c2c c2d c2e c2f c2g c2h c2i c2j c2k c2l c2n c2o c2p c2r c2s c2t c2u c2w c2x c2y c2z c2A c2B c2C c2E c2F c2G c2H c2I c2J c2K c2M c2N c2O c2P c2Q c2R c2S c2T c2V c2W c2X c2Y c2Z c3a c3b c3c c3d c3e c3f c3g c3h c3i c3j c3k c3l c3n c3o c3p c3q c3r c3s c3t c3u c3v c3w c3x c3y c3z c3A c3B c3C c3E c3F c3G c3H c3I c3J c3K c3M c3N c3O c3P c3Q c3R c3S c3T c3V c3W c3X c3Y c3Z:Value) (u' qq':List Nat) (w':World),kG S (val V) n L u' qq' j->w'.ownsRow base 148 1 (.slice (some ⟨gu,0,none⟩) L cu) L (cells32 u')->w'.ownsRow base 148 1 (.slice (some ⟨gv,0,none⟩) n cv) n (cells32 V)->w'.ownsRow base 148 1 (.slice (some ⟨gq,0,none⟩) M M) M (cells32 qq')->Below base w0 w' ->
   Q .normal ⟨#[k0,k1,undef,undef,.slice (some ⟨gq,0,none⟩) M M,k5,k6,(.slice (some ⟨gu,0,none⟩) L cu),(.slice (some ⟨gv,0,none⟩) n cv),.int .i64 (n:Nat),.int .i64 ((j:Int)-1),s11,s12,s13,s14,s15,s16,s17,s18,s19,s20,s21,s22,k23,k24,k25,k26,k27,k28,k29,k30,k31,k32,k33,k34,k35,k36,k37,k38,k39,k40,k41,k42,k43,k44,k45,k46,k47,k48,k49,k50,k51,k52,k53,k54,k55,k56,k57,k58,k59,k60,k61,k62,k63,s64,s65,s66,s67,s68,s69,s70,s71,s72,s73,s74,s75,s76,s77,s78,s79,s80,s81,s82,s83,s84,s85,s86,s87,s88,s89,s90,s91,s92,s93,s94,s95,s96,s97,s98,s99,c0N,c0O,c0P,c0Q,c0R,c0S,c0T,c0U,c0V,c0W,c0X,c0Y,c0Z,c1b,c1c,c1d,c1e,c1f,c1g,c1h,c1i,c1j,c1k,c1l,c1m,c1n,c1o,c1p,c1q,c1r,c1s,c1t,c1u,c1w,c1x,c1y,c1z,c1A,c1B,c1C,c1E,c1F,c1G,c1H,c1I,c1J,c1K,c1M,c1N,c1O,c1P,c1Q,c1R,c1S,c1T,c1V,c1W,c1X,c1Y,c1Z,c2a,c2b,c2c,c2d,c2e,c2f,c2g,c2h,c2i,c2j,c2k,c2l,c2n,c2o,c2p,c2r,c2s,c2t,c2u,c2w,c2x,c2y,c2z,c2A,c2B,c2C,c2E,c2F,c2G,c2H,c2I,c2J,c2K,c2M,c2N,c2O,c2P,c2Q,c2R,c2S,c2T,c2V,c2W,c2X,c2Y,c2Z,c3a,c3b,c3c,c3d,c3e,c3f,c3g,c3h,c3i,c3j,c3k,c3l,c3n,c3o,c3p,c3q,c3r,c3s,c3t,c3u,c3v,c3w,c3x,c3y,c3z,c3A,c3B,c3C,c3E,c3F,c3G,c3H,c3I,c3J,c3K,c3M,c3N,c3O,c3P,c3Q,c3R,c3S,c3T,c3V,c3W,c3X,c3Y,c3Z,undef,undef,undef,undef,undef,undef,undef,undef,undef,undef,undef,undef],[]⟩ w')
  (s11 s12 s13 s14 s15 s16 s17 s18 s19 s20 s21 s22 s64 s65 s66 s67 s68 s69 s70 s71 s72 s73 s74 s75 s76 s77 s78 s79 s80 s81 s82 s83 s84 s85 s86 s87 s88 s89 s90 s91 s92 s93 s94 s95 s96 s97 s98 s99 c0N c0O c0P c0Q c0R c0S c0T c0U c0V c0W c0X c0Y c0Z c1b c1c c1d c1e c1f c1g c1h c1i c1j c1k c1l c1m c1n c1o c1p c1q c1r c1s c1t c1u c1w c1x c1y c1z c1A c1B c1C c1E c1F c1G c1H c1I c1J c1K c1M c1N c1O c1P c1Q c1R c1S c1T c1V c1W c1X c1Y c1Z c2a c2b c2c c2d c2e c2f c2g c2h c2i c2j c2k c2l c2n c2o c2p c2r c2s c2t c2u c2w c2x c2y c2z c2A c2B c2C c2E c2F c2G c2H c2I c2J c2K c2M c2N c2O c2P c2Q c2R c2S c2T c2V c2W c2X c2Y c2Z c3a c3b c3c c3d c3e c3f c3g c3h c3i c3j c3k c3l c3n c3o c3p c3q c3r c3s c3t c3u c3v c3w c3x c3y c3z c3A c3B c3C c3E c3F c3G c3H c3I c3J c3K c3M c3N c3O c3P c3Q c3R c3S c3T c3V c3W c3X c3Y c3Z:Value) :
  b2o.wp Tryz.prog Q ⟨#[k0,k1,undef,undef,.slice (some ⟨gq,0,none⟩) M M,k5,k6,(.slice (some ⟨gu,0,none⟩) L cu),(.slice (some ⟨gv,0,none⟩) n cv),.int .i64 (n:Nat),.int .i64 (j:Int),s11,s12,s13,s14,s15,s16,s17,s18,s19,s20,s21,s22,k23,k24,k25,k26,k27,k28,k29,k30,k31,k32,k33,k34,k35,k36,k37,k38,k39,k40,k41,k42,k43,k44,k45,k46,k47,k48,k49,k50,k51,k52,k53,k54,k55,k56,k57,k58,k59,k60,k61,k62,k63,s64,s65,s66,s67,s68,s69,s70,s71,s72,s73,s74,s75,s76,s77,s78,s79,s80,s81,s82,s83,s84,s85,s86,s87,s88,s89,s90,s91,s92,s93,s94,s95,s96,s97,s98,s99,c0N,c0O,c0P,c0Q,c0R,c0S,c0T,c0U,c0V,c0W,c0X,c0Y,c0Z,c1b,c1c,c1d,c1e,c1f,c1g,c1h,c1i,c1j,c1k,c1l,c1m,c1n,c1o,c1p,c1q,c1r,c1s,c1t,c1u,c1w,c1x,c1y,c1z,c1A,c1B,c1C,c1E,c1F,c1G,c1H,c1I,c1J,c1K,c1M,c1N,c1O,c1P,c1Q,c1R,c1S,c1T,c1V,c1W,c1X,c1Y,c1Z,c2a,c2b,c2c,c2d,c2e,c2f,c2g,c2h,c2i,c2j,c2k,c2l,c2n,c2o,c2p,c2r,c2s,c2t,c2u,c2w,c2x,c2y,c2z,c2A,c2B,c2C,c2E,c2F,c2G,c2H,c2I,c2J,c2K,c2M,c2N,c2O,c2P,c2Q,c2R,c2S,c2T,c2V,c2W,c2X,c2Y,c2Z,c3a,c3b,c3c,c3d,c3e,c3f,c3g,c3h,c3i,c3j,c3k,c3l,c3n,c3o,c3p,c3q,c3r,c3s,c3t,c3u,c3v,c3w,c3x,c3y,c3z,c3A,c3B,c3C,c3E,c3F,c3G,c3H,c3I,c3J,c3K,c3M,c3N,c3O,c3P,c3Q,c3R,c3S,c3T,c3V,c3W,c3X,c3Y,c3Z,undef,undef,undef,undef,undef,undef,undef,undef,undef,undef,undef,undef],[]⟩ wr:=by
 conv=>arg 2;whnf
 have hG:=bf (hI.c8A hVc hVn hn2);have b2q:=hI.low;have c0h:=hI.lu;have bh:gr u (j+n)<=999999999:=gJ b2q _;have b1:gr u (j+n-1)<=999999999:=gJ b2q _;have b2:gr u (j+n-2)<=999999999:=gJ b2q _;have c1:gr V (n-1)<=999999999:=gJ hVc.1 _;have c2:gr V (n-2)<=999999999:=gJ hVc.1 _;have c0:1<=gr V (n-1):=hG.out.v1p;have hRu:Rd wr (.slice (some ⟨gu,0,none⟩) L cu) u:=by have:=Rd.dN (l:=u) (by rw[c0h];exact hu);exact this
 have l1:wr.cell? ⟨gu,j+n-1,none⟩=some (.int .u32 (gr u (j+n-1):Nat)):=by rw[hu.cellAt _ (by omega)];exact eX (by omega)
 have l2:wr.cell? ⟨gu,j+n-2,none⟩=some (.int .u32 (gr u (j+n-2):Nat)):=by rw[hu.cellAt _ (by omega)];exact eX (by omega)
 have m1:wr.cell? ⟨gv,n-1,none⟩=some (.int .u32 (gr V (n-1):Nat)):=by rw[hv.cellAt _ (by omega)];exact eX (by omega)
 have m2:wr.cell? ⟨gv,n-2,none⟩=some (.int .u32 (gr V (n-2):Nat)):=by rw[hv.cellAt _ (by omega)];exact eX (by omega)
 have hjn:((j:Int)+n).toNat=j+n:=by omega
 have hat:=fun W h=>a9P (.slice (some ⟨gu,0,none⟩) L cu) u ((j:Int)+n) W h (by omega);rw[hjn] at hat;obtain⟨xh,hxh⟩:∃ xh,gr u (j+n)=xh:=⟨_,rfl⟩;obtain⟨x1,hx1⟩:∃ x1,gr u (j+n-1)=x1:=⟨_,rfl⟩;obtain⟨x2,hx2⟩:∃ x2,gr u (j+n-2)=x2:=⟨_,rfl⟩;obtain⟨y1,hy1⟩:∃ y1,gr V (n-1)=y1:=⟨_,rfl⟩;obtain⟨y2,hy2⟩:∃ y2,gr V (n-2)=y2:=⟨_,rfl⟩;rw[hxh] at hat bh hG;rw[hx1] at b1 l1 hG;rw[hx2] at b2 l2 hG;rw[hy1] at c1 c0 m1 hG;rw[hy2] at c2 m2 hG;have HXH:=bf (And.intro hxh (And.intro hx1 (And.intro hx2 (And.intro hy1 hy2))));have HR0:=bf (kU.mk hu hv hq hB);have HAT:=bf hat;have HI:=bf hI;have HVC:=bf hVc;have HVN:=bf hVn;have HQ:=bf hQ;have HL:=bf b2q;have HLN:=bf c0h;clear hxh hx1 hx2 hy1 hy2 hat hI hVc hVn hQ b2q c0h hjn;have t1:((j:Int)+n-1).toNat=j+n-1:=by omega
 have t2:((n:Int)-1).toNat=n-1:=by omega
 have rd1:=hRu.drew;have HR1:=bf hRu;have HR2:=bf rd1;clear hRu rd1;obtain⟨T,hT0⟩:∃ T,xh*1000000000+x1=T:=⟨_,rfl⟩;have hT:(xh:Int)*1000000000+x1=(T:Nat):=by omega
 have hT1:T<=999999999999999999:=by omega
 have hq0:=hG.out.start;have hTB:xh*BB+x1=T:=by rw[bV];exact hT0
 rw[hTB] at hq0;have hgb:T / y1<=2000000000:=by have:=hq0.le hG.out;rw[bV] at this;omega
 have hrb:T%y1<=999999998:=by have:=xg T (show 0<y1 by omega);omega
 obtain⟨g0,hg0⟩:∃ g0,T / y1=g0:=⟨_,rfl⟩;obtain⟨r0,hr0⟩:∃ r0,T%y1=r0:=⟨_,rfl⟩;have i1:(T:Int) / y1=g0:=by rw[<-hg0];simp
 have i2:(T:Int)%y1=r0:=by rw[<-hr0];simp
 rw[hg0] at hgb hq0;rw[hr0] at hrb hq0;have w1:IntKind.u64.wrap (g0:Int)=g0:=by exact wrap_u64 (by omega)
 have w2:IntKind.u64.wrap (r0:Int)=r0:=by exact wrap_u64 (by omega)
 have HG0:=bf hq0;have HT0:=bf hT0;have HTB:=bf hTB;clear hq0 hT0 hTB hg0 hr0
 go_wp2_with fail
 go_quiet ((go_at_call 279;exact Calls.quiet_of_same ((HAT.out _ (by first|exact HR1.out|exact HR2.out)).mono fun e w' h=>⟨h.1,h.2.symm⟩)))
 go_wp2_with fail
 go_quiet (fail)
 go_upto_block 2 with(fail)
 go_cut [12] from 100 to 135 (fun g wx=>∃ gg:Nat,g=.int .u64 (gg:Nat)/\gg<=999999999/\Hid (a5A (val u) (BB ^ j*val V) gg)/\Hid (kU base gu gv gq L n M cu cv u V qq w0 wx))
 case first =>
  go_wp2_with fail
  go_loopg [12,13,100,101,102,103,104,105,106,107,108,109,110,111,112,113,114,115,116,117,118,119,120,121,122,123,124,125,126,127,128,129,130,131,132,133,134,135] g0 (fun k g r _ _ _ _ _ _ _ _ _ _ _ _ _ _ _ _ _ _ _ _ _ _ _ _ _ _ _ _ _ _ _ _ _ _ _ _ wr=>g=.int .u64 (k:Nat)/\k<=2000000000/\∃ rr:Nat,r=.int .u64 (rr:Nat)/\rr<=999999999/\Hid (GInv (val u) (BB ^ j*val V) y1 xh x1 k rr)/\Hid (kU base gu gv gq L n M cu cv u V qq w0 wr))
  case atStart=>exact⟨rfl,hgb,r0,qw (Value.int IntKind.u64) i2,by omega,HG0,bf ((HR0.out.drewN _).drewN _)⟩
  case round =>
   obtain⟨rfl,hk,rr,rfl,hrr,HG,HR⟩:=hrel;clear l1 l2 m1 m2;have HXB:=HXH.out;have t3:((j:Int)+n-2).toNat=j+n-2:=by omega
   have t4:((n:Int)-2).toNat=n-2:=by omega
   have l2:=HR.out.uc (k:=j+n-2) (by omega) HLN.out HXB.2.2.1;have m1:=HR.out.vc (k:=n-1) (by omega) HVN.out HXB.2.2.2.1;have m2:=HR.out.vc (k:=n-2) (by omega) HVN.out HXB.2.2.2.2;clear HXB;by_cases hb:1000000000<=gk
   ·have hd:decide ((1000000000:Int)<=(gk:Int))=true:=by simp;omega
    have hg1:1<=gk:=by omega
    have HBB:=bf hb;clear hb;by_cases hb2:1000000000<=rr+y1
    ·have hd2:decide ((1000000000:Int)<=rr+y1)=true:=by simp;omega
     have HB2:=bf hb2;clear hb2
     go_wp2_with fail
     go_quiet (fail)
     go_wp2_with fail
     go_meet
     obtain⟨s1,s2⟩:=GInv.step hG.out HG.out (.inl (by rw[bV];exact HBB.out));obtain⟨s3,s4⟩:=GInv.brk hG.out s2 (by rw[bV];exact HB2.out);rw[bV] at s3;exact⟨gk-1,by rw[Int.ofNat_sub hg1];rfl,by omega,bf (GInv.done hG.out s2 (by rw[bV];exact s3) s4),bf (HR.out.drewN _)⟩
    ·have hd2:decide ((1000000000:Int)<=rr+y1)=false:=by simp;omega
     have hb3:rr+y1<=999999999:=by omega
     have HB2:=bf hb2;clear hb2
     go_wp2_with fail
     go_quiet (fail)
     go_wp2_with fail
     go_roundg (gk-1)
     case measure=>omega
     case rel =>
      obtain⟨s1,s2⟩:=GInv.step hG.out HG.out (.inl (by rw[bV];exact HBB.out));exact⟨by rw[Int.ofNat_sub hg1];rfl,by omega,rr+y1,by simp,hb3,bf s2,bf (HR.out.drewN _)⟩
   ·have hd:decide ((1000000000:Int)<=(gk:Int))=false:=by simp;omega
    have hb':gk<=999999999:=by omega
    clear hb;have b9P:gk*y2<=999999999*999999999:=uy hb' c2;obtain⟨gp,FP⟩:∃ gp,gk*y2=gp:=⟨_,rfl⟩;have hgp:(gk:Int)*y2=(gp:Nat):=by rw[<-FP];simp
    rw[FP] at b9P;by_cases hc:rr*1000000000+x2<gp
    ·have hdc:decide ((rr:Int)*1000000000+x2<gp)=true:=by simp;omega
     have hg1:1<=gk:=by
      rcases Ai gk with h|h
      ·subst h;simp at FP;omega
      ·exact h
     have HBB:=bf (And.intro hc FP);clear hc FP;by_cases hb2:1000000000<=rr+y1
     ·have hd2:decide ((1000000000:Int)<=rr+y1)=true:=by simp;omega
      have HB2:=bf hb2;clear hb2
      go_wp2_with fail
      go_quiet (fail)
      go_wp2_with fail
      go_meet
      obtain⟨s1,s2⟩:=GInv.step hG.out HG.out (.inr (by rw[bV,HBB.out.2];exact HBB.out.1));obtain⟨s3,s4⟩:=GInv.brk hG.out s2 (by rw[bV];exact HB2.out);rw[bV] at s3;exact⟨gk-1,by rw[Int.ofNat_sub hg1];rfl,by omega,bf (GInv.done hG.out s2 (by rw[bV];exact s3) s4),bf (HR.out.drewN _)⟩
     ·have hd2:decide ((1000000000:Int)<=rr+y1)=false:=by simp;omega
      have hb3:rr+y1<=999999999:=by omega
      have HB2:=bf hb2;clear hb2
      go_wp2_with fail
      go_quiet (fail)
      go_wp2_with fail
      go_roundg (gk-1)
      case measure=>omega
      case rel =>
       obtain⟨s1,s2⟩:=GInv.step hG.out HG.out (.inr (by rw[bV,HBB.out.2];exact HBB.out.1));exact⟨by rw[Int.ofNat_sub hg1];rfl,by omega,rr+y1,by simp,hb3,bf s2,bf (HR.out.drewN _)⟩
    ·have hdc:decide ((rr:Int)*1000000000+x2<gp)=false:=by simp;omega
     have HBB:=bf (And.intro hc FP);clear hc FP
     go_wp2_with fail
     go_quiet (fail)
     go_wp2_with fail
     go_meet
     exact⟨gk,rfl,hb',bf (GInv.done hG.out HG.out (by rw[bV];omega) (by rw[bV,HBB.out.2];exact Nat.le_of_not_lt HBB.out.1)),bf (HR.out.drewN _)⟩
 case rest =>
  obtain⟨g,rfl,hg,HGU,HR⟩:=hcut;clear l1 l2 m1 m2 HAT HR1 HR2 HG0 hgb hrb i1 i2 w1 w2 hT hT1 HT0 HTB HR0
  go_wp2_with fail
  go_loopw [14,15,16,17,18,137,138,139,140,141,142,143,144,145,146,147,148,149,150,151,152,153,154,155,156,157,158,159,160,161,162,163,164,165,166,167,168,169,170,171,172,173,174,175] (fun b c _ _ _ i _ _ _ _ _ _ _ _ _ _ _ _ _ _ _ _ _ _ _ _ _ _ _ _ _ _ _ _ _ _ _ _ _ _ _ _ _ _ wr=>∃ (k bo ca:Nat) (o:List Nat),i=.int .i64 (k:Nat)/\k<=n/\b=.int .i64 (bo:Nat)/\c=.int .u64 (ca:Nat)/\Hid (yE u V o L g j k bo ca)/\Hid (kU base gu gv gq L n M cu cv o V qq w0 wr)) (fun b c _ _ _ i _ _ _ _ _ _ _ _ _ _ _ _ _ _ _ _ _ _ _ _ _ _ _ _ _ _ _ _ _ _ _ _ _ _ _ _ _ _ wr=>n-(intOf i).toNat)
  case atStart=>exact⟨0,0,0,u,rfl,by omega,rfl,rfl,bf (yE.start HLN.out HL.out),HR⟩
  case round =>
   obtain⟨k,bo,ca,o,rfl,hk,rfl,rfl,HS,HR⟩:=hrel;have hbo:=HS.out.bor;have hca:ca<=999999999:=by have:=HS.out.car;omega
   have hol:=HS.out.len;by_cases hkn:k<n
   ·have hv1:gr V k<=999999999:=gJ HVC.out.1 _;have hv2:gr o (j+k)<=999999999:=gJ HS.out.low _;obtain⟨y,hy⟩:∃ y,gr V k=y:=⟨_,rfl⟩;obtain⟨x,hx⟩:∃ x,gr o (j+k)=x:=⟨_,rfl⟩;rw[hy] at hv1;rw[hx] at hv2;have cl1:=HR.out.vc hkn HVN.out hy;have cl2:=HR.out.uc (k:=j+k) (by omega) hol hx;have cf:=HR.out.u.frozenAt (j+k);have hti:((k:Int)+j).toNat=j+k:=by omega
    have b9P:g*y<=999999999*999999999:=uy hg hv1;obtain⟨gp,FP⟩:∃ gp,g*y=gp:=⟨_,rfl⟩;have hgp:(g:Int)*y=(gp:Nat):=by rw[<-FP];simp
    rw[FP] at b9P;obtain⟨r,hr⟩:∃ r,(gp+ca)%1000000000=r:=⟨_,rfl⟩;obtain⟨t,ht⟩:∃ t,(gp+ca) / 1000000000=t:=⟨_,rfl⟩;have hr2:((gp:Int)+ca)%1000000000=r:=by omega
    have ht2:((gp:Int)+ca) / 1000000000=t:=by omega
    have hr3:r<=999999999:=by omega
    have ht3:t<=999999999:=by omega
    by_cases hc:x<bo+r
    ·obtain⟨d,hd0⟩:∃ d,x+1000000000-bo-r=d:=⟨_,rfl⟩;have hd:(x:Int)-bo-r+1000000000=d:=by omega
     have hd1:d<=999999999:=by omega
     have hdc:decide ((x:Int)-bo-r<0)=true:=by simp;omega
     have HN:=bf (HS.out.step (d:=d) (bo':=1) (by omega) (by rw[hy];omega) (by omega) (by omega) (by omega) (by rw[hx,hy,FP,hr];omega));rw[hy,FP,ht] at HN;have HC:=bf hc;clear hc hd0 hr ht FP hx hy hol
     go_wp2_with fail
     go_roundw
     case rel=>exact⟨k+1,1,t,_,by go_num,by omega,rfl,qw (Value.int IntKind.u64) ht2,HN,bf (HR.out.su hne1 hne2 hb1 _ _)⟩
     case measure=>simp[intOf];omega
    ·obtain⟨d,hd0⟩:∃ d,x-bo-r=d:=⟨_,rfl⟩;have hd:(x:Int)-bo-r=d:=by omega
     have hd1:d<=999999999:=by omega
     have HN:=bf (HS.out.step (d:=d) (bo':=0) (by omega) (by rw[hy];omega) (by omega) (by omega) (by omega) (by rw[hx,hy,FP,hr];omega));rw[hy,FP,ht] at HN;clear hc hd0 hr ht FP hx hy hol
     go_wp2_with fail
     go_roundw
     case rel=>exact⟨k+1,0,t,_,by go_num,by omega,rfl,qw (Value.int IntKind.u64) ht2,HN,bf (HR.out.su hne1 hne2 hb1 _ _)⟩
     case measure=>simp[intOf];omega
   ·obtain rfl:k=n:=by omega
    clear hkn;have hsx:gr o (j+k)=xh:=by rw[HS.out.same _ (by omega)];exact HXH.out.1
    have cl2:=HR.out.uc (k:=j+k) (by omega) hol hsx;have cf:=HR.out.u.frozenAt (j+k);have hql:qq.length=M:=by have:=HI.out.lq;omega
    have cq:=HR.out.qc (k:=j) (by omega) hql;have cqf:=HR.out.q.frozenAt j;have hti:((j:Int)+k).toNat=j+k:=by omega
    by_cases hc:bo+ca<=xh
    ·have hN:=a4B HI.out HVC.out.1 HVN.out (by omega) HGU.out (by rw[bV];omega) HS.out (by rw[HXH.out.1];exact hc);rw[HXH.out.1] at hN;have hz:(xh:Int)-bo-ca=0:=by omega
     have HN:=bf hN;have HC:=bf hc;have HSX:=bf hsx;have HQL:=bf hql;have HOL:=bf hol;clear hc hN hsx hql hol
     go_wp2_with fail
     have hlr:=(HR.out.su hne1 hne2 hb1 (j+k) 0).sq hne2 b5z hb2 j g;exact HQ.out _ _ _ _ _ _ _ _ _ _ _ _ _ _ _ _ _ _ _ _ _ _ _ _ _ _ _ _ _ _ _ _ _ _ _ _ _ _ _ _ _ _ _ _ _ _ _ _ _ _ _ _ _ _ _ _ _ _ _ _ _ _ _ _ _ _ _ _ _ _ _ _ _ _ _ _ _ _ _ _ _ _ _ _ _ _ _ _ _ _ _ _ _ _ _ _ _ _ _ _ _ _ _ _ _ _ _ _ _ _ _ _ _ _ _ _ _ _ _ _ _ _ _ _ _ _ _ _ _ _ _ _ _ _ _ _ _ _ _ _ _ _ _ _ _ _ _ _ _ _ _ _ _ _ _ _ _ _ _ _ _ _ _ _ _ _ _ _ _ _ _ _ _ _ _ _ _ _ _ _ _ _ _ _ _ _ _ _ _ _ _ _ _ _ _ _ _ _ _ _ _ _  _ _ _ HN.out.2 hlr.u hlr.v hlr.q hlr.b
    ·have hN:=UJ (c:=1) (o2:=[]) HI.out HVC.out.1 HVN.out (by omega) HGU.out (by rw[bV];omega) HS.out (by rw[HXH.out.1];omega);rw[HXH.out.1] at hN;have hg1:1<=g:=hN.2.1;have hz:(xh:Int)-bo-ca=-1:=by omega
     have HC:=bf hc;have HSX:=bf hsx;have HQL:=bf hql;have HOL:=bf hol;clear hc hN hsx hql
     go_wp2_with fail
     have hLR:=HR.out.su hne1 hne2 hb1 (j+k) 999999999;have HST:=bf (zU.start (v:=V) (j:=j) (u:=o.set (j+k) 999999999) (L:=L) (by simpa using hol) (low_set HS.out.low (by omega)));clear hol cl2 cf cq cqf;obtain⟨n,hkn⟩:∃ n,n=k:=⟨_,rfl⟩;subst hkn
     go_loopw [20,21,22,201,202,203,204,205,206,207,208,209,210,211,212,213,214,215,216,217,218,219,220,221,222,223,224,225,226,227] (fun c _ _ i _ _ _ _ _ _ _ _ _ _ _ _ _ _ _ _ _ _ _ _ _ _ _ _ _ _ wr=>∃ (k ca:Nat) (o2:List Nat),i=.int .i64 (k:Nat)/\k<=n/\c=.int .u32 (ca:Nat)/\Hid (zU (o.set (j+n) 999999999) V o2 L j k ca)/\Hid (kU base gu gv gq L n M cu cv o2 V qq w0 wr)) (fun c _ _ i _ _ _ _ _ _ _ _ _ _ _ _ _ _ _ _ _ _ _ _ _ _ _ _ _ _ wr=>n-(intOf i).toNat)
     case atStart=>exact⟨0,0,_,rfl,by omega,rfl,HST,bf hLR⟩
     case round =>
      obtain⟨k,c,o2,rfl,hk2,rfl,HA,HR⟩:=hrel;have c9r:=HA.out.car;have hol:=HA.out.len;by_cases hkn:k<n
      ·have hv1:gr V k<=999999999:=gJ HVC.out.1 _;have hv2:gr o2 (j+k)<=999999999:=gJ HA.out.low _;obtain⟨y,hy⟩:∃ y,gr V k=y:=⟨_,rfl⟩;obtain⟨x,hx⟩:∃ x,gr o2 (j+k)=x:=⟨_,rfl⟩;rw[hy] at hv1;rw[hx] at hv2;have cl1:=HR.out.vc hkn HVN.out hy;have cl2:=HR.out.uc (k:=j+k) (by omega) hol hx;have cf:=HR.out.u.frozenAt (j+k);have hti:((k:Int)+j).toNat=j+k:=by omega
       by_cases hc:1000000000<=x+y+c
       ·obtain⟨d,hd0⟩:∃ d,x+y+c-1000000000=d:=⟨_,rfl⟩;have hd:(x:Int)+y+c-1000000000=d:=by omega
        have hd1:d<=999999999:=by omega
        have hdc:decide ((1000000000:Int)<=x+y+c)=true:=by simp;omega
        have HN:=bf (HA.out.step (d:=d) (c':=1) (by omega) (by omega) (by omega) (by rw[hx,hy];omega));have HC2:=bf hc;clear hc hd0 hx hy hol
        go_wp2_with fail
        go_quiet (fail)
        go_wp2_with fail
        go_roundw
        case rel=>exact⟨k+1,1,_,by go_num,by omega,rfl,HN,bf (kU.su (HR.out.drewN _) hne1 hne2 hb1 _ _)⟩
        case measure=>simp[intOf];omega
       ·obtain⟨d,hd0⟩:∃ d,x+y+c=d:=⟨_,rfl⟩;have hd:(x:Int)+y+c=d:=by omega
        have hd1:d<=999999999:=by omega
        have hdc:decide ((1000000000:Int)<=d)=false:=by simp;omega
        have HN:=bf (HA.out.step (d:=d) (c':=0) (by omega) (by omega) (by omega) (by rw[hx,hy];omega));clear hc hd0 hx hy hol
        go_wp2_with fail
        go_quiet (fail)
        go_wp2_with fail
        go_roundw
        case rel=>exact⟨k+1,0,_,by go_num,by omega,rfl,HN,bf (kU.su (HR.out.drewN _) hne1 hne2 hb1 _ _)⟩
        case measure=>simp[intOf];omega
      ·obtain rfl:k=n:=by omega
       clear hkn;have hN:=(UJ HI.out HVC.out.1 HVN.out (by omega) HGU.out (by rw[bV];omega) HS.out (by rw[HXH.out.1];have:=HC.out;omega)).2.2 HA.out;obtain⟨rfl,e2,e3⟩:=hN;have cl2:=HR.out.uc (k:=j+k) (by omega) hol e2;have cf:=HR.out.u.frozenAt (j+k);have cq:=HR.out.qc (k:=j) (by omega) HQL.out;have cqf:=HR.out.q.frozenAt j;have HN:=bf e3;have HE:=bf e2;have c9o:=bf hol;clear e2 e3 hol
       go_wp2_with fail
       have hlr:=(HR.out.su hne1 hne2 hb1 (j+k) 0).sq hne2 b5z hb2 j (g-1);rw[show ((g-1:Nat):Int)=(g:Int)-1 from Int.ofNat_sub hg1] at hlr;exact HQ.out _ _ _ _ _ _ _ _ _ _ _ _ _ _ _ _ _ _ _ _ _ _ _ _ _ _ _ _ _ _ _ _ _ _ _ _ _ _ _ _ _ _ _ _ _ _ _ _ _ _ _ _ _ _ _ _ _ _ _ _ _ _ _ _ _ _ _ _ _ _ _ _ _ _ _ _ _ _ _ _ _ _ _ _ _ _ _ _ _ _ _ _ _ _ _ _ _ _ _ _ _ _ _ _ _ _ _ _ _ _ _ _ _ _ _ _ _ _ _ _ _ _ _ _ _ _ _ _ _ _ _ _ _ _ _ _ _ _ _ _ _ _ _ _ _ _ _ _ _ _ _ _ _ _ _ _ _ _ _ _ _ _ _ _ _ _ _ _ _ _ _ _ _ _ _ _ _ _ _ _ _ _ _ _ _ _ _ _ _ _ _ _ _ _ _ _ _ _ _ _ _ _  _ _ _ HN.out hlr.u hlr.v hlr.q hlr.b
theorem a4J (w:World) (s:Nat):Rd (w.alloc (.cells #[.int .u32 (s:Nat)] 148)) (.slice (some ⟨w.heap.size,0,none⟩) 1 1) [s]:=by
 refine .inr ⟨w.heap.size,0,1,rfl,by simp,by omega,by simp,fun i hi=>?_⟩;have:i=0:=by simp at hi;exact hi
 subst this;simp[gr,World.cell?_alloc_at]
theorem JB (l:List Nat) (g:Nat):cells32 (l++[g])=cells32 l++[.int .u32 (g:Nat)]:=by simp[cells32]
theorem b2p (s t:Value) (a b:List Nat) (w:World) (hs:Rd w s a) (ht:Rd w t b) (ha:Canon a) (hb:Canon b) (la:a.length<=1000000000) (hb2:2<=b.length) (hle:val b<=val a) :
  Calls Tryz.prog 277 #[s,t] w fun e w'=>∃ v1 v2,e=.returned (.tuple #[v1,v2])/\Rd w' v1 (dig (val a / val b))/\Rd w' v2 (dig (val a%val b))/\Below w.heap.size w w':=by
 obtain⟨i0,hi,hz0,hz1,hz2⟩:=Ag gX;obtain⟨p,c,rfl,_,_⟩:=hs.form;obtain⟨q,d,rfl,_,_⟩:=ht.form;have hbn:b≠[]:=by intro e;subst e;simp at hb2
 obtain⟨gb,ob,rfl,hgb,hcb⟩:=ht.at hbn;have hlb:b.length<=a.length:=by have:=aX hle;rwa [dP ha,dP hb] at this
 have htop:gr b (b.length-1)<=999999999:=gJ hb.1 _;have hct:=hcb (b.length-1) (by omega);have htp:1<=gr b (b.length-1):=by
  have:=hb.2;rw[QO hbn] at this;have:gr b (b.length-1)≠0:=by simpa using this
  omega
 generalize gr b (b.length-1)=tp at htop hct htp;obtain⟨sc,hsc⟩:∃ sc:Nat,(1000000000:Int) / ((tp:Int)+1)=sc:=⟨1000000000 / (tp+1),by simp⟩;have hsc2:1000000000 / (tp+1)=sc:=by
  have:((1000000000 / (tp+1):Nat):Int)=sc:=by rw[<-hsc];simp
  omega
 have a2O:1<=sc:=by rw[<-hsc2];exact(Nat.le_div_iff_mul_le (by omega)).2 (by omega)
 have c8P:sc<=500000000:=by rw[<-hsc2];exact au (Nat.div_le_div_left (c:=2) (by omega) (by omega)) (by omega)
 have HSC:=bf hsc2;have HCB:=bf hcb;clear hsc2 hcb;have HA:=bf ha;have HB:=bf hb;have HLE:=bf hle;clear ha hb hle;have hw1:IntKind.u32.wrap (sc:Int)=sc:=by simp[IntKind.wrap,IntKind.bits,IntKind.signed];omega
 have hidx:((b.length:Int)-1).toNat=b.length-1:=by omega
 go_enter Tryz.func277,Tryz.ntmps277
 go_wp2_with fail
 have hs1:=hs.alloc (.cells #[.int .u32 (sc:Nat)] 148);have lsc:Low [sc]:=Low.cons.2 ⟨by rw[bV];omega,Low.nil⟩;have vsc:val [sc]=sc:=by simp[dA]
 refine(times_any _ _ a [sc] _ hs1 (a4J w sc) HA.out.1 lsc la (by simp)).mono ?_;rw[vsc];rintro e w1 ⟨uv,rfl,hu1,hb1⟩
 go_wp2_with fail
 have ht1:Rd (w1.alloc (.cells #[.int .u32 (sc:Nat)] 148)) (.slice (some ⟨gb,ob,none⟩) b.length d) b:=((ht.alloc _).below hb1).alloc _;refine(times_any _ _ b [sc] _ ht1 (a4J w1 sc) HB.out.1 lsc (by omega) (by simp)).mono ?_;rw[vsc];rintro e w2 ⟨vv,rfl,hv2,hb2'⟩;have U0:a.length<=(dig (val a*sc)).length:=by have:=aX (show val a<=val a*sc from Ed _ a2O);rwa [dP HA.out] at this
 have U1:(dig (val a*sc)).length<=1000000001:=by have:=ER (val a) sc;have h2:nsz sc<=1:=dS (by rw[bV];omega);unfold nsz at this h2;rw[dP HA.out] at this;omega
 have V0:b.length<=(dig (val b*sc)).length:=by have:=aX (show val b<=val b*sc from Ed _ a2O);rwa [dP HB.out] at this
 have V1:(dig (val b*sc)).length<=(dig (val a*sc)).length:=aX (jl _ HLE.out);have hz1':w.heap.size+1<=w1.heap.size:=by have:=hb1.size;simpa using this
 have hz2':w1.heap.size+1<=w2.heap.size:=by have:=hb2'.size;simpa using this
 obtain⟨gu,cu,hue,hgu1,hgu2,_⟩:=NP hu1 (by omega);obtain⟨gv,cv,hve,c6b,c8J,hcv⟩:=NP hv2 (by omega);rw[hue] at hu1;rw[hve] at hv2;rw[hue,hve];simp only[Ce] at hgu1 c6b;have hu2:=kH (kH hu1 ((gy _ w1).alloc (aj _) (.cells #[.int .u32 (sc:Nat)] 148))) hb2';have hB2:Below w.heap.size w w2:=(((gy _ _).alloc (aj _) _).trans (hb1.mono (by simp))).trans (((gy _ _).alloc (by omega) _).trans (hb2'.mono (by simp;omega)));have HU:=bf (show val (dig (val a*sc))=val a*sc from bM _);have HV:=bf (show val (dig (val b*sc))=val b*sc from bM _);have HUc:=bf (dJ (val a*sc));have HVc:=bf (dJ (val b*sc));generalize dig (val a*sc)=U at *
 generalize dig (val b*sc)=V at *
 clear hue hve hu1 hb1 hb2' hs1 ht1 hct lsc vsc hidx hw1;obtain⟨lu,hlu⟩:∃ lu,U.length=lu:=⟨_,rfl⟩;obtain⟨n,hn⟩:∃ n,V.length=n:=⟨_,rfl⟩;rw[hlu] at hu2 U0 U1 V1 ⊢;rw[hn] at hv2 V0 V1 hcv ⊢;have HLU:=bf hlu;have HN:=bf hn;clear hlu hn;have hd1:decide ((lu:Int)+1<=a.length)=false:=by simp;omega
 go_wp2_with (at_builtin;refine wpList_append_lies rfl _ _ 43 rfl w.heap.size 148 i0 (.int .u32 0) 1 4 ji hi hz0 hz1 hz2 rfl (by decide) _ _ _ rfl ((uK hu2 (by simp)).alloc _) ⟨w2.heap.size,0,none⟩ 1 1 [.int .u32 (((0:Nat)):Int)] rfl rfl (cell_one_new _ _ _) (by simp[Value.oneCell']) (by omega) (by unfold maxLen;omega) (by omega) (by simp;omega) ?_)
 intro gu' cu' w3 hu3 a2M hgx hgl;have hgu:gu'=gu\/gu'=w2.heap.size+1:=by
  rcases hgx with h|h
  ·left;simpa [Value.ownBlock] using h.symm
  ·right;simpa using h
 have hne1:gu'≠gv:=by omega
 have c8I:w.heap.size<=gu':=by omega
 have hv3:w3.ownsRow w.heap.size 148 1 (.slice (some ⟨gv,0,none⟩) n cv) n (cells32 V) :=
  ((uK hv2 (by simp;omega)).alloc _).kept a2M (.inr (by simp[Value.ownBlock];omega))
 have hB3:Below w.heap.size w w3:=(hB2.alloc (by omega) _).grown a2M (by simp;omega) (fun k e=>by simp[Value.ownBlock] at e;omega);have hz3:w2.heap.size+1<=w3.heap.size:=by have:=a2M.size;simpa using this
 have c6l:w3.ownsRow w.heap.size 148 1 (.slice (some ⟨gu',0,none⟩) (lu+1) cu') (lu+1) (cells32 (U++[0])):=by rw[JB];exact hu3
 have hvb:gv<w3.heap.size:=by omega
 clear hgx a2M hu2 hv2 hu3 hgu2 c8J hB2;obtain⟨M,hM⟩:∃ M:Nat,(lu:Int)+1-n=M:=⟨lu+1-n,by omega⟩;have hM2:M+n=lu+1:=by omega
 go_wp2_with (at_make;refine Eh _ rfl _ _ 43 rfl w.heap.size 148 i0 (.int .u32 0) 1 ji hi hz0 hz1 _ _ _ _ M rfl rfl (by omega) (by omega) (by rw[hz2];omega) (by unfold maxLen;omega) (by omega) ?_)
 intro w4 hq4 a0Z;rw[iR] at hq4;have hv4:=hv3.kept a0Z (.inr (by simp[Value.ownBlock]));have hu4:=c6l.kept a0Z (.inr (by simp[Value.ownBlock]));have hB4:Below w.heap.size w w4:=hB3.grown a0Z (by omega) (fun k e=>by cases e);obtain⟨gq,hgq⟩:∃ gq,w3.heap.size=gq:=⟨_,rfl⟩;rw[hgq] at hq4 hgl hvb ⊢;have c8H:w.heap.size<=gq:=by omega
 have hne2:gu'≠gq:=by omega
 have b5z:gv≠gq:=by omega
 clear hv3 c6l hB3 a0Z hgq hz3 hgu
 go_wp2
 have hI0:kG (val a*sc) (val V) n (lu+1) (U++[0]) (List.replicate M 0) M:=by
  have e1:=HLU.out;have e2:=HN.out;have e3:val (U++[0])=val a*sc:=by rw[val_append,HU.out];simp[dA]
  refine⟨by simp[e1],Low.append.2 ⟨HUc.out.1,Low.cons.2 ⟨gU,Low.nil⟩⟩,by simp;omega,fun g hg=>by rw[(Em.1 hg).2];exact gU,fun m _=>JV _ _,by rw[e3,OD];simp,?_⟩;rw[e3,<-HU.out];have h1:=mG HUc.out.1;rw[e1] at h1;have h2:BB ^ (n-1)<=val V:=by have:=qW (n:=val V) (k:=n-1) (by rw[dP HVc.out];omega);exact this
  have h3:BB ^ (n-1)*BB ^ M<=val V*BB ^ M:=jl _ h2;rw[<-En,show n-1+M=lu from by omega] at h3;omega
 have HI0:=bf hI0;have hn2:2<=n:=by omega
 have hcu:lu+1<=cu':=by obtain⟨_,_,e1,_,_,e2⟩:=NP hu4 (by omega);cases e1;exact e2
 have b9d:=bf a2O;have HNE:=bf hne1;clear hI0 hi hz0 hz1 hz2 hcv hne1 hM U0 V0 V1 hsc a2O hd1 hgu1 c6b
 go_loopw [10,11,12,13,14,15,16,17,18,19,20,21,22,64,65,66,67,68,69,70,71,72,73,74,75,76,77,78,79,80,81,82,83,84,85,86,87,88,89,90,91,92,93,94,95,96,97,98,99,100,101,102,103,104,105,106,107,108,109,110,111,112,113,114,115,116,117,118,119,120,121,122,123,124,125,126,127,128,129,130,131,132,133,134,135,136,137,138,139,140,141,142,143,144,145,146,147,148,149,150,151,152,153,154,155,156,157,158,159,160,161,162,163,164,165,166,167,168,169,170,171,172,173,174,175,176,177,178,179,180,181,182,183,184,185,186,187,188,189,190,191,192,193,194,195,196,197,198,199,200,201,202,203,204,205,206,207,208,209,210,211,212,213,214,215,216,217,218,219,220,221,222,223,224,225,226,227,228,229,230,231,232,233,234,235,236,237,238,239,240,241,242,243,244,245,246,247,248,249,250,251,252,253] (fun i _ _ _ _ _ _ _ _ _ _ _ _ _ _ _ _ _ _ _ _ _ _ _ _ _ _ _ _ _ _ _ _ _ _ _ _ _ _ _ _ _ _ _ _ _ _ _ _ _ _ _ _ _ _ _ _ _ _ _ _ _ _ _ _ _ _ _ _ _ _ _ _ _ _ _ _ _ _ _ _ _ _ _ _ _ _ _ _ _ _ _ _ _ _ _ _ _ _ _ _ _ _ _ _ _ _ _ _ _ _ _ _ _ _ _ _ _ _ _ _ _ _ _ _ _ _ _ _ _ _ _ _ _ _ _ _ _ _ _ _ _ _ _ _ _ _ _ _ _ _ _ _ _ _ _ _ _ _ _ _ _ _ _ _ _ _ _ _ _ _ _ _ _ _ _ _ _ _ _ _ _ _ _ _ _ _ _ _ _ _ _ _ _ _ _ _ _ _ _ _ _ _ wr=>∃ (k:Nat) (i':Int) (u qq:List Nat),i=.int .i64 i'/\Hid (i'=(k:Int)-1)/\k<=M/\Hid (kG (val a*sc) (val V) n (lu+1) u qq k)/\wr.ownsRow w.heap.size 148 1 (.slice (some ⟨gu',0,none⟩) (lu+1) cu') (lu+1) (cells32 u)/\wr.ownsRow w.heap.size 148 1 (.slice (some ⟨gv,0,none⟩) n cv) n (cells32 V)/\wr.ownsRow w.heap.size 148 1 (.slice (some ⟨gq,0,none⟩) M M) M (cells32 qq)/\Below w.heap.size w wr) (fun i _ _ _ _ _ _ _ _ _ _ _ _ _ _ _ _ _ _ _ _ _ _ _ _ _ _ _ _ _ _ _ _ _ _ _ _ _ _ _ _ _ _ _ _ _ _ _ _ _ _ _ _ _ _ _ _ _ _ _ _ _ _ _ _ _ _ _ _ _ _ _ _ _ _ _ _ _ _ _ _ _ _ _ _ _ _ _ _ _ _ _ _ _ _ _ _ _ _ _ _ _ _ _ _ _ _ _ _ _ _ _ _ _ _ _ _ _ _ _ _ _ _ _ _ _ _ _ _ _ _ _ _ _ _ _ _ _ _ _ _ _ _ _ _ _ _ _ _ _ _ _ _ _ _ _ _ _ _ _ _ _ _ _ _ _ _ _ _ _ _ _ _ _ _ _ _ _ _ _ _ _ _ _ _ _ _ _ _ _ _ _ _ _ _ _ _ _ _ _ _ _ _ wr=>(intOf i+1).toNat)
 case atStart=>exact⟨M,_,_,_,rfl,rfl,aj _,HI0,hu4,hv4,hq4,hB4⟩
 case round =>
  obtain⟨k,i',u,qq,rfl,hk',hkM,hI,hu,hv,hq,hB⟩:=hrel;clear hu4 hv4 hq4 hB4 HI0;cases k with
  | zero =>
   obtain rfl:i'=-1:=by have:=hk'.out;simpa using this
   go_wp2_with fail
   have hd:=hI.out.done;have hlt:=hI.out.lt;rw[HV.out] at hd hlt;rw[Nat.mul_mod_mul_right,Nat.mul_div_mul_right _ _ (by have:=b9d.out;omega)] at hd;have c6d:=hI.out.lu;have hlow:=hI.out.low;have c5T:=zF HVc.out.1 HN.out;rw[HV.out] at c5T;have htk:val (u.take n)=val a%val b*sc:=by rw[<-RU (fun m hm=>vI (k:=n) (by simp at hlt;omega) hm)];exact hd.2
   have hown:=KR hu (m:=n) (by omega);have hck:(cells32 u).take n=cells32 (u.take n):=by simp[cells32,List.map_take]
   rw[hck] at hown;have hlt2:(u.take n).length=n:=by rw[jk,c6d];omega
   have b5y:Low (u.take n):=fun g hg=>hlow g (Dx hg);have hR:=Rd.dN (l:=u.take n) (by rw[hlt2];exact hown);refine(OC _ _ n _ _ hR b5y hlt2).mono ?_;rintro e w' ⟨rfl,rfl⟩;have hto:=uM hown b5y hlt2;have hqd:=hd.1;have b8o:=hI.out.c0j;have hql:qq.length=M:=by have:=hI.out.lq;omega
   have htz:fA (u.take n)=dig (val a%val b*sc):=by unfold fA;rw[htk]
   rw[htz] at hto ⊢;have hlen3:(dig (val a%val b*sc)).length<=2000000000:=by have h1:=zB b5y;rw[htz,hlt2] at h1;omega
   have HD:=bf hd;have HTK:=bf htk;have HX:=bf (And.intro hqd (And.intro b8o (And.intro hql (And.intro hown hlow))));have hRt:=Rd.dN hto;clear hd htk hqd b8o hql hown hlow hlt c6d c5T hck hlt2 b5y hR hto htz
   go_wp2_with fail
   refine(short_any _ _ sc _ hRt (bZ _) b9d.out (by omega) hlen3).mono ?_;rintro e w' ⟨v2,rfl,hv2,hbel⟩;rw[bM,Nat.mul_div_cancel _ (show 0<sc from b9d.out)] at hv2;have hq5:=kH hq hbel;have hB5:=hB.trans (hbel.mono hB.size);have hR2:=Rd.dN (l:=qq) (by rw[HX.out.2.2.1];exact hq5);have htq:=OC _ _ M _ _ hR2 HX.out.2.1 HX.out.2.2.1;have hoq:=uM hq5 HX.out.2.1 HX.out.2.2.1;have hR3:=Rd.dN hv2;have hR4:=Rd.dN hoq;have htz:fA qq=dig (val a / val b):=by unfold fA;rw[HX.out.1]
   rw[htz] at hR4;have HR4:=bf hR4;have HTZ:=bf htz;clear hoq hR4 htz
   go_wp2_with fail
   refine htq.mono ?_;rintro e w' ⟨rfl,rfl⟩;rw[HTZ.out]
   go_wp2_with fail
   go_ret2
   exact⟨_,_,rfl,HR4.out,hR3,hB5⟩
  | succ j =>
   obtain rfl:i'=(j:Int):=by have:=hk'.out;simp at this;omega
   refine a4C (val a*sc) V u qq gu' gv gq (lu+1) n M cu' cv j w.heap.size wr w HVc.out HN.out hn2 (by omega) hM2 hcu hI.out hkM HNE.out hne2 b5z c8I c8H hu hv hq hB _ _ _ _ _ _ _ _ _ _ _ _ _ _ _ _ _ _ _ _ _ _ _ _ _ _ _ _ _ _ _ _ _ _ _ _ _ _ _ _ _ _ _ _ _  _ ?_ _ _ _ _ _ _ _ _ _ _ _ _ _ _ _ _ _ _ _ _ _ _ _ _ _ _ _ _ _ _ _ _ _ _ _ _ _ _ _ _ _ _ _ _ _ _ _ _ _ _ _ _ _ _ _ _ _ _ _ _ _ _ _ _ _ _ _ _ _ _ _ _ _ _ _ _ _ _ _ _ _ _ _ _ _ _ _ _ _ _ _ _ _ _ _ _ _ _ _ _ _ _ _ _ _ _ _ _ _ _ _ _ _ _ _ _ _ _ _ _ _ _ _ _ _ _ _ _ _ _ _ _ _ _ _ _ _ _ _ _ _ _ _ _ _ _ _ _ _ _ _ _ _ _ _ _ _ _ _ _ _ _ _ _ _ _ _ _ _ _ _ _ _ _ _ _ _ _ _ _ _ _ _ _ _ _ _ _ _ _ _ _ _ _ _ _ _ _ _ _ _ _;intro _ _ _ _ _ _ _ _ _ _ _ _ _ _ _ _ _ _ _ _ _ _ _ _ _ _ _ _ _ _ _ _ _ _ _ _ _ _ _ _ _ _ _ _ _ _ _ _ _ _ _ _ _ _ _ _ _ _ _ _ _ _ _ _ _ _ _ _ _ _ _ _ _ _ _ _ _ _ _ _ _ _ _ _ _ _ _ _ _ _ _ _ _ _ _ _ _ _ _ _ _ _ _ _ _ _ _ _ _ _ _ _ _ _ _ _ _ _ _ _ _ _ _ _ _ _ _ _ _ _ _ _ _ _ _ _ _ _ _ _ _ _ _ _ _ _ _ _ _ _ _ _ _ _ _ _ _ _ _ _ _ _ _ _ _ _ _ _ _ _ _ _ _ _ _ _ _ _ _ _ _ _ _ _ _ _ _ _ _ _ _ _ _ _ _ _ _ _ _ _ _ _  u' qq' w' hI' hu' hv' hq' hB'
   go_wp2_with fail
   go_roundw
   case rel =>
    (repeat apply Exists.intro)
    exact⟨⟨j,_,u',qq',rfl,rfl,by omega,bf hI',hu',hv',hq',hB'⟩,rfl⟩
   case measure=>simp[intOf]
set_option maxRecDepth 100000
set_option maxHeartbeats 2000000
theorem a8k {x y:Int} (h:x.sign≠y.sign):dF x.sign y.sign=dF x y:=by
 rcases Dl x 0 with hx|rfl|hx<;>rcases Dl y 0 with hy|rfl|hy
 ·exact absurd (by rw[ql hx,ql hy]) h
 ·rw[ql hx];simp[dF,hx]
 ·rw[ql hx,uo hy];unfold dF;rw[dn (by omega),dn (by omega)]
 ·rw[ql hy];unfold dF;simp;omega
 ·simp at h
 ·rw[uo hy];unfold dF;simp;omega
 ·rw[uo hx,ql hy];unfold dF;rw[bn (by omega),dn (by omega),bn (by omega),dn (by omega)]
 ·rw[uo hx];unfold dF;simp;omega
 ·exact absurd (by rw[uo hx,uo hy]) h
theorem b0o {x y:Int} (h:x.sign=y.sign) (b:Bool) (hb:x≠0->b=decide (x<0)):(if b then -dF (x.natAbs:Nat) (y.natAbs:Nat) else dF (x.natAbs:Nat) (y.natAbs:Nat))=dF x y:=by
 rcases Dl x 0 with hx|rfl|hx
 ·have hy:y<0:=by rw[ql hx] at h;exact Int.sign_eq_neg_one_iff_neg.1 h.symm
  rw[hb (by omega)];simp only[hx,decide_true,Du];unfold dF;split<;>split<;>(try split)<;>(try split)<;>omega
 ·simp at h;have:y=0:=wu.1 h.symm;subst this;cases b<;>simp[dF]
 ·have hy:0<y:=by rw[uo hx] at h;exact Int.sign_eq_one_iff_pos.1 h.symm
  rw[hb (by omega)];have:¬ x<0:=by omega
  simp only[this,decide_false,xu,if_false];unfold dF;split<;>split<;>(try split)<;>(try split)<;>omega
theorem b4O (x y:Int):-1<=dF x y/\dF x y<=1:=by unfold dF;split<;>(try split)<;>omega
theorem AO {x y q r:Int} (hy:y≠0) (h:x=y*q+r) (h1:0<y->0<=r/\r<y) (h2:y<0->y<r/\r<=0):x.fdiv y=q/\x.fmod y=r:=by
 have e:=Int.fmod_add_mul_fdiv x y;rcases Dl y 0 with h0|h0|h0
 ·have a1:=Int.fmod_nonneg_of_pos (-x) (show 0 < -y by omega);have a2:=Int.fmod_lt_of_pos (-x) (show 0 < -y by omega);rw[Int.neg_fmod_neg] at a1 a2;have ⟨b1,b2⟩:=h2 h0;have:x.fdiv y=q:=by
   generalize x.fdiv y=Q at *
   generalize x.fmod y=R at *
   have h3:y*(Q-q)=r-R:=by rw[Int.mul_sub];omega
   rcases Dl Q q with h|h|h
   ·have:y*(Q-q) ≥ -y:=by have:=Int.mul_le_mul_of_nonneg_left (show Q-q<=-1 by omega) (show 0<=-y by omega);rw[Int.neg_mul,Int.neg_mul_neg] at this;omega
    omega
   ·exact h
   ·have:y*(Q-q)<=y:=by have:=Int.mul_le_mul_of_nonneg_left (show 1<=Q-q by omega) (show 0<=-y by omega);rw[Int.neg_mul,Int.neg_mul] at this;omega
    omega
  refine⟨this,?_⟩;rw[this] at e;omega
 ·exact absurd h0 hy
 ·have a1:=Int.fmod_nonneg_of_pos x h0;have a2:=Int.fmod_lt_of_pos x h0;have ⟨b1,b2⟩:=h1 h0;have:x.fdiv y=q:=by
   generalize x.fdiv y=Q at *
   generalize x.fmod y=R at *
   have h3:y*(Q-q)=r-R:=by rw[Int.mul_sub];omega
   rcases Dl Q q with h|h|h
   ·have:y*(Q-q)<=y*(-1):=Int.mul_le_mul_of_nonneg_left (show Q-q<=-1 by omega) (show 0<=y by omega);omega
   ·exact h
   ·have:y*1<=y*(Q-q):=Int.mul_le_mul_of_nonneg_left (show 1<=Q-q by omega) (show 0<=y by omega);omega
  refine⟨this,?_⟩;rw[this] at e;omega
theorem YC (b:Bool) (m n:Nat) (hn:0<n):(sg b m).fdiv (sg b n)=(m / n:Nat)/\(sg b m).fmod (sg b n)=sg b (m%n):=by
 have e:(m:Int)=n*(m / n:Nat)+(m%n:Nat):=by exact_mod_cast (Nat.div_add_mod m n).symm
 have hl:m%n<n:=xg _ hn;refine AO ?_ ?_ ?_ ?_<;>cases b<;>simp only[sg,Du,if_false,xu]<;>first|omega|(rw[Int.neg_mul];omega)
theorem TI (b d:Bool) (m n:Nat) (hn:0<n) (hbd:(b != d)=true) (h:m%n=0):(sg b m).fdiv (sg d n)=sg true (m / n:Nat)/\(sg b m).fmod (sg d n)=0:=by
 have e:(m:Int)=n*(m / n:Nat)+(m%n:Nat):=by exact_mod_cast (Nat.div_add_mod m n).symm
 rw[h] at e;generalize m / n=q at *
 refine AO ?_ ?_ ?_ ?_<;>cases b<;>cases d<;>simp only[sg,Du,if_false,xu,Int.neg_mul,Int.mul_neg]<;>first|(simp at hbd;done)|omega
theorem YB (b d:Bool) (m n:Nat) (hn:0<n) (hbd:(b != d)=true) (h:m%n≠0):(sg b m).fdiv (sg d n)=sg true (m / n+1:Nat)/\(sg b m).fmod (sg d n)=sg d (n-m%n):=by
 have e:(m:Int)=n*(m / n:Nat)+(m%n:Nat):=by exact_mod_cast (Nat.div_add_mod m n).symm
 have hl:m%n<n:=xg _ hn;generalize m / n=q at *
 generalize m%n=r at *
 have e2:(n:Int)*((q+1:Nat):Int)=n*q+n:=by rw[Int.natCast_add,Int.mul_add];simp
 refine AO ?_ ?_ ?_ ?_<;>cases b<;>cases d<;>simp only[sg,Du,if_false,xu,Int.neg_mul,Int.mul_neg]<;>first|(simp at hbd;done)|omega
theorem pW {n d:Int} (hd:0<d):(Rat.divInt n d).num=n / (Int.gcd n d:Nat):=by rw[Rat.num_divInt,uo hd,Int.one_mul,Int.gcd_comm]
theorem pV {n d:Int} (hd:0<d):(((Rat.divInt n d).den:Nat):Int)=d / (Int.gcd n d:Nat):=by rw[Rat.den_divInt,bn (by omega),Int.gcd_comm];obtain⟨k,rfl⟩:=uf (Int.le_of_lt hd);simp
theorem vC (n d:Int):Rat.divInt (-n) (-d)=Rat.divInt n d:=by rw[zu,zu];grind
theorem SX {n d:Int} (hd:d<0):(Rat.divInt n d).num=n / (-(Int.gcd n d:Nat)):=by rw[<-vC,pW (by omega),Int.ediv_neg,Int.gcd_neg,Int.neg_gcd];exact Int.neg_ediv_of_dvd (Int.gcd_dvd_left _ _)
theorem SS {n d:Int} (hd:d<0):(((Rat.divInt n d).den:Nat):Int)=d / (-(Int.gcd n d:Nat)):=by rw[<-vC,pV (by omega),Int.ediv_neg,Int.gcd_neg,Int.neg_gcd];exact Int.neg_ediv_of_dvd (Int.gcd_dvd_right _ _)
theorem SY {n d:Int} (hd:0<d) (hg:Int.gcd n d=1):(Rat.divInt n d).num=n:=by rw[pW hd,hg];simp
theorem SV {n d:Int} (hd:0<d) (hg:Int.gcd n d=1):((Rat.divInt n d).den:Int)=d:=by rw[pV hd,hg];simp
theorem KX (q:Rat):Int.gcd q.num q.den=1:=q.reduced
theorem lY (q:Rat):0<(q.den:Int):=by have:=q.den_nz;omega
theorem a1w (x y:Rat):Rat.divInt (x.num*y.den+y.num*x.den) (x.den*y.den)=x+y:=by rw[Rat.add_def,Rat.normalize_eq_mkRat,<-Rat.divInt_ofNat];simp
theorem QX (x y:Rat):Rat.divInt (x.num*y.num) (x.den*y.den)=x*y:=by rw[Rat.mul_def,Rat.normalize_eq_mkRat,<-Rat.divInt_ofNat];simp
theorem a7p (x y:Rat):Rat.divInt (x.num*y.den) (x.den*y.num)=x / y:=by
 have hx:=Bz x;have hy:=Bz y
 conv=>rhs;rw[<-hx,<-hy]
 simp only[zu,uw];have h1:((x.den:Int):Rat)≠0:=by have:=x.den_nz;simp;exact this
 have h2:((y.den:Int):Rat)≠0:=by have:=y.den_nz;simp;exact this
 by_cases h3:(y.num:Rat)=0
 ·rw[h3];grind
 ·grind
theorem a4T (x y:Rat):x.num*y.den<y.num*x.den↔x<y:=(Rat.lt_iff x y).symm
theorem yU (x:Rat):x.num=0↔x=0:=Bj
theorem b3f (x:Rat):x.num.sign=if x<0 then -1 else if 0<x then 1 else 0:=by
 have h1:=Rat.lt_iff x 0;have h2:=Rat.lt_iff 0 x;simp at h1 h2;by_cases h:x<0
 ·rw[dn h];exact ql (h1.1 h)
 ·rw[bn h];by_cases h':0<x
  ·rw[dn h'];exact uo (h2.1 h')
  ·rw[bn h'];have:x.num=0:=by have a:¬ x.num<0:=fun k=>h (h1.2 k);have b:¬ 0<x.num:=fun k=>h' (h2.2 k);omega
   rw[this];rfl
theorem a4n (n:Int):Rat.divInt n 1=n:=by rw[zu];simp;grind
theorem b5G (n:Int):((n:Rat)).num=n:=by simp
theorem b5F (n:Int):((n:Rat)).den=1:=by simp
theorem CQ (x:Rat):(-x).num=-x.num:=Rat.neg_num x
theorem CP (x:Rat):(-x).den=x.den:=Rat.neg_den x
theorem WR (n d:Int):(Rat.divInt n d).num.natAbs<=n.natAbs/\((Rat.divInt n d).den<=d.natAbs\/d=0):=by
 constructor
 ·rw[Rat.num_divInt,Int.natAbs_ediv_of_dvd]
  ·rw[Ei];refine au (Nat.div_le_self _ _) ?_;rcases Dl d 0 with h|h|h
   ·simp[ql h]
   ·subst h;simp
   ·simp[uo h]
  ·exact Int.dvd_mul_of_dvd_right (Int.gcd_dvd_right _ _)
 ·by_cases h:d=0
  ·exact .inr h
  ·left;rw[Rat.den_divInt,bn h];exact Nat.div_le_self _ _
def rsz (q:Rat):Nat:=max (isz q.num) (nsz q.den)
theorem vT (n d:Int) (hd:d≠0) {k:Nat} (h1:isz n<=k) (h2:isz d<=k):rsz (Rat.divInt n d)<=k:=by
 have ⟨a,b⟩:=WR n d;rcases b with b|b
 ·exact Nat.max_le.2 ⟨au (BJ a) h1,au (KO b) h2⟩
 ·exact absurd b hd
theorem mZ (q:Rat):isz q.num<=rsz q:=Nat.le_max_left _ _
theorem kK (q:Rat):isz q.den<=rsz q:=by
 have:isz (q.den:Int)=nsz q.den:=by simp[isz]
 rw[this];exact Nat.le_max_right _ _
theorem fC (x y:Rat):rsz (x*y)<=rsz x+rsz y:=by
 rw[<-QX];refine vT _ _ ?_ ?_ ?_
 ·have:=lY x;have:=lY y;exact Int.ne_of_gt (Int.mul_pos (by assumption) (by assumption))
 ·have:=iC x.num y.num;have:=mZ x;have:=mZ y;omega
 ·have:=iC x.den y.den;have:=kK x;have:=kK y;omega
theorem oD (x y:Rat):rsz (x+y)<=rsz x+rsz y+1:=by
 rw[<-a1w];refine vT _ _ ?_ ?_ ?_
 ·have:=lY x;have:=lY y;exact Int.ne_of_gt (Int.mul_pos (by assumption) (by assumption))
 ·have h1:=yP (x.num*y.den) (y.num*x.den);have h2:=iC x.num y.den;have h3:=iC y.num x.den;have:=mZ x;have:=mZ y;have:=kK x;have:=kK y;omega
 ·have:=iC x.den y.den;have:=kK x;have:=kK y;omega
theorem rU (x:Rat):rsz (-x)=rsz x:=by simp[rsz,kR]
theorem b7l (x y:Rat):rsz (x-y)<=rsz x+rsz y+1:=by rw[Rat.sub_eq_add_neg];have:=oD x (-y);rwa [rU] at this
theorem EW (x y:Rat) (hy:y≠0):rsz (x / y)<=rsz x+rsz y:=by
 rw[<-a7p];refine vT _ _ ?_ ?_ ?_
 ·have h1:=lY x;have h2:y.num≠0:=fun h=>hy ((yU y).1 h);exact fun h=>by rcases Int.mul_eq_zero.1 h with h|h<;>omega
 ·have:=iC x.num y.den;have:=mZ x;have:=kK y;omega
 ·have:=iC x.den y.num;have:=kK x;have:=mZ y;omega
theorem wM (n:Int):rsz (n:Rat)<=isz n+1:=by unfold rsz;rw[b5G,b5F];have:nsz 1<=1:=dS (by rw[bV];omega);omega
end Go.Proofs.YtbkocjmmbkifjaaGreat
