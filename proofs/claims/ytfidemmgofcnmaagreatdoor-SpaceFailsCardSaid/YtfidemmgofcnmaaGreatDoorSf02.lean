/- SpaceFails returns true at every input. No condition. Part of its proof. -/
import Derived.Test.YtfidemmgofcnmaaGreatDoorSf01
import Derived.Deep.RegionHeld3
import Derived.Maps.AppendAt
set_option maxHeartbeats 2000000
set_option maxRecDepth 100000
set_option linter.unusedVariables false
namespace Go.Proofs.YtfidemmgofcnmaaGreatDoor
open Go.Proofs.Tryz
def Q0l(f:Nat->Bool):Nat->Nat
 | 0=>0
 | n+1=>Q0l f n+2 ^ n*(f n).toNat
theorem Q0F(f:Nat->Bool)(n:Nat):Q0l f n<2 ^ n:=by
 induction n with
 | zero=>simp[Q0l]
 | succ n ih =>
  have:(f n).toNat<=1:=J4j _;have h2:2 ^ n*(f n).toNat<=2 ^ n*1:=Nat.mul_le_mul_left _ this;simp only[Q0l];rw[J4k];omega
theorem wordN_bit(f:Nat->Bool)(n j:Nat):(Q0l f n).testBit j=(decide (j<n)&&f j):=by
 induction n with
 | zero=>simp[Q0l]
 | succ n ih =>
  simp only[Q0l];rw[J4l,J4m _ (Q0F f n)];by_cases h:j<n
  ·rw[if_pos h,ih];simp[h];intro _;omega
  ·rw[if_neg h];by_cases h2:j=n
   ·subst h2;cases f j <;> simp
   ·have:(f n).toNat.testBit (j-n)=false:=J4n (J4o (J4j _) (Nat.one_lt_two_pow (by omega)));rw[this];simp;intro h3;omega
theorem Q2Q{x n:Nat}(hx:x<2 ^ n)(f:Nat->Bool)(h:∀j,j<n->x.testBit j=f j):x=Q0l f n:=by
 apply J4p
 intro j;rw[wordN_bit];by_cases hj:j<n
 ·simp[hj,h j hj]
 ·rw[J4n (J3d hx (J4q (by omega) (by omega)))];simp[hj]
theorem Q1E(f g:Nat->Bool)(n:Nat)(h:∀j,j<n->f j=g j):Q0l f n=Q0l g n:=
 Q2Q (Q0F f n) g fun j hj=>by rw[wordN_bit];simp[hj,h j hj]
theorem wordN_zero{f:Nat->Bool}{n:Nat}:Q0l f n=0↔∀j,j<n->f j=false:=by
 constructor
 ·intro h j hj;have:=wordN_bit f n j;rw[h] at this;simpa[hj] using this.symm
 ·intro h;have:=Q2Q (x:=0) (J4r n) f (fun j hj=>by simp[h j hj]);exact this.symm
theorem Z7U(f:Nat->Bool)(s:Nat)(hs:s<64):(Q0l f 64/2 ^ s)&&&1=(f s).toNat:=by
 have h:=wordN_bit f 64 s;rw[Nat.testBit_eq_decide_div_mod_eq] at h;rw[Nat.and_one_is_mod];simp only[hs,decide_true,J4s] at h;cases hf:f s with
 | true=>rw[hf] at h;simpa using h
 | false=>rw[hf] at h;simp at h;simpa using h
theorem Z4E(f:Nat->Bool)(s:Nat)(hs:s<64):Q0l f 64 ^^^ 2 ^ s=Q0l (fun j=>if j=s then !f j else f j) 64:=by
 refine Q2Q (J4t (Q0F f 64) (J4u (by omega) hs)) _ fun j hj=>?_
 rw[J4v,wordN_bit,J4w];by_cases h:j=s
 ·subst h;simp[hj]
 ·have:¬s=j:=fun e=>h e.symm
  simp[hj,h,this]
theorem Z7V(f:Nat->Bool):Q0l f 64 ^^^ 18446744073709551615=Q0l (fun j=>!f j) 64:=by
 have hm:(18446744073709551615:Nat)=2 ^ 64-1:=by decide
 refine Q2Q (J4t (Q0F f 64) (by decide)) _ fun j hj=>?_
 rw[J4v,wordN_bit,hm,Nat.testBit_two_pow_sub_one];simp[hj]
theorem Z7W(f:Nat->Bool)(s:Nat):Q0l f 64/2 ^ s*2 ^ s%18446744073709551616=Q0l (fun j=>decide (s<=j)&&f j) 64:=by
 have Ab:Q0l f 64/2 ^ s*2 ^ s<2 ^ 64:=J4o (Nat.div_mul_le_self _ _) (Q0F f 64);rw[J4x (by simpa using Ab)];refine Q2Q Ab _ fun j hj=>?_
 rw[<- Nat.shiftLeft_eq,<- Nat.shiftRight_eq_div_pow,Nat.testBit_shiftLeft,Nat.testBit_shiftRight,wordN_bit];by_cases h:s<=j
 ·simp[h,show s+(j-s)=j by omega,hj]
 ·simp[h]
theorem Z7X(f:Nat->Bool)(t:Nat)(ht:t<64)(h:f t=true)(hl:∀j,j<t->f j=false):Q0l f 64&&&(18446744073709551616-Q0l f 64)=2 ^ t:=by
 have Ab:=Q0F f 64;have Q7:2 ^ t ∣ Q0l f 64:=by
  rw[Nat.dvd_iff_mod_eq_zero];have:Q0l f 64%2 ^ t=0:=by
   apply J4p
   intro j;rw[Nat.testBit_mod_two_pow,wordN_bit];by_cases hj:j<t
   ·simp[hj,hl j hj]
   ·simp[hj]
  exact this
 obtain⟨m,hm⟩:=Q7;have RE:m%2=1:=by
  have:=wordN_bit f 64 t;rw[hm,J4y] at this;simp[ht,h,Nat.testBit_zero] at this;exact this
 have e0:m=2*(m/2)+1:=by omega
 generalize hk:m/2=k at e0;subst e0;have Cn:0<2 ^ t:=J4r t;have e1:2 ^ t*(2*k+1)=2 ^ t*(2*k)+2 ^ t:=by rw[Nat.mul_add,J4i]
 have Gu:2 ^ t*(2*k)+2 ^ t<2 ^ 64:=by rw[<- e1,<- hm];exact Ab
 rw[hm,show(18446744073709551616:Nat)=2 ^ 64 from by decide];have e2:2 ^ 64-2 ^ t*(2*k+1)=2 ^ 64-(2 ^ t*(2*k)+(2 ^ t-1)+1):=by rw[e1];congr 1;omega
 rw[e2]
 apply J4p
 intro j;rw[J4A,Nat.testBit_two_pow_sub_succ (by omega),J4m _ (by omega),J4y,J4w];by_cases h1:j<t
 ·have:¬t=j:=by omega
  simp[h1,this]
 ·by_cases h2:j=t
  ·subst h2;simp[ht,Nat.testBit_zero]
  ·have h3:¬t=j:=by omega
   have h4:∀x,(2*k+x).testBit (j-t)=(2*k+x).testBit ((j-t-1)+1):=fun x=>by rw[show j-t-1+1=j-t by omega]
   have h5:=h4 0;have h6:=h4 1;rw[Nat.testBit_succ] at h5 h6;rw[J3k] at h5;rw[h6,h5,show(2*k+1)/2=k by omega,show 2*k/2=k by omega];simp[h3]
   intros;assumption
def cnt(f:Nat->Bool):Nat->Nat
 | 0=>0
 | n+1=>cnt f n+(f n).toNat
def rep(c:Nat):Nat->Nat
 | 0=>0
 | n+1=>c+256*rep c n
theorem Q3h(a b p q:Nat)(ha:a<256)(hp:p<256):(a+256*b)&&&(p+256*q)=(a&&&p)+256*(b&&&q):=by
 have h1:a&&&p<2 ^ 8:=J4B _ hp
 apply J4p
 intro j;rw[J4A,J4l a,J4l p,J4l (a&&&p),show(256:Nat)=2 ^ 8 from rfl,J4m _ ha,J4m _ hp,J4m _ h1];split
 ·rw[J4A]
 ·rw[J4A]
def b1(v:Nat):Nat:=(v/2&&&85)+(v&&&85)
def b2(v:Nat):Nat:=(v/4&&&51)+(v&&&51)
def b3(v:Nat):Nat:=(v/16+v)&&&15
def s1(n x:Nat):Nat:=(x/2&&&rep 85 n)+(x&&&rep 85 n)
def s2(n x:Nat):Nat:=(x/4&&&rep 51 n)+(x&&&rep 51 n)
def s3(n x:Nat):Nat:=(x/16+x)&&&rep 15 n
theorem J0n:∀v,v<256->∀b,b<2->((v/2+128*b)&&&85)=v/2&&&85:=by decide +kernel
theorem J0o:∀v,v<256->∀b,b<4->((v/4+64*b)&&&51)=v/4&&&51:=by decide +kernel
theorem J0p:∀v,v<256->∀l,l<5->(b2 (b1 v)/16+16*l+b2 (b1 v))<256/\((b2 (b1 v)/16+16*l+b2 (b1 v))&&&15)=b3 (b2 (b1 v)):=by decide +kernel
theorem b_lt:∀v,v<256->b1 v<256/\b2 (b1 v)<256/\b2 (b1 v)%16<5:=by decide +kernel
theorem J2L:∀v,v<256->b3 (b2 (b1 v))=cnt (fun j=>v.testBit j) 8:=by decide +kernel
theorem Z4F(n v r:Nat)(hv:v<256):s1 (n+1) (v+256*r)=b1 v+256*s1 n r:=by
 unfold s1 b1;have e:(v+256*r)/2=(v/2+128*(r%2))+256*(r/2):=by omega
 simp only[rep];rw[e,Q3h _ _ _ _ (by omega) (by omega),Q3h _ _ _ _ hv (by omega),J0n v hv _ (by omega)];omega
theorem Z4G(n v r:Nat)(hv:v<256):s2 (n+1) (v+256*r)=b2 v+256*s2 n r:=by
 unfold s2 b2;have e:(v+256*r)/4=(v/4+64*(r%4))+256*(r/4):=by omega
 simp only[rep];rw[e,Q3h _ _ _ _ (by omega) (by omega),Q3h _ _ _ _ hv (by omega),J0o v hv _ (by omega)];omega
theorem J0q(n v r:Nat)(hv:v<256)(hr:r%16<5):s3 (n+1) (b2 (b1 v)+256*r)=b3 (b2 (b1 v))+256*s3 n r:=by
 obtain⟨_,h2,_⟩:=b_lt v hv;obtain⟨h3,h4⟩:=J0p v hv (r%16) hr;unfold s3;simp only[rep];rw[show(b2 (b1 v)+256*r)/16+(b2 (b1 v)+256*r)=(b2 (b1 v)/16+16*(r%16)+b2 (b1 v))+256*(r/16+r) from by omega,Q3h _ _ _ _ h3 (by omega),h4]
def swar(n x:Nat):Nat:=s3 n (s2 n (s1 n x))
theorem Z2I:∀n x,s2 n (s1 n x)%16<5
 | 0,x=>by simp[s2,rep]
 | n+1,x=>by
  have e:x=x%256+256*(x/256):=by omega
  have hv:x%256<256:=by omega
  obtain⟨h1,h2,h3⟩:=b_lt _ hv;rw[e,Z4F _ _ _ hv,Z4G _ _ _ h1];omega
theorem Z4H(n v r:Nat)(hv:v<256):swar (n+1) (v+256*r)=b3 (b2 (b1 v))+256*swar n r:=by
 unfold swar;obtain⟨h1,h2,h3⟩:=b_lt v hv;rw[Z4F _ _ _ hv,Z4G _ _ _ h1,J0q _ _ _ hv (Z2I _ _)]
theorem cnt_add(f:Nat->Bool)(a b:Nat):cnt f (a+b)=cnt f a+cnt (fun j=>f (a+j)) b:=by
 induction b with
 | zero=>simp[cnt]
 | succ b ih=>rw[<- J4C];simp only[cnt];rw[ih];omega
theorem Z4I{f g:Nat->Bool}(n:Nat)(h:∀j,j<n->f j=g j):cnt f n=cnt g n:=by
 induction n with
 | zero=>rfl
 | succ n ih=>simp only[cnt];rw[ih (fun j hj=>h j (by omega)),h n (by omega)]
theorem Q3Z(f:Nat->Bool)(n:Nat):cnt f n<=n:=by
 induction n with
 | zero=>simp[cnt]
 | succ n ih=>simp only[cnt];have:=J4j (f n);omega
theorem Z4J(f:Nat->Bool)(n:Nat):Q0l f (8+n)=Q0l f 8+256*Q0l (fun j=>f (8+j)) n:=by
 symm
 have h1:=Q0F f 8;have h2:=Q0F (fun j=>f (8+j)) n;refine Q2Q ?_ f fun j hj=>?_
 ·rw[J4D];have:(2:Nat) ^ 8=256:=by decide
  rw[this] at h1 ⊢;omega
 ·rw[J4l,show(256:Nat)=2 ^ 8 from rfl,J4m _ h1];split
  ·rw[wordN_bit];simp[*]
  ·rw[wordN_bit];have:j-8<n:=by omega
   simp[this,show 8+(j-8)=j by omega]
theorem Q1M(f:Nat->Bool)(n m:Nat):swar (n+1) (Q0l f (8+m))=cnt f 8+256*swar n (Q0l (fun j=>f (8+j)) m):=by
 have h:=Q0F f 8;rw[Z4J,Z4H _ _ _ h,J2L _ h];congr 1;exact Z4I 8 fun j hj=>by rw[wordN_bit];simp[hj]
theorem Q2R(a r:Nat)(h:a<256):(a+256*r)/256=r:=by omega
theorem Z7Y(a r b s:Nat):(a+256*r)+(b+256*s)=(a+b)+256*(r+s):=by omega
theorem Z4K(c0 c1 c2 c3 c4 c5 c6 c7 x4 x5 x6:Nat)(l0:c0<=8)(l1:c1<=8)(l2:c2<=8)(l3:c3<=8)(l4:c4<=8)(l5:c5<=8)(l6:c6<=8)(l7:c7<=8)
  (h4:x4=((c0+256*(c1+256*(c2+256*(c3+256*(c4+256*(c5+256*(c6+256*c7)))))))+(c0+256*(c1+256*(c2+256*(c3+256*(c4+256*(c5+256*(c6+256*c7)))))))/256)%18446744073709551616)
  (h5:x5=(x4+x4/65536)%18446744073709551616) (h6:x6=(x5+x5/4294967296)%18446744073709551616) :
  x6%128=c0+c1+c2+c3+c4+c5+c6+c7:=by
 rw[Q2R _ _ (by omega)] at h4;have k4:x4=(c0+c1)+256*((c1+c2)+256*((c2+c3)+256*((c3+c4)+256*((c4+c5)+256*((c5+c6)+256*((c6+c7)+256*c7)))))):=by
  rw[h4,J4x (by omega)];omega
 clear h4;have q4:x4/65536=(c2+c3)+256*((c3+c4)+256*((c4+c5)+256*((c5+c6)+256*((c6+c7)+256*c7)))):=by
  rw[show(65536:Nat)=256*256 from rfl,<- J4E,k4,Q2R _ _ (by omega),Q2R _ _ (by omega)]
 rw[q4] at h5;clear q4;have k5:x5=(c0+c1+c2+c3)+256*((c1+c2+c3+c4)+256*((c2+c3+c4+c5)+256*((c3+c4+c5+c6)+256*((c4+c5+c6+c7)+256*((c5+c6+c7)+256*((c6+c7)+256*c7)))))):=by
  rw[h5,k4,J4x (by omega)];omega
 clear h5 k4;have q5:x5/4294967296=(c4+c5+c6+c7)+256*((c5+c6+c7)+256*((c6+c7)+256*c7)):=by
  rw[show(4294967296:Nat)=256*256*256*256 from rfl,<- J4E,<- J4E,<- J4E,k5,Q2R _ _ (by omega),Q2R _ _ (by omega),Q2R _ _ (by omega),Q2R _ _ (by omega)]
 rw[q5,k5,Z7Y] at h6;clear q5 k5;have m:∀A R:Nat,A<128->(A+256*R)%18446744073709551616%128=A:=by intro A R hA;omega
 rw[h6,m _ _ (by omega)];omega
theorem Z7Z(f:Nat->Bool)(x3 x4 x5 x6:Nat)(h3:x3=swar 8 (Q0l f 64))(h4:x4=(x3+x3/256)%18446744073709551616)(h5:x5=(x4+x4/65536)%18446744073709551616)(h6:x6=(x5+x5/4294967296)%18446744073709551616) :
  x6%128=cnt f 64:=by
 have e:Q0l f 64=Q0l f (8+56):=rfl;have z:∀x,swar 0 x=0:=fun x=>by simp[swar,s3,rep]
 rw[e,Q1M f 7 56,show(56:Nat)=8+48 from rfl,Q1M _ 6 48,show(48:Nat)=8+40 from rfl,Q1M _ 5 40,show(40:Nat)=8+32 from rfl,Q1M _ 4 32,show(32:Nat)=8+24 from rfl,Q1M _ 3 24,
  show(24:Nat)=8+16 from rfl,Q1M _ 2 16,show(16:Nat)=8+8 from rfl,Q1M _ 1 8,show(Q0l (fun j=>f (8+(8+(8+(8+(8+(8+(8+j)))))))) 8)=(Q0l (fun j=>f (8+(8+(8+(8+(8+(8+(8+j)))))))) (8+0)) from rfl,Q1M _ 0 0,z,Nat.mul_zero,J3k] at h3
 have hc:cnt f 64=cnt f 8+cnt (fun j=>f (8+j)) 8+cnt (fun j=>f (8+(8+j))) 8+cnt (fun j=>f (8+(8+(8+j)))) 8+cnt (fun j=>f (8+(8+(8+(8+j))))) 8+cnt (fun j=>f (8+(8+(8+(8+(8+j)))))) 8+cnt (fun j=>f (8+(8+(8+(8+(8+(8+j))))))) 8+cnt (fun j=>f (8+(8+(8+(8+(8+(8+(8+j)))))))) 8:=by
  rw[show(64:Nat)=8+56 from rfl,cnt_add,show(56:Nat)=8+48 from rfl,cnt_add,show(48:Nat)=8+40 from rfl,cnt_add,show(40:Nat)=8+32 from rfl,cnt_add,show(32:Nat)=8+24 from rfl,cnt_add,show(24:Nat)=8+16 from rfl,cnt_add,show(16:Nat)=8+8 from rfl,cnt_add];simp only[J4C]
 rw[hc];rw[h3] at h4;exact Z4K _ _ _ _ _ _ _ _ x4 x5 x6 (Q3Z _ 8) (Q3Z _ 8) (Q3Z _ 8) (Q3Z _ 8) (Q3Z _ 8) (Q3Z _ 8) (Q3Z _ 8) (Q3Z _ 8) h4 h5 h6
open Go.RowKit
theorem Q4s(n:Int):IntKind.u64.wrap n=n%18446744073709551616:=by rw[IntKind.wrap_u64]
theorem Q2S(a b:Nat)(ha:a<2 ^ 64)(hb:b<2 ^ 64):bits BinOp.and IntKind.u64 (a:Int) (b:Int)=((a&&&b:Nat):Int):=by
 have h:(a&&&b)<2 ^ 64:=J4B _ hb;have e:((BitVec.ofInt 64 (a:Int))&&&(BitVec.ofInt 64 (b:Int))).toNat=a&&&b:=by
  rw[BitVec.ofInt_natCast,BitVec.ofInt_natCast,BitVec.toNat_and,BitVec.toNat_ofNat,BitVec.toNat_ofNat,J4x ha,J4x hb]
 unfold bits;show IntKind.u64.wrap (((BitVec.ofInt 64 (a:Int))&&&(BitVec.ofInt 64 (b:Int))).toNat:Int)=_;rw[e,Q4s];omega
theorem Z1C(a b:Nat)(ha:a<2 ^ 64)(hb:b<2 ^ 64):bits BinOp.xor IntKind.u64 (a:Int) (b:Int)=((a ^^^ b:Nat):Int):=by
 have h:(a ^^^ b)<2 ^ 64:=J4t ha hb;have e:((BitVec.ofInt 64 (a:Int)) ^^^ (BitVec.ofInt 64 (b:Int))).toNat=a ^^^ b:=by
  rw[BitVec.ofInt_natCast,BitVec.ofInt_natCast,BitVec.toNat_xor,BitVec.toNat_ofNat,BitVec.toNat_ofNat,J4x ha,J4x hb]
 unfold bits;show IntKind.u64.wrap (((BitVec.ofInt 64 (a:Int)) ^^^ (BitVec.ofInt 64 (b:Int))).toNat:Int)=_;rw[e,Q4s];omega
theorem J0r(a b:Nat)(ha:a<2 ^ 64)(hb:b<2 ^ 64):bits BinOp.or IntKind.u64 (a:Int) (b:Int)=((a|||b:Nat):Int):=by
 have h:(a|||b)<2 ^ 64:=Nat.or_lt_two_pow ha hb;have e:((BitVec.ofInt 64 (a:Int))|||(BitVec.ofInt 64 (b:Int))).toNat=a|||b:=by
  rw[BitVec.ofInt_natCast,BitVec.ofInt_natCast,BitVec.toNat_or,BitVec.toNat_ofNat,BitVec.toNat_ofNat,J4x ha,J4x hb]
 unfold bits;show IntKind.u64.wrap (((BitVec.ofInt 64 (a:Int))|||(BitVec.ofInt 64 (b:Int))).toNat:Int)=_;rw[e,Q4s];omega
theorem Z2J(a b:Nat)(ha:a<2 ^ 63)(hb:b<2 ^ 63):bits BinOp.and IntKind.i64 (a:Int) (b:Int)=((a&&&b:Nat):Int):=by
 have h:(a&&&b)<2 ^ 63:=J4B _ hb;have e:((BitVec.ofInt 64 (a:Int))&&&(BitVec.ofInt 64 (b:Int))).toNat=a&&&b:=by
  rw[BitVec.ofInt_natCast,BitVec.ofInt_natCast,BitVec.toNat_and,BitVec.toNat_ofNat,BitVec.toNat_ofNat,J4x (by omega),J4x (by omega)]
 unfold bits;show IntKind.i64.wrap (((BitVec.ofInt 64 (a:Int))&&&(BitVec.ofInt 64 (b:Int))).toNat:Int)=_;rw[e,IntKind.wrap_i64];omega
def o1(x:Int):Int:=IntKind.u64.wrap (bits BinOp.and IntKind.u64 (x/2) 6148914691236517205+bits BinOp.and IntKind.u64 x 6148914691236517205)
def o2(x:Int):Int:=IntKind.u64.wrap (bits BinOp.and IntKind.u64 (x/4) 3689348814741910323+bits BinOp.and IntKind.u64 x 3689348814741910323)
def o3(x:Int):Int:=bits BinOp.and IntKind.u64 (IntKind.u64.wrap (x/16+x)) 1085102592571150095
def o4(x:Int):Int:=IntKind.u64.wrap (x+x/256)
def o5(x:Int):Int:=IntKind.u64.wrap (x+x/65536)
def o6(x:Int):Int:=IntKind.u64.wrap (x+x/4294967296)
theorem Z4L:rep 85 8=6148914691236517205:=by decide
theorem Z0q:rep 51 8=3689348814741910323:=by decide
theorem J0s:rep 15 8=1085102592571150095:=by decide
theorem J1R(x:Nat)(hx:x<2 ^ 64):o1 x=(s1 8 x:Nat)/\s1 8 x<2 ^ 64:=by
 have h1:(x/2&&&rep 85 8)<=6148914691236517205:=Z4L ▸ J4F;have h2:(x&&&rep 85 8)<=6148914691236517205:=Z4L ▸ J4F;unfold o1 s1;rw[show((x:Int)/2)=((x/2:Nat):Int) from by omega,show(6148914691236517205:Int)=((rep 85 8:Nat):Int) from by rw[Z4L];rfl,Q2S _ _ (by omega) (by rw[Z4L];decide),Q2S _ _ hx (by rw[Z4L];decide),Q4s];omega
theorem J1S(x:Nat)(hx:x<2 ^ 64):o2 x=(s2 8 x:Nat)/\s2 8 x<2 ^ 64:=by
 have h1:(x/4&&&rep 51 8)<=3689348814741910323:=Z0q ▸ J4F;have h2:(x&&&rep 51 8)<=3689348814741910323:=Z0q ▸ J4F;unfold o2 s2;rw[show((x:Int)/4)=((x/4:Nat):Int) from by omega,show(3689348814741910323:Int)=((rep 51 8:Nat):Int) from by rw[Z0q];rfl,Q2S _ _ (by omega) (by rw[Z0q];decide),Q2S _ _ hx (by rw[Z0q];decide),Q4s];omega
theorem J1T(x:Nat)(hx:x<=2*3689348814741910323):o3 x=(s3 8 x:Nat)/\s3 8 x<2 ^ 64:=by
 have h1:((x/16+x)&&&rep 15 8)<=1085102592571150095:=J0s ▸ J4F;unfold o3 s3;rw[show IntKind.u64.wrap ((x:Int)/16+x)=((x/16+x:Nat):Int) from by rw[Q4s];omega,show(1085102592571150095:Int)=((rep 15 8:Nat):Int) from by rw[J0s];rfl,Q2S _ _ (by omega) (by rw[J0s];decide)];omega
theorem J2M(x:Nat):s2 8 x<=2*3689348814741910323:=by
 have h1:(x/4&&&rep 51 8)<=3689348814741910323:=Z0q ▸ J4F;have h2:(x&&&rep 51 8)<=3689348814741910323:=Z0q ▸ J4F;unfold s2;omega
theorem J0t(f:Nat->Bool):o6 (o5 (o4 (o3 (o2 (o1 (Q0l f 64))))))%128=(cnt f 64:Nat)/\0<=o6 (o5 (o4 (o3 (o2 (o1 (Q0l f 64))))))/\o6 (o5 (o4 (o3 (o2 (o1 (Q0l f 64))))))<18446744073709551616:=by
 obtain⟨e1,b1⟩:=J1R _ (Q0F f 64);rw[e1];obtain⟨e2,b2⟩:=J1S _ b1;rw[e2];obtain⟨e3,b3⟩:=J1T _ (J2M (s1 8 (Q0l f 64)));rw[e3];have h:=Z7Z f _ _ _ _ rfl rfl rfl rfl;rw[<- h];have e4:o4 ((s3 8 (s2 8 (s1 8 (Q0l f 64))):Nat):Int)=(((swar 8 (Q0l f 64))+(swar 8 (Q0l f 64))/256)%18446744073709551616:Nat):=by
  unfold o4;rw[Q4s];show((swar 8 (Q0l f 64):Nat)+(swar 8 (Q0l f 64):Nat)/256:Int)%_=_;omega
 rw[e4];generalize ((swar 8 (Q0l f 64))+(swar 8 (Q0l f 64))/256)%18446744073709551616=y;have e5:o5 (y:Int)=((y+y/65536)%18446744073709551616:Nat):=by unfold o5;rw[Q4s];omega
 rw[e5];generalize (y+y/65536)%18446744073709551616=z;have e6:o6 (z:Int)=((z+z/4294967296)%18446744073709551616:Nat):=by unfold o6;rw[Q4s];omega
 rw[e6];omega
theorem J2N(y:Int)(h0:0<=y)(h1:y<18446744073709551616):bits BinOp.and IntKind.i64 (wrap64 y) 127=y%128:=by
 obtain⟨n,rfl⟩:=J4G h0;have e:((BitVec.ofInt 64 (wrap64 (n:Int)))&&&(BitVec.ofInt 64 (127:Int))).toNat=n%128:=by
  rw[BitVec.toNat_and,BitVec.toNat_ofInt,show(BitVec.ofInt 64 (127:Int)).toNat=2 ^ 7-1 from by decide,J4H];unfold wrap64;omega
 unfold bits;show IntKind.i64.wrap (((BitVec.ofInt 64 (wrap64 (n:Int)))&&&(BitVec.ofInt 64 (127:Int))).toNat:Int)=_;rw[e,IntKind.wrap_i64];omega
theorem Q7j{w:World}(f:Nat->Bool) :
  Calls prog 188 #[.int .u64 (Q0l f 64)] w fun r w'=>r=.returned (.int .i64 (cnt f 64))/\w=w':=by
 have hx:=Q0F f 64;have HE:=Q0a (J0t f);generalize Q0l f 64=x at hx HE;go_enter func188,ntmps188
 go_wp2
 go_ret;refine⟨?_,rfl⟩;show Ending.returned (.int .i64 (bits BinOp.and IntKind.i64 (wrap64 (o6 (o5 (o4 (o3 (o2 (o1 x))))))) 127))=_;obtain⟨h1,h2,h3⟩:=HE.out;rw[J2N _ h2 h3,h1]
theorem J0u(x m t:Nat)(hx:x<2 ^ 64)(h0:x≠0)(hm:x&&&(18446744073709551616-x)=m)(Nr:m=2 ^ t) :
  IntKind.u64.wrap (bits BinOp.and IntKind.u64 (x:Int) (IntKind.u64.wrap (-(x:Int)))*285870213051353865)/288230376151711744=((dbi t:Nat):Int):=by
 have e1:IntKind.u64.wrap (-(x:Int))=((18446744073709551616-x:Nat):Int):=by rw[Q4s];omega
 rw[e1,Q2S _ _ hx (by omega),hm,Q4s];unfold dbi;rw[<- Nr];omega
theorem Z8a{w:World}(x:Nat)(d:Nat)(t:Nat)(hV:IntKind.u64.wrap (bits BinOp.and IntKind.u64 (x:Int) (IntKind.u64.wrap (-(x:Int)))*285870213051353865)/288230376151711744=(d:Int))(Aa:((x:Int)==0)=false)
  (hd:d<64) (ht:t<64) (hc:w.cell? ⟨1,d,none⟩=some (.int .u8 t)) :
  Calls prog 135 #[.int .u64 x] w fun r w'=>r=.returned (.int .i64 t)/\w=w':=by
 go_enter func135,ntmps135
 go_wp2
 go_ret;exact⟨rfl,rfl⟩
theorem Z1D{w:World}(hT:TabB w)(f:Nat->Bool)(t:Nat)(ht:t<64)(h:f t=true)(hl:∀j,j<t->f j=false) :
  Calls prog 135 #[.int .u64 (Q0l f 64)] w fun r w'=>r=.returned (.int .i64 t)/\w=w':=by
 have Cw:Q0l f 64≠0:=by
  intro e;rw[wordN_zero] at e;rw[e t ht] at h;cases h
 have hm:=Z7X f t ht h hl;have hx:=Q0F f 64;generalize Q0l f 64=x at *
 obtain⟨GC,Gb⟩:=J0m t ht;exact Z8a x (dbi t) t (J0u x _ t hx Cw hm rfl) (by simp;omega) GC ht (hT _ _ Gb)
structure BM where
 b:Nat
 wb:Nat
 bits:List Bool
def Q0T(bits:List Bool)(k:Nat):Nat->Bool:=fun j=>bits[64*k+j]?.getD false
def Q0j(n:Nat):Nat:=(n+63)/64
def Q4a(bits:List Bool):List Value:=(List.range (Q0j bits.length)).map fun k=>.int .u64 (Q0l (Q0T bits k) 64:Nat)
def BM.hl(m:BM):HL:=[(m.b,isC 245 [.int .i64 m.bits.length,.slice (some ⟨m.wb,0,none⟩) (Q0j m.bits.length) (Q0j m.bits.length)]),(m.wb,isC 83 (Q4a m.bits))]
section
variable {w:World} {m:BM}
theorem BM.c0(h:Sep w m.hl):w.cell? ⟨m.b,0,none⟩=some (.int .i64 m.bits.length):=(h.cells (T:=245) (cs:=[.int .i64 m.bits.length,.slice (some ⟨m.wb,0,none⟩) (Q0j m.bits.length) (Q0j m.bits.length)]) (by simp[BM.hl])).cell 0 _ rfl
theorem BM.c1(h:Sep w m.hl):w.cell? ⟨m.b,1,none⟩=some (.slice (some ⟨m.wb,0,none⟩) (Q0j m.bits.length) (Q0j m.bits.length)):=(h.cells (T:=245) (cs:=[.int .i64 m.bits.length,.slice (some ⟨m.wb,0,none⟩) (Q0j m.bits.length) (Q0j m.bits.length)]) (by simp[BM.hl])).cell 1 _ rfl
theorem BM.wcell(h:Sep w m.hl)(k:Nat)(hk:k<Q0j m.bits.length):w.cell? ⟨m.wb,k,none⟩=some (.int .u64 (Q0l (Q0T m.bits k) 64:Nat)):=
 (h.cells (T:=83) (cs:=Q4a m.bits) (by simp[BM.hl])).cell k _ (by simp[Q4a,hk])
theorem BM.wfree(h:Sep w m.hl)(k:Nat):w.frozen? ⟨m.wb,k,none⟩=false:=(h.cells (T:=83) (cs:=Q4a m.bits) (by simp[BM.hl])).free k
end
theorem Q2B{w:World}{m:BM}(h:Sep w m.hl):Calls prog 133 #[.pointer (some ⟨m.b,0,none⟩)] w fun r w'=>r=.returned (.int .i64 m.bits.length)/\w=w':=by
 have c0:=BM.c0 h;clear h;go_enter func133,ntmps133
 go_wp2
 go_ret;exact⟨rfl,rfl⟩
theorem Z4M{w:World}{m:BM}(h:Sep w m.hl)(i:Int)(hi:i<0∨m.bits.length<=i):Calls prog 190 #[.pointer (some ⟨m.b,0,none⟩),.int .i64 i] w fun r w'=>r=.returned (.bool false)/\w=w':=by
 have k1:=Q2B h;clear h;generalize m.bits.length=n at *
 rcases(show i<0∨0<=i by omega) with h0|h0
 ·have h1:¬0<=i:=by omega
  go_enter func190,ntmps190;go_wp2_with (go_at_call 133;refine k1.mono ?_;rintro e w'⟨rfl,rfl⟩);go_ret;exact⟨rfl,rfl⟩
 ·have h1:¬i<n:=by omega
  have h2:decide (i<n)=false:=by simpa using h1
  go_enter func190,ntmps190;go_wp2_with (go_at_call 133;refine k1.mono ?_;rintro e w'⟨rfl,rfl⟩);go_ret;exact⟨rfl,rfl⟩
theorem Q7Y{w:World}{m:BM}(h:Sep w m.hl)(i:Nat)(hi:i<m.bits.length)(hn:m.bits.length<=1048576):Calls prog 190 #[.pointer (some ⟨m.b,0,none⟩),.int .i64 i] w fun r w'=>r=.returned (.bool (m.bits[i]?.getD false))/\w=w':=by
 have k1:=Q2B h;have c1:=BM.c1 h;have hq:i/64<Q0j m.bits.length:=by unfold Q0j;omega
 have cw:=BM.wcell h (i/64) hq;have hg:=Z7U (Q0T m.bits (i/64)) (i%64) (by omega);have hx:=Q0F (Q0T m.bits (i/64)) 64;have HB:Hid (Q0T m.bits (i/64) (i%64)=m.bits[i]?.getD false):=by unfold Q0T;congr 2;omega
 clear h;generalize Q0l (Q0T m.bits (i/64)) 64=x at *
 generalize m.bits.length=n at *
 have hv:(bits BinOp.and IntKind.u64 ((x:Int)/2 ^ (i%64)) 1==1)=Q0T m.bits (i/64) (i%64):=by
  rw[show((x:Int)/2 ^ (i%64))=((x/2 ^ (i%64):Nat):Int) from by push_cast;rfl,show(1:Int)=((1:Nat):Int) from rfl,Q2S _ _ (J4o (J4I _ _) hx) (by decide),hg];cases Q0T m.bits (i/64) (i%64) <;> rfl
 go_enter func190,ntmps190;go_wp2_with (go_at_call 133;refine k1.mono ?_;rintro e w'⟨rfl,rfl⟩);go_ret;exact⟨by rw[<- HB.out];rfl,rfl⟩
theorem Q1N(bits:List Bool)(i:Nat)(hi:i<bits.length)(on:Bool)(j:Nat):(bits.set i on)[j]?.getD false=if j=i then on else bits[j]?.getD false:=by
 rw[J4J];by_cases h:i=j
 ·subst h;simp[hi]
 ·simp[h,show ¬j=i from fun e=>h e.symm]
theorem Z2K(bits:List Bool)(i:Nat)(hi:i<bits.length)(on:Bool)(Aa:bits[i]?.getD false≠on) :
  (Q4a bits).set (i/64) (.int .u64 ((Q0l (Q0T bits (i/64)) 64 ^^^ 2 ^ (i%64):Nat)))=Q4a (bits.set i on):=by
 apply J4K
 intro k;have hq:i/64<Q0j bits.length:=by unfold Q0j;omega
 rw[J4J];unfold Q4a;simp only[J4L,J4M,J4N,J4O];by_cases hk:i/64=k
 ·subst hk;simp only[if_true,hq,J4P hq,J4Q];rw[Z4E _ _ (by omega)];congr 3
  apply Q1E
  intro j hj;unfold Q0T;rw[Q1N _ _ hi];by_cases Fr:j=i%64
  ·subst Fr;have e:64*(i/64)+i%64=i:=by omega
   simp only[if_true,e];cases h1:bits[i]?.getD false <;> cases on <;> simp_all
  ·have e:¬64*(i/64)+j=i:=by omega
   simp[Fr,e]
 ·rw[if_neg hk];by_cases Dm:k<Q0j bits.length
  ·simp only[J4P Dm,J4Q];congr 3
   apply Q1E
   intro j hj;unfold Q0T;rw[Q1N _ _ hi,if_neg (by omega)]
  ·rw[J4R (by simp;omega)];rfl
theorem BM.set(m:BM){w:World}(h:Sep w m.hl)(i:Nat)(hi:i<m.bits.length)(on:Bool)(Aa:m.bits[i]?.getD false≠on) :
  Step m.hl ({m with bits:=m.bits.set i on}:BM).hl w (w.setCell ⟨m.wb,i/64,none⟩ (.int .u64 ((Q0l (Q0T m.bits (i/64)) 64 ^^^ 2 ^ (i%64):Nat)))):=by
 have e:({m with bits:=m.bits.set i on}:BM).hl=[(m.b,isC 245 [.int .i64 m.bits.length,.slice (some ⟨m.wb,0,none⟩) (Q0j m.bits.length) (Q0j m.bits.length)])]++(m.wb,isC 83 ((Q4a m.bits).set (i/64) (.int .u64 ((Q0l (Q0T m.bits (i/64)) 64 ^^^ 2 ^ (i%64):Nat)))))::[]:=by
  rw[Z2K _ _ hi on Aa];simp[BM.hl]
 rw[e];exact Sep.set (A:=[_]) (B:=[]) h (i/64) _
theorem Z2L{w:World}{m:BM}(h:Sep w m.hl)(on:Bool)(i:Nat)(hi:i<m.bits.length)(hn:m.bits.length<=1048576)(hs:m.bits[i]?.getD false=on)(g:Nat)(hg:w.cell? ⟨g,0,none⟩=some (.int .i64 i)) :
  Calls prog 127 #[.pointer (some ⟨m.b,0,none⟩),.bool on,.slice (some ⟨g,0,none⟩) 1 1] w fun r w'=>r=.returned (.int .i64 0)/\w=w':=by
 have k1:=Q2B h;have k2:=Q7Y h i hi hn;rw[hs] at k2;have hb:(on != on)=false:=by simp
 have Ai:(!on==on)=false:=by cases on <;> rfl
 clear h hs;generalize m.bits.length=n at *
 go_enter func127,ntmps127;go_wp2_with fail
 go_loop [7,12] (fun nv iv=>nv=.int .i64 0/\∃k:Nat,k<=1/\iv=.int .i64 k) (fun _ iv=>1-(intOf iv).toNat)
 case atStart=>exact⟨rfl,0,by omega,rfl⟩
 case round =>
  obtain⟨rfl,k,hk,rfl⟩:=hrel;by_cases h0:k=0
  ·subst h0;go_wp2_with (first|(go_at_call 133;refine k1.mono ?_;rintro e w'⟨rfl,rfl⟩)|(go_at_call 190;refine k2.mono ?_;rintro e w'⟨rfl,rfl⟩))
   go_round
   case rel=>exact⟨rfl,1,by omega,by go_num⟩
   case measure=>simp[intOf]
  ·obtain rfl:k=1:=by omega
   go_wp2_with fail;go_ret;exact⟨rfl,rfl⟩
theorem Q2C{w:World}{m:BM}(h:Sep w m.hl)(on:Bool)(i:Nat)(hi:i<m.bits.length)(hn:m.bits.length<=1048576)(hs:m.bits[i]?.getD false≠on)(g:Nat)(hg:w.cell? ⟨g,0,none⟩=some (.int .i64 i))(EH:g∉keys m.hl) :
  Calls prog 127 #[.pointer (some ⟨m.b,0,none⟩),.bool on,.slice (some ⟨g,0,none⟩) 1 1] w fun r w'=>r=.returned (.int .i64 1)/\Step m.hl ({m with bits:=m.bits.set i on}:BM).hl w w':=by
 have k1:=Q2B h;have k2:=Q7Y h i hi hn;have hb:(m.bits[i]?.getD false != on)=true:=by simpa using hs
 have Ai:(!m.bits[i]?.getD false==on)=true:=by cases h1:m.bits[i]?.getD false <;> cases on <;> simp_all
 have HS:=Q0a (BM.set m h i hi on hs);have c1:=BM.c1 h;have hq:i/64<Q0j m.bits.length:=by unfold Q0j;omega
 have cw:=BM.wcell h (i/64) hq;have hf:=BM.wfree h (i/64);have hx:=Q0F (Q0T m.bits (i/64)) 64;have hp:2 ^ (i%64)<2 ^ 64:=J4u (by omega) (by omega);have Hw:=Z1C (Q0l (Q0T m.bits (i/64)) 64) (2 ^ (i%64)) hx hp;have Wv:IntKind.u64.wrap (2 ^ (i%64))=((2 ^ (i%64):Nat):Int):=by
  have U8:((2 ^ (i%64):Nat):Int)=2 ^ (i%64):=by push_cast;rfl
  rw[<- U8,Q4s];refine Int.emod_eq_of_lt (Int.natCast_nonneg _) ?_;have:=Int.ofNat_lt.2 hp
  simpa using this
 clear h hs;generalize m.bits[i]?.getD false=old at *
 generalize Q0l (Q0T m.bits (i/64)) 64=x at *
 generalize (2:Nat) ^ (i%64)=p at *
 generalize x ^^^ p=y at *
 generalize CN:({m with bits:=m.bits.set i on}:BM).hl=H' at *
 generalize m.hl=H at *
 generalize m.bits.length=n at *
 clear CN hx hp;go_enter func127,ntmps127;go_wp2_with fail
 go_loopw [7,12] (fun nv iv wr=>(nv=.int .i64 0/\iv=.int .i64 0/\wr=w)∨(nv=.int .i64 1/\iv=.int .i64 1/\Step H H' w wr)) (fun _ iv _=>1-(intOf iv).toNat)
 case atStart=>exact .inl ⟨rfl,rfl,rfl⟩
 case round =>
  rcases hrel with ⟨rfl,rfl,rfl⟩|⟨rfl,rfl,Ap⟩
  ·go_wp2_with (first|(go_at_call 133;refine k1.mono ?_;rintro e w'⟨rfl,rfl⟩)|(go_at_call 190;refine k2.mono ?_;rintro e w'⟨rfl,rfl⟩));have GC:(i:Int).tdiv 64=((i/64:Nat):Int):=by rw[J4S (by omega)];omega
   have Gb:(i:Int).tmod 64=((i%64:Nat):Int):=by rw[J4T (by omega)];omega
   go_region;go_wp2_with fail;go_roundw
   case rel=>exact .inr ⟨rfl,rfl,HS.out.drew⟩
   case measure=>simp[intOf]
  ·go_wp2_with fail;go_ret;exact⟨rfl,Ap⟩
def Q2f(bits:List Bool)(on:Bool)(from_:Nat):Option Nat:=(List.range bits.length).find? fun j=>decide (from_<=j)&&((bits[j]?.getD false)==on)
def optI:Option Nat->Int
 | none=>-1
 | some j=>j
theorem Q5S{bits:List Bool}{on:Bool}{s j:Nat}(hj:j<bits.length)(hs:s<=j)(h:bits[j]?.getD false=on)(hp:∀i,s<=i->i<j->bits[i]?.getD false≠on):Q2f bits on s=some j:=by
 unfold Q2f;rw[J4U];refine⟨by simp[hs,h],by simpa using hj,fun i hi=>?_⟩;by_cases h1:s<=i
 ·simp[hp i h1 hi]
 ·simp[h1]
theorem Q5T{bits:List Bool}{on:Bool}{s:Nat}(hp:∀i,s<=i->i<bits.length->bits[i]?.getD false≠on):Q2f bits on s=none:=by
 unfold Q2f;rw[J4V];intro i hi;simp only[J3s] at hi;by_cases h1:s<=i
 ·simp[hp i h1 hi]
 ·simp[h1]
theorem Q1F{bits:List Bool}{on:Bool}{s j:Nat}(h:Q2f bits on s=some j):j<bits.length/\s<=j/\bits[j]?.getD false=on/\∀i,s<=i->i<j->bits[i]?.getD false≠on:=by
 unfold Q2f at h;rw[J4U] at h;obtain⟨h1,h2,h3⟩:=h;simp only[J3x,decide_eq_true_eq,beq_iff_eq] at h1;refine⟨by simpa using h2,h1.1,h1.2,fun i hi Fj=>?_⟩;have:=h3 i Fj
 simpa[hi] using this
theorem Q8J{bits:List Bool}{on:Bool}{s:Nat}(h:Q2f bits on s=none):∀i,s<=i->i<bits.length->bits[i]?.getD false≠on:=by
 unfold Q2f at h;rw[J4V] at h;intro i hi hl;have:=h i (by simpa using hl)
 simpa[hi] using this
theorem Z2M{w:World}{m:BM}(h:Sep w m.hl)(on:Bool)(k:Nat)(hk:k<Q0j m.bits.length) :
  Calls prog 134 #[.pointer (some ⟨m.b,0,none⟩),.bool on,.int .i64 k] w fun r w'=>r=.returned (.int .u64 (Q0l (fun j=>Q0T m.bits k j==on) 64:Nat))/\w=w':=by
 have c1:=BM.c1 h;have cw:=BM.wcell h k hk;have hx:=Q0F (Q0T m.bits k) 64;have DA:=Z7V (Q0T m.bits k);clear h;cases on with
 | true =>
  have e:Q0l (fun j=>Q0T m.bits k j==true) 64=Q0l (Q0T m.bits k) 64:=Q1E _ _ _ fun j _=>by simp
  rw[e];generalize Q0l (Q0T m.bits k) 64=x at *
  generalize Q0j m.bits.length=nw at *
  clear DA e;go_enter func134,ntmps134
  go_wp2
  go_ret;exact⟨rfl,rfl⟩
 | false =>
  have e:Q0l (fun j=>Q0T m.bits k j==false) 64=Q0l (fun j=>!Q0T m.bits k j) 64:=Q1E _ _ _ fun j _=>by simp
  rw[e,<- DA];generalize Q0l (Q0T m.bits k) 64=x at *
  generalize Q0j m.bits.length=nw at *
  clear DA e;have D3:bits BinOp.xor IntKind.u64 IntKind.u64.max (x:Int)=((x ^^^ 18446744073709551615:Nat):Int):=by
   rw[show IntKind.u64.max=((18446744073709551615:Nat):Int) from by decide,Z1C _ _ (by decide) hx,Nat.xor_comm]
  have HX:=Q0a D3;clear D3;go_enter func134,ntmps134
  go_wp2
  go_ret;exact⟨by rw[<- HX.out];rfl,rfl⟩
def cutF(bits:List Bool)(on:Bool)(s k:Nat):Nat->Bool:=fun j=>decide (s<=64*k+j)&&(Q0T bits k j==on)
theorem Z8b(x s:Nat):IntKind.u64.wrap ((x:Int)/2 ^ s*2 ^ s)=((x/2 ^ s*2 ^ s%18446744073709551616:Nat):Int):=by
 rw[Q4s,Int.natCast_emod,J4g,J4W,J4X];rfl
theorem Z2N(bits:List Bool)(on:Bool)(s k:Nat)(hk:s/64<=k):∃X Y:Nat,Q0l (fun j=>Q0T bits k j==on) 64=X/\Y=Q0l (cutF bits on s k) 64 /\
  ((k=s/64/\IntKind.u64.wrap ((X:Int)/2 ^ (s%64)*2 ^ (s%64))=(Y:Int))∨(k≠s/64/\X=Y)):=by
 refine⟨_,_,rfl,rfl,?_⟩;by_cases h:k=s/64
 ·left;refine⟨h,?_⟩;rw[Z8b,Z7W];congr 1;refine Q1E _ _ _ fun j hj=>?_
  unfold cutF;congr 1;rw[decide_eq_decide];omega
 ·right;refine⟨h,Q1E _ _ _ fun j hj=>?_⟩;unfold cutF;have:s<=64*k+j:=by omega
  simp[this]
theorem tz64_zero{w:World}:Calls prog 135 #[.int .u64 0] w fun r w'=>r=.returned (.int .i64 64)/\w=w':=by
 go_enter func135,ntmps135
 go_wp2
 go_ret;exact⟨rfl,rfl⟩
theorem J1U(f:Nat->Bool)(n:Nat):(∀j,j<n->f j=false)∨∃t,t<n/\f t=true/\∀j,j<t->f j=false:=by
 induction n with
 | zero=>left;intro j hj;omega
 | succ n ih =>
  rcases ih with h|⟨t,h1,h2,h3⟩
  ·cases hf:f n with
   | true=>exact .inr ⟨n,by omega,hf,h⟩
   | false=>left;intro j hj;rcases Nat.lt_succ_iff_lt_or_eq.1 hj with h'|h';exact h j h';subst h';exact hf
  ·exact .inr ⟨t,by omega,h2,h3⟩
theorem Q4f{w:World}{m:BM}(h:Sep w m.hl)(on:Bool)(s:Nat)(hs:s<=1048576)(hn:m.bits.length<=1048576) :
  Calls prog 72 #[.pointer (some ⟨m.b,0,none⟩),.bool on,.int .i64 s] w fun r w'=>r=.returned (.int .i64 (optI (Q2f m.bits on s)))/\w=w':=by
 have k1:=Q2B h;have k2:=Q0a (fun k hk=>Z2M h on k hk);have c0:=BM.c0 h;have HT:=Q0a h.env.tabB;clear h;have HF:=Q0a (show ∀j,j<m.bits.length->s<=j->m.bits[j]?.getD false=on->(∀i,s<=i->i<j->m.bits[i]?.getD false≠on)->Q2f m.bits on s=some j from fun j h1 h2 h3 h4=>Q5S h1 h2 h3 h4);have HN:=Q0a (show(∀i,s<=i->i<m.bits.length->m.bits[i]?.getD false≠on)->Q2f m.bits on s=none from Q5T);generalize Ac:m.bits.length=n at *
 have HL:=Q0a Ac;clear Ac;go_enter func72,ntmps72;go_wp2_with fail
 go_loop [7] (fun kv=>∃k:Nat,kv=.int .i64 k/\s/64<=k/\k<=s/64+Q0j n/\∀i,s<=i->i<64*k->i<n->m.bits[i]?.getD false≠on) (fun kv=>s/64+Q0j n-(intOf kv).toNat)
 case atStart=>exact⟨s/64,by go_num,J3b _,by omega,by intro i h1 h2 _;omega⟩
 case round =>
  obtain⟨k,rfl,A0,A2,A3⟩:=hrel;have O5:=Q0a A3;clear A3;have Fy:k<=40000:=by unfold Q0j at A2;omega
  by_cases Ab:k*64<n
  ·have UB:k<Q0j n:=by unfold Q0j;omega
   go_wp2_with fail;refine k1.mono ?_;rintro e w'⟨rfl,rfl⟩;go_wp2_with fail;refine(k2.out k UB).mono ?_;rintro e w'⟨rfl,rfl⟩;obtain⟨X,Y,hX,hY,hG⟩:=Z2N m.bits on s k A0;rw[hX];have HY:=Q0a hY;have Oo:Y<2 ^ 64:=by rw[hY];exact Q0F _ _
   clear hX hY;have Ay:(Y=0/\∀j,j<64->cutF m.bits on s k j=false)∨∃t,Y≠0/\t<64/\cutF m.bits on s k t=true/\∀j,j<t->cutF m.bits on s k j=false:=by
    rcases J1U (cutF m.bits on s k) 64 with h|⟨t,h1,h2,h3⟩
    ·exact .inl ⟨by rw[HY.out];exact wordN_zero.2 h,h⟩
    ·refine .inr ⟨t,?_,h1,h2,h3⟩;intro e;rw[HY.out,wordN_zero] at e;rw[e t h1] at h2;cases h2
   have BI:(∀j,j<64->64*k+j<n->cutF m.bits on s k j=false)->∀i,s<=i->i<64*(k+1)->i<n->m.bits[i]?.getD false≠on:=by
    intro hz i h1 h2 h3 h4;by_cases h5:i<64*k
    ·exact O5.out i h1 h5 h3 h4
    ·have:=hz (i-64*k) (by omega) (by omega);unfold cutF Q0T at this;rw[show 64*k+(i-64*k)=i from by omega] at this;simp[h1,h4] at this
   have Ht:=Q0a BI;clear BI;have G8:k+1<=s/64+Q0j n:=by unfold Q0j;omega
   rcases Ay with ⟨Pu,hz⟩|⟨t,Pu,ht,JM,DE⟩
   ·have Hz:=Q0a hz;clear hz Oo;subst Pu;rcases hG with ⟨hk,hcut⟩|⟨hk,NG⟩
    ·have AJ:((k:Int)==(s:Int)/64)=true:=by simp;omega
     have ST:IntKind.u64.wrap ((X:Int)/2 ^ (s%64)*2 ^ (s%64))=0:=by simpa using hcut
     clear hcut hk;go_wp2_with fail;refine tz64_zero.mono ?_;rintro e w'⟨rfl,rfl⟩;go_wp2_with fail
     go_round
     case rel=>exact⟨k+1,by go_num,by omega,G8,Ht.out fun j h1 _=>Hz.out j h1⟩
     case measure=>simp[intOf];omega
    ·have AJ:((k:Int)==(s:Int)/64)=false:=by simp;omega
     have Ts:X=0:=NG;subst Ts;clear NG hk;go_wp2_with fail;refine tz64_zero.mono ?_;rintro e w'⟨rfl,rfl⟩;go_wp2_with fail
     go_round
     case rel=>exact⟨k+1,by go_num,by omega,G8,Ht.out fun j h1 _=>Hz.out j h1⟩
     case measure=>simp[intOf];omega
   ·have OZ:=Z1D HT.out (cutF m.bits on s k) t ht JM DE;rw[<- HY.out] at OZ;have W6:((Y:Int) != 0)=true:=by simp;omega
    have Uh:((Y:Int)==0)=false:=by simp;omega
    have QK:=Q0a DE;have Rt:=Q0a JM;clear DE JM Pu;have MN:(((k:Int)==(s:Int)/64)=true/\IntKind.u64.wrap ((X:Int)/2 ^ (s%64)*2 ^ (s%64))=(Y:Int))∨(((k:Int)==(s:Int)/64)=false/\X=Y):=by
     rcases hG with ⟨hk,hcut⟩|⟨hk,NG⟩
     ·left;exact⟨by simp;omega,hcut⟩
     ·right;exact⟨by simp;omega,NG⟩
    clear hG;by_cases Cm:64*k+t<n
    ·have Gw:(k:Int)*64+t<n:=by omega
     have Bi:Hid (Q2f m.bits on s=some (64*k+t)):=by
      refine HF.out _ Cm ?_ ?_ ?_
      ·have:=Rt.out;unfold cutF at this;simp at this;exact this.1
      ·have:=Rt.out;unfold cutF Q0T at this;simp at this;exact this.2
      ·intro i h1 h2 h3;by_cases h5:i<64*k
       ·exact O5.out i h1 h5 (by omega) h3
       ·have:=QK.out (i-64*k) (by omega);unfold cutF Q0T at this;rw[show 64*k+(i-64*k)=i from by omega] at this;simp[h1,h3] at this
     rcases MN with ⟨AJ,hcut⟩|⟨AJ,rfl⟩
     all_goals
      go_wp2_with fail;refine OZ.mono ?_;rintro e w'⟨rfl,rfl⟩;go_wp2_with fail;go_ret;refine⟨?_,rfl⟩;rw[Bi.out];show Ending.returned (.int .i64 ((k:Int)*64+t))=.returned (.int .i64 ((64*k+t:Nat):Int));congr 2;omega
    ·have Gw:¬(k:Int)*64+t<n:=by omega
     have Ph:decide ((k:Int)*64+t<n)=false:=by simpa using Gw
     rcases MN with ⟨AJ,hcut⟩|⟨AJ,rfl⟩
     all_goals
      go_wp2_with fail;refine OZ.mono ?_;rintro e w'⟨rfl,rfl⟩;go_wp2_with fail
      go_round
      case rel=>exact⟨k+1,by go_num,by omega,G8,Ht.out fun j h1 h2=>QK.out j (by omega)⟩
      case measure=>simp[intOf];omega
  ·have AS:Q2f m.bits on s=none:=HN.out fun i h1 h2=>O5.out i h1 (by omega) h2
   have Bi:=Q0a AS;clear AS;have Gu:¬(k:Int)*64<n:=by omega
   have Ty:decide ((k:Int)*64<n)=false:=by simpa using Gu
   go_wp2_with fail;refine k1.mono ?_;rintro e w'⟨rfl,rfl⟩;go_wp2_with fail;go_ret;exact⟨by rw[Bi.out];rfl,rfl⟩
def cntB(bits:List Bool):Nat:=(bits.filter id).length
theorem Z1E(bits:List Bool):∀n,cnt (fun j=>bits[j]?.getD false) n=cntB (bits.take n)
 | 0=>by simp[cnt,cntB]
 | n+1=>by
  simp only[cnt];rw[Z1E bits n,J4Y];cases h:bits[n]? with
  | none=>simp[cntB]
  | some b=>cases b <;> simp[cntB,List.filter_append]
theorem Z1F(bits:List Bool)(n:Nat)(h:bits.length<=n):cnt (fun j=>bits[j]?.getD false) n=cntB bits:=by
 rw[Z1E,J5a h]
theorem cntB_zero{bits:List Bool}:cntB bits=0↔∀b∈bits,b=false:=by
 unfold cntB;rw[J5b,J5c];simp
theorem Q5U{w:World}{m:BM}(h:Sep w m.hl)(hn:m.bits.length<=1048576) :
  Calls prog 144 #[.pointer (some ⟨m.b,0,none⟩)] w fun r w'=>r=.returned (.int .i64 (cntB m.bits))/\w=w':=by
 have k1:=Q2B h;have c1:=BM.c1 h;have HW:=Q0a (fun k hk=>BM.wcell h k hk);have HC:=Q0a (Z1F m.bits (64*Q0j m.bits.length) (by unfold Q0j;omega));have HA:=Q0a (show ∀k,cnt (fun j=>m.bits[j]?.getD false) (64*(k+1))=cnt (fun j=>m.bits[j]?.getD false) (64*k)+cnt (Q0T m.bits k) 64 from fun k=>by rw[Nat.mul_add,J4i,cnt_add];rfl);have HB:=Q0a (show ∀k,cnt (fun j=>m.bits[j]?.getD false) (64*k)<=64*k from fun k=>Q3Z _ _);have Ug:Q0j m.bits.length<=20000:=by unfold Q0j;omega
 clear h;generalize Ac:m.bits.length=n at *
 have Kk:((n:Int)+64-1)/64=(Q0j n:Nat):=by unfold Q0j;omega
 clear Ac;generalize Q0j n=nw at *
 go_enter func144,ntmps144;go_wp2_with fail;refine k1.mono ?_;rintro e w'⟨rfl,rfl⟩;go_wp2_with fail;simp only[Kk]
 go_loop [3,10] (fun cv kv=>∃k:Nat,kv=.int .i64 k/\k<=nw/\cv=.int .i64 (cnt (fun j=>m.bits[j]?.getD false) (64*k):Nat)) (fun _ kv=>nw-(intOf kv).toNat)
 case atStart=>exact⟨0,rfl,by omega,rfl⟩
 case round =>
  obtain⟨k,rfl,hk,rfl⟩:=hrel;have hA:=HA.out k;have hB:=HB.out k;have Tx:=Q0a hA;clear hA;generalize hc:cnt (fun j=>m.bits[j]?.getD false) (64*k)=c at *
  have Dq:=Q0a hc;clear hc;by_cases Ab:k<nw
  ·have cw:=HW.out k Ab;have V6:=Q3Z (Q0T m.bits k) 64;have D0:=Q7j (w:=w) (Q0T m.bits k);generalize Q0l (Q0T m.bits k) 64=x at *
   generalize cnt (Q0T m.bits k) 64=d at *
   go_wp2_with (go_at_call 188;refine D0.mono ?_;rintro e w'⟨rfl,rfl⟩)
   go_round
   case rel=>exact⟨k+1,by go_num,by omega,by rw[Tx.out];go_num⟩
   case measure=>simp[intOf];omega
  ·obtain rfl:k=nw:=by omega
   go_wp2_with fail;go_ret;exact⟨by rw[<- HC.out,Dq.out];rfl,rfl⟩
def J1V(n:Nat)(H:HL)(w:World)(r:Ending)(w':World):Prop:=∃m:BM,r=.returned (.pointer (some ⟨m.b,0,none⟩))/\m.bits=List.replicate n false/\Step H (m.hl++H) w w'
theorem Z2O(n:Nat):Q4a (List.replicate n false)=List.replicate (Q0j n) (.int .u64 0):=by
 unfold Q4a;rw[J3l]
 apply J4K
 intro k;by_cases hk:k<Q0j n
 ·rw[J4N,J4P hk,J5d,if_pos hk];have:Q0l (Q0T (List.replicate n false) k) 64=0:=by
   rw[wordN_zero];intro j _;unfold Q0T;rw[J5d];split <;> rfl
  simp[this]
 ·rw[J4R (by simp;omega),J4R (by simp;omega)]
theorem infou64:(prog.info? 83).map (fun i=>(i.zero,i.size,i.bytes))=some (some (.int .u64 0),1,8):=by kernel_rfl
theorem Q8K{w:World}{H:HL}(h:Sep w H)(n:Nat)(hn:n<=1048576):Calls prog 126 #[.int .i64 n] w (J1V n H w):=by
 have Kk:((n:Int)+64-1)/64=(Q0j n:Nat):=by unfold Q0j;omega
 have Ug:Q0j n<=20000:=by unfold Q0j;omega
 have HR:Hid (J1V n H w (.returned (.pointer (some ⟨w.heap.size+1,0,none⟩))) ((w.alloc (.cells (List.replicate (Q0j n) (Value.int .u64 0)).toArray 83)).alloc (.cells (Array.mk [.int .i64 n,.slice (some ⟨w.heap.size,0,none⟩) (Q0j n) (Q0j n)]) 245))):=by
  have s1:=h.new 83 (List.replicate (Q0j n) (Value.int .u64 0));have s2:=s1.sep.new 245 [.int .i64 n,.slice (some ⟨w.heap.size,0,none⟩) (Q0j n) (Q0j n)];refine⟨⟨w.heap.size+1,w.heap.size,List.replicate n false⟩,rfl,rfl,?_⟩;have:=s1.trans s2
  simpa[BM.hl,Z2O] using this
 clear h;obtain⟨i0,hi,Bx,AX,AU⟩:=info_parts infou64;have V7:=Q5p (P:=prog) (w:=w) 82 83 i0 (.int .u64 0) 8 underlying82 hi Bx AX AU rfl (Q0j n) (by omega) (by omega);clear hi Bx AX AU;generalize Q0j n=nw at *
 generalize (List.replicate nw (Value.int .u64 0)).toArray=arr at *
 go_enter func126,ntmps126
 go_wp2
 go_ret;exact HR.out
abbrev RV:=Option (Nat×Nat)
def lvOf(rv:RV)(n:Nat):Value:=match rv with
 | none=>.slice none 0 0
 | some (g,cap)=>.slice (some ⟨g,0,none⟩) n cap
def rowH(rv:RV)(T:TypeId)(size:Nat)(xs:List Value):HL:=match rv with
 | none=>[]
 | some (g,cap)=>[(g,isR T (cap*size) xs)]
def rvOk(rv:RV)(n:Nat):Prop:=match rv with
 | none=>n=0
 | some (_,cap)=>n<=cap/\cap<=maxLen
theorem Q4t{w:World}{rv:RV}{T:TypeId}{size n:Nat}{xs:List Value}(h:Sep w (rowH rv T size xs))(Bg:rvOk rv n)(hl:xs.length=n*size):w.ownsRow 0 T size (lvOf rv n) n xs:=by
 refine⟨hl,?_⟩;cases rv with
 | none=>exact .inl ⟨rfl,Bg⟩
 | some p =>
  obtain⟨g,cap⟩:=p;obtain⟨o,ho,Ag,rfl,hn,hr⟩:=h.get (b:=g) (q:=isR T (cap*size) xs) (by simp[rowH]);refine .inr ⟨g,cap,Ag,rfl,J5e _,ho,Bg.1,Bg.2,hn,?_⟩;rw[<- hl];exact hr
theorem Q0G{w:World}{g cap:Nat}{T:TypeId}{size:Nat}{xs:List Value}(h:Sep w (rowH (some (g,cap)) T size xs))(j:Nat)(v:Value)(hv:xs[j]?=some v):w.cell? ⟨g,j,none⟩=some v:=by
 obtain⟨ds,hc,_,ht⟩:=h.row (b:=g) (T:=T) (n:=cap*size) (cs:=xs) (by simp[rowH]);refine hc.cell j v ?_;rw[<- ht] at hv;rw[J5f] at hv;split at hv
 ·exact hv
 ·cases hv
theorem Q1p{w w':World}{A B:HL}{rv:RV}{T:TypeId}{size n n':Nat}{xs ys:List Value}{v':Value}(h:Sep w (A++rowH rv T size xs++B))(ho:w'.ownsRow 0 T size v' n' ys)(hg:w.grownBy w' (lvOf rv n).ownBlock)
  (hb:v'.ownBlock=(lvOf rv n).ownBlock∨v'.ownBlock=some w.heap.size):∃rv',v'=lvOf rv' n'/\rvOk rv' n'/\Step (A++rowH rv T size xs++B) (A++rowH rv' T size ys++B) w w':=by
 obtain⟨hl,ho⟩:=ho
 -- what A and B have is as it was
 have Lb:Sep w (A++B):=h.sub (by
  refine J5g ?_ (J5h _);exact J3R _ _)
 have notin:∀g cap,rv=some (g,cap)->g∉keys (A++B):=by
  rintro g cap rfl hm;have AO:=h.nd;simp only[keys_append,rowH,keys_cons,keys_nil] at AO hm;have h1:=J3V.1 AO;have h2:=J3V.1 h1.1;rcases J3Q.1 hm with hm|hm
  ·exact h2.2.2 g hm g (by simp) rfl
  ·exact h1.2.2 g (by simp) g hm rfl
 have keep:∀b∈keys (A++B),w'.heap[b]?=w.heap[b]?:=by
  intro b Al;refine hg.block b (Lb.lt Al) fun e=>?_
  cases rv with
  | none=>cases e
  | some p=>obtain⟨g,cap⟩:=p;cases e;exact notin _ _ rfl Al
 have DJ:Chg (fun b=>b∈keys (A++rowH rv T size xs++B)) w w':=⟨hg.os,hg.tape,hg.output,hg.size,fun k hk hF=>hg.block k hk fun e=>hF (by
  cases rv with
  | none=>cases e
  | some p=>obtain⟨g,cap⟩:=p;cases e;simp[rowH])⟩
 have DC:=h.env.chg DJ h.hi;have K1:=Lb.same keep DC;rcases ho with ⟨rfl,h0⟩|⟨g',BG,Ag,rfl,_,hh,D1,hm,Be,AW⟩
 ·subst h0;refine⟨none,rfl,rfl,?_,DJ,?_⟩
  ·simpa[rowH] using K1
  ·intro b Al;left;simp only[rowH,J5i,keys_append,J3Q] at Al ⊢;rcases Al with Al|Al
   ·exact .inl (.inl Al)
   ·exact .inr Al
 ·have CX:g'∉keys (A++B)/\(g'∈keys (A++rowH rv T size xs++B)∨w.heap.size<=g'):=by
   rcases hb with e|e
   ·cases rv with
    | none=>cases e
    | some p =>
     obtain⟨g,cap⟩:=p;have:g'=g:=J3Z e;subst this;exact⟨notin _ _ rfl,.inl (by simp[rowH])⟩
   ·have:g'=w.heap.size:=J3Z e;subst this;exact⟨fun Cf=>by have:=Lb.lt Cf;omega,.inr (J3b _)⟩
  refine⟨some (g',BG),rfl,⟨D1,hm⟩,⟨?_,?_,?_,DC⟩,DJ,?_⟩
  ·have AO:=Lb.nd;simp only[keys_append,rowH,keys_cons,keys_nil] at AO CX ⊢;have h1:=J3V.1 AO;rw[J3V];refine⟨?_,h1.2.1,?_⟩
   ·rw[J3V];refine⟨h1.1,by simp,?_⟩;intro a ha b Al e;simp at Al;subst Al;subst e;exact CX.1 (J3X _ ha)
   ·intro a ha b Al e;subst e;rcases J3Q.1 ha with ha|ha
    ·exact h1.2.2 a ha a Al rfl
    ·simp at ha;subst ha;exact CX.1 (J3W _ Al)
  ·intro p hp;rcases J3Q.1 hp with hp|hp
   ·rcases J3Q.1 hp with hp|hp
    ·exact K1.at' p (by simp[hp])
    ·simp[rowH] at hp;subst hp;exact⟨_,hh,Ag,rfl,Be,by rw[hl];exact AW⟩
   ·exact K1.at' p (by simp[hp])
  ·intro b Al;simp only[keys_append,rowH,keys_cons,keys_nil,J3Q,J5j] at Al;rcases Al with (Al|Al)|Al
   ·exact Lb.hi b (by simp[Al])
   ·subst Al;rcases CX.2 with h2|h2
    ·exact h.hi _ h2
    ·exact J3c h.env.gb h2
   ·exact Lb.hi b (by simp[Al])
  ·intro b Al;simp only[keys_append,rowH,keys_cons,keys_nil,J3Q,J5j] at Al;rcases Al with (Al|Al)|Al
   ·left;simp[Al]
   ·subst Al;exact CX.2
   ·left;simp[Al]
end Go.Proofs.YtfidemmgofcnmaaGreatDoor
