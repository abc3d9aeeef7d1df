/- SpaceItems returns true at every input. No condition. Part of its proof. -/
import Derived.Test.YtlakjlmaboioiaaGreatDoorSi01
import Derived.Deep.RegionHeld3
import Derived.Maps.AppendAt
set_option maxHeartbeats 2000000
set_option maxRecDepth 100000
set_option linter.unusedVariables false
namespace Go.Proofs.YtlakjlmaboioiaaGreatDoor
open Go.Proofs.Tryz
def Q0k (f:Nat->Bool):Nat->Nat
 | 0=>0
 | n+1=>Q0k f n+2 ^ n*(f n).toNat
theorem Q0A (f:Nat->Bool) (n:Nat):Q0k f n<2 ^ n:=by
 induction n with
 | zero=>simp [Q0k]
 | succ n ih =>
  have:(f n).toNat<=1:=J1z _;have h2:2 ^ n*(f n).toNat<=2 ^ n*1:=Nat.mul_le_mul_left _ this;simp only [Q0k];rw [J1A];omega
theorem wordN_bit (f:Nat->Bool) (n j:Nat):(Q0k f n).testBit j=(decide (j<n)&&f j):=by
 induction n with
 | zero=>simp [Q0k]
 | succ n ih =>
  simp only [Q0k];rw [J1B,J1C _ (Q0A f n)];by_cases h:j<n
  ·rw [if_pos h,ih];simp [h];intro _;omega
  ·rw [if_neg h];by_cases h2:j=n
   ·subst h2;cases f j <;> simp
   ·have:(f n).toNat.testBit (j-n)=false:=J1D (J1E (J1z _) (Nat.one_lt_two_pow (by omega)));rw [this];simp;intro h3;omega
theorem Q2j {x n:Nat} (hx:x<2 ^ n) (f:Nat->Bool) (h:∀j,j<n->x.testBit j=f j):x=Q0k f n:=by
 apply J1F
 intro j;rw [wordN_bit];by_cases hj:j<n
 ·simp [hj,h j hj]
 ·rw [J1D (J0v hx (J1G (by omega) (by omega)))];simp [hj]
theorem Q1o (f g:Nat->Bool) (n:Nat) (h:∀j,j<n->f j=g j):Q0k f n=Q0k g n:=
 Q2j (Q0A f n) g fun j hj=>by rw [wordN_bit];simp [hj,h j hj]
theorem wordN_zero {f:Nat->Bool} {n:Nat}:Q0k f n=0↔∀j,j<n->f j=false:=by
 constructor
 ·intro h j hj;have:=wordN_bit f n j;rw [h] at this;simpa [hj] using this.symm
 ·intro h;have:=Q2j (x:=0) (J1H n) f (fun j hj=>by simp [h j hj]);exact this.symm
theorem Z5I (f:Nat->Bool) (s:Nat) (hs:s<64):(Q0k f 64/2 ^ s)&&&1=(f s).toNat:=by
 have h:=wordN_bit f 64 s;rw [Nat.testBit_eq_decide_div_mod_eq] at h;rw [Nat.and_one_is_mod];simp only [hs,decide_true,J1I] at h;cases hf:f s with
 | true=>rw [hf] at h;simpa using h
 | false=>rw [hf] at h;simp at h;simpa using h
theorem Z2Q (f:Nat->Bool) (s:Nat) (hs:s<64):Q0k f 64 ^^^ 2 ^ s=Q0k (fun j=>if j=s then !f j else f j) 64:=by
 refine Q2j (J1J (Q0A f 64) (J1K (by omega) hs)) _ fun j hj=>?_
 rw [J1L,wordN_bit,J1M];by_cases h:j=s
 ·subst h;simp [hj]
 ·have:¬s=j:=fun e=>h e.symm
  simp [hj,h,this]
theorem Z5J (f:Nat->Bool):Q0k f 64 ^^^ 18446744073709551615=Q0k (fun j=>!f j) 64:=by
 have hm:(18446744073709551615:Nat)=2 ^ 64-1:=by decide
 refine Q2j (J1J (Q0A f 64) (by decide)) _ fun j hj=>?_
 rw [J1L,wordN_bit,hm,Nat.testBit_two_pow_sub_one];simp [hj]
theorem Z5K (f:Nat->Bool) (s:Nat):Q0k f 64/2 ^ s*2 ^ s%18446744073709551616=Q0k (fun j=>decide (s<=j)&&f j) 64:=by
 have hlt:Q0k f 64/2 ^ s*2 ^ s<2 ^ 64:=J1E (Nat.div_mul_le_self _ _) (Q0A f 64);rw [J1N (by simpa using hlt)];refine Q2j hlt _ fun j hj=>?_
 rw [<- Nat.shiftLeft_eq,<- Nat.shiftRight_eq_div_pow,Nat.testBit_shiftLeft,Nat.testBit_shiftRight,wordN_bit];by_cases h:s<=j
 ·simp [h,show s+(j-s)=j by omega,hj]
 ·simp [h]
theorem Z5L (f:Nat->Bool) (t:Nat) (ht:t<64) (h:f t=true) (hl:∀j,j<t->f j=false):Q0k f 64&&&(18446744073709551616-Q0k f 64)=2 ^ t:=by
 have hlt:=Q0A f 64;have hdvd:2 ^ t ∣ Q0k f 64:=by
  rw [Nat.dvd_iff_mod_eq_zero];have:Q0k f 64%2 ^ t=0:=by
   apply J1F
   intro j;rw [Nat.testBit_mod_two_pow,wordN_bit];by_cases hj:j<t
   ·simp [hj,hl j hj]
   ·simp [hj]
  exact this
 obtain⟨m,hm⟩:=hdvd;have hmo:m%2=1:=by
  have:=wordN_bit f 64 t;rw [hm,J1O] at this;simp [ht,h,Nat.testBit_zero] at this;exact this
 have e0:m=2*(m/2)+1:=by omega
 generalize hk:m/2=k at e0;subst e0;have hpos:0<2 ^ t:=J1H t;have e1:2 ^ t*(2*k+1)=2 ^ t*(2*k)+2 ^ t:=by rw [Nat.mul_add,J1y]
 have hlt2:2 ^ t*(2*k)+2 ^ t<2 ^ 64:=by rw [<- e1,<- hm];exact hlt
 rw [hm,show (18446744073709551616:Nat)=2 ^ 64 from by decide];have e2:2 ^ 64-2 ^ t*(2*k+1)=2 ^ 64-(2 ^ t*(2*k)+(2 ^ t-1)+1):=by rw [e1];congr 1;omega
 rw [e2]
 apply J1F
 intro j;rw [J1Q,Nat.testBit_two_pow_sub_succ (by omega),J1C _ (by omega),J1O,J1M];by_cases h1:j<t
 ·have:¬t=j:=by omega
  simp [h1,this]
 ·by_cases h2:j=t
  ·subst h2;simp [ht,Nat.testBit_zero]
  ·have h3:¬t=j:=by omega
   have h4:∀x,(2*k+x).testBit (j-t)=(2*k+x).testBit ((j-t-1)+1):=fun x=>by rw [show j-t-1+1=j-t by omega]
   have h5:=h4 0;have h6:=h4 1;rw [Nat.testBit_succ] at h5 h6;rw [J0C] at h5;rw [h6,h5,show (2*k+1)/2=k by omega,show 2*k/2=k by omega];simp [h3]
   intros;assumption
def cnt (f:Nat->Bool):Nat->Nat
 | 0=>0
 | n+1=>cnt f n+(f n).toNat
def rep (c:Nat):Nat->Nat
 | 0=>0
 | n+1=>c+256*rep c n
theorem Q2A (a b p q:Nat) (ha:a<256) (hp:p<256):(a+256*b)&&&(p+256*q)=(a&&&p)+256*(b&&&q):=by
 have h1:a&&&p<2 ^ 8:=J1R _ hp
 apply J1F
 intro j;rw [J1Q,J1B a,J1B p,J1B (a&&&p),show (256:Nat)=2 ^ 8 from rfl,J1C _ ha,J1C _ hp,J1C _ h1];split
 ·rw [J1Q]
 ·rw [J1Q]
def b1 (v:Nat):Nat:=(v/2&&&85)+(v&&&85)
def b2 (v:Nat):Nat:=(v/4&&&51)+(v&&&51)
def b3 (v:Nat):Nat:=(v/16+v)&&&15
def s1 (n x:Nat):Nat:=(x/2&&&rep 85 n)+(x&&&rep 85 n)
def s2 (n x:Nat):Nat:=(x/4&&&rep 51 n)+(x&&&rep 51 n)
def s3 (n x:Nat):Nat:=(x/16+x)&&&rep 15 n
theorem Z7Y:∀v,v<256->∀b,b<2->((v/2+128*b)&&&85)=v/2&&&85:=by decide +kernel
theorem Z7Z:∀v,v<256->∀b,b<4->((v/4+64*b)&&&51)=v/4&&&51:=by decide +kernel
theorem Z8a:∀v,v<256->∀l,l<5->(b2 (b1 v)/16+16*l+b2 (b1 v))<256/\((b2 (b1 v)/16+16*l+b2 (b1 v))&&&15)=b3 (b2 (b1 v)):=by decide +kernel
theorem b_lt:∀v,v<256->b1 v<256/\b2 (b1 v)<256/\b2 (b1 v)%16<5:=by decide +kernel
theorem J0f:∀v,v<256->b3 (b2 (b1 v))=cnt (fun j=>v.testBit j) 8:=by decide +kernel
theorem Z2R (n v r:Nat) (hv:v<256):s1 (n+1) (v+256*r)=b1 v+256*s1 n r:=by
 unfold s1 b1;have e:(v+256*r)/2=(v/2+128*(r%2))+256*(r/2):=by omega
 simp only [rep];rw [e,Q2A _ _ _ _ (by omega) (by omega),Q2A _ _ _ _ hv (by omega),Z7Y v hv _ (by omega)];omega
theorem Z2S (n v r:Nat) (hv:v<256):s2 (n+1) (v+256*r)=b2 v+256*s2 n r:=by
 unfold s2 b2;have e:(v+256*r)/4=(v/4+64*(r%4))+256*(r/4):=by omega
 simp only [rep];rw [e,Q2A _ _ _ _ (by omega) (by omega),Q2A _ _ _ _ hv (by omega),Z7Z v hv _ (by omega)];omega
theorem Z8b (n v r:Nat) (hv:v<256) (hr:r%16<5):s3 (n+1) (b2 (b1 v)+256*r)=b3 (b2 (b1 v))+256*s3 n r:=by
 obtain⟨_,h2,_⟩:=b_lt v hv;obtain⟨h3,h4⟩:=Z8a v hv (r%16) hr;unfold s3;simp only [rep];rw [show (b2 (b1 v)+256*r)/16+(b2 (b1 v)+256*r)=(b2 (b1 v)/16+16*(r%16)+b2 (b1 v))+256*(r/16+r) from by omega,Q2A _ _ _ _ h3 (by omega),h4]
def swar (n x:Nat):Nat:=s3 n (s2 n (s1 n x))
theorem Z1e:∀n x,s2 n (s1 n x)%16<5
 | 0,x=>by simp [s2,rep]
 | n+1,x=>by
  have e:x=x%256+256*(x/256):=by omega
  have hv:x%256<256:=by omega
  obtain⟨h1,h2,h3⟩:=b_lt _ hv;rw [e,Z2R _ _ _ hv,Z2S _ _ _ h1];omega
theorem Z2T (n v r:Nat) (hv:v<256):swar (n+1) (v+256*r)=b3 (b2 (b1 v))+256*swar n r:=by
 unfold swar;obtain⟨h1,h2,h3⟩:=b_lt v hv;rw [Z2R _ _ _ hv,Z2S _ _ _ h1,Z8b _ _ _ hv (Z1e _ _)]
theorem cnt_add (f:Nat->Bool) (a b:Nat):cnt f (a+b)=cnt f a+cnt (fun j=>f (a+j)) b:=by
 induction b with
 | zero=>simp [cnt]
 | succ b ih=>rw [<- J1S];simp only [cnt];rw [ih];omega
theorem Z2U {f g:Nat->Bool} (n:Nat) (h:∀j,j<n->f j=g j):cnt f n=cnt g n:=by
 induction n with
 | zero=>rfl
 | succ n ih=>simp only [cnt];rw [ih (fun j hj=>h j (by omega)),h n (by omega)]
theorem Q3t (f:Nat->Bool) (n:Nat):cnt f n<=n:=by
 induction n with
 | zero=>simp [cnt]
 | succ n ih=>simp only [cnt];have:=J1z (f n);omega
theorem Z2V (f:Nat->Bool) (n:Nat):Q0k f (8+n)=Q0k f 8+256*Q0k (fun j=>f (8+j)) n:=by
 symm
 have h1:=Q0A f 8;have h2:=Q0A (fun j=>f (8+j)) n;refine Q2j ?_ f fun j hj=>?_
 ·rw [J1T];have:(2:Nat) ^ 8=256:=by decide
  rw [this] at h1 ⊢;omega
 ·rw [J1B,show (256:Nat)=2 ^ 8 from rfl,J1C _ h1];split
  ·rw [wordN_bit];simp [*]
  ·rw [wordN_bit];have:j-8<n:=by omega
   simp [this,show 8+(j-8)=j by omega]
theorem Q1t (f:Nat->Bool) (n m:Nat):swar (n+1) (Q0k f (8+m))=cnt f 8+256*swar n (Q0k (fun j=>f (8+j)) m):=by
 have h:=Q0A f 8;rw [Z2V,Z2T _ _ _ h,J0f _ h];congr 1;exact Z2U 8 fun j hj=>by rw [wordN_bit];simp [hj]
theorem Q2k (a r:Nat) (h:a<256):(a+256*r)/256=r:=by omega
theorem Z5M (a r b s:Nat):(a+256*r)+(b+256*s)=(a+b)+256*(r+s):=by omega
theorem Z2W (c0 c1 c2 c3 c4 c5 c6 c7 x4 x5 x6:Nat) (l0:c0<=8) (l1:c1<=8) (l2:c2<=8) (l3:c3<=8) (l4:c4<=8) (l5:c5<=8) (l6:c6<=8) (l7:c7<=8)
  (h4:x4=((c0+256*(c1+256*(c2+256*(c3+256*(c4+256*(c5+256*(c6+256*c7)))))))+(c0+256*(c1+256*(c2+256*(c3+256*(c4+256*(c5+256*(c6+256*c7)))))))/256)%18446744073709551616)
  (h5:x5=(x4+x4/65536)%18446744073709551616) (h6:x6=(x5+x5/4294967296)%18446744073709551616) :
  x6%128=c0+c1+c2+c3+c4+c5+c6+c7:=by
 rw [Q2k _ _ (by omega)] at h4;have k4:x4=(c0+c1)+256*((c1+c2)+256*((c2+c3)+256*((c3+c4)+256*((c4+c5)+256*((c5+c6)+256*((c6+c7)+256*c7)))))):=by
  rw [h4,J1N (by omega)];omega
 clear h4;have q4:x4/65536=(c2+c3)+256*((c3+c4)+256*((c4+c5)+256*((c5+c6)+256*((c6+c7)+256*c7)))):=by
  rw [show (65536:Nat)=256*256 from rfl,<- J1U,k4,Q2k _ _ (by omega),Q2k _ _ (by omega)]
 rw [q4] at h5;clear q4;have k5:x5=(c0+c1+c2+c3)+256*((c1+c2+c3+c4)+256*((c2+c3+c4+c5)+256*((c3+c4+c5+c6)+256*((c4+c5+c6+c7)+256*((c5+c6+c7)+256*((c6+c7)+256*c7)))))):=by
  rw [h5,k4,J1N (by omega)];omega
 clear h5 k4;have q5:x5/4294967296=(c4+c5+c6+c7)+256*((c5+c6+c7)+256*((c6+c7)+256*c7)):=by
  rw [show (4294967296:Nat)=256*256*256*256 from rfl,<- J1U,<- J1U,<- J1U,k5,Q2k _ _ (by omega),Q2k _ _ (by omega),Q2k _ _ (by omega),Q2k _ _ (by omega)]
 rw [q5,k5,Z5M] at h6;clear q5 k5;have m:∀A R:Nat,A<128->(A+256*R)%18446744073709551616%128=A:=by intro A R hA;omega
 rw [h6,m _ _ (by omega)];omega
theorem Z5N (f:Nat->Bool) (x3 x4 x5 x6:Nat) (h3:x3=swar 8 (Q0k f 64)) (h4:x4=(x3+x3/256)%18446744073709551616) (h5:x5=(x4+x4/65536)%18446744073709551616) (h6:x6=(x5+x5/4294967296)%18446744073709551616) :
  x6%128=cnt f 64:=by
 have e:Q0k f 64=Q0k f (8+56):=rfl;have z:∀x,swar 0 x=0:=fun x=>by simp [swar,s3,rep]
 rw [e,Q1t f 7 56,show (56:Nat)=8+48 from rfl,Q1t _ 6 48,show (48:Nat)=8+40 from rfl,Q1t _ 5 40,show (40:Nat)=8+32 from rfl,Q1t _ 4 32,show (32:Nat)=8+24 from rfl,Q1t _ 3 24,
  show (24:Nat)=8+16 from rfl,Q1t _ 2 16,show (16:Nat)=8+8 from rfl,Q1t _ 1 8,show (Q0k (fun j=>f (8+(8+(8+(8+(8+(8+(8+j)))))))) 8)=(Q0k (fun j=>f (8+(8+(8+(8+(8+(8+(8+j)))))))) (8+0)) from rfl,Q1t _ 0 0,z,Nat.mul_zero,J0C] at h3
 have hc:cnt f 64=cnt f 8+cnt (fun j=>f (8+j)) 8+cnt (fun j=>f (8+(8+j))) 8+cnt (fun j=>f (8+(8+(8+j)))) 8+cnt (fun j=>f (8+(8+(8+(8+j))))) 8+cnt (fun j=>f (8+(8+(8+(8+(8+j)))))) 8+cnt (fun j=>f (8+(8+(8+(8+(8+(8+j))))))) 8+cnt (fun j=>f (8+(8+(8+(8+(8+(8+(8+j)))))))) 8:=by
  rw [show (64:Nat)=8+56 from rfl,cnt_add,show (56:Nat)=8+48 from rfl,cnt_add,show (48:Nat)=8+40 from rfl,cnt_add,show (40:Nat)=8+32 from rfl,cnt_add,show (32:Nat)=8+24 from rfl,cnt_add,show (24:Nat)=8+16 from rfl,cnt_add,show (16:Nat)=8+8 from rfl,cnt_add];simp only [J1S]
 rw [hc];rw [h3] at h4;exact Z2W _ _ _ _ _ _ _ _ x4 x5 x6 (Q3t _ 8) (Q3t _ 8) (Q3t _ 8) (Q3t _ 8) (Q3t _ 8) (Q3t _ 8) (Q3t _ 8) (Q3t _ 8) h4 h5 h6
open Go.RowKit
theorem Q3P (n:Int):IntKind.u64.wrap n=n%18446744073709551616:=by rw [IntKind.wrap_u64]
theorem Q2l (a b:Nat) (ha:a<2 ^ 64) (hb:b<2 ^ 64):bits BinOp.and IntKind.u64 (a:Int) (b:Int)=((a&&&b:Nat):Int):=by
 have h:(a&&&b)<2 ^ 64:=J1R _ hb;have e:((BitVec.ofInt 64 (a:Int))&&&(BitVec.ofInt 64 (b:Int))).toNat=a&&&b:=by
  rw [BitVec.ofInt_natCast,BitVec.ofInt_natCast,BitVec.toNat_and,BitVec.toNat_ofNat,BitVec.toNat_ofNat,J1N ha,J1N hb]
 unfold bits;show IntKind.u64.wrap (((BitVec.ofInt 64 (a:Int))&&&(BitVec.ofInt 64 (b:Int))).toNat:Int)=_;rw [e,Q3P];omega
theorem Q9Z (a b:Nat) (ha:a<2 ^ 64) (hb:b<2 ^ 64):bits BinOp.xor IntKind.u64 (a:Int) (b:Int)=((a ^^^ b:Nat):Int):=by
 have h:(a ^^^ b)<2 ^ 64:=J1J ha hb;have e:((BitVec.ofInt 64 (a:Int)) ^^^ (BitVec.ofInt 64 (b:Int))).toNat=a ^^^ b:=by
  rw [BitVec.ofInt_natCast,BitVec.ofInt_natCast,BitVec.toNat_xor,BitVec.toNat_ofNat,BitVec.toNat_ofNat,J1N ha,J1N hb]
 unfold bits;show IntKind.u64.wrap (((BitVec.ofInt 64 (a:Int)) ^^^ (BitVec.ofInt 64 (b:Int))).toNat:Int)=_;rw [e,Q3P];omega
theorem Z8c (a b:Nat) (ha:a<2 ^ 64) (hb:b<2 ^ 64):bits BinOp.or IntKind.u64 (a:Int) (b:Int)=((a|||b:Nat):Int):=by
 have h:(a|||b)<2 ^ 64:=Nat.or_lt_two_pow ha hb;have e:((BitVec.ofInt 64 (a:Int))|||(BitVec.ofInt 64 (b:Int))).toNat=a|||b:=by
  rw [BitVec.ofInt_natCast,BitVec.ofInt_natCast,BitVec.toNat_or,BitVec.toNat_ofNat,BitVec.toNat_ofNat,J1N ha,J1N hb]
 unfold bits;show IntKind.u64.wrap (((BitVec.ofInt 64 (a:Int))|||(BitVec.ofInt 64 (b:Int))).toNat:Int)=_;rw [e,Q3P];omega
theorem Z1f (a b:Nat) (ha:a<2 ^ 63) (hb:b<2 ^ 63):bits BinOp.and IntKind.i64 (a:Int) (b:Int)=((a&&&b:Nat):Int):=by
 have h:(a&&&b)<2 ^ 63:=J1R _ hb;have e:((BitVec.ofInt 64 (a:Int))&&&(BitVec.ofInt 64 (b:Int))).toNat=a&&&b:=by
  rw [BitVec.ofInt_natCast,BitVec.ofInt_natCast,BitVec.toNat_and,BitVec.toNat_ofNat,BitVec.toNat_ofNat,J1N (by omega),J1N (by omega)]
 unfold bits;show IntKind.i64.wrap (((BitVec.ofInt 64 (a:Int))&&&(BitVec.ofInt 64 (b:Int))).toNat:Int)=_;rw [e,IntKind.wrap_i64];omega
def o1 (x:Int):Int:=IntKind.u64.wrap (bits BinOp.and IntKind.u64 (x/2) 6148914691236517205+bits BinOp.and IntKind.u64 x 6148914691236517205)
def o2 (x:Int):Int:=IntKind.u64.wrap (bits BinOp.and IntKind.u64 (x/4) 3689348814741910323+bits BinOp.and IntKind.u64 x 3689348814741910323)
def o3 (x:Int):Int:=bits BinOp.and IntKind.u64 (IntKind.u64.wrap (x/16+x)) 1085102592571150095
def o4 (x:Int):Int:=IntKind.u64.wrap (x+x/256)
def o5 (x:Int):Int:=IntKind.u64.wrap (x+x/65536)
def o6 (x:Int):Int:=IntKind.u64.wrap (x+x/4294967296)
theorem Z2X:rep 85 8=6148914691236517205:=by decide
theorem Q8U:rep 51 8=3689348814741910323:=by decide
theorem Z8d:rep 15 8=1085102592571150095:=by decide
theorem Z9u (x:Nat) (hx:x<2 ^ 64):o1 x=(s1 8 x:Nat)/\s1 8 x<2 ^ 64:=by
 have h1:(x/2&&&rep 85 8)<=6148914691236517205:=Z2X ▸ J1V;have h2:(x&&&rep 85 8)<=6148914691236517205:=Z2X ▸ J1V;unfold o1 s1;rw [show ((x:Int)/2)=((x/2:Nat):Int) from by omega,show (6148914691236517205:Int)=((rep 85 8:Nat):Int) from by rw [Z2X];rfl,Q2l _ _ (by omega) (by rw [Z2X];decide),Q2l _ _ hx (by rw [Z2X];decide),Q3P];omega
theorem Z9v (x:Nat) (hx:x<2 ^ 64):o2 x=(s2 8 x:Nat)/\s2 8 x<2 ^ 64:=by
 have h1:(x/4&&&rep 51 8)<=3689348814741910323:=Q8U ▸ J1V;have h2:(x&&&rep 51 8)<=3689348814741910323:=Q8U ▸ J1V;unfold o2 s2;rw [show ((x:Int)/4)=((x/4:Nat):Int) from by omega,show (3689348814741910323:Int)=((rep 51 8:Nat):Int) from by rw [Q8U];rfl,Q2l _ _ (by omega) (by rw [Q8U];decide),Q2l _ _ hx (by rw [Q8U];decide),Q3P];omega
theorem Z9w (x:Nat) (hx:x<=2*3689348814741910323):o3 x=(s3 8 x:Nat)/\s3 8 x<2 ^ 64:=by
 have h1:((x/16+x)&&&rep 15 8)<=1085102592571150095:=Z8d ▸ J1V;unfold o3 s3;rw [show IntKind.u64.wrap ((x:Int)/16+x)=((x/16+x:Nat):Int) from by rw [Q3P];omega,show (1085102592571150095:Int)=((rep 15 8:Nat):Int) from by rw [Z8d];rfl,Q2l _ _ (by omega) (by rw [Z8d];decide)];omega
theorem J0g (x:Nat):s2 8 x<=2*3689348814741910323:=by
 have h1:(x/4&&&rep 51 8)<=3689348814741910323:=Q8U ▸ J1V;have h2:(x&&&rep 51 8)<=3689348814741910323:=Q8U ▸ J1V;unfold s2;omega
theorem Z8e (f:Nat->Bool):o6 (o5 (o4 (o3 (o2 (o1 (Q0k f 64))))))%128=(cnt f 64:Nat)/\0<=o6 (o5 (o4 (o3 (o2 (o1 (Q0k f 64))))))/\o6 (o5 (o4 (o3 (o2 (o1 (Q0k f 64))))))<18446744073709551616:=by
 obtain⟨e1,b1⟩:=Z9u _ (Q0A f 64);rw [e1];obtain⟨e2,b2⟩:=Z9v _ b1;rw [e2];obtain⟨e3,b3⟩:=Z9w _ (J0g (s1 8 (Q0k f 64)));rw [e3];have h:=Z5N f _ _ _ _ rfl rfl rfl rfl;rw [<- h];have e4:o4 ((s3 8 (s2 8 (s1 8 (Q0k f 64))):Nat):Int)=(((swar 8 (Q0k f 64))+(swar 8 (Q0k f 64))/256)%18446744073709551616:Nat):=by
  unfold o4;rw [Q3P];show ((swar 8 (Q0k f 64):Nat)+(swar 8 (Q0k f 64):Nat)/256:Int)%_=_;omega
 rw [e4];generalize ((swar 8 (Q0k f 64))+(swar 8 (Q0k f 64))/256)%18446744073709551616=y;have e5:o5 (y:Int)=((y+y/65536)%18446744073709551616:Nat):=by unfold o5;rw [Q3P];omega
 rw [e5];generalize (y+y/65536)%18446744073709551616=z;have e6:o6 (z:Int)=((z+z/4294967296)%18446744073709551616:Nat):=by unfold o6;rw [Q3P];omega
 rw [e6];omega
theorem J0h (y:Int) (h0:0<=y) (h1:y<18446744073709551616):bits BinOp.and IntKind.i64 (wrap64 y) 127=y%128:=by
 obtain⟨n,rfl⟩:=J1W h0;have e:((BitVec.ofInt 64 (wrap64 (n:Int)))&&&(BitVec.ofInt 64 (127:Int))).toNat=n%128:=by
  rw [BitVec.toNat_and,BitVec.toNat_ofInt,show (BitVec.ofInt 64 (127:Int)).toNat=2 ^ 7-1 from by decide,J1X];unfold wrap64;omega
 unfold bits;show IntKind.i64.wrap (((BitVec.ofInt 64 (wrap64 (n:Int)))&&&(BitVec.ofInt 64 (127:Int))).toNat:Int)=_;rw [e,IntKind.wrap_i64];omega
theorem Q6o {w:World} (f:Nat->Bool) :
  Calls prog 256 #[.int .u64 (Q0k f 64)] w fun r w'=>r=.returned (.int .i64 (cnt f 64))/\w=w':=by
 have hx:=Q0A f 64;have HE:=Q0a (Z8e f);generalize Q0k f 64=x at hx HE;go_enter func256,ntmps256
 go_wp2
 go_ret;refine⟨?_,rfl⟩;show Ending.returned (.int .i64 (bits BinOp.and IntKind.i64 (wrap64 (o6 (o5 (o4 (o3 (o2 (o1 x))))))) 127))=_;obtain⟨h1,h2,h3⟩:=HE.out;rw [J0h _ h2 h3,h1]
theorem Z8f (x m t:Nat) (hx:x<2 ^ 64) (h0:x≠0) (hm:x&&&(18446744073709551616-x)=m) (hmt:m=2 ^ t) :
  IntKind.u64.wrap (bits BinOp.and IntKind.u64 (x:Int) (IntKind.u64.wrap (-(x:Int)))*285870213051353865)/288230376151711744=((dbi t:Nat):Int):=by
 have e1:IntKind.u64.wrap (-(x:Int))=((18446744073709551616-x:Nat):Int):=by rw [Q3P];omega
 rw [e1,Q2l _ _ hx (by omega),hm,Q3P];unfold dbi;rw [<- hmt];omega
theorem Z5O {w:World} (x:Nat) (d:Nat) (t:Nat) (hV:IntKind.u64.wrap (bits BinOp.and IntKind.u64 (x:Int) (IntKind.u64.wrap (-(x:Int)))*285870213051353865)/288230376151711744=(d:Int)) (hne:((x:Int)==0)=false)
  (hd:d<64) (ht:t<64) (hc:w.cell? ⟨1,d,none⟩=some (.int .u8 t)) :
  Calls prog 211 #[.int .u64 x] w fun r w'=>r=.returned (.int .i64 t)/\w=w':=by
 go_enter func211,ntmps211
 go_wp2
 go_ret;exact⟨rfl,rfl⟩
theorem Z0a {w:World} (hT:TabB w) (f:Nat->Bool) (t:Nat) (ht:t<64) (h:f t=true) (hl:∀j,j<t->f j=false) :
  Calls prog 211 #[.int .u64 (Q0k f 64)] w fun r w'=>r=.returned (.int .i64 t)/\w=w':=by
 have hx0:Q0k f 64≠0:=by
  intro e;rw [wordN_zero] at e;rw [e t ht] at h;cases h
 have hm:=Z5L f t ht h hl;have hx:=Q0A f 64;generalize Q0k f 64=x at *
 obtain⟨hd1,hd2⟩:=Z7X t ht;exact Z5O x (dbi t) t (Z8f x _ t hx hx0 hm rfl) (by simp;omega) hd1 ht (hT _ _ hd2)
structure BM where
 b:Nat
 wb:Nat
 bits:List Bool
def Q0J (bits:List Bool) (k:Nat):Nat->Bool:=fun j=>bits[64*k+j]?.getD false
def Q0j (n:Nat):Nat:=(n+63)/64
def Q3u (bits:List Bool):List Value:=(List.range (Q0j bits.length)).map fun k=>.int .u64 (Q0k (Q0J bits k) 64:Nat)
def BM.hl (m:BM):HL:=[(m.b,isC 328 [.int .i64 m.bits.length,.slice (some ⟨m.wb,0,none⟩) (Q0j m.bits.length) (Q0j m.bits.length)]),(m.wb,isC 171 (Q3u m.bits))]
section
variable {w:World} {m:BM}
theorem BM.c0 (h:Sep w m.hl):w.cell? ⟨m.b,0,none⟩=some (.int .i64 m.bits.length):=(h.cells (T:=328) (cs:=[.int .i64 m.bits.length,.slice (some ⟨m.wb,0,none⟩) (Q0j m.bits.length) (Q0j m.bits.length)]) (by simp [BM.hl])).cell 0 _ rfl
theorem BM.c1 (h:Sep w m.hl):w.cell? ⟨m.b,1,none⟩=some (.slice (some ⟨m.wb,0,none⟩) (Q0j m.bits.length) (Q0j m.bits.length)):=(h.cells (T:=328) (cs:=[.int .i64 m.bits.length,.slice (some ⟨m.wb,0,none⟩) (Q0j m.bits.length) (Q0j m.bits.length)]) (by simp [BM.hl])).cell 1 _ rfl
theorem BM.wcell (h:Sep w m.hl) (k:Nat) (hk:k<Q0j m.bits.length):w.cell? ⟨m.wb,k,none⟩=some (.int .u64 (Q0k (Q0J m.bits k) 64:Nat)):=
 (h.cells (T:=171) (cs:=Q3u m.bits) (by simp [BM.hl])).cell k _ (by simp [Q3u,hk])
theorem BM.wfree (h:Sep w m.hl) (k:Nat):w.frozen? ⟨m.wb,k,none⟩=false:=(h.cells (T:=171) (cs:=Q3u m.bits) (by simp [BM.hl])).free k
end
theorem Q1Y {w:World} {m:BM} (h:Sep w m.hl):Calls prog 209 #[.pointer (some ⟨m.b,0,none⟩)] w fun r w'=>r=.returned (.int .i64 m.bits.length)/\w=w':=by
 have c0:=BM.c0 h;clear h;go_enter func209,ntmps209
 go_wp2
 go_ret;exact⟨rfl,rfl⟩
theorem Z2Y {w:World} {m:BM} (h:Sep w m.hl) (i:Int) (hi:i<0∨m.bits.length<=i):Calls prog 258 #[.pointer (some ⟨m.b,0,none⟩),.int .i64 i] w fun r w'=>r=.returned (.bool false)/\w=w':=by
 have k1:=Q1Y h;clear h;generalize m.bits.length=n at *
 rcases (show i<0∨0<=i by omega) with h0|h0
 ·have h1:¬0<=i:=by omega
  go_enter func258,ntmps258;go_wp2_with (go_at_call 209;refine k1.mono ?_;rintro e w' ⟨rfl,rfl⟩);go_ret;exact⟨rfl,rfl⟩
 ·have h1:¬i<n:=by omega
  have h2:decide (i<n)=false:=by simpa using h1
  go_enter func258,ntmps258;go_wp2_with (go_at_call 209;refine k1.mono ?_;rintro e w' ⟨rfl,rfl⟩);go_ret;exact⟨rfl,rfl⟩
theorem Q7a {w:World} {m:BM} (h:Sep w m.hl) (i:Nat) (hi:i<m.bits.length) (hn:m.bits.length<=1048576):Calls prog 258 #[.pointer (some ⟨m.b,0,none⟩),.int .i64 i] w fun r w'=>r=.returned (.bool (m.bits[i]?.getD false))/\w=w':=by
 have k1:=Q1Y h;have c1:=BM.c1 h;have hq:i/64<Q0j m.bits.length:=by unfold Q0j;omega
 have cw:=BM.wcell h (i/64) hq;have hg:=Z5I (Q0J m.bits (i/64)) (i%64) (by omega);have hx:=Q0A (Q0J m.bits (i/64)) 64;have HB:Hid (Q0J m.bits (i/64) (i%64)=m.bits[i]?.getD false):=by unfold Q0J;congr 2;omega
 clear h;generalize Q0k (Q0J m.bits (i/64)) 64=x at *
 generalize m.bits.length=n at *
 have hv:(bits BinOp.and IntKind.u64 ((x:Int)/2 ^ (i%64)) 1==1)=Q0J m.bits (i/64) (i%64):=by
  rw [show ((x:Int)/2 ^ (i%64))=((x/2 ^ (i%64):Nat):Int) from by push_cast;rfl,show (1:Int)=((1:Nat):Int) from rfl,Q2l _ _ (J1E (J1Y _ _) hx) (by decide),hg];cases Q0J m.bits (i/64) (i%64) <;> rfl
 go_enter func258,ntmps258;go_wp2_with (go_at_call 209;refine k1.mono ?_;rintro e w' ⟨rfl,rfl⟩);go_ret;exact⟨by rw [<- HB.out];rfl,rfl⟩
theorem Q1u (bits:List Bool) (i:Nat) (hi:i<bits.length) (on:Bool) (j:Nat):(bits.set i on)[j]?.getD false=if j=i then on else bits[j]?.getD false:=by
 rw [J1Z];by_cases h:i=j
 ·subst h;simp [hi]
 ·simp [h,show ¬j=i from fun e=>h e.symm]
theorem Z1g (bits:List Bool) (i:Nat) (hi:i<bits.length) (on:Bool) (hne:bits[i]?.getD false≠on) :
  (Q3u bits).set (i/64) (.int .u64 ((Q0k (Q0J bits (i/64)) 64 ^^^ 2 ^ (i%64):Nat)))=Q3u (bits.set i on):=by
 apply J2a
 intro k;have hq:i/64<Q0j bits.length:=by unfold Q0j;omega
 rw [J1Z];unfold Q3u;simp only [J2b,J2c,J2d,J2e];by_cases hk:i/64=k
 ·subst hk;simp only [if_true,hq,J2f hq,J2g];rw [Z2Q _ _ (by omega)];congr 3
  apply Q1o
  intro j hj;unfold Q0J;rw [Q1u _ _ hi];by_cases hj2:j=i%64
  ·subst hj2;have e:64*(i/64)+i%64=i:=by omega
   simp only [if_true,e];cases h1:bits[i]?.getD false <;> cases on <;> simp_all
  ·have e:¬64*(i/64)+j=i:=by omega
   simp [hj2,e]
 ·rw [if_neg hk];by_cases hkn:k<Q0j bits.length
  ·simp only [J2f hkn,J2g];congr 3
   apply Q1o
   intro j hj;unfold Q0J;rw [Q1u _ _ hi,if_neg (by omega)]
  ·rw [J2h (by simp;omega)];rfl
theorem BM.set (m:BM) {w:World} (h:Sep w m.hl) (i:Nat) (hi:i<m.bits.length) (on:Bool) (hne:m.bits[i]?.getD false≠on) :
  Step m.hl ({m with bits:=m.bits.set i on}:BM).hl w (w.setCell ⟨m.wb,i/64,none⟩ (.int .u64 ((Q0k (Q0J m.bits (i/64)) 64 ^^^ 2 ^ (i%64):Nat)))):=by
 have e:({m with bits:=m.bits.set i on}:BM).hl=[(m.b,isC 328 [.int .i64 m.bits.length,.slice (some ⟨m.wb,0,none⟩) (Q0j m.bits.length) (Q0j m.bits.length)])]++(m.wb,isC 171 ((Q3u m.bits).set (i/64) (.int .u64 ((Q0k (Q0J m.bits (i/64)) 64 ^^^ 2 ^ (i%64):Nat)))))::[]:=by
  rw [Z1g _ _ hi on hne];simp [BM.hl]
 rw [e];exact Sep.set (A:=[_]) (B:=[]) h (i/64) _
theorem Z1h {w:World} {m:BM} (h:Sep w m.hl) (on:Bool) (i:Nat) (hi:i<m.bits.length) (hn:m.bits.length<=1048576) (hs:m.bits[i]?.getD false=on) (g:Nat) (hg:w.cell? ⟨g,0,none⟩=some (.int .i64 i)) :
  Calls prog 223 #[.pointer (some ⟨m.b,0,none⟩),.bool on,.slice (some ⟨g,0,none⟩) 1 1] w fun r w'=>r=.returned (.int .i64 0)/\w=w':=by
 have k1:=Q1Y h;have k2:=Q7a h i hi hn;rw [hs] at k2;have hb:(on != on)=false:=by simp
 have hb2:(!on==on)=false:=by cases on <;> rfl
 clear h hs;generalize m.bits.length=n at *
 go_enter func223,ntmps223;go_wp2_with fail
 go_loop [7,12] (fun nv iv=>nv=.int .i64 0/\∃k:Nat,k<=1/\iv=.int .i64 k) (fun _ iv=>1-(intOf iv).toNat)
 case atStart=>exact⟨rfl,0,by omega,rfl⟩
 case round =>
  obtain⟨rfl,k,hk,rfl⟩:=hrel;by_cases h0:k=0
  ·subst h0;go_wp2_with (first|(go_at_call 209;refine k1.mono ?_;rintro e w' ⟨rfl,rfl⟩)|(go_at_call 258;refine k2.mono ?_;rintro e w' ⟨rfl,rfl⟩))
   go_round
   case rel=>exact⟨rfl,1,by omega,by go_num⟩
   case measure=>simp [intOf]
  ·obtain rfl:k=1:=by omega
   go_wp2_with fail;go_ret;exact⟨rfl,rfl⟩
theorem Q1Z {w:World} {m:BM} (h:Sep w m.hl) (on:Bool) (i:Nat) (hi:i<m.bits.length) (hn:m.bits.length<=1048576) (hs:m.bits[i]?.getD false≠on) (g:Nat) (hg:w.cell? ⟨g,0,none⟩=some (.int .i64 i)) (hgk:g∉keys m.hl) :
  Calls prog 223 #[.pointer (some ⟨m.b,0,none⟩),.bool on,.slice (some ⟨g,0,none⟩) 1 1] w fun r w'=>r=.returned (.int .i64 1)/\Step m.hl ({m with bits:=m.bits.set i on}:BM).hl w w':=by
 have k1:=Q1Y h;have k2:=Q7a h i hi hn;have hb:(m.bits[i]?.getD false != on)=true:=by simpa using hs
 have hb2:(!m.bits[i]?.getD false==on)=true:=by cases h1:m.bits[i]?.getD false <;> cases on <;> simp_all
 have HS:=Q0a (BM.set m h i hi on hs);have c1:=BM.c1 h;have hq:i/64<Q0j m.bits.length:=by unfold Q0j;omega
 have cw:=BM.wcell h (i/64) hq;have hf:=BM.wfree h (i/64);have hx:=Q0A (Q0J m.bits (i/64)) 64;have hp:2 ^ (i%64)<2 ^ 64:=J1K (by omega) (by omega);have hxor:=Q9Z (Q0k (Q0J m.bits (i/64)) 64) (2 ^ (i%64)) hx hp;have hd4:IntKind.u64.wrap (2 ^ (i%64))=((2 ^ (i%64):Nat):Int):=by
  have hd3:((2 ^ (i%64):Nat):Int)=2 ^ (i%64):=by push_cast;rfl
  rw [<- hd3,Q3P];refine Int.emod_eq_of_lt (Int.natCast_nonneg _) ?_;have:=Int.ofNat_lt.2 hp
  simpa using this
 clear h hs;generalize m.bits[i]?.getD false=old at *
 generalize Q0k (Q0J m.bits (i/64)) 64=x at *
 generalize (2:Nat) ^ (i%64)=p at *
 generalize x ^^^ p=y at *
 generalize hm2:({m with bits:=m.bits.set i on}:BM).hl=H' at *
 generalize m.hl=H at *
 generalize m.bits.length=n at *
 clear hm2 hx hp;go_enter func223,ntmps223;go_wp2_with fail
 go_loopw [7,12] (fun nv iv wr=>(nv=.int .i64 0/\iv=.int .i64 0/\wr=w)∨(nv=.int .i64 1/\iv=.int .i64 1/\Step H H' w wr)) (fun _ iv _=>1-(intOf iv).toNat)
 case atStart=>exact .inl ⟨rfl,rfl,rfl⟩
 case round =>
  rcases hrel with ⟨rfl,rfl,rfl⟩|⟨rfl,rfl,hst⟩
  ·go_wp2_with (first|(go_at_call 209;refine k1.mono ?_;rintro e w' ⟨rfl,rfl⟩)|(go_at_call 258;refine k2.mono ?_;rintro e w' ⟨rfl,rfl⟩));have hd1:(i:Int).tdiv 64=((i/64:Nat):Int):=by rw [J2i (by omega)];omega
   have hd2:(i:Int).tmod 64=((i%64:Nat):Int):=by rw [J2j (by omega)];omega
   go_region;go_wp2_with fail;go_roundw
   case rel=>exact .inr ⟨rfl,rfl,HS.out.drew⟩
   case measure=>simp [intOf]
  ·go_wp2_with fail;go_ret;exact⟨rfl,hst⟩
def Q1F (bits:List Bool) (on:Bool) (from_:Nat):Option Nat:=(List.range bits.length).find? fun j=>decide (from_<=j)&&((bits[j]?.getD false)==on)
def optI:Option Nat->Int
 | none=>-1
 | some j=>j
theorem Q5k {bits:List Bool} {on:Bool} {s j:Nat} (hj:j<bits.length) (hs:s<=j) (h:bits[j]?.getD false=on) (hp:∀i,s<=i->i<j->bits[i]?.getD false≠on):Q1F bits on s=some j:=by
 unfold Q1F;rw [J2k];refine⟨by simp [hs,h],by simpa using hj,fun i hi=>?_⟩;by_cases h1:s<=i
 ·simp [hp i h1 hi]
 ·simp [h1]
theorem Q5l {bits:List Bool} {on:Bool} {s:Nat} (hp:∀i,s<=i->i<bits.length->bits[i]?.getD false≠on):Q1F bits on s=none:=by
 unfold Q1F;rw [J2l];intro i hi;simp only [J0J] at hi;by_cases h1:s<=i
 ·simp [hp i h1 hi]
 ·simp [h1]
theorem Q2m {bits:List Bool} {on:Bool} {s j:Nat} (h:Q1F bits on s=some j):j<bits.length/\s<=j/\bits[j]?.getD false=on/\∀i,s<=i->i<j->bits[i]?.getD false≠on:=by
 unfold Q1F at h;rw [J2k] at h;obtain⟨h1,h2,h3⟩:=h;simp only [J0O,decide_eq_true_eq,beq_iff_eq] at h1;refine⟨by simpa using h2,h1.1,h1.2,fun i hi hij=>?_⟩;have:=h3 i hij
 simpa [hi] using this
theorem Z2Z {bits:List Bool} {on:Bool} {s:Nat} (h:Q1F bits on s=none):∀i,s<=i->i<bits.length->bits[i]?.getD false≠on:=by
 unfold Q1F at h;rw [J2l] at h;intro i hi hl;have:=h i (by simpa using hl)
 simpa [hi] using this
theorem Z1i {w:World} {m:BM} (h:Sep w m.hl) (on:Bool) (k:Nat) (hk:k<Q0j m.bits.length) :
  Calls prog 210 #[.pointer (some ⟨m.b,0,none⟩),.bool on,.int .i64 k] w fun r w'=>r=.returned (.int .u64 (Q0k (fun j=>Q0J m.bits k j==on) 64:Nat))/\w=w':=by
 have c1:=BM.c1 h;have cw:=BM.wcell h k hk;have hx:=Q0A (Q0J m.bits k) 64;have hnot:=Z5J (Q0J m.bits k);clear h;cases on with
 | true =>
  have e:Q0k (fun j=>Q0J m.bits k j==true) 64=Q0k (Q0J m.bits k) 64:=Q1o _ _ _ fun j _=>by simp
  rw [e];generalize Q0k (Q0J m.bits k) 64=x at *
  generalize Q0j m.bits.length=nw at *
  clear hnot e;go_enter func210,ntmps210
  go_wp2
  go_ret;exact⟨rfl,rfl⟩
 | false =>
  have e:Q0k (fun j=>Q0J m.bits k j==false) 64=Q0k (fun j=>!Q0J m.bits k j) 64:=Q1o _ _ _ fun j _=>by simp
  rw [e,<- hnot];generalize Q0k (Q0J m.bits k) 64=x at *
  generalize Q0j m.bits.length=nw at *
  clear hnot e;have hx2:bits BinOp.xor IntKind.u64 IntKind.u64.max (x:Int)=((x ^^^ 18446744073709551615:Nat):Int):=by
   rw [show IntKind.u64.max=((18446744073709551615:Nat):Int) from by decide,Q9Z _ _ (by decide) hx,Nat.xor_comm]
  have HX:=Q0a hx2;clear hx2;go_enter func210,ntmps210
  go_wp2
  go_ret;exact⟨by rw [<- HX.out];rfl,rfl⟩
def cutF (bits:List Bool) (on:Bool) (s k:Nat):Nat->Bool:=fun j=>decide (s<=64*k+j)&&(Q0J bits k j==on)
theorem Z5P (x s:Nat):IntKind.u64.wrap ((x:Int)/2 ^ s*2 ^ s)=((x/2 ^ s*2 ^ s%18446744073709551616:Nat):Int):=by
 rw [Q3P,Int.natCast_emod,J1w,J2m,J2n];rfl
theorem Z1j (bits:List Bool) (on:Bool) (s k:Nat) (hk:s/64<=k):∃X Y:Nat,Q0k (fun j=>Q0J bits k j==on) 64=X/\Y=Q0k (cutF bits on s k) 64 /\
  ((k=s/64/\IntKind.u64.wrap ((X:Int)/2 ^ (s%64)*2 ^ (s%64))=(Y:Int))∨(k≠s/64/\X=Y)):=by
 refine⟨_,_,rfl,rfl,?_⟩;by_cases h:k=s/64
 ·left;refine⟨h,?_⟩;rw [Z5P,Z5K];congr 1;refine Q1o _ _ _ fun j hj=>?_
  unfold cutF;congr 1;rw [decide_eq_decide];omega
 ·right;refine⟨h,Q1o _ _ _ fun j hj=>?_⟩;unfold cutF;have:s<=64*k+j:=by omega
  simp [this]
theorem tz64_zero {w:World}:Calls prog 211 #[.int .u64 0] w fun r w'=>r=.returned (.int .i64 64)/\w=w':=by
 go_enter func211,ntmps211
 go_wp2
 go_ret;exact⟨rfl,rfl⟩
theorem Z9x (f:Nat->Bool) (n:Nat):(∀j,j<n->f j=false)∨∃t,t<n/\f t=true/\∀j,j<t->f j=false:=by
 induction n with
 | zero=>left;intro j hj;omega
 | succ n ih =>
  rcases ih with h|⟨t,h1,h2,h3⟩
  ·cases hf:f n with
   | true=>exact .inr ⟨n,by omega,hf,h⟩
   | false=>left;intro j hj;rcases Nat.lt_succ_iff_lt_or_eq.1 hj with h'|h';exact h j h';subst h';exact hf
  ·exact .inr ⟨t,by omega,h2,h3⟩
theorem Q3A {w:World} {m:BM} (h:Sep w m.hl) (on:Bool) (s:Nat) (hs:s<=1048576) (hn:m.bits.length<=1048576) :
  Calls prog 132 #[.pointer (some ⟨m.b,0,none⟩),.bool on,.int .i64 s] w fun r w'=>r=.returned (.int .i64 (optI (Q1F m.bits on s)))/\w=w':=by
 have k1:=Q1Y h;have k2:=Q0a (fun k hk=>Z1i h on k hk);have c0:=BM.c0 h;have HT:=Q0a h.env.tabB;clear h;have HF:=Q0a (show ∀j,j<m.bits.length->s<=j->m.bits[j]?.getD false=on->(∀i,s<=i->i<j->m.bits[i]?.getD false≠on)->Q1F m.bits on s=some j from fun j h1 h2 h3 h4=>Q5k h1 h2 h3 h4);have HN:=Q0a (show (∀i,s<=i->i<m.bits.length->m.bits[i]?.getD false≠on)->Q1F m.bits on s=none from Q5l);generalize hlen:m.bits.length=n at *
 have HL:=Q0a hlen;clear hlen;go_enter func132,ntmps132;go_wp2_with fail
 go_loop [7] (fun kv=>∃k:Nat,kv=.int .i64 k/\s/64<=k/\k<=s/64+Q0j n/\∀i,s<=i->i<64*k->i<n->m.bits[i]?.getD false≠on) (fun kv=>s/64+Q0j n-(intOf kv).toNat)
 case atStart=>exact⟨s/64,by go_num,J0t _,by omega,by intro i h1 h2 _;omega⟩
 case round =>
  obtain⟨k,rfl,hk1,hk2,hpre⟩:=hrel;have HPr:=Q0a hpre;clear hpre;have hkb:k<=40000:=by unfold Q0j at hk2;omega
  by_cases hlt:k*64<n
  ·have hkw:k<Q0j n:=by unfold Q0j;omega
   go_wp2_with fail;refine k1.mono ?_;rintro e w' ⟨rfl,rfl⟩;go_wp2_with fail;refine (k2.out k hkw).mono ?_;rintro e w' ⟨rfl,rfl⟩;obtain⟨X,Y,hX,hY,hG⟩:=Z1j m.bits on s k hk1;rw [hX];have HY:=Q0a hY;have hYlt:Y<2 ^ 64:=by rw [hY];exact Q0A _ _
   clear hX hY;have hcase:(Y=0/\∀j,j<64->cutF m.bits on s k j=false)∨∃t,Y≠0/\t<64/\cutF m.bits on s k t=true/\∀j,j<t->cutF m.bits on s k j=false:=by
    rcases Z9x (cutF m.bits on s k) 64 with h|⟨t,h1,h2,h3⟩
    ·exact .inl ⟨by rw [HY.out];exact wordN_zero.2 h,h⟩
    ·refine .inr ⟨t,?_,h1,h2,h3⟩;intro e;rw [HY.out,wordN_zero] at e;rw [e t h1] at h2;cases h2
   have hnext:(∀j,j<64->64*k+j<n->cutF m.bits on s k j=false)->∀i,s<=i->i<64*(k+1)->i<n->m.bits[i]?.getD false≠on:=by
    intro hz i h1 h2 h3 h4;by_cases h5:i<64*k
    ·exact HPr.out i h1 h5 h3 h4
    ·have:=hz (i-64*k) (by omega) (by omega);unfold cutF Q0J at this;rw [show 64*k+(i-64*k)=i from by omega] at this;simp [h1,h4] at this
   have HNx:=Q0a hnext;clear hnext;have hne64:k+1<=s/64+Q0j n:=by unfold Q0j;omega
   rcases hcase with ⟨hY0,hz⟩|⟨t,hY0,ht,hgt,hgl⟩
   ·have Hz:=Q0a hz;clear hz hYlt;subst hY0;rcases hG with ⟨hk,hcut⟩|⟨hk,hXY⟩
    ·have hbk:((k:Int)==(s:Int)/64)=true:=by simp;omega
     have hcut':IntKind.u64.wrap ((X:Int)/2 ^ (s%64)*2 ^ (s%64))=0:=by simpa using hcut
     clear hcut hk;go_wp2_with fail;refine tz64_zero.mono ?_;rintro e w' ⟨rfl,rfl⟩;go_wp2_with fail
     go_round
     case rel=>exact⟨k+1,by go_num,by omega,hne64,HNx.out fun j h1 _=>Hz.out j h1⟩
     case measure=>simp [intOf];omega
    ·have hbk:((k:Int)==(s:Int)/64)=false:=by simp;omega
     have hX0:X=0:=hXY;subst hX0;clear hXY hk;go_wp2_with fail;refine tz64_zero.mono ?_;rintro e w' ⟨rfl,rfl⟩;go_wp2_with fail
     go_round
     case rel=>exact⟨k+1,by go_num,by omega,hne64,HNx.out fun j h1 _=>Hz.out j h1⟩
     case measure=>simp [intOf];omega
   ·have hTZ:=Z0a HT.out (cutF m.bits on s k) t ht hgt hgl;rw [<- HY.out] at hTZ;have hYb:((Y:Int) != 0)=true:=by simp;omega
    have hYb2:((Y:Int)==0)=false:=by simp;omega
    have Hgl:=Q0a hgl;have Hgt:=Q0a hgt;clear hgl hgt hY0;have hXY':(((k:Int)==(s:Int)/64)=true/\IntKind.u64.wrap ((X:Int)/2 ^ (s%64)*2 ^ (s%64))=(Y:Int))∨(((k:Int)==(s:Int)/64)=false/\X=Y):=by
     rcases hG with ⟨hk,hcut⟩|⟨hk,hXY⟩
     ·left;exact⟨by simp;omega,hcut⟩
     ·right;exact⟨by simp;omega,hXY⟩
    clear hG;by_cases hin:64*k+t<n
    ·have hin2:(k:Int)*64+t<n:=by omega
     have HFin:Hid (Q1F m.bits on s=some (64*k+t)):=by
      refine HF.out _ hin ?_ ?_ ?_
      ·have:=Hgt.out;unfold cutF at this;simp at this;exact this.1
      ·have:=Hgt.out;unfold cutF Q0J at this;simp at this;exact this.2
      ·intro i h1 h2 h3;by_cases h5:i<64*k
       ·exact HPr.out i h1 h5 (by omega) h3
       ·have:=Hgl.out (i-64*k) (by omega);unfold cutF Q0J at this;rw [show 64*k+(i-64*k)=i from by omega] at this;simp [h1,h3] at this
     rcases hXY' with ⟨hbk,hcut⟩|⟨hbk,rfl⟩
     all_goals
      go_wp2_with fail;refine hTZ.mono ?_;rintro e w' ⟨rfl,rfl⟩;go_wp2_with fail;go_ret;refine⟨?_,rfl⟩;rw [HFin.out];show Ending.returned (.int .i64 ((k:Int)*64+t))=.returned (.int .i64 ((64*k+t:Nat):Int));congr 2;omega
    ·have hin2:¬(k:Int)*64+t<n:=by omega
     have hin3:decide ((k:Int)*64+t<n)=false:=by simpa using hin2
     rcases hXY' with ⟨hbk,hcut⟩|⟨hbk,rfl⟩
     all_goals
      go_wp2_with fail;refine hTZ.mono ?_;rintro e w' ⟨rfl,rfl⟩;go_wp2_with fail
      go_round
      case rel=>exact⟨k+1,by go_num,by omega,hne64,HNx.out fun j h1 h2=>Hgl.out j (by omega)⟩
      case measure=>simp [intOf];omega
  ·have hfin:Q1F m.bits on s=none:=HN.out fun i h1 h2=>HPr.out i h1 (by omega) h2
   have HFin:=Q0a hfin;clear hfin;have hlt2:¬(k:Int)*64<n:=by omega
   have hlt3:decide ((k:Int)*64<n)=false:=by simpa using hlt2
   go_wp2_with fail;refine k1.mono ?_;rintro e w' ⟨rfl,rfl⟩;go_wp2_with fail;go_ret;exact⟨by rw [HFin.out];rfl,rfl⟩
def cntB (bits:List Bool):Nat:=(bits.filter id).length
theorem Z0b (bits:List Bool):∀n,cnt (fun j=>bits[j]?.getD false) n=cntB (bits.take n)
 | 0=>by simp [cnt,cntB]
 | n+1=>by
  simp only [cnt];rw [Z0b bits n,J2o];cases h:bits[n]? with
  | none=>simp [cntB]
  | some b=>cases b <;> simp [cntB,List.filter_append]
theorem Z0c (bits:List Bool) (n:Nat) (h:bits.length<=n):cnt (fun j=>bits[j]?.getD false) n=cntB bits:=by
 rw [Z0b,J2q h]
theorem cntB_zero {bits:List Bool}:cntB bits=0↔∀b∈bits,b=false:=by
 unfold cntB;rw [J2r,J2s];simp
theorem Q5m {w:World} {m:BM} (h:Sep w m.hl) (hn:m.bits.length<=1048576) :
  Calls prog 265 #[.pointer (some ⟨m.b,0,none⟩)] w fun r w'=>r=.returned (.int .i64 (cntB m.bits))/\w=w':=by
 have k1:=Q1Y h;have c1:=BM.c1 h;have HW:=Q0a (fun k hk=>BM.wcell h k hk);have HC:=Q0a (Z0c m.bits (64*Q0j m.bits.length) (by unfold Q0j;omega));have HA:=Q0a (show ∀k,cnt (fun j=>m.bits[j]?.getD false) (64*(k+1))=cnt (fun j=>m.bits[j]?.getD false) (64*k)+cnt (Q0J m.bits k) 64 from fun k=>by rw [Nat.mul_add,J1y,cnt_add];rfl);have HB:=Q0a (show ∀k,cnt (fun j=>m.bits[j]?.getD false) (64*k)<=64*k from fun k=>Q3t _ _);have hnw:Q0j m.bits.length<=20000:=by unfold Q0j;omega
 clear h;generalize hlen:m.bits.length=n at *
 have hdv:((n:Int)+64-1)/64=(Q0j n:Nat):=by unfold Q0j;omega
 clear hlen;generalize Q0j n=nw at *
 go_enter func265,ntmps265;go_wp2_with fail;refine k1.mono ?_;rintro e w' ⟨rfl,rfl⟩;go_wp2_with fail;simp only [hdv]
 go_loop [3,10] (fun cv kv=>∃k:Nat,kv=.int .i64 k/\k<=nw/\cv=.int .i64 (cnt (fun j=>m.bits[j]?.getD false) (64*k):Nat)) (fun _ kv=>nw-(intOf kv).toNat)
 case atStart=>exact⟨0,rfl,by omega,rfl⟩
 case round =>
  obtain⟨k,rfl,hk,rfl⟩:=hrel;have hA:=HA.out k;have hB:=HB.out k;have HA1:=Q0a hA;clear hA;generalize hc:cnt (fun j=>m.bits[j]?.getD false) (64*k)=c at *
  have HCc:=Q0a hc;clear hc;by_cases hlt:k<nw
  ·have cw:=HW.out k hlt;have hb64:=Q3t (Q0J m.bits k) 64;have h64:=Q6o (w:=w) (Q0J m.bits k);generalize Q0k (Q0J m.bits k) 64=x at *
   generalize cnt (Q0J m.bits k) 64=d at *
   go_wp2_with (go_at_call 256;refine h64.mono ?_;rintro e w' ⟨rfl,rfl⟩)
   go_round
   case rel=>exact⟨k+1,by go_num,by omega,by rw [HA1.out];go_num⟩
   case measure=>simp [intOf];omega
  ·obtain rfl:k=nw:=by omega
   go_wp2_with fail;go_ret;exact⟨by rw [<- HC.out,HCc.out];rfl,rfl⟩
def Z9y (n:Nat) (H:HL) (w:World) (r:Ending) (w':World):Prop:=∃m:BM,r=.returned (.pointer (some ⟨m.b,0,none⟩))/\m.bits=List.replicate n false/\Step H (m.hl++H) w w'
theorem Z1k (n:Nat):Q3u (List.replicate n false)=List.replicate (Q0j n) (.int .u64 0):=by
 unfold Q3u;rw [J0D]
 apply J2a
 intro k;by_cases hk:k<Q0j n
 ·rw [J2d,J2f hk,J2t,if_pos hk];have:Q0k (Q0J (List.replicate n false) k) 64=0:=by
   rw [wordN_zero];intro j _;unfold Q0J;rw [J2t];split <;> rfl
  simp [this]
 ·rw [J2h (by simp;omega),J2h (by simp;omega)]
theorem infou64:(prog.info? 171).map (fun i=>(i.zero,i.size,i.bytes))=some (some (.int .u64 0),1,8):=by kernel_rfl
theorem Q7E {w:World} {H:HL} (h:Sep w H) (n:Nat) (hn:n<=1048576):Calls prog 222 #[.int .i64 n] w (Z9y n H w):=by
 have hdv:((n:Int)+64-1)/64=(Q0j n:Nat):=by unfold Q0j;omega
 have hnw:Q0j n<=20000:=by unfold Q0j;omega
 have HR:Hid (Z9y n H w (.returned (.pointer (some ⟨w.heap.size+1,0,none⟩))) ((w.alloc (.cells (List.replicate (Q0j n) (Value.int .u64 0)).toArray 171)).alloc (.cells (Array.mk [.int .i64 n,.slice (some ⟨w.heap.size,0,none⟩) (Q0j n) (Q0j n)]) 328))):=by
  have s1:=h.new 171 (List.replicate (Q0j n) (Value.int .u64 0));have s2:=s1.sep.new 328 [.int .i64 n,.slice (some ⟨w.heap.size,0,none⟩) (Q0j n) (Q0j n)];refine⟨⟨w.heap.size+1,w.heap.size,List.replicate n false⟩,rfl,rfl,?_⟩;have:=s1.trans s2
  simpa [BM.hl,Z1k] using this
 clear h;obtain⟨i0,hi,hz0,hz1,hz2⟩:=info_parts infou64;have hmk:=Q4N (P:=prog) (w:=w) 326 171 i0 (.int .u64 0) 8 underlying326 hi hz0 hz1 hz2 rfl (Q0j n) (by omega) (by omega);clear hi hz0 hz1 hz2;generalize Q0j n=nw at *
 generalize (List.replicate nw (Value.int .u64 0)).toArray=arr at *
 go_enter func222,ntmps222
 go_wp2
 go_ret;exact HR.out
abbrev RV:=Option (Nat×Nat)
def lvOf (rv:RV) (n:Nat):Value:=match rv with
 | none=>.slice none 0 0
 | some (g,cap)=>.slice (some ⟨g,0,none⟩) n cap
def rowH (rv:RV) (T:TypeId) (size:Nat) (xs:List Value):HL:=match rv with
 | none=>[]
 | some (g,cap)=>[(g,isR T (cap*size) xs)]
def rvOk (rv:RV) (n:Nat):Prop:=match rv with
 | none=>n=0
 | some (_,cap)=>n<=cap/\cap<=maxLen
theorem Z0d {w:World} {rv:RV} {T:TypeId} {size n:Nat} {xs:List Value} (h:Sep w (rowH rv T size xs)) (hok:rvOk rv n) (hl:xs.length=n*size):w.ownsRow 0 T size (lvOf rv n) n xs:=by
 refine⟨hl,?_⟩;cases rv with
 | none=>exact .inl ⟨rfl,hok⟩
 | some p =>
  obtain⟨g,cap⟩:=p;obtain⟨o,ho,cur,rfl,hn,hr⟩:=h.get (b:=g) (q:=isR T (cap*size) xs) (by simp [rowH]);refine .inr ⟨g,cap,cur,rfl,J2u _,ho,hok.1,hok.2,hn,?_⟩;rw [<- hl];exact hr
theorem Q0U {w:World} {g cap:Nat} {T:TypeId} {size:Nat} {xs:List Value} (h:Sep w (rowH (some (g,cap)) T size xs)) (j:Nat) (v:Value) (hv:xs[j]?=some v):w.cell? ⟨g,j,none⟩=some v:=by
 obtain⟨ds,hc,_,ht⟩:=h.row (b:=g) (T:=T) (n:=cap*size) (cs:=xs) (by simp [rowH]);refine hc.cell j v ?_;rw [<- ht] at hv;rw [J2v] at hv;split at hv
 ·exact hv
 ·cases hv
theorem Q2B {w w':World} {A B:HL} {rv:RV} {T:TypeId} {size n n':Nat} {xs ys:List Value} {v':Value} (h:Sep w (A++rowH rv T size xs++B)) (ho:w'.ownsRow 0 T size v' n' ys) (hg:w.grownBy w' (lvOf rv n).ownBlock)
  (hb:v'.ownBlock=(lvOf rv n).ownBlock∨v'.ownBlock=some w.heap.size):∃rv',v'=lvOf rv' n'/\rvOk rv' n'/\Step (A++rowH rv T size xs++B) (A++rowH rv' T size ys++B) w w':=by
 obtain⟨hl,ho⟩:=ho
 -- what A and B have is as it was
 have hAB:Sep w (A++B):=h.sub (by
  refine J2w ?_ (J2x _);exact J1i _ _)
 have notin:∀g cap,rv=some (g,cap)->g∉keys (A++B):=by
  rintro g cap rfl hm;have hnd:=h.nd;simp only [keys_append,rowH,keys_cons,keys_nil] at hnd hm;have h1:=J1l.1 hnd;have h2:=J1l.1 h1.1;rcases J1h.1 hm with hm|hm
  ·exact h2.2.2 g hm g (by simp) rfl
  ·exact h1.2.2 g (by simp) g hm rfl
 have keep:∀b∈keys (A++B),w'.heap[b]?=w.heap[b]?:=by
  intro b hb';refine hg.block b (hAB.lt hb') fun e=>?_
  cases rv with
  | none=>cases e
  | some p=>obtain⟨g,cap⟩:=p;cases e;exact notin _ _ rfl hb'
 have hchg:Chg (fun b=>b∈keys (A++rowH rv T size xs++B)) w w':=⟨hg.os,hg.tape,hg.output,hg.size,fun k hk hF=>hg.block k hk fun e=>hF (by
  cases rv with
  | none=>cases e
  | some p=>obtain⟨g,cap⟩:=p;cases e;simp [rowH])⟩
 have henv:=h.env.chg hchg h.hi;have hsAB:=hAB.same keep henv;rcases ho with ⟨rfl,h0⟩|⟨g',cap',cur,rfl,_,hh,hle,hm,hsz,htk⟩
 ·subst h0;refine⟨none,rfl,rfl,?_,hchg,?_⟩
  ·simpa [rowH] using hsAB
  ·intro b hb';left;simp only [rowH,J2y,keys_append,J1h] at hb' ⊢;rcases hb' with hb'|hb'
   ·exact .inl (.inl hb')
   ·exact .inr hb'
 ·have hfresh:g'∉keys (A++B)/\(g'∈keys (A++rowH rv T size xs++B)∨w.heap.size<=g'):=by
   rcases hb with e|e
   ·cases rv with
    | none=>cases e
    | some p =>
     obtain⟨g,cap⟩:=p;have:g'=g:=J1p e;subst this;exact⟨notin _ _ rfl,.inl (by simp [rowH])⟩
   ·have:g'=w.heap.size:=J1p e;subst this;exact⟨fun hm'=>by have:=hAB.lt hm';omega,.inr (J0t _)⟩
  refine⟨some (g',cap'),rfl,⟨hle,hm⟩,⟨?_,?_,?_,henv⟩,hchg,?_⟩
  ·have hnd:=hAB.nd;simp only [keys_append,rowH,keys_cons,keys_nil] at hnd hfresh ⊢;have h1:=J1l.1 hnd;rw [J1l];refine⟨?_,h1.2.1,?_⟩
   ·rw [J1l];refine⟨h1.1,by simp,?_⟩;intro a ha b hb' e;simp at hb';subst hb';subst e;exact hfresh.1 (J1n _ ha)
   ·intro a ha b hb' e;subst e;rcases J1h.1 ha with ha|ha
    ·exact h1.2.2 a ha a hb' rfl
    ·simp at ha;subst ha;exact hfresh.1 (J1m _ hb')
  ·intro p hp;rcases J1h.1 hp with hp|hp
   ·rcases J1h.1 hp with hp|hp
    ·exact hsAB.at' p (by simp [hp])
    ·simp [rowH] at hp;subst hp;exact⟨_,hh,cur,rfl,hsz,by rw [hl];exact htk⟩
   ·exact hsAB.at' p (by simp [hp])
  ·intro b hb';simp only [keys_append,rowH,keys_cons,keys_nil,J1h,J2z] at hb';rcases hb' with (hb'|hb')|hb'
   ·exact hAB.hi b (by simp [hb'])
   ·subst hb';rcases hfresh.2 with h2|h2
    ·exact h.hi _ h2
    ·exact J0u h.env.gb h2
   ·exact hAB.hi b (by simp [hb'])
  ·intro b hb';simp only [keys_append,rowH,keys_cons,keys_nil,J1h,J2z] at hb';rcases hb' with (hb'|hb')|hb'
   ·left;simp [hb']
   ·subst hb';exact hfresh.2
   ·left;simp [hb']
end Go.Proofs.YtlakjlmaboioiaaGreatDoor
