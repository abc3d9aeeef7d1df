/- What the laws of spaces share is proved. No condition. Part of a proof. -/
import Derived.Test.YtfidemmgofcnmaaGreatDoorBz01
import Derived.Deep.RegionHeld3
import Derived.Maps.AppendAt
import Derived.IntWalk
set_option maxHeartbeats 4000000
set_option maxRecDepth 100000
set_option linter.unusedVariables false
namespace Go.Proofs.YtfidemmgofcnmaaGreatDoor
open Go.RowKit Go.Proofs.Tryz
structure BM where
 b:Nat
 wb:Nat
 bits:List Bool
def Q0J(bits:List Bool)(k:Nat):Nat->Bool:=fun j=>bits[64*k+j]?.getD false
def Q0j(n:Nat):Nat:=(n+63)/64
def Q3E(bits:List Bool):List Value:=(List.range (Q0j bits.length)).map fun k=>.int .u64 (Q0l (Q0J bits k) 64:Nat)
def BM.hl(m:BM):HL:=[(m.b,isC 245 [.int .i64 m.bits.length,.slice (some ⟨m.wb,0,none⟩) (Q0j m.bits.length) (Q0j m.bits.length)]),(m.wb,isC 83 (Q3E m.bits))]
section
variable {w:World} {m:BM}
theorem BM.c0(h:Sep w m.hl):w.cell? ⟨m.b,0,none⟩=some (.int .i64 m.bits.length):=(h.cells (T:=245) (cs:=[.int .i64 m.bits.length,.slice (some ⟨m.wb,0,none⟩) (Q0j m.bits.length) (Q0j m.bits.length)]) (by simp[BM.hl])).cell 0 _ rfl
theorem BM.c1(h:Sep w m.hl):w.cell? ⟨m.b,1,none⟩=some (.slice (some ⟨m.wb,0,none⟩) (Q0j m.bits.length) (Q0j m.bits.length)):=(h.cells (T:=245) (cs:=[.int .i64 m.bits.length,.slice (some ⟨m.wb,0,none⟩) (Q0j m.bits.length) (Q0j m.bits.length)]) (by simp[BM.hl])).cell 1 _ rfl
theorem BM.wcell(h:Sep w m.hl)(k:Nat)(hk:k<Q0j m.bits.length):w.cell? ⟨m.wb,k,none⟩=some (.int .u64 (Q0l (Q0J m.bits k) 64:Nat)):=
 (h.cells (T:=83) (cs:=Q3E m.bits) (by simp[BM.hl])).cell k _ (by simp[Q3E,hk])
theorem BM.wfree(h:Sep w m.hl)(k:Nat):w.frozen? ⟨m.wb,k,none⟩=false:=(h.cells (T:=83) (cs:=Q3E m.bits) (by simp[BM.hl])).free k
end
theorem Q2k{w:World}{m:BM}(h:Sep w m.hl):Calls prog 133 #[.pointer (some ⟨m.b,0,none⟩)] w fun r w'=>r=.returned (.int .i64 m.bits.length)/\w=w':=by
 have c0:=BM.c0 h;clear h;go_enter func133,ntmps133
 go_wp2
 go_ret;exact⟨rfl,rfl⟩
theorem Z4t{w:World}{m:BM}(h:Sep w m.hl)(i:Int)(hi:i<0∨m.bits.length<=i):Calls prog 190 #[.pointer (some ⟨m.b,0,none⟩),.int .i64 i] w fun r w'=>r=.returned (.bool false)/\w=w':=by
 have k1:=Q2k h;clear h;generalize m.bits.length=n at *
 rcases(show i<0∨0<=i by omega) with h0|h0
 ·have h1:¬0<=i:=by omega
  go_enter func190,ntmps190;go_wp2_with (go_at_call 133;refine k1.mono ?_;rintro e w'⟨rfl,rfl⟩);go_ret;exact⟨rfl,rfl⟩
 ·have h1:¬i<n:=by omega
  have h2:decide (i<n)=false:=by simpa using h1
  go_enter func190,ntmps190;go_wp2_with (go_at_call 133;refine k1.mono ?_;rintro e w'⟨rfl,rfl⟩);go_ret;exact⟨rfl,rfl⟩
theorem Q7J{w:World}{m:BM}(h:Sep w m.hl)(i:Nat)(hi:i<m.bits.length)(hn:m.bits.length<=1048576):Calls prog 190 #[.pointer (some ⟨m.b,0,none⟩),.int .i64 i] w fun r w'=>r=.returned (.bool (m.bits[i]?.getD false))/\w=w':=by
 have k1:=Q2k h;have c1:=BM.c1 h;have hq:i/64<Q0j m.bits.length:=by unfold Q0j;omega
 have cw:=BM.wcell h (i/64) hq;have hg:=Z7H (Q0J m.bits (i/64)) (i%64) (by omega);have hx:=Q0C (Q0J m.bits (i/64)) 64;have HB:Hid (Q0J m.bits (i/64) (i%64)=m.bits[i]?.getD false):=by unfold Q0J;congr 2;omega
 clear h;generalize Q0l (Q0J m.bits (i/64)) 64=x at *
 generalize m.bits.length=n at *
 have hv:(bits BinOp.and IntKind.u64 ((x:Int)/2 ^ (i%64)) 1==1)=Q0J m.bits (i/64) (i%64):=by
  rw[show((x:Int)/2 ^ (i%64))=((x/2 ^ (i%64):Nat):Int) from by push_cast;rfl,show(1:Int)=((1:Nat):Int) from rfl,Q2c _ _ (J4n (J4H _ _) hx) (by decide),hg];cases Q0J m.bits (i/64) (i%64) <;> rfl
 go_enter func190,ntmps190;go_wp2_with (go_at_call 133;refine k1.mono ?_;rintro e w'⟨rfl,rfl⟩);go_ret;exact⟨by rw[<- HB.out];rfl,rfl⟩
theorem Q1A(bits:List Bool)(i:Nat)(hi:i<bits.length)(on:Bool)(j:Nat):(bits.set i on)[j]?.getD false=if j=i then on else bits[j]?.getD false:=by
 rw[J4I];by_cases h:i=j
 ·subst h;simp[hi]
 ·simp[h,show ¬j=i from fun e=>h e.symm]
theorem Z2s(bits:List Bool)(i:Nat)(hi:i<bits.length)(on:Bool)(Ac:bits[i]?.getD false≠on) :
  (Q3E bits).set (i/64) (.int .u64 ((Q0l (Q0J bits (i/64)) 64 ^^^ 2 ^ (i%64):Nat)))=Q3E (bits.set i on):=by
 apply J4J
 intro k;have hq:i/64<Q0j bits.length:=by unfold Q0j;omega
 rw[J4I];unfold Q3E;simp only[J4K,J4L,J4M,J4N];by_cases hk:i/64=k
 ·subst hk;simp only[if_true,hq,J4O hq,J4P];rw[Z4l _ _ (by omega)];congr 3
  apply Q1r
  intro j hj;unfold Q0J;rw[Q1A _ _ hi];by_cases IJ:j=i%64
  ·subst IJ;have e:64*(i/64)+i%64=i:=by omega
   simp only[if_true,e];cases h1:bits[i]?.getD false <;> cases on <;> simp_all
  ·have e:¬64*(i/64)+j=i:=by omega
   simp[IJ,e]
 ·rw[if_neg hk];by_cases Do:k<Q0j bits.length
  ·simp only[J4O Do,J4P];congr 3
   apply Q1r
   intro j hj;unfold Q0J;rw[Q1A _ _ hi,if_neg (by omega)]
  ·rw[J4Q (by simp;omega)];rfl
theorem BM.set(m:BM){w:World}(h:Sep w m.hl)(i:Nat)(hi:i<m.bits.length)(on:Bool)(Ac:m.bits[i]?.getD false≠on) :
  Step m.hl ({m with bits:=m.bits.set i on}:BM).hl w (w.setCell ⟨m.wb,i/64,none⟩ (.int .u64 ((Q0l (Q0J m.bits (i/64)) 64 ^^^ 2 ^ (i%64):Nat)))):=by
 have e:({m with bits:=m.bits.set i on}:BM).hl=[(m.b,isC 245 [.int .i64 m.bits.length,.slice (some ⟨m.wb,0,none⟩) (Q0j m.bits.length) (Q0j m.bits.length)])]++(m.wb,isC 83 ((Q3E m.bits).set (i/64) (.int .u64 ((Q0l (Q0J m.bits (i/64)) 64 ^^^ 2 ^ (i%64):Nat)))))::[]:=by
  rw[Z2s _ _ hi on Ac];simp[BM.hl]
 rw[e];exact Sep.set (A:=[_]) (B:=[]) h (i/64) _
theorem Z2t{w:World}{m:BM}(h:Sep w m.hl)(on:Bool)(i:Nat)(hi:i<m.bits.length)(hn:m.bits.length<=1048576)(hs:m.bits[i]?.getD false=on)(g:Nat)(hg:w.cell? ⟨g,0,none⟩=some (.int .i64 i)) :
  Calls prog 127 #[.pointer (some ⟨m.b,0,none⟩),.bool on,.slice (some ⟨g,0,none⟩) 1 1] w fun r w'=>r=.returned (.int .i64 0)/\w=w':=by
 have k1:=Q2k h;have k2:=Q7J h i hi hn;rw[hs] at k2;have hb:(on != on)=false:=by simp
 have Ae:(!on==on)=false:=by cases on <;> rfl
 clear h hs;generalize m.bits.length=n at *
 go_enter func127,ntmps127;go_wp2_with fail
 go_loop [7,12] (fun nv iv=>nv=.int .i64 0/\∃k:Nat,k<=1/\iv=.int .i64 k) (fun _ iv=>1-(intOf iv).toNat)
 case atStart=>exact⟨rfl,0,by omega,rfl⟩
 case round =>
  obtain⟨rfl,k,hk,rfl⟩:=hrel;by_cases h0:k=0
  ·subst h0;go_wp2_with (first|(go_at_call 133;refine k1.mono ?_;rintro e w'⟨rfl,rfl⟩)|(go_at_call 190;refine k2.mono ?_;rintro e w'⟨rfl,rfl⟩))
   go_round
   case rel=>exact⟨rfl,1,by omega,by go_num⟩
   case measure=>simp[intOf]
  ·obtain rfl:k=1:=by omega
   go_wp2_with fail;go_ret;exact⟨rfl,rfl⟩
theorem Q2l{w:World}{m:BM}(h:Sep w m.hl)(on:Bool)(i:Nat)(hi:i<m.bits.length)(hn:m.bits.length<=1048576)(hs:m.bits[i]?.getD false≠on)(g:Nat)(hg:w.cell? ⟨g,0,none⟩=some (.int .i64 i))(G1:g∉keys m.hl) :
  Calls prog 127 #[.pointer (some ⟨m.b,0,none⟩),.bool on,.slice (some ⟨g,0,none⟩) 1 1] w fun r w'=>r=.returned (.int .i64 1)/\Step m.hl ({m with bits:=m.bits.set i on}:BM).hl w w':=by
 have k1:=Q2k h;have k2:=Q7J h i hi hn;have hb:(m.bits[i]?.getD false != on)=true:=by simpa using hs
 have Ae:(!m.bits[i]?.getD false==on)=true:=by cases h1:m.bits[i]?.getD false <;> cases on <;> simp_all
 have HS:=Q0a (BM.set m h i hi on hs);have c1:=BM.c1 h;have hq:i/64<Q0j m.bits.length:=by unfold Q0j;omega
 have cw:=BM.wcell h (i/64) hq;have hf:=BM.wfree h (i/64);have hx:=Q0C (Q0J m.bits (i/64)) 64;have hp:2 ^ (i%64)<2 ^ 64:=J4t (by omega) (by omega);have Jh:=Z1i (Q0l (Q0J m.bits (i/64)) 64) (2 ^ (i%64)) hx hp;have Jq:IntKind.u64.wrap (2 ^ (i%64))=((2 ^ (i%64):Nat):Int):=by
  have Hg:((2 ^ (i%64):Nat):Int)=2 ^ (i%64):=by push_cast;rfl
  rw[<- Hg,Q3y];refine Int.emod_eq_of_lt (Int.natCast_nonneg _) ?_;have:=Int.ofNat_lt.2 hp
  simpa using this
 clear h hs;generalize m.bits[i]?.getD false=old at *
 generalize Q0l (Q0J m.bits (i/64)) 64=x at *
 generalize (2:Nat) ^ (i%64)=p at *
 generalize x ^^^ p=y at *
 generalize Dw:({m with bits:=m.bits.set i on}:BM).hl=H' at *
 generalize m.hl=H at *
 generalize m.bits.length=n at *
 clear Dw hx hp;go_enter func127,ntmps127;go_wp2_with fail
 go_loopw [7,12] (fun nv iv wr=>(nv=.int .i64 0/\iv=.int .i64 0/\wr=w)∨(nv=.int .i64 1/\iv=.int .i64 1/\Step H H' w wr)) (fun _ iv _=>1-(intOf iv).toNat)
 case atStart=>exact .inl ⟨rfl,rfl,rfl⟩
 case round =>
  rcases hrel with ⟨rfl,rfl,rfl⟩|⟨rfl,rfl,Ao⟩
  ·go_wp2_with (first|(go_at_call 133;refine k1.mono ?_;rintro e w'⟨rfl,rfl⟩)|(go_at_call 190;refine k2.mono ?_;rintro e w'⟨rfl,rfl⟩));have Iw:(i:Int).tdiv 64=((i/64:Nat):Int):=by rw[J4R (by omega)];omega
   have D6:(i:Int).tmod 64=((i%64:Nat):Int):=by rw[J4S (by omega)];omega
   go_region;go_wp2_with fail;go_roundw
   case rel=>exact .inr ⟨rfl,rfl,HS.out.drew⟩
   case measure=>simp[intOf]
  ·go_wp2_with fail;go_ret;exact⟨rfl,Ao⟩
def Q1N(bits:List Bool)(on:Bool)(from_:Nat):Option Nat:=(List.range bits.length).find? fun j=>decide (from_<=j)&&((bits[j]?.getD false)==on)
def optI:Option Nat->Int
 | none=>-1
 | some j=>j
theorem Q5t{bits:List Bool}{on:Bool}{s j:Nat}(hj:j<bits.length)(hs:s<=j)(h:bits[j]?.getD false=on)(hp:∀i,s<=i->i<j->bits[i]?.getD false≠on):Q1N bits on s=some j:=by
 unfold Q1N;rw[J4T];refine⟨by simp[hs,h],by simpa using hj,fun i hi=>?_⟩;by_cases h1:s<=i
 ·simp[hp i h1 hi]
 ·simp[h1]
theorem Q5u{bits:List Bool}{on:Bool}{s:Nat}(hp:∀i,s<=i->i<bits.length->bits[i]?.getD false≠on):Q1N bits on s=none:=by
 unfold Q1N;rw[J4U];intro i hi;simp only[J3x] at hi;by_cases h1:s<=i
 ·simp[hp i h1 hi]
 ·simp[h1]
theorem Q1s{bits:List Bool}{on:Bool}{s j:Nat}(h:Q1N bits on s=some j):j<bits.length/\s<=j/\bits[j]?.getD false=on/\∀i,s<=i->i<j->bits[i]?.getD false≠on:=by
 unfold Q1N at h;rw[J4T] at h;obtain⟨h1,h2,h3⟩:=h;simp only[J3C,decide_eq_true_eq,beq_iff_eq] at h1;refine⟨by simpa using h2,h1.1,h1.2,fun i hi D2=>?_⟩;have:=h3 i D2
 simpa[hi] using this
theorem Q8A{bits:List Bool}{on:Bool}{s:Nat}(h:Q1N bits on s=none):∀i,s<=i->i<bits.length->bits[i]?.getD false≠on:=by
 unfold Q1N at h;rw[J4U] at h;intro i hi hl;have:=h i (by simpa using hl)
 simpa[hi] using this
theorem Z2u{w:World}{m:BM}(h:Sep w m.hl)(on:Bool)(k:Nat)(hk:k<Q0j m.bits.length) :
  Calls prog 134 #[.pointer (some ⟨m.b,0,none⟩),.bool on,.int .i64 k] w fun r w'=>r=.returned (.int .u64 (Q0l (fun j=>Q0J m.bits k j==on) 64:Nat))/\w=w':=by
 have c1:=BM.c1 h;have cw:=BM.wcell h k hk;have hx:=Q0C (Q0J m.bits k) 64;have Fo:=Z7I (Q0J m.bits k);clear h;cases on with
 | true =>
  have e:Q0l (fun j=>Q0J m.bits k j==true) 64=Q0l (Q0J m.bits k) 64:=Q1r _ _ _ fun j _=>by simp
  rw[e];generalize Q0l (Q0J m.bits k) 64=x at *
  generalize Q0j m.bits.length=nw at *
  clear Fo e;go_enter func134,ntmps134
  go_wp2
  go_ret;exact⟨rfl,rfl⟩
 | false =>
  have e:Q0l (fun j=>Q0J m.bits k j==false) 64=Q0l (fun j=>!Q0J m.bits k j) 64:=Q1r _ _ _ fun j _=>by simp
  rw[e,<- Fo];generalize Q0l (Q0J m.bits k) 64=x at *
  generalize Q0j m.bits.length=nw at *
  clear Fo e;have EZ:bits BinOp.xor IntKind.u64 IntKind.u64.max (x:Int)=((x ^^^ 18446744073709551615:Nat):Int):=by
   rw[show IntKind.u64.max=((18446744073709551615:Nat):Int) from by decide,Z1i _ _ (by decide) hx,Nat.xor_comm]
  have HX:=Q0a EZ;clear EZ;go_enter func134,ntmps134
  go_wp2
  go_ret;exact⟨by rw[<- HX.out];rfl,rfl⟩
def cutF(bits:List Bool)(on:Bool)(s k:Nat):Nat->Bool:=fun j=>decide (s<=64*k+j)&&(Q0J bits k j==on)
theorem Z7O(x s:Nat):IntKind.u64.wrap ((x:Int)/2 ^ s*2 ^ s)=((x/2 ^ s*2 ^ s%18446744073709551616:Nat):Int):=by
 rw[Q3y,Int.natCast_emod,J4f,J4V,J4W];rfl
theorem Z2v(bits:List Bool)(on:Bool)(s k:Nat)(hk:s/64<=k):∃X Y:Nat,Q0l (fun j=>Q0J bits k j==on) 64=X/\Y=Q0l (cutF bits on s k) 64 /\
  ((k=s/64/\IntKind.u64.wrap ((X:Int)/2 ^ (s%64)*2 ^ (s%64))=(Y:Int))∨(k≠s/64/\X=Y)):=by
 refine⟨_,_,rfl,rfl,?_⟩;by_cases h:k=s/64
 ·left;refine⟨h,?_⟩;rw[Z7O,Z7J];congr 1;refine Q1r _ _ _ fun j hj=>?_
  unfold cutF;congr 1;rw[decide_eq_decide];omega
 ·right;refine⟨h,Q1r _ _ _ fun j hj=>?_⟩;unfold cutF;have:s<=64*k+j:=by omega
  simp[this]
theorem tz64_zero{w:World}:Calls prog 135 #[.int .u64 0] w fun r w'=>r=.returned (.int .i64 64)/\w=w':=by
 go_enter func135,ntmps135
 go_wp2
 go_ret;exact⟨rfl,rfl⟩
theorem J2d(f:Nat->Bool)(n:Nat):(∀j,j<n->f j=false)∨∃t,t<n/\f t=true/\∀j,j<t->f j=false:=by
 induction n with
 | zero=>left;intro j hj;omega
 | succ n ih =>
  rcases ih with h|⟨t,h1,h2,h3⟩
  ·cases hf:f n with
   | true=>exact .inr ⟨n,by omega,hf,h⟩
   | false=>left;intro j hj;rcases Nat.lt_succ_iff_lt_or_eq.1 hj with h'|h';exact h j h';subst h';exact hf
  ·exact .inr ⟨t,by omega,h2,h3⟩
theorem Q3K{w:World}{m:BM}(h:Sep w m.hl)(on:Bool)(s:Nat)(hs:s<=1048576)(hn:m.bits.length<=1048576) :
  Calls prog 72 #[.pointer (some ⟨m.b,0,none⟩),.bool on,.int .i64 s] w fun r w'=>r=.returned (.int .i64 (optI (Q1N m.bits on s)))/\w=w':=by
 have k1:=Q2k h;have k2:=Q0a (fun k hk=>Z2u h on k hk);have c0:=BM.c0 h;have HT:=Q0a h.env.tabB;clear h;have HF:=Q0a (show ∀j,j<m.bits.length->s<=j->m.bits[j]?.getD false=on->(∀i,s<=i->i<j->m.bits[i]?.getD false≠on)->Q1N m.bits on s=some j from fun j h1 h2 h3 h4=>Q5t h1 h2 h3 h4);have HN:=Q0a (show(∀i,s<=i->i<m.bits.length->m.bits[i]?.getD false≠on)->Q1N m.bits on s=none from Q5u);generalize Ab:m.bits.length=n at *
 have HL:=Q0a Ab;clear Ab;go_enter func72,ntmps72;go_wp2_with fail
 go_loop [7] (fun kv=>∃k:Nat,kv=.int .i64 k/\s/64<=k/\k<=s/64+Q0j n/\∀i,s<=i->i<64*k->i<n->m.bits[i]?.getD false≠on) (fun kv=>s/64+Q0j n-(intOf kv).toNat)
 case atStart=>exact⟨s/64,by go_num,J3h _,by omega,by intro i h1 h2 _;omega⟩
 case round =>
  obtain⟨k,rfl,A5,Ax,A1⟩:=hrel;have R9:=Q0a A1;clear A1;have Cf:k<=40000:=by unfold Q0j at Ax;omega
  by_cases Aa:k*64<n
  ·have SD:k<Q0j n:=by unfold Q0j;omega
   go_wp2_with fail;refine k1.mono ?_;rintro e w'⟨rfl,rfl⟩;go_wp2_with fail;refine(k2.out k SD).mono ?_;rintro e w'⟨rfl,rfl⟩;obtain⟨X,Y,hX,hY,hG⟩:=Z2v m.bits on s k A5;rw[hX];have HY:=Q0a hY;have QI:Y<2 ^ 64:=by rw[hY];exact Q0C _ _
   clear hX hY;have Ay:(Y=0/\∀j,j<64->cutF m.bits on s k j=false)∨∃t,Y≠0/\t<64/\cutF m.bits on s k t=true/\∀j,j<t->cutF m.bits on s k j=false:=by
    rcases J2d (cutF m.bits on s k) 64 with h|⟨t,h1,h2,h3⟩
    ·exact .inl ⟨by rw[HY.out];exact wordN_zero.2 h,h⟩
    ·refine .inr ⟨t,?_,h1,h2,h3⟩;intro e;rw[HY.out,wordN_zero] at e;rw[e t h1] at h2;cases h2
   have Fy:(∀j,j<64->64*k+j<n->cutF m.bits on s k j=false)->∀i,s<=i->i<64*(k+1)->i<n->m.bits[i]?.getD false≠on:=by
    intro hz i h1 h2 h3 h4;by_cases h5:i<64*k
    ·exact R9.out i h1 h5 h3 h4
    ·have:=hz (i-64*k) (by omega) (by omega);unfold cutF Q0J at this;rw[show 64*k+(i-64*k)=i from by omega] at this;simp[h1,h4] at this
   have IN:=Q0a Fy;clear Fy;have GJ:k+1<=s/64+Q0j n:=by unfold Q0j;omega
   rcases Ay with ⟨P5,hz⟩|⟨t,P5,ht,PP,Iz⟩
   ·have Hz:=Q0a hz;clear hz QI;subst P5;rcases hG with ⟨hk,hcut⟩|⟨hk,O7⟩
    ·have AJ:((k:Int)==(s:Int)/64)=true:=by simp;omega
     have Tr:IntKind.u64.wrap ((X:Int)/2 ^ (s%64)*2 ^ (s%64))=0:=by simpa using hcut
     clear hcut hk;go_wp2_with fail;refine tz64_zero.mono ?_;rintro e w'⟨rfl,rfl⟩;go_wp2_with fail
     go_round
     case rel=>exact⟨k+1,by go_num,by omega,GJ,IN.out fun j h1 _=>Hz.out j h1⟩
     case measure=>simp[intOf];omega
    ·have AJ:((k:Int)==(s:Int)/64)=false:=by simp;omega
     have Vh:X=0:=O7;subst Vh;clear O7 hk;go_wp2_with fail;refine tz64_zero.mono ?_;rintro e w'⟨rfl,rfl⟩;go_wp2_with fail
     go_round
     case rel=>exact⟨k+1,by go_num,by omega,GJ,IN.out fun j h1 _=>Hz.out j h1⟩
     case measure=>simp[intOf];omega
   ·have PX:=Z1j HT.out (cutF m.bits on s k) t ht PP Iz;rw[<- HY.out] at PX;have XD:((Y:Int) != 0)=true:=by simp;omega
    have VM:((Y:Int)==0)=false:=by simp;omega
    have Uk:=Q0a Iz;have Ub:=Q0a PP;clear Iz PP P5;have Nt:(((k:Int)==(s:Int)/64)=true/\IntKind.u64.wrap ((X:Int)/2 ^ (s%64)*2 ^ (s%64))=(Y:Int))∨(((k:Int)==(s:Int)/64)=false/\X=Y):=by
     rcases hG with ⟨hk,hcut⟩|⟨hk,O7⟩
     ·left;exact⟨by simp;omega,hcut⟩
     ·right;exact⟨by simp;omega,O7⟩
    clear hG;by_cases Bj:64*k+t<n
    ·have Ht:(k:Int)*64+t<n:=by omega
     have AX:Hid (Q1N m.bits on s=some (64*k+t)):=by
      refine HF.out _ Bj ?_ ?_ ?_
      ·have:=Ub.out;unfold cutF at this;simp at this;exact this.1
      ·have:=Ub.out;unfold cutF Q0J at this;simp at this;exact this.2
      ·intro i h1 h2 h3;by_cases h5:i<64*k
       ·exact R9.out i h1 h5 (by omega) h3
       ·have:=Uk.out (i-64*k) (by omega);unfold cutF Q0J at this;rw[show 64*k+(i-64*k)=i from by omega] at this;simp[h1,h3] at this
     rcases Nt with ⟨AJ,hcut⟩|⟨AJ,rfl⟩
     all_goals
      go_wp2_with fail;refine PX.mono ?_;rintro e w'⟨rfl,rfl⟩;go_wp2_with fail;go_ret;refine⟨?_,rfl⟩;rw[AX.out];show Ending.returned (.int .i64 ((k:Int)*64+t))=.returned (.int .i64 ((64*k+t:Nat):Int));congr 2;omega
    ·have Ht:¬(k:Int)*64+t<n:=by omega
     have PO:decide ((k:Int)*64+t<n)=false:=by simpa using Ht
     rcases Nt with ⟨AJ,hcut⟩|⟨AJ,rfl⟩
     all_goals
      go_wp2_with fail;refine PX.mono ?_;rintro e w'⟨rfl,rfl⟩;go_wp2_with fail
      go_round
      case rel=>exact⟨k+1,by go_num,by omega,GJ,IN.out fun j h1 h2=>Uk.out j (by omega)⟩
      case measure=>simp[intOf];omega
  ·have B3:Q1N m.bits on s=none:=HN.out fun i h1 h2=>R9.out i h1 (by omega) h2
   have AX:=Q0a B3;clear B3;have Km:¬(k:Int)*64<n:=by omega
   have WT:decide ((k:Int)*64<n)=false:=by simpa using Km
   go_wp2_with fail;refine k1.mono ?_;rintro e w'⟨rfl,rfl⟩;go_wp2_with fail;go_ret;exact⟨by rw[AX.out];rfl,rfl⟩
def cntB(bits:List Bool):Nat:=(bits.filter id).length
theorem Z1k(bits:List Bool):∀n,cnt (fun j=>bits[j]?.getD false) n=cntB (bits.take n)
 | 0=>by simp[cnt,cntB]
 | n+1=>by
  simp only[cnt];rw[Z1k bits n,J4X];cases h:bits[n]? with
  | none=>simp[cntB]
  | some b=>cases b <;> simp[cntB,List.filter_append]
theorem Z1l(bits:List Bool)(n:Nat)(h:bits.length<=n):cnt (fun j=>bits[j]?.getD false) n=cntB bits:=by
 rw[Z1k,J4Z h]
theorem cntB_zero{bits:List Bool}:cntB bits=0↔∀b∈bits,b=false:=by
 unfold cntB;rw[J5a,J5b];simp
theorem Q5v{w:World}{m:BM}(h:Sep w m.hl)(hn:m.bits.length<=1048576) :
  Calls prog 144 #[.pointer (some ⟨m.b,0,none⟩)] w fun r w'=>r=.returned (.int .i64 (cntB m.bits))/\w=w':=by
 have k1:=Q2k h;have c1:=BM.c1 h;have HW:=Q0a (fun k hk=>BM.wcell h k hk);have HC:=Q0a (Z1l m.bits (64*Q0j m.bits.length) (by unfold Q0j;omega));have HA:=Q0a (show ∀k,cnt (fun j=>m.bits[j]?.getD false) (64*(k+1))=cnt (fun j=>m.bits[j]?.getD false) (64*k)+cnt (Q0J m.bits k) 64 from fun k=>by rw[Nat.mul_add,J4h,cnt_add];rfl);have HB:=Q0a (show ∀k,cnt (fun j=>m.bits[j]?.getD false) (64*k)<=64*k from fun k=>Q3D _ _);have Pv:Q0j m.bits.length<=20000:=by unfold Q0j;omega
 clear h;generalize Ab:m.bits.length=n at *
 have Ix:((n:Int)+64-1)/64=(Q0j n:Nat):=by unfold Q0j;omega
 clear Ab;generalize Q0j n=nw at *
 go_enter func144,ntmps144;go_wp2_with fail;refine k1.mono ?_;rintro e w'⟨rfl,rfl⟩;go_wp2_with fail;simp only[Ix]
 go_loop [3,10] (fun cv kv=>∃k:Nat,kv=.int .i64 k/\k<=nw/\cv=.int .i64 (cnt (fun j=>m.bits[j]?.getD false) (64*k):Nat)) (fun _ kv=>nw-(intOf kv).toNat)
 case atStart=>exact⟨0,rfl,by omega,rfl⟩
 case round =>
  obtain⟨k,rfl,hk,rfl⟩:=hrel;have hA:=HA.out k;have hB:=HB.out k;have W4:=Q0a hA;clear hA;generalize hc:cnt (fun j=>m.bits[j]?.getD false) (64*k)=c at *
  have Cx:=Q0a hc;clear hc;by_cases Aa:k<nw
  ·have cw:=HW.out k Aa;have Xe:=Q3D (Q0J m.bits k) 64;have Ee:=Q6O (w:=w) (Q0J m.bits k);generalize Q0l (Q0J m.bits k) 64=x at *
   generalize cnt (Q0J m.bits k) 64=d at *
   go_wp2_with (go_at_call 188;refine Ee.mono ?_;rintro e w'⟨rfl,rfl⟩)
   go_round
   case rel=>exact⟨k+1,by go_num,by omega,by rw[W4.out];go_num⟩
   case measure=>simp[intOf];omega
  ·obtain rfl:k=nw:=by omega
   go_wp2_with fail;go_ret;exact⟨by rw[<- HC.out,Cx.out];rfl,rfl⟩
def J2e(n:Nat)(H:HL)(w:World)(r:Ending)(w':World):Prop:=∃m:BM,r=.returned (.pointer (some ⟨m.b,0,none⟩))/\m.bits=List.replicate n false/\Step H (m.hl++H) w w'
theorem Z2w(n:Nat):Q3E (List.replicate n false)=List.replicate (Q0j n) (.int .u64 0):=by
 unfold Q3E;rw[J3r]
 apply J4J
 intro k;by_cases hk:k<Q0j n
 ·rw[J4M,J4O hk,J5c,if_pos hk];have:Q0l (Q0J (List.replicate n false) k) 64=0:=by
   rw[wordN_zero];intro j _;unfold Q0J;rw[J5c];split <;> rfl
  simp[this]
 ·rw[J4Q (by simp;omega),J4Q (by simp;omega)]
theorem infou64:(prog.info? 83).map (fun i=>(i.zero,i.size,i.bytes))=some (some (.int .u64 0),1,8):=by kernel_rfl
theorem Q8B{w:World}{H:HL}(h:Sep w H)(n:Nat)(hn:n<=1048576):Calls prog 126 #[.int .i64 n] w (J2e n H w):=by
 have Ix:((n:Int)+64-1)/64=(Q0j n:Nat):=by unfold Q0j;omega
 have Pv:Q0j n<=20000:=by unfold Q0j;omega
 have HR:Hid (J2e n H w (.returned (.pointer (some ⟨w.heap.size+1,0,none⟩))) ((w.alloc (.cells (List.replicate (Q0j n) (Value.int .u64 0)).toArray 83)).alloc (.cells (Array.mk [.int .i64 n,.slice (some ⟨w.heap.size,0,none⟩) (Q0j n) (Q0j n)]) 245))):=by
  have s1:=h.new 83 (List.replicate (Q0j n) (Value.int .u64 0));have s2:=s1.sep.new 245 [.int .i64 n,.slice (some ⟨w.heap.size,0,none⟩) (Q0j n) (Q0j n)];refine⟨⟨w.heap.size+1,w.heap.size,List.replicate n false⟩,rfl,rfl,?_⟩;have:=s1.trans s2
  simpa[BM.hl,Z2w] using this
 clear h;obtain⟨i0,hi,Bu,AT,Bk⟩:=info_parts infou64;have Vx:=Q4R (P:=prog) (w:=w) 82 83 i0 (.int .u64 0) 8 underlying82 hi Bu AT Bk rfl (Q0j n) (by omega) (by omega);clear hi Bu AT Bk;generalize Q0j n=nw at *
 generalize (List.replicate nw (Value.int .u64 0)).toArray=arr at *
 go_enter func126,ntmps126
 go_wp2
 go_ret;exact HR.out
abbrev RV:=Option (Nat×Nat)
def lvOf(rv:RV)(n:Nat):Value:=match rv with
 | none=>.slice none 0 0
 | some (g,cap)=>.slice (some ⟨g,0,none⟩) n cap
def rowH(rv:RV)(T:TypeId)(size:Nat)(xs:List Value):HL:=match rv with
 | none=>[]
 | some (g,cap)=>[(g,isR T (cap*size) xs)]
def rvOk(rv:RV)(n:Nat):Prop:=match rv with
 | none=>n=0
 | some (_,cap)=>n<=cap/\cap<=maxLen
theorem Q3X{w:World}{rv:RV}{T:TypeId}{size n:Nat}{xs:List Value}(h:Sep w (rowH rv T size xs))(B9:rvOk rv n)(hl:xs.length=n*size):w.ownsRow 0 T size (lvOf rv n) n xs:=by
 refine⟨hl,?_⟩;cases rv with
 | none=>exact .inl ⟨rfl,B9⟩
 | some p =>
  obtain⟨g,cap⟩:=p;obtain⟨o,ho,Ak,rfl,hn,hr⟩:=h.get (b:=g) (q:=isR T (cap*size) xs) (by simp[rowH]);refine .inr ⟨g,cap,Ak,rfl,J5d _,ho,B9.1,B9.2,hn,?_⟩;rw[<- hl];exact hr
theorem Q0w{w:World}{g cap:Nat}{T:TypeId}{size:Nat}{xs:List Value}(h:Sep w (rowH (some (g,cap)) T size xs))(j:Nat)(v:Value)(hv:xs[j]?=some v):w.cell? ⟨g,j,none⟩=some v:=by
 obtain⟨ds,hc,_,ht⟩:=h.row (b:=g) (T:=T) (n:=cap*size) (cs:=xs) (by simp[rowH]);refine hc.cell j v ?_;rw[<- ht] at hv;rw[J5e] at hv;split at hv
 ·exact hv
 ·cases hv
theorem Q1h{w w':World}{A B:HL}{rv:RV}{T:TypeId}{size n n':Nat}{xs ys:List Value}{v':Value}(h:Sep w (A++rowH rv T size xs++B))(ho:w'.ownsRow 0 T size v' n' ys)(hg:w.grownBy w' (lvOf rv n).ownBlock)
  (hb:v'.ownBlock=(lvOf rv n).ownBlock∨v'.ownBlock=some w.heap.size):∃rv',v'=lvOf rv' n'/\rvOk rv' n'/\Step (A++rowH rv T size xs++B) (A++rowH rv' T size ys++B) w w':=by
 obtain⟨hl,ho⟩:=ho
 -- what A and B have is as it was
 have LE:Sep w (A++B):=h.sub (by
  refine J5f ?_ (J5g _);exact J3R _ _)
 have notin:∀g cap,rv=some (g,cap)->g∉keys (A++B):=by
  rintro g cap rfl hm;have AP:=h.nd;simp only[keys_append,rowH,keys_cons,keys_nil] at AP hm;have h1:=J3U.1 AP;have h2:=J3U.1 h1.1;rcases J3Q.1 hm with hm|hm
  ·exact h2.2.2 g hm g (by simp) rfl
  ·exact h1.2.2 g (by simp) g hm rfl
 have keep:∀b∈keys (A++B),w'.heap[b]?=w.heap[b]?:=by
  intro b Al;refine hg.block b (LE.lt Al) fun e=>?_
  cases rv with
  | none=>cases e
  | some p=>obtain⟨g,cap⟩:=p;cases e;exact notin _ _ rfl Al
 have DR:Chg (fun b=>b∈keys (A++rowH rv T size xs++B)) w w':=⟨hg.os,hg.tape,hg.output,hg.size,fun k hk hF=>hg.block k hk fun e=>hF (by
  cases rv with
  | none=>cases e
  | some p=>obtain⟨g,cap⟩:=p;cases e;simp[rowH])⟩
 have AM:=h.env.chg DR h.hi;have Ke:=LE.same keep AM;rcases ho with ⟨rfl,h0⟩|⟨g',Cn,Ak,rfl,_,hh,Io,hm,Br,AU⟩
 ·subst h0;refine⟨none,rfl,rfl,?_,DR,?_⟩
  ·simpa[rowH] using Ke
  ·intro b Al;left;simp only[rowH,J5h,keys_append,J3Q] at Al ⊢;rcases Al with Al|Al
   ·exact .inl (.inl Al)
   ·exact .inr Al
 ·have Dc:g'∉keys (A++B)/\(g'∈keys (A++rowH rv T size xs++B)∨w.heap.size<=g'):=by
   rcases hb with e|e
   ·cases rv with
    | none=>cases e
    | some p =>
     obtain⟨g,cap⟩:=p;have:g'=g:=J3Y e;subst this;exact⟨notin _ _ rfl,.inl (by simp[rowH])⟩
   ·have:g'=w.heap.size:=J3Y e;subst this;exact⟨fun By=>by have:=LE.lt By;omega,.inr (J3h _)⟩
  refine⟨some (g',Cn),rfl,⟨Io,hm⟩,⟨?_,?_,?_,AM⟩,DR,?_⟩
  ·have AP:=LE.nd;simp only[keys_append,rowH,keys_cons,keys_nil] at AP Dc ⊢;have h1:=J3U.1 AP;rw[J3U];refine⟨?_,h1.2.1,?_⟩
   ·rw[J3U];refine⟨h1.1,by simp,?_⟩;intro a ha b Al e;simp at Al;subst Al;subst e;exact Dc.1 (J3W _ ha)
   ·intro a ha b Al e;subst e;rcases J3Q.1 ha with ha|ha
    ·exact h1.2.2 a ha a Al rfl
    ·simp at ha;subst ha;exact Dc.1 (J3V _ Al)
  ·intro p hp;rcases J3Q.1 hp with hp|hp
   ·rcases J3Q.1 hp with hp|hp
    ·exact Ke.at' p (by simp[hp])
    ·simp[rowH] at hp;subst hp;exact⟨_,hh,Ak,rfl,Br,by rw[hl];exact AU⟩
   ·exact Ke.at' p (by simp[hp])
  ·intro b Al;simp only[keys_append,rowH,keys_cons,keys_nil,J3Q,J5i] at Al;rcases Al with (Al|Al)|Al
   ·exact LE.hi b (by simp[Al])
   ·subst Al;rcases Dc.2 with h2|h2
    ·exact h.hi _ h2
    ·exact J3i h.env.gb h2
   ·exact LE.hi b (by simp[Al])
  ·intro b Al;simp only[keys_append,rowH,keys_cons,keys_nil,J3Q,J5i] at Al;rcases Al with (Al|Al)|Al
   ·left;simp[Al]
   ·subst Al;exact Dc.2
   ·left;simp[Al]
structure En(α:Type) where
 id:Int
 b:Nat
 q:α
def ptr(b:Nat):Value:=.pointer (some ⟨b,0,none⟩)
section
variable {α:Type}
def kvs(E:List (En α)):List (Int×Value):=E.map fun e=>(e.id,ptr e.b)
def find:List (En α)->Int->Option (En α)
 | [],_=>none
 | e::r,id=>if id=e.id then some e else find r id
def upd(E:List (En α))(id:Int)(q:α):List (En α):=E.map fun e=>if e.id=id then {e with q:=q} else e
def rem:List (En α)->Int->List (En α)
 | [],_=>[]
 | e::r,id=>if id=e.id then r else e::rem r id
theorem Q5f(E:List (En α))(id:Int):look (kvs E) id=(find E id).map fun e=>ptr e.b:=by
 induction E with
 | nil=>rfl
 | cons e r ih =>
  have ih':look (r.map fun e=>(e.id,ptr e.b)) id=_:=ih;by_cases h:id=e.id <;> simp[kvs,look,find,h,ih']
theorem Z4u(E:List (En α))(id:Int)(b:Nat)(q:α)(h:find E id=none):put (kvs E) id (ptr b)=kvs (E++[⟨id,b,q⟩]):=by
 induction E with
 | nil=>rfl
 | cons e r ih =>
  by_cases hk:id=e.id
  ·simp[find,hk] at h
  ·simp only[find,hk,if_false] at h;have ih':put (r.map fun e=>(e.id,ptr e.b)) id (ptr b)=_:=ih h;simp[kvs,put,hk,ih']
theorem J0E(E:List (En α))(id:Int):del (kvs E) id=kvs (rem E id):=by
 induction E with
 | nil=>rfl
 | cons e r ih =>
  have ih':del (r.map fun e=>(e.id,ptr e.b)) id=_:=ih;by_cases hk:id=e.id <;> simp[kvs,del,rem,hk,ih']
theorem J0F(E:List (En α))(id:Int)(q:α):kvs (upd E id q)=kvs E:=by
 simp only[kvs,upd,J5j]
 apply J5k
 intro e _;by_cases h:e.id=id <;> simp[h]
theorem Q0d{E:List (En α)}{id:Int}{e:En α}(h:find E id=some e):e∈E/\e.id=id:=by
 induction E with
 | nil=>simp[find] at h
 | cons x r ih =>
  by_cases hk:id=x.id
  ·simp[find,hk] at h;subst h;exact⟨by simp,hk.symm⟩
  ·simp only[find,hk,if_false] at h;exact⟨by simp[(ih h).1],(ih h).2⟩
theorem Q5w{E:List (En α)}{id:Int}(h:find E id=none):∀e∈E,e.id≠id:=by
 induction E with
 | nil=>simp
 | cons x r ih =>
  by_cases hk:id=x.id
  ·simp[find,hk] at h
  ·simp only[find,hk,if_false] at h;intro e he;rcases J3m.1 he with rfl|he
   ·exact fun h'=>hk h'.symm
   ·exact ih h e he
theorem Q1O(E:List (En α))(x:En α)(id:Int):find (E++[x]) id=match find E id with|some e=>some e|none=>if id=x.id then some x else none:=by
 induction E with
 | nil=>simp[find]
 | cons e r ih=>by_cases h:id=e.id <;> simp[find,h,ih]
theorem Q0n{E:List (En α)}{id:Int}{e:En α}(hf:find E id=some e)(q:α):find (upd E id q) id=some {e with q:=q}:=by
 induction E with
 | nil=>simp[find] at hf
 | cons x r ih =>
  by_cases hx:id=x.id
  ·simp only[find,hx,if_true] at hf;simp only[upd,J3k,hx,if_true,find];cases hf;rfl
  ·simp only[find,hx,if_false] at hf;have:=ih hf;have E8:¬x.id=id:=fun e=>hx e.symm
   simp only[upd,J3k,E8,if_false,find,hx];exact this
theorem Q0M{E:List (En α)}{id j:Int}(Ac:j≠id)(q:α):find (upd E id q) j=find E j:=by
 induction E with
 | nil=>rfl
 | cons x r ih =>
  by_cases hx:x.id=id
  ·have hj:¬j=x.id:=fun e=>Ac (e.trans hx)
   simp only[upd,J3k,hx,if_true,find];have IJ:¬j=id:=Ac;simp only[IJ,if_false];exact ih
  ·simp only[upd,J3k,hx,if_false,find];by_cases hj:j=x.id
   ·simp[hj]
   ·simp only[hj,if_false];exact ih
theorem Z1m{E:List (En α)}(Ai:E.Pairwise (fun a b=>a.id≠b.id))(id x:Int):find (rem E id) x=if x=id then none else find E x:=by
 induction E with
 | nil=>simp[rem,find]
 | cons e r ih =>
  obtain⟨h1,h2⟩:=J3H.1 Ai;by_cases hk:id=e.id
  ·subst hk;simp only[rem,if_true];by_cases hx:x=e.id
   ·subst hx;simp only[if_true];cases hf:find r e.id with
    | none=>rfl
    | some y=>exact absurd (Q0d hf).2.symm (h1 y (Q0d hf).1)
   ·simp[find,hx]
  ·simp only[rem,hk,if_false,find];by_cases hx:x=e.id
   ·subst hx;simp;intro e2;exact absurd e2.symm hk
   ·simp only[hx,if_false];exact ih h2
theorem Q7K{E:List (En α)}{id:Int}{e:En α}(h:e∈rem E id):e∈E:=by
 induction E with
 | nil=>simp[rem] at h
 | cons x r ih =>
  by_cases hk:id=x.id
  ·simp[rem,hk] at h;simp[h]
  ·simp only[rem,hk,if_false] at h;rcases J3m.1 h with rfl|h
   ·simp
   ·simp[ih h]
theorem Q3L(E:List (En α))(id:Int):(rem E id).Sublist E:=by
 induction E with
 | nil=>simp[rem]
 | cons x r ih =>
  by_cases hk:id=x.id
  ·simp[rem,hk]
  ·simp only[rem,hk,if_false];exact ih.cons_cons x
theorem J0G{E:List (En α)}{id:Int}{q:α}{x:En α}(h:x∈upd E id q):∃e∈E,e.b=x.b/\e.id=x.id/\((e.id=id/\x.q=q)∨(e.id≠id/\x=e)):=by
 obtain⟨e,he,rfl⟩:=J3n.1 h;by_cases hk:e.id=id
 ·exact⟨e,he,by simp[hk],by simp[hk],.inl ⟨hk,by simp[hk]⟩⟩
 ·exact⟨e,he,by simp[hk],by simp[hk],.inr ⟨hk,by simp[hk]⟩⟩
theorem Q2P{E:List (En α)}(id:Int)(q:α){R:En α->En α->Prop}(hR:∀a b a' b':En α,a.b=a'.b->a.id=a'.id->b.b=b'.b->b.id=b'.id->R a b->R a' b')(h:E.Pairwise R):(upd E id q).Pairwise R:=by
 unfold upd;rw[J3L];refine h.imp fun {a b} Dx=>hR a b _ _ ?_ ?_ ?_ ?_ Dx <;> split <;> rfl
theorem Z1n{E:List (En α)}{id:Int}(q:α)(h:∀e∈E,e.id≠id):upd E id q=E:=by
 unfold upd
 conv=>rhs;rw[<- List.map_id E]
 exact J5k fun e he=>by simp[h e he]
theorem Z4v{E:List (En α)}(Ai:E.Pairwise (fun a b=>a.id≠b.id)){id:Int}{e:En α}(hf:find E id=some e):upd E id e.q=E:=by
 induction E with
 | nil=>rfl
 | cons x r ih =>
  obtain⟨h1,h2⟩:=J3H.1 Ai;by_cases hx:id=x.id
  ·subst hx;simp[find] at hf;subst hf;have:=Z1n (E:=r) (id:=x.id) x.q (fun e he=>(h1 e he).symm);simp only[upd,J3k,if_true] at this ⊢;rw[this]
  ·simp only[find,hx,if_false] at hf;have E8:¬x.id=id:=fun e=>hx e.symm
   have:=ih h2 hf;simp only[upd,J3k,E8,if_false] at this ⊢;rw[this]
theorem upd_upd(E:List (En α))(id:Int)(q r:α):upd (upd E id q) id r=upd E id r:=by
 unfold upd;rw[J5j]
 apply J5k
 intro e _;by_cases h:e.id=id <;> simp[h]
theorem Q4z{E:List (En α)}(Ai:E.Pairwise (fun a b=>a.id≠b.id)){id:Int}{e:En α}(hf:find E id=some e) :
  ∃A B,E=A++e::B/\(∀q,upd E id q=A++{e with q:=q}::B)/\rem E id=A++B:=by
 induction E with
 | nil=>simp[find] at hf
 | cons x r ih =>
  obtain⟨h1,h2⟩:=J3H.1 Ai;by_cases hx:id=x.id
  ·subst hx;simp[find] at hf;subst hf;refine⟨[],r,rfl,fun q=>?_,by simp[rem]⟩;have:=Z1n (E:=r) (id:=x.id) q (fun e he=>(h1 e he).symm);simp only[upd,J3k,if_true,J5l];exact congrArg _ this
  ·simp only[find,hx,if_false] at hf;obtain⟨A,B,e1,e2,e3⟩:=ih h2 hf;refine⟨x::A,B,by rw[e1];rfl,fun q=>?_,by simp[rem,hx,e3]⟩;have E8:¬x.id=id:=fun e=>hx e.symm
   have:=e2 q;simp only[upd,J3k,E8,if_false,J5m] at this ⊢;rw[this]
end
def isMI(kv:List (Int×Value)):Obj->Prop:=isM (kv.map fun p=>(.int .i64 p.1,p.2))
structure CA where
 c:Nat
 bb:Nat
 size:Nat
 rv:RV
 pg:List (BM×Nat)
def Q0i(pg:List (BM×Nat)):List Value:=pg.flatMap fun x=>[ptr x.1.b,.int .i64 ((1024*x.2:Nat):Int)]
def pgH(pg:List (BM×Nat)):HL:=pg.flatMap fun x=>x.1.hl
def CA.hl(c:CA):HL:=(c.c,isC 233 [ptr c.bb,.int .i64 c.size,lvOf c.rv c.pg.length])::(rowH c.rv 236 2 (Q0i c.pg)++pgH c.pg)
structure CA.Ok(c:CA):Prop where
 rv:rvOk c.rv c.pg.length
 s0:16<=c.size
 s1:c.size<=512
 sorted:c.pg.Pairwise (fun a b=>a.2<b.2)
 lt:∀x∈c.pg,x.2<1048576
 many:∀x∈c.pg,x.1.bits.length=960/c.size
 len:c.pg.length<=1048576
theorem Q1J(pg:List (BM×Nat))(k:Nat)(x:BM×Nat)(h:pg[k]?=some x):(Q0i pg)[k*2]?=some (ptr x.1.b)/\(Q0i pg)[k*2+1]?=some (.int .i64 ((1024*x.2:Nat):Int)):=by
 induction pg generalizing k with
 | nil=>simp at h
 | cons y r ih =>
  cases k with
  | zero=>simp at h;subst h;exact⟨rfl,rfl⟩
  | succ k =>
   have:=ih k (by simpa using h);have e1:(k+1)*2=(k*2)+1+1:=by omega
   have e2:(k+1)*2+1=(k*2+1)+1+1:=by omega
   rw[e1];exact⟨this.1,this.2⟩
theorem Q6P(pg:List (BM×Nat)):(Q0i pg).length=pg.length*2:=by
 induction pg with
 | nil=>rfl
 | cons y r ih =>
  show(_::_::Q0i r).length=_;simp[ih];omega
section
variable {w:World} {c:CA}
theorem CA.sepC(h:Sep w c.hl):Cells w c.c 233 [ptr c.bb,.int .i64 c.size,lvOf c.rv c.pg.length]:=h.cells (by simp[CA.hl])
theorem CA.sepR(h:Sep w c.hl):Sep w (rowH c.rv 236 2 (Q0i c.pg)):=h.tail.left
theorem CA.sepB(h:Sep w c.hl)(k:Nat)(x:BM×Nat)(hx:c.pg[k]?=some x):Sep w x.1.hl:=by
 refine h.sub ?_;unfold CA.hl pgH;rw[Q3W (fun x:BM×Nat=>x.1.hl) _ _ _ hx];refine List.Sublist.cons _ ?_;refine List.Sublist.trans ?_ (J3S _ _);exact(J3S _ _).trans (J3R _ _)
end
theorem Z7P{w:World}{c:CA}(h:Sep w c.hl)(ok:c.Ok):Calls prog 130 #[.pointer (some ⟨c.c,0,none⟩)] w fun r w'=>r=.returned (.int .i64 ((960/c.size:Nat):Int))/\w=w':=by
 have c1:=(CA.sepC h).cell 1 _ rfl;have s0:=ok.s0;have hd:((960:Int)/(c.size:Int))=((960/c.size:Nat):Int):=by rw[J4V];rfl
 clear h;generalize c.size=s at *
 go_enter func130,ntmps130
 go_wp2
 go_ret;exact⟨rfl,rfl⟩
def addr(size p i:Nat):Nat:=1024*p+64+i*size
theorem Q8C{w:World}{c:CA}(h:Sep w c.hl)(ok:c.Ok)(b p i:Nat)(hp:p<1048576)(hi:i<64) :
  Calls prog 128 #[.pointer (some ⟨c.c,0,none⟩),.agg #[ptr b,.int .i64 ((1024*p:Nat):Int)],.int .i64 i] w (Told w (.int .i64 ((addr c.size p i:Nat):Int))):=by
 have c1:=(CA.sepC (h.alloc (.cells #[ptr b,.int .i64 ((1024*p:Nat):Int)] 236))).cell 1 _ rfl;have b1:=(Cells.new w 236 [ptr b,.int .i64 ((1024*p:Nat):Int)]).cell 1 _ rfl;have s1:=ok.s1;have HB:Hid (Below w.heap.size w (w.alloc (.cells #[ptr b,.int .i64 ((1024*p:Nat):Int)] 236)).drew):=((Below.refl _ _).alloc (J3h _) _).drew;have hm:i*c.size<=64*512:=J4e (by omega) s1;have CU:IntKind.i64.wrap (((1024*p:Nat):Int)+64)=((1024*p+64:Nat):Int):=by rw[Go.IntWalk.i64_in _ (by omega)];omega
 have E3:IntKind.i64.wrap ((i:Int)*(c.size:Int))=((i*c.size:Nat):Int):=by rw[<- J4f];exact Go.IntWalk.i64_in _ (by omega)
 have FY:IntKind.i64.wrap (((1024*p+64:Nat):Int)+((i*c.size:Nat):Int))=((addr c.size p i:Nat):Int):=by unfold addr;rw[Go.IntWalk.i64_in _ (by omega)];omega
 clear h ok hm;generalize addr c.size p i=r at *
 generalize i*c.size=m at *
 generalize hk:1024*p+64=k at *
 generalize 1024*p=q at *
 generalize c.size=s at *
 clear hk;have e1:(w.alloc (.cells #[ptr b,.int .i64 q] 236)).drew.cell? ⟨c.c,1,none⟩=some (.int .i64 s):=c1;have e2:(w.alloc (.cells #[ptr b,.int .i64 q] 236)).drew.cell? ⟨w.heap.size,1,none⟩=some (.int .i64 q):=b1;unfold ptr at *
 go_enter func128,ntmps128;go_wp2_with fail
 go_region_held3 (fun w'=>w'.cell? ⟨c.c,1,none⟩=some (.int .i64 s)/\w'.cell? ⟨w.heap.size,1,none⟩=some (.int .i64 q)) (first|exact⟨c1,b1⟩|exact⟨e1,e2⟩) (first|fail)
 go_wp2_with fail;go_ret;exact⟨rfl,HB.out⟩
def cmpI(x y:Int):Int:=if x<y then -1 else if y<x then 1 else 0
theorem Q5x{w:World}(x:Int):Calls prog 197 #[.int .i64 x] w fun r w'=>r=.returned (.bool false)/\w=w':=by
 have h1:(x != x)=false:=by simp
 go_enter func197,ntmps197
 go_wp2
 go_ret;exact⟨rfl,rfl⟩
theorem Z4w{w:World}(x y:Int):Calls prog 138 #[.int .i64 x,.int .i64 y] w fun r w'=>r=.returned (.int .i64 (cmpI x y))/\w=w':=by
 unfold cmpI;by_cases h1:x<y
 ·rw[if_pos h1];go_enter func138,ntmps138;go_wp2_with (go_at_call 197;refine(Q5x _).mono ?_;rintro e w'⟨rfl,rfl⟩);go_ret;exact⟨rfl,rfl⟩
 ·rw[if_neg h1];by_cases h2:y<x
  ·rw[if_pos h2];go_enter func138,ntmps138;go_wp2_with (go_at_call 197;refine(Q5x _).mono ?_;rintro e w'⟨rfl,rfl⟩);go_ret;exact⟨rfl,rfl⟩
  ·rw[if_neg h2];go_enter func138,ntmps138;go_wp2_with (go_at_call 197;refine(Q5x _).mono ?_;rintro e w'⟨rfl,rfl⟩);go_ret;exact⟨rfl,rfl⟩
theorem Z4x(w:World)(b:Value)(at_ x:Int):Calls prog 192 #[.agg #[b,.int .i64 at_],.int .i64 x] w fun r w'=>r=.returned (.int .i64 (cmpI at_ x))/\Below w.heap.size w w':=by
 have HB:Hid (Below w.heap.size w (w.alloc (.cells #[b,.int .i64 at_] 236))):=(Below.refl _ _).alloc (J3h _) _;have hc:=fun w:World=>Z4w (w:=w) at_ x
 generalize cmpI at_ x=c at *
 go_enter func192,ntmps192;go_wp2_with (go_at_call 138;refine(hc _).mono ?_;rintro e w'⟨rfl,rfl⟩);go_ret;exact⟨rfl,HB.out⟩
def Q0p(pg:List (BM×Nat))(p:Nat):Nat:=(pg.filter fun x=>decide (x.2<p)).length
theorem Q3Y{pg:List (BM×Nat)}(hs:pg.Pairwise (fun a b=>a.2<b.2))(p k:Nat)(x:BM×Nat)(hx:pg[k]?=some x):(k<Q0p pg p↔x.2<p):=by
 induction pg generalizing k with
 | nil=>simp at hx
 | cons y r ih =>
  obtain⟨h1,h2⟩:=J3H.1 hs;unfold Q0p;by_cases hy:y.2<p
  ·rw[J5n (by simpa using hy),J3O];cases k with
   | zero=>simp at hx;subst hx;simp[hy]
   | succ k =>
    have:=ih h2 k (by simpa using hx);unfold Q0p at this;omega
  ·have hr:r.filter (fun x=>decide (x.2<p))=[]:=by
    rw[J5b];intro z hz;have:=h1 z hz;simp;omega
   rw[J5o (by simpa using hy),hr];have Xp:¬x.2<p:=by
    cases k with
    | zero=>simp at hx;subst hx;exact hy
    | succ k =>
     have hm:=h1 x (J5p (by simpa using hx));omega
   simp;omega
theorem Q7L(pg:List (BM×Nat))(p:Nat):Q0p pg p<=pg.length:=J5q _ _
theorem J0d(a b:Nat):decide (cmpI ((1024*a:Nat):Int) ((1024*b:Nat):Int)<0)=decide (a<b):=by
 unfold cmpI;by_cases h1:a<b
 ·rw[if_pos (by omega)];simp[h1]
 ·rw[if_neg (by omega)];by_cases h2:b<a
  ·rw[if_pos (by omega)];simp[h1]
  ·rw[if_neg (by omega)];simp[h1]
theorem J2f(a b:Nat):(cmpI ((1024*a:Nat):Int) ((1024*b:Nat):Int)==0)=decide (a=b):=by
 unfold cmpI;by_cases h1:a<b
 ·rw[if_pos (by omega),decide_eq_false (by omega)];rfl
 ·rw[if_neg (by omega)];by_cases h2:b<a
  ·rw[if_pos (by omega),decide_eq_false (by omega)];rfl
  ·rw[if_neg (by omega),decide_eq_true (by omega)];rfl
def Q3z(pg:List (BM×Nat))(q:Nat):Bool:=match pg[Q0p pg q]? with|some x=>decide (x.2=q)|none=>false
def Z0c(pg:List (BM×Nat))(q:Nat)(w:World)(r:Ending)(w':World):Prop:=r=.returned (.tuple #[.int .i64 (Q0p pg q),.bool (Q3z pg q)])/\Below w.heap.size w w'
theorem Z0d{w:World}{c:CA}(h:Sep w c.hl)(ok:c.Ok)(q:Nat) :
  Calls prog 191 #[lvOf c.rv c.pg.length,.int .i64 ((1024*q:Nat):Int),.func (.func 192) #[] #[]] w (Z0c c.pg q w):=by
 have hB:=Q7L c.pg q;have Fb:=ok.len;cases AA:c.rv with
 | none =>
  have h0:c.pg.length=0:=by have:=ok.rv;rw[AA] at this;exact this
  have DE:c.pg=[]:=J5r h0;rw[DE];have hR:Hid (Z0c [] q w (.returned (.tuple #[.int .i64 0,.bool false])) w):=⟨rfl,Below.refl _ _⟩
  clear h ok hB Fb h0 DE AA;generalize 1024*q=x at *
  unfold lvOf;go_enter func191,ntmps191;go_wp2_with fail
  go_loop [9,10] (fun iv jv=>iv=.int .i64 0/\jv=.int .i64 0) (fun _ _=>0)
  case atStart=>exact⟨rfl,rfl⟩
  case round =>
   obtain⟨rfl,rfl⟩:=hrel;go_wp2_with fail;go_ret2;exact hR.out
 | some p =>
  obtain⟨rb,cap⟩:=p;have BJ:=CA.sepR h;rw[AA] at BJ;have Pk:rb<w.heap.size:=BJ.lt (by simp[rowH]);have HC:=Q0a (show ∀k x wr,c.pg[k]?=some x->Below w.heap.size w wr->wr.cell? ⟨rb,k*2,none⟩=some (ptr x.1.b)/\wr.cell? ⟨rb,k*2+1,none⟩=some (.int .i64 ((1024*x.2:Nat):Int)) from fun k x wr hx hb=>by
   obtain⟨e1,e2⟩:=Q1J _ _ _ hx;exact⟨(hb.cell (p:=⟨rb,k*2,none⟩) Pk).trans (Q0w BJ _ _ e1),(hb.cell (p:=⟨rb,k*2+1,none⟩) Pk).trans (Q0w BJ _ _ e2)⟩)
  have DB:=Q0a (fun k x hx=>Q3Y ok.sorted q k x hx);have Co:=Q0a (show ∀(x:BM×Nat) (wr:World),Below w.heap.size w wr->Calls prog 192 #[.agg #[ptr x.1.b,.int .i64 ((1024*x.2:Nat):Int)],.int .i64 ((1024*q:Nat):Int)] wr fun r w'=>r=.returned (.int .i64 (cmpI ((1024*x.2:Nat):Int) ((1024*q:Nat):Int)))/\Below w.heap.size w w' from fun x wr hb =>
   (Z4x wr (ptr x.1.b) _ _).mono fun r w' ⟨e,Ae⟩=>⟨e,hb.trans (Ae.mono hb.size)⟩)
  have HF:=Q0a (show ∀wr:World,Below w.heap.size w wr->Z0c c.pg q w (.returned (.tuple #[.int .i64 (Q0p c.pg q),.bool (Q3z c.pg q)])) wr from fun wr hb=>⟨rfl,hb⟩);have Ba:Hid (∀x,c.pg[Q0p c.pg q]?=some x->Q3z c.pg q=decide (x.2=q)):=fun x hx=>by unfold Q3z;rw[hx]
  have Ga:Hid (Q0p c.pg q=c.pg.length->Q3z c.pg q=false):=fun e=>by unfold Q3z;rw[e,J4Q (J3h _)]
  have Cm:Hid (∀k,k<c.pg.length->∃x,c.pg[k]?=some x):=fun k hk=>⟨_,J5s hk⟩
  clear h ok BJ AA;generalize hBB:Q0p c.pg q=B at *
  generalize Q3z c.pg q=hp at *
  generalize KV:c.pg=pg at *
  generalize pg.length=n at *
  clear hBB KV;unfold lvOf;go_enter func191,ntmps191;go_wp2_with fail
  go_loopw [9,10] (fun iv jv wr=>∃i j:Nat,iv=.int .i64 i/\jv=.int .i64 j/\i<=B/\B<=j/\j<=n/\Below w.heap.size w wr) (fun iv jv _=>(intOf jv).toNat-(intOf iv).toNat)
  case atStart=>exact⟨0,n,rfl,rfl,J5d _,hB,J3h _,Below.refl _ _⟩
  case round =>
   obtain⟨i,j,rfl,rfl,hi,hj,QA,hb⟩:=hrel;by_cases Aa:i<j
   ·obtain⟨k,hk⟩:∃k:Nat,k=(i+j)/2:=⟨_,rfl⟩
    have A5:((i:Int)+j)/2=(k:Int):=by omega
    have F8:i<=k:=by omega
    have Pd:k<j:=by omega
    clear hk;obtain⟨x,hx⟩:=Cm.out k (by omega);obtain⟨d1,d2⟩:=HC.out k x wr hx hb;have Bb:=DB.out k x hx;have Bi:=Co.out x wr hb;have Do:k<n:=by omega
    have BE:(0:Int)<=k:=by omega
    have WA:(k:Int)<n:=by omega
    unfold ptr at d1 Bi;by_cases L4:x.2<q
    ·have hd:decide (cmpI ((1024*x.2:Nat):Int) ((1024*q:Nat):Int)<0)=true:=by rw[J0d];simpa using L4
     have UU:=Bb.2 L4;clear hx Bb L4;generalize cmpI ((1024*x.2:Nat):Int) ((1024*q:Nat):Int)=cv at *
     generalize 1024*x.2=xv at *
     generalize 1024*q=qv at *
     go_wp2_with (go_at_call 192;refine Bi.mono ?_;rintro e w2⟨rfl,Ae⟩);go_roundw
     case rel=>exact⟨k+1,j,by go_num,rfl,by omega,hj,QA,Ae⟩
     case measure=>simp[intOf];omega
    ·have hd:decide (cmpI ((1024*x.2:Nat):Int) ((1024*q:Nat):Int)<0)=false:=by rw[J0d];simpa using L4
     have UU:¬k<B:=fun e=>L4 (Bb.1 e)
     clear hx Bb L4;generalize cmpI ((1024*x.2:Nat):Int) ((1024*q:Nat):Int)=cv at *
     generalize 1024*x.2=xv at *
     generalize 1024*q=qv at *
     go_wp2_with (go_at_call 192;refine Bi.mono ?_;rintro e w2⟨rfl,Ae⟩);go_roundw
     case rel=>exact⟨i,k,rfl,rfl,hi,by omega,by omega,Ae⟩
     case measure=>simp[intOf];omega
   ·obtain rfl:i=B:=by omega
    obtain rfl:j=i:=by omega
    by_cases Bj:j<n
    ·obtain⟨x,hx⟩:=Cm.out j Bj;obtain⟨d1,d2⟩:=HC.out j x wr hx hb;have Bi:=Co.out x wr hb;have DS:=Ba.out x hx;have JE:=J2f x.2 q;rw[<- DS] at JE;unfold ptr at d1 Bi;have Ht:(j:Int)<n:=by omega
     have Gz:(0:Int)<=j:=by omega
     clear hx DS;generalize cmpI ((1024*x.2:Nat):Int) ((1024*q:Nat):Int)=cv at *
     generalize 1024*x.2=xv at *
     generalize 1024*q=qv at *
     go_wp2_with (go_at_call 192;refine Bi.mono ?_;rintro e w2⟨rfl,Ae⟩);go_ret2;exact HF.out _ Ae
    ·have Aw:=Ga.out (by omega);subst Aw;have Ht:¬(j:Int)<n:=by omega
     have PO:decide ((j:Int)<n)=false:=by simpa using Ht
     go_wp2_with fail;go_ret2;exact HF.out _ hb
theorem Z1o{w:World}{c:CA}(h:Sep w c.hl)(ok:c.Ok)(q:Nat) :
  Calls prog 131 #[.pointer (some ⟨c.c,0,none⟩),.int .i64 ((1024*q:Nat):Int)] w (Z0c c.pg q w):=by
 have k1:=Z0d h ok q;have c2:=(CA.sepC h).cell 2 _ rfl;have JB:∃a cp,lvOf c.rv c.pg.length=.slice a c.pg.length cp:=by
  cases AA:c.rv with
  | none=>have:=ok.rv;rw[AA] at this;exact⟨none,0,by show Value.slice none 0 0=_;rw[show c.pg.length=0 from this]⟩
  | some p=>exact⟨_,_,rfl⟩
 obtain⟨a,cp,hv⟩:=JB;rw[hv] at k1 c2;have HQ:Hid (∀r w',Z0c c.pg q w r w'->∃i b,r=.returned (.tuple #[.int .i64 i,.bool b])/\Z0c c.pg q w (.returned (.tuple #[.int .i64 i,.bool b])) w'):=fun r w' ⟨e,hb⟩=>⟨_,_,e,rfl,hb⟩
 clear h ok hv;generalize 1024*q=x at *
 go_enter func131,ntmps131;go_wp2_with fail;refine k1.mono ?_;rintro r w1 hf;obtain⟨i,b,rfl,Gk⟩:=HQ.out _ _ hf;have Le:=Q0a Gk;clear Gk hf;go_wp2_with fail;go_ret2;exact Le.out
end Go.Proofs.YtfidemmgofcnmaaGreatDoor
