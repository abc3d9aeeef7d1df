/- What the laws of spaces share is proved. No condition. Part of a proof. -/
import Derived.Test.YtfidemmgofcnmaaGreatDoorAt22
set_option maxHeartbeats 2000000
set_option linter.unusedVariables false
namespace Go.Proofs.YtfidemmgofcnmaaGreatDoor
open Go.RowKit Go.Proofs.Tryz
end Go.Proofs.YtfidemmgofcnmaaGreatDoor
namespace Go.Proofs.YtfidemmgofcnmaaGreatDoor
open Go.ChangeShapes Go.WideShapes Go.ChangeAt Go.RowKit Go.Deep Go.Proofs.Tryz
end Go.Proofs.YtfidemmgofcnmaaGreatDoor
namespace Go.Proofs.YtfidemmgofcnmaaGreatDoor
open Go.RowKit Go.Proofs.Tryz
def Q0w(b o:Int):Bool:=decide (0<=b/\b<256/\0<=o/\o<=7/\b.toNat%2 ^ o.toNat=0)
theorem J0f(n k:Nat)(hn:n<256)(hk:k<=7):bits .and .i64 (n:Int) (((2 ^ k-1:Nat):Int))=((n%2 ^ k:Nat):Int):=by
 have hp:2 ^ k-1<2 ^ 63:=by
  have:2 ^ k<=2 ^ 7:=J2L (by omega) hk;omega
 rw[Z1v n (2 ^ k-1) (by omega) hp,J3c]
theorem Q3H(w:World)(b o:Int):Calls prog 170 #[.int .i64 b,.int .i64 o] w fun r w'=>r=.returned (.bool (Q0w b o))/\w=w':=by
 unfold Q0w;by_cases h1:0<=b
 ·by_cases h2:b<256
  ·by_cases h3:0<=o
   ·by_cases h4:o<=7
    ·obtain⟨n,rfl⟩:=J3b h1;obtain⟨k,rfl⟩:=J3b h3;have hb:=J0f n k (by omega) (by omega);rw[show(decide (0<=(n:Int)/\(n:Int)<256/\0<=(k:Int)/\(k:Int)<=7/\(n:Int).toNat%2 ^ (k:Int).toNat=0))=(((n%2 ^ k:Nat):Int)==0) by
      rw[J2C,J2C];by_cases h:n%2 ^ k=0
      ·rw[h];simp;omega
      ·rw[decide_eq_false (by rintro⟨_,_,_,_,e⟩;exact h e)];exact(beq_false_of_ne (by omega)).symm]
     rw[<- hb];clear hb;have hk:k=0∨k=1∨k=2∨k=3∨k=4∨k=5∨k=6∨k=7:=by omega
     clear h3 h4;go_enter func170,ntmps170;rcases hk with rfl|rfl|rfl|rfl|rfl|rfl|rfl|rfl <;> (go_wp2_with fail;go_ret;exact⟨rfl,rfl⟩)
    ·rw[decide_eq_false (by omega)];go_enter func170,ntmps170;go_wp2_with fail;go_ret;exact⟨rfl,rfl⟩
   ·rw[decide_eq_false (by omega)];go_enter func170,ntmps170;go_wp2_with fail;go_ret;exact⟨rfl,rfl⟩
  ·rw[decide_eq_false (by omega)];go_enter func170,ntmps170;go_wp2_with fail;go_ret;exact⟨rfl,rfl⟩
 ·rw[decide_eq_false (by omega)];go_enter func170,ntmps170;go_wp2_with fail;go_ret;exact⟨rfl,rfl⟩
theorem Z0f(w:World)(v:Wi):Calls prog 95 #[.agg #[.int .i64 v.base,.int .i64 v.order]] w (Told w (.bool (Q0w v.base v.order))):=by
 obtain⟨b,o⟩:=v;dsimp only at *
 have ka:=Q3H (w.alloc (.cells #[.int .i64 b,.int .i64 o] 65)) b o;have HB:Hid (Below w.heap.size w (w.alloc (.cells #[.int .i64 b,.int .i64 o] 65))):=(Below.refl w.heap.size w).alloc (J1E _) _;go_enter func95,ntmps95;go_wp2_with fail;refine ka.mono ?_;rintro r w'⟨rfl,rfl⟩;clear ka;go_wp2_with fail;go_ret;exact⟨rfl,HB.out⟩
def Q1a(i:It):Bool:=Q0w i.base i.order&&decide (1<=i.r/\i.r<=15/\0<=i.off/\i.off<256)
theorem Z1h(w:World)(i:It):Calls prog 94 #[.agg #[.int .i64 i.base,.int .i64 i.order,.int .i64 i.r,.int .i64 i.off,.bool i.g]] w fun r w'=>∃x:Int,r=.returned (.tuple #[.int .u64 x,.bool (Q1a i)])/\Below w.heap.size w w':=by
 obtain⟨b,o,ri,f,g⟩:=i;unfold Q1a;dsimp only;have ka:=Q3H (w.alloc (.cells #[.int .i64 b,.int .i64 o,.int .i64 ri,.int .i64 f,.bool g] 63)) b o;have HB:Hid (Below w.heap.size w (w.alloc (.cells #[.int .i64 b,.int .i64 o,.int .i64 ri,.int .i64 f,.bool g] 63))):=(Below.refl w.heap.size w).alloc (J1E _) _;generalize Q0w b o=al at *
 obtain⟨cv,B5⟩:∃cv,cv=(al&&decide (1<=ri/\ri<=15/\0<=f/\f<256)):=⟨_,rfl⟩
 rw[<- B5];go_enter func94,ntmps94;go_wp2_with fail;refine ka.mono ?_;rintro r w'⟨rfl,rfl⟩;clear ka;cases al with
 | false =>
  obtain rfl:cv=false:=B5;go_wp2_with fail;go_ret2;exact⟨_,rfl,HB.out⟩
 | true =>
  rw[J2N] at B5;by_cases h1:ri<1
  ·obtain rfl:cv=false:=by rw[B5,decide_eq_false (by omega)]
   clear B5;go_wp2_with fail;go_ret2;exact⟨_,rfl,HB.out⟩
  ·by_cases h2:ri>15
   ·obtain rfl:cv=false:=by rw[B5,decide_eq_false (by omega)]
    clear B5;go_wp2_with fail;go_ret2;exact⟨_,rfl,HB.out⟩
   ·by_cases h3:f<0
    ·obtain rfl:cv=false:=by rw[B5,decide_eq_false (by omega)]
     clear B5;go_wp2_with fail;go_ret2;exact⟨_,rfl,HB.out⟩
    ·by_cases h4:f≥256
     ·obtain rfl:cv=false:=by rw[B5,decide_eq_false (by omega)]
      clear B5;go_wp2_with fail;go_ret2;exact⟨_,rfl,HB.out⟩
     ·obtain rfl:cv=true:=by rw[B5,decide_eq_true (by omega)]
      clear B5;cases g with
      | false =>
       go_wp2_with fail;go_ret2;exact⟨_,rfl,HB.out⟩
      | true =>
       go_wp2_with fail;go_ret2;exact⟨_,rfl,HB.out⟩
def Q1z(i:It):Nat:=i.base.toNat+256*i.order.toNat+4096*i.r.toNat+16777216*i.off.toNat+(if i.g then 65536 else 0)
theorem Q1N{b o:Int}(h:Q0w b o=true):0<=b/\b<256/\0<=o/\o<=7:=by
 unfold Q0w at h;have:=of_decide_eq_true h;exact⟨this.1,this.2.1,this.2.2.1,this.2.2.2.1⟩
theorem Q3j{i:It}(h:Q1a i=true):0<=i.base/\i.base<256/\0<=i.order/\i.order<=7/\1<=i.r/\i.r<=15/\0<=i.off/\i.off<256:=by
 unfold Q1a at h;rw[J1Y] at h;have h1:=Q1N h.1;have h2:=of_decide_eq_true h.2;omega
theorem Q2h(a b:Nat)(ha:a<2 ^ 63)(hb:b<2 ^ 63):bits BinOp.or IntKind.i64 (a:Int) (b:Int)=((a|||b:Nat):Int):=by
 have h:(a|||b)<2 ^ 63:=Nat.or_lt_two_pow ha hb;have e:((BitVec.ofInt 64 (a:Int))|||(BitVec.ofInt 64 (b:Int))).toNat=a|||b:=by
  rw[BitVec.ofInt_natCast,BitVec.ofInt_natCast,BitVec.toNat_or,BitVec.toNat_ofNat,BitVec.toNat_ofNat,J2S (by omega),J2S (by omega)]
 unfold bits;show IntKind.i64.wrap (((BitVec.ofInt 64 (a:Int))|||(BitVec.ofInt 64 (b:Int))).toNat:Int)=_;rw[e,IntKind.wrap_i64];omega
theorem Z0g(a c k:Nat)(h:a<2 ^ k):a|||c*2 ^ k=a+c*2 ^ k:=by
 rw[J4R,J4x c,<- J4S h,J2G]
theorem Z1i{b o ri f:Int}(g:Bool)(h:0<=b/\b<256/\0<=o/\o<=7/\1<=ri/\ri<=15/\0<=f/\f<256) :
  IntKind.u64.wrap (if g then bits BinOp.or IntKind.i64 (bits BinOp.or IntKind.i64 (bits BinOp.or IntKind.i64 (bits BinOp.or IntKind.i64 b (wrap64 (o*256))) (ri*4096)) (f*16777216)) 65536 else bits BinOp.or IntKind.i64 (bits BinOp.or IntKind.i64 (bits BinOp.or IntKind.i64 b (wrap64 (o*256))) (ri*4096)) (f*16777216))=(Q1z ⟨b,o,ri,f,g⟩:Int):=by
 obtain⟨b,rfl⟩:=J3b h.1;obtain⟨o,rfl⟩:=J3b h.2.2.1;obtain⟨ri,rfl⟩:=J3b (a:=ri) (by omega);obtain⟨f,rfl⟩:=J3b (a:=f) (by omega);have e1:wrap64 ((o:Int)*256)=((o*2 ^ 8:Nat):Int):=by rw[Go.IntWalk.wrap64_in _ (by omega)];omega
 have e2:(ri:Int)*4096=((ri*2 ^ 12:Nat):Int):=by omega
 have e3:(f:Int)*16777216=((f*2 ^ 24:Nat):Int):=by omega
 have e4:(65536:Int)=((1*2 ^ 16:Nat):Int):=by decide
 rw[e1,e2,e3,Q2h _ _ (by omega) (by omega),Z0g b o 8 (by omega),Q2h _ _ (by omega) (by omega),Z0g _ ri 12 (by omega),Q2h _ _ (by omega) (by omega)];have e5:(b+o*2 ^ 8+ri*2 ^ 12)|||f*2 ^ 24=b+o*2 ^ 8+ri*2 ^ 12+f*2 ^ 24:=Z0g _ f 24 (by omega);cases g with
 | false =>
  simp only[J5n,if_false];rw[e5,Q3m];unfold Q1z;simp only[J2C,J5n,if_false];omega
 | true =>
  simp only[if_true];rw[e4,Q2h _ _ (by rw[e5];omega) (by omega),Nat.or_assoc,J4R (f*2 ^ 24),<- Nat.or_assoc,Z0g _ 1 16 (by omega),Z0g _ f 24 (by omega),Q3m];unfold Q1z;simp only[J2C,if_true];omega
theorem Q9f(w:World)(i:It):Calls prog 94 #[.agg #[.int .i64 i.base,.int .i64 i.order,.int .i64 i.r,.int .i64 i.off,.bool i.g]] w fun r w'=>∃x:Int,r=.returned (.tuple #[.int .u64 x,.bool (Q1a i)])/\Below w.heap.size w w'/\(Q1a i=true->x=(Q1z i:Int)):=by
 cases hV:Q1a i with
 | true =>
  have ht:=Q3j hV;have Bo:Q0w i.base i.order=true:=by unfold Q1a at hV;rw[J1Y] at hV;exact hV.1
  obtain⟨b,o,ri,f,g⟩:=i;dsimp only at *
  have ka:=Q3H (w.alloc (.cells #[.int .i64 b,.int .i64 o,.int .i64 ri,.int .i64 f,.bool g] 63)) b o;rw[Bo] at ka;have HB:Hid (Below w.heap.size w (w.alloc (.cells #[.int .i64 b,.int .i64 o,.int .i64 ri,.int .i64 f,.bool g] 63))):=(Below.refl w.heap.size w).alloc (J1E _) _;have h1:¬(ri<1):=by omega
  have h2:¬(ri>15):=by omega
  have h3:¬(f≥256):=by omega
  have h4:¬(f<0):=by omega
  have HT:=Q0a ht;clear hV Bo ht;go_enter func94,ntmps94;go_wp2_with fail;refine ka.mono ?_;rintro r w'⟨rfl,rfl⟩;clear ka;cases g with
  | false =>
   go_wp2_with fail;go_ret2;refine⟨_,by rfl,HB.out,fun _=>?_⟩;exact Z1i false HT.out
  | true =>
   go_wp2_with fail;go_ret2;refine⟨_,by rfl,HB.out,fun _=>?_⟩;exact Z1i true HT.out
 | false =>
  refine(Z1h w i).mono ?_;rintro r w'⟨x,rfl,hb⟩;exact⟨x,by rw[hV],hb,by simp⟩
def decV(x:Nat):It:=⟨((x%256:Nat):Int),((x/256%16:Nat):Int),((x/4096%16:Nat):Int),((x/16777216%256:Nat):Int),x/65536%2==1⟩
def Q4E(x:Nat):Option It:=if Q1a (decV x)=true/\Q1z (decV x)=x then some (decV x) else none
theorem Z8d{i:It}(h:Q1a i=true):Q1z i<4294967296:=by
 have:=Q3j h;unfold Q1z;split <;> omega
theorem Z8e{i:It}(h:Q1a i=true):decV (Q1z i)=i:=by
 have ht:=Q3j h;obtain⟨b,o,r,f,g⟩:=i;dsimp only at ht;obtain⟨b,rfl⟩:=J3b ht.1;obtain⟨o,rfl⟩:=J3b ht.2.2.1;obtain⟨r,rfl⟩:=J3b (a:=r) (by omega);obtain⟨f,rfl⟩:=J3b (a:=f) (by omega);unfold decV Q1z;cases g with
 | false =>
  simp only[J2C,J5n,if_false];have e1:(b+256*o+4096*r+16777216*f+0)%256=b:=by omega
  have e2:(b+256*o+4096*r+16777216*f+0)/256%16=o:=by omega
  have e3:(b+256*o+4096*r+16777216*f+0)/4096%16=r:=by omega
  have e4:(b+256*o+4096*r+16777216*f+0)/16777216%256=f:=by omega
  have e5:(b+256*o+4096*r+16777216*f+0)/65536%2=0:=by omega
  rw[e1,e2,e3,e4,e5];rfl
 | true =>
  simp only[J2C,if_true];have e1:(b+256*o+4096*r+16777216*f+65536)%256=b:=by omega
  have e2:(b+256*o+4096*r+16777216*f+65536)/256%16=o:=by omega
  have e3:(b+256*o+4096*r+16777216*f+65536)/4096%16=r:=by omega
  have e4:(b+256*o+4096*r+16777216*f+65536)/16777216%256=f:=by omega
  have e5:(b+256*o+4096*r+16777216*f+65536)/65536%2=1:=by omega
  rw[e1,e2,e3,e4,e5];rfl
theorem Z5E{i:It}(h:Q1a i=true):Q4E (Q1z i)=some i:=by
 unfold Q4E;rw[Z8e h,if_pos ⟨h,rfl⟩]
theorem Z5F{x:Nat}{i:It}(h:Q4E x=some i):Q1a i=true/\Q1z i=x:=by
 unfold Q4E at h;split at h
 ·rename_i hc;cases h;exact hc
 ·cases h
structure Msg where
 label:Nat
 ws:List Nat
 its:List It
def Msg.none:Msg:=⟨0,[],[]⟩
def Q0o(m:List Nat)(p i:Nat):Nat:=Q0m m (p+8*i)
def itemsB(m:List Nat)(p:Nat):Nat->Option (List It)
 | 0=>some []
 | k+1=>match itemsB m p k,Q4E (Q0o m p (11+k)) with
  | some l,some i=>some (l++[i])
  | _,_=>.none
def msgV(m:List Nat)(p:Nat):Msg:=
 if Q0o m p 0%16>8∨Q0o m p 0/16>2 then Msg.none else
 match itemsB m p (Q0o m p 0/16) with
 | some l=>⟨Q0o m p 1,(List.range (Q0o m p 0%16)).map fun i=>Q0o m p (3+i),l⟩
 | .none=>Msg.none
def winV(m:List Nat)(p:Nat):Wi:=
 if Q0o m p 2/4096=0/\Q0w ((Q0o m p 2%256:Nat):Int) ((Q0o m p 2/256%16:Nat):Int)=true then⟨((Q0o m p 2%256:Nat):Int),((Q0o m p 2/256%16:Nat):Int)⟩ else⟨0,0⟩
def Q3I(ws:List Nat)(its:List It):List Nat:=(ws++List.replicate (8-ws.length) 0)++(its.map Q1z++List.replicate (2-its.length) 0)
def putM(m:List Nat)(p:Nat)(x:Msg):List Nat:=put_ (put_ m p ([x.ws.length+16*x.its.length,x.label].flatMap Q0c)) (p+24) ((Q3I x.ws x.its).flatMap Q0c)
def Q4X(m:List Nat)(p:Nat)(v:Wi):List Nat:=put_ m (p+16) ([v.base.toNat+256*v.order.toNat].flatMap Q0c)
structure Msg.May(x:Msg):Prop where
 label:x.label<18446744073709551616
 ws:∀y∈x.ws,y<18446744073709551616
 its:∀y∈x.its,Q1a y=true
 few:x.ws.length<=8
 two:x.its.length<=2
theorem Q9g{ws:List Nat}{its:List It}(h1:ws.length<=8)(h2:its.length<=2):(Q3I ws its).length=10:=by
 unfold Q3I;simp only[J2j,J1O,J3g];omega
theorem Z1j{x:Msg}(h:x.May):∀y∈Q3I x.ws x.its,y<18446744073709551616:=by
 intro y hy;unfold Q3I at hy;rcases J2m.1 hy with hy|hy
 ·rcases J2m.1 hy with hy|hy
  ·exact h.ws y hy
  ·rw[(List.mem_replicate.1 hy).2];omega
 ·rcases J2m.1 hy with hy|hy
  ·obtain⟨i,hi,rfl⟩:=J1K.1 hy;have:=Z8d (h.its i hi);omega
  ·rw[(List.mem_replicate.1 hy).2];omega
theorem Z2N{ws:List Nat}{its:List It}{i:Nat}(hi:i<ws.length):(Q3I ws its)[i]?.getD 0=ws[i]:=by
 unfold Q3I;rw[J4K (by rw[J2j];omega),J4K hi,J3O hi];rfl
theorem Z2O{ws:List Nat}{its:List It}(h1:ws.length<=8){i:Nat}(hi:i<its.length):(Q3I ws its)[8+i]?.getD 0=Q1z its[i]:=by
 unfold Q3I;have hl:(ws++List.replicate (8-ws.length) 0).length=8:=by simp;omega
 rw[J4L (by rw[hl];omega),hl,J4v,J4K (by simpa using hi),J3i,J3O hi];rfl
theorem Q6b{m:List Nat}{p:Nat}{x:Msg}(h:x.May)(hp:p+256<=m.length)(p8:p%8=0){q:Nat}(hq:q+8<=m.length)(q8:q%8=0) :
  Q0m (putM m p x) q=if p+24<=q/\q<p+104 then(Q3I x.ws x.its)[(q-(p+24))/8]?.getD 0 else if p<=q/\q<p+16 then [x.ws.length+16*x.its.length,x.label][(q-p)/8]?.getD 0 else Q0m m q:=by
 unfold putM;have e1:(put_ m p ([x.ws.length+16*x.its.length,x.label].flatMap Q0c)).length=m.length:=Q1h _ _ _ (by rw[Q2g];simp;omega);have hl:=Q9g h.few h.two;have hw:∀y∈[x.ws.length+16*x.its.length,x.label],y<18446744073709551616:=by
  intro y hy;have h1:=h.few;have h2:=h.two;have h3:=h.label;simp only[J1J,J1Z,or_false] at hy;rcases hy with rfl|rfl <;> omega
 rw[Q4i _ _ _ (by rw[e1,hl];omega) (Z1j h) q (by rw[e1];exact hq) (by omega) q8,hl,Q4i _ _ _ (by simp;omega) hw q hq p8 q8];rfl
theorem Q9h{m:List Nat}{p:Nat}{its:List It}(h:∀i (hi:i<its.length),Q4E (Q0o m p (11+i))=some its[i]):∀k,k<=its.length->itemsB m p k=some (its.take k)
 | 0,_=>by simp[itemsB]
 | k+1,hk=>by
  rw[itemsB,Q9h h k (by omega),h k (by omega)];simp only[J3t,J3O (show k<its.length by omega)];rfl
theorem Z0h{m:List Nat}{p:Nat}{x:Msg}(h:x.May)(hp:p+256<=m.length)(p8:p%8=0):msgV (putM m p x) p=x:=by
 have hW:=fun i (hi:i<32)=>Q6b h hp p8 (q:=p+8*i) (by omega) (by omega)
 have h1:=h.few;have h2:=h.two;have w0:Q0o (putM m p x) p 0=x.ws.length+16*x.its.length:=by
  unfold Q0o;rw[hW 0 (by omega),if_neg (by omega),if_pos (by omega),show(p+8*0-p)/8=0 by omega];rfl
 have w1:Q0o (putM m p x) p 1=x.label:=by
  unfold Q0o;rw[hW 1 (by omega),if_neg (by omega),if_pos (by omega),show(p+8*1-p)/8=1 by omega];rfl
 have e1:Q0o (putM m p x) p 0%16=x.ws.length:=by rw[w0];omega
 have e2:Q0o (putM m p x) p 0/16=x.its.length:=by rw[w0];omega
 have hI:=Q9h (m:=putM m p x) (p:=p) (its:=x.its) (fun i hi=>by
  unfold Q0o;rw[hW (11+i) (by omega),if_pos (by omega),show(p+8*(11+i)-(p+24))/8=8+i by omega,Z2O h1 hi,Z5E (h.its _ (J4U hi))]) x.its.length (J1E _)
 unfold msgV;rw[e1,e2,if_neg (by omega),hI,w1];rw[J5B];show(⟨x.label,_,x.its⟩:Msg)=x;have:(List.range x.ws.length).map (fun i=>Q0o (putM m p x) p (3+i))=x.ws:=by
  apply List.ext_getElem
  ·simp
  ·intro i g1 g2;simp only[List.getElem_map,J5C];unfold Q0o;rw[hW (3+i) (by omega),if_pos (by omega),show(p+8*(3+i)-(p+24))/8=i by omega,Z2N g2]
 rw[this]
theorem Q7O{m m':List Nat}{p:Nat}(h:∀i,i<32->i≠2->Q0o m' p i=Q0o m p i):msgV m' p=msgV m p:=by
 have hI:∀k,k<=2->itemsB m' p k=itemsB m p k:=by
  intro k hk
  induction k with
  | zero=>rfl
  | succ k ih=>rw[itemsB,itemsB,ih (by omega),h (11+k) (by omega) (by omega)]
 unfold msgV;rw[h 0 (by omega) (by omega)];split
 ·rfl
 ·rename_i hn;rw[hI _ (by omega),h 1 (by omega) (by omega)];have:(List.range (Q0o m p 0%16)).map (fun i=>Q0o m' p (3+i))=(List.range (Q0o m p 0%16)).map (fun i=>Q0o m p (3+i)):=by
   apply J3G
   intro i hi;have:=J1U.1 hi;exact h (3+i) (by omega) (by omega)
  rw[this]
theorem Q7P{m m':List Nat}{p:Nat}(h:Q0o m' p 2=Q0o m p 2):winV m' p=winV m p:=by unfold winV;rw[h]
theorem Z5G{m:List Nat}{p:Nat}{x:Msg}(h:x.May)(hp:p+256<=m.length)(p8:p%8=0):winV (putM m p x) p=winV m p:=by
 refine Q7P ?_;unfold Q0o;rw[Q6b h hp p8 (by omega) (by omega),if_neg (by omega),if_neg (by omega)]
theorem Q9i{m:List Nat}{p q:Nat}{x:Msg}(h:x.May)(hp:p+256<=m.length)(p8:p%8=0)(hq:q+256<=m.length)(q8:q%8=0)(ha:p+256<=q∨q+256<=p):msgV (putM m p x) q=msgV m q/\winV (putM m p x) q=winV m q:=by
 have hW:∀i,i<32->Q0o (putM m p x) q i=Q0o m q i:=by
  intro i hi;unfold Q0o;rw[Q6b h hp p8 (by omega) (by omega),if_neg (by omega),if_neg (by omega)]
 exact⟨Q7O fun i hi _=>hW i hi,Q7P (hW 2 (by omega))⟩
theorem Q7d{m:List Nat}{p:Nat}{v:Wi}(h:Q0w v.base v.order=true)(hp:p+256<=m.length)(p8:p%8=0){q:Nat}(hq:q+8<=m.length)(q8:q%8=0) :
  Q0m (Q4X m p v) q=if q=p+16 then v.base.toNat+256*v.order.toNat else Q0m m q:=by
 have ht:=Q1N h;unfold Q4X;rw[Q4i _ _ _ (by simp;omega) (by simp;omega) q hq (by omega) q8];by_cases e:q=p+16
 ·subst e;rw[if_pos (by simp),if_pos rfl,J4O];rfl
 ·rw[if_neg (by simp;omega),if_neg e]
theorem Z8f{m:List Nat}{p:Nat}{v:Wi}(h:Q0w v.base v.order=true)(hp:p+256<=m.length)(p8:p%8=0):winV (Q4X m p v) p=v:=by
 have ht:=Q1N h;have w2:Q0o (Q4X m p v) p 2=v.base.toNat+256*v.order.toNat:=by
  unfold Q0o;rw[Q7d h hp p8 (by omega) (by omega),if_pos (by omega)]
 obtain⟨b,o⟩:=v;dsimp only at *
 obtain⟨b,rfl⟩:=J3b ht.1;obtain⟨o,rfl⟩:=J3b ht.2.2.1;simp only[J2C] at w2;unfold winV;rw[w2,show(b+256*o)%256=b by omega,show(b+256*o)/256%16=o by omega,if_pos ⟨by omega,h⟩]
theorem Z2P{m:List Nat}{p q:Nat}{v:Wi}(h:Q0w v.base v.order=true)(hp:p+256<=m.length)(p8:p%8=0)(hq:q+256<=m.length)(q8:q%8=0)(ha:p+256<=q∨q+256<=p):msgV (Q4X m p v) q=msgV m q/\winV (Q4X m p v) q=winV m q:=by
 have hW:∀i,i<32->Q0o (Q4X m p v) q i=Q0o m q i:=by
  intro i hi;unfold Q0o;rw[Q7d h hp p8 (by omega) (by omega),if_neg (by omega)]
 exact⟨Q7O fun i hi _=>hW i hi,Q7P (hW 2 (by omega))⟩
abbrev encU(x:Nat):Value:=.int .u64 x
theorem J0g:(prog.info? 83).map (fun i=>(i.zero,i.size,i.bytes))=some (some (.int .u64 0),1,8):=by kernel_rfl
theorem J0h:(prog.info? 63).map (fun i=>(i.zero,i.size,i.bytes))=some (some (.agg #[.int .i64 0,.int .i64 0,.int .i64 0,.int .i64 0,.bool false]),5,40):=by kernel_rfl
theorem Q6c:∀L:List It,(L.flatMap It.cells).length=L.length*5
 | []=>rfl
 | p::r=>by rw[J2a,J2j,Q6c r];simp[It.cells];omega
theorem Q7e:∀(L:List It) (k i:Nat) (m:It) (v:Value),L[k]?=some m->m.cells[i]?=some v->(L.flatMap It.cells)[k*5+i]?=some v
 | [],k,i,m,v,h,_=>by simp at h
 | p::r,k,i,m,v,h,hv=>by
  rw[J2a];have hi:i<5:=by have:=(J1V.1 hv).1;simpa[It.cells] using this
  have Dz:p.cells.length=5:=rfl;cases k with
  | zero =>
   simp at h;subst h;rw[J4K (by rw[Dz];omega),show 0*5+i=i by omega];exact hv
  | succ k =>
   rw[J4L (by rw[Dz];omega),Dz,show(k+1)*5+i-5=k*5+i by omega];exact Q7e r k i m v (by simpa using h) hv
theorem J0i{w:World}{H:HL}{rv:RV}{l:List Nat}(h:Sep w (rowH rv 83 1 (l.map encU)++H))(B3:rvOk rv l.length)(hl:l.length<=1000)(x:Nat)(ty:TypeId) :
  ∃rv' w',(Builtin.append_ #[82,82] ty #[lvOf rv l.length,.slice (some ⟨w.heap.size,0,none⟩) 1 1]).run prog (w.alloc (.cells #[.int .u64 x] 83))=.ok (lvOf rv' (l.length+1)) w'/\rvOk rv' (l.length+1)/\Step (rowH rv 83 1 (l.map encU)++H) (rowH rv' 83 1 ((l++[x]).map encU)++H) w w':=by
 obtain⟨i0,hi,BJ,AZ,Bd⟩:=info_parts J0g;have ha:=h.alloc (.cells #[.int .u64 x] 83);have Al:=Q3N ha.left B3 (by rw[J3g,J2D]);obtain⟨v',w',hr,q1,q2,_,q4⟩:=run_append_own_at (P:=prog) (w.alloc (.cells #[.int .u64 x] 83)) 0 82 ty 83 i0 (.int .u64 0) 1 8 underlying82 hi BJ AZ Bd rfl (by decide) (lvOf rv l.length) l.length (l.map encU) Al ⟨w.heap.size,0,none⟩ 1 1 [.int .u64 x] rfl (by
  intro j u hj;have:=(Cells.new w 83 [.int .u64 x]).cell j u hj;have e:(⟨w.heap.size,0,none⟩:Addr).add j=⟨w.heap.size,j,none⟩:=by unfold Addr.add;split <;> simp_all
  rw[e];exact this) (fun u hu=>by rw[J3E.1 hu];rfl) (by unfold maxLen;omega) (by omega) (J3z _)
 obtain⟨rv',rfl,e2,e3⟩:=Q1d (A:=[]) (B:=H) (by simpa using ha) q1 q2 q4;refine⟨rv',w',hr,e2,?_⟩;rw[J4Z];have e4:Step (rowH rv 83 1 (l.map encU)++H) (rowH rv' 83 1 (l.map encU++[encU x])++H) (w.alloc (.cells #[.int .u64 x] 83)) w':=by simpa using e3
 exact e4.from_alloc
theorem J0j{w:World}{H:HL}{rv:RV}{l:List It}(h:Sep w (rowH rv 63 5 (l.flatMap It.cells)++H))(B3:rvOk rv l.length)(hl:l.length<=1000)(x:It)(ty:TypeId) :
  ∃rv' w',(Builtin.append_ #[98,98] ty #[lvOf rv l.length,.slice (some ⟨w.heap.size,0,none⟩) 1 1]).run prog (w.alloc (.cells #[.int .i64 x.base,.int .i64 x.order,.int .i64 x.r,.int .i64 x.off,.bool x.g] 63))=.ok (lvOf rv' (l.length+1)) w'/\rvOk rv' (l.length+1)/\Step (rowH rv 63 5 (l.flatMap It.cells)++H) (rowH rv' 63 5 ((l++[x]).flatMap It.cells)++H) w w':=by
 obtain⟨i0,hi,BJ,AZ,Bd⟩:=info_parts J0h;have ha:=h.alloc (.cells #[.int .i64 x.base,.int .i64 x.order,.int .i64 x.r,.int .i64 x.off,.bool x.g] 63);have Al:=Q3N ha.left B3 (Q6c l);obtain⟨v',w',hr,q1,q2,_,q4⟩:=run_append_own_at (P:=prog) (w.alloc (.cells #[.int .i64 x.base,.int .i64 x.order,.int .i64 x.r,.int .i64 x.off,.bool x.g] 63)) 0 98 ty 63 i0 (.agg #[.int .i64 0,.int .i64 0,.int .i64 0,.int .i64 0,.bool false]) 5 40 underlying98 hi BJ AZ Bd rfl (by decide) (lvOf rv l.length) l.length (l.flatMap It.cells) Al ⟨w.heap.size,0,none⟩ 1 1 x.cells rfl (by
  intro j u hj;have:=(Cells.new w 63 x.cells).cell j u hj;have e:(⟨w.heap.size,0,none⟩:Addr).add j=⟨w.heap.size,j,none⟩:=by unfold Addr.add;split <;> simp_all
  rw[e];exact this) (fun u hu=>by
   simp only[It.cells,J1J,List.mem_nil_iff,or_false] at hu;rcases hu with rfl|rfl|rfl|rfl|rfl <;> rfl) (by unfold maxLen;omega) (by omega) (J3z _)
 obtain⟨rv',rfl,e2,e3⟩:=Q1d (A:=[]) (B:=H) (by simpa using ha) q1 q2 q4;refine⟨rv',w',hr,e2,?_⟩;rw[J2i];have e4:Step (rowH rv 63 5 (l.flatMap It.cells)++H) (rowH rv' 63 5 (l.flatMap It.cells++x.cells)++H) (w.alloc (.cells #[.int .i64 x.base,.int .i64 x.order,.int .i64 x.r,.int .i64 x.off,.bool x.g] 63)) w':=by simpa using e3
 simpa using e4.from_alloc
def Q0z(i:Nat):Nat:=[2,2,3,3,3,4,8].getD i 0
def lB(f:Nat->Nat×Nat):Nat->List Pl
 | 0=>newL 64
 | k+1=>(lB f k).set (k+1) ⟨Q0z k,(f k).1,0,1,0,(f k).2⟩
def chB:Nat->Int
 | 0=>64
 | k+1=>chB k+((costK (Q0z k):Nat):Int)
theorem Z1k{f f':Nat->Nat×Nat}:∀k,(∀j,j<k->f' j=f j)->lB f' k=lB f k
 | 0,_=>rfl
 | k+1,h=>by
  rw[lB,lB,Z1k k fun j hj=>h j (by omega),h k (by omega)]
theorem Z5H(f:Nat->Nat×Nat):∀k,(lB f k).length=256
 | 0=>by
  show(newL 64).length=256;unfold newL;rw[J2k,J1O]
 | k+1=>by rw[lB,J3j,Z5H f k]
theorem Q7f(f:Nat->Nat×Nat):∀k,k<255->∀j,j<256->(lB f k)[j]?=some (if j=0 then⟨1,64,0,1,0,0⟩ else if j<=k then⟨Q0z (j-1),(f (j-1)).1,0,1,0,(f (j-1)).2⟩ else noPl 0)
 | 0,_,j,hj=>by
  show(newL 64)[j]?=_;unfold newL;cases j with
  | zero=>rfl
  | succ j =>
   rw[J4J,J3y,if_pos (by omega),if_neg (by omega),if_neg (by omega)]
 | k+1,hk,j,hj=>by
  rw[lB];by_cases e:j=k+1
  ·subst e;rw[J5k (by rw[Z5H];omega),if_neg (by omega),if_pos (J1E _)];rfl
  ·rw[J5c (fun h=>e h.symm),Q7f f k (by omega) j hj];by_cases h0:j=0
   ·rw[if_pos h0,if_pos h0]
   ·rw[if_neg h0,if_neg h0];by_cases h1:j<=k
    ·rw[if_pos h1,if_pos (by omega)]
    ·rw[if_neg h1,if_neg (by omega)]
theorem J1f(f:Nat->Nat×Nat){k:Nat}(hk:k<255):(lB f k)[0]?=some ⟨1,64,0,1,0,0⟩/\Fst (lB f k) (k+1) (noPl 0):=by
 refine⟨Q7f f k hk 0 (by omega),J0e ?_ rfl fun j hj=>?_⟩
 ·rw[Q7f f k hk (k+1) (by omega),if_neg (by omega),if_neg (by omega)]
 ·rw[Q7f f k hk j (by omega)];by_cases h0:j=0
  ·exact⟨_,rfl,by rw[if_pos h0];decide⟩
  ·exact⟨_,rfl,by rw[if_neg h0,if_pos (by omega)];show(1:Nat)≠0;decide⟩
theorem Q6d(f:Nat->Nat×Nat){k i:Nat}(hk:k<255)(hi:i<k):pget (lB f k) 1 (i+1)=some ⟨Q0z i,(f i).1,0,1,0,(f i).2⟩:=by
 refine pget_some.2 ⟨?_,?_,?_⟩
 ·rw[J2S (by omega),Q7f f k hk (i+1) (by omega),if_neg (by omega),if_pos (by omega)];rfl
 ·show 0*256+(i+1)%256=i+1;omega
 ·rfl
def BgS(s c:Nat)(L:Int)(k:Nat)(f:Nat->Nat×Nat)(R:HL)(w0 wr:World):Prop:=∃(Z:SP) (S:CO) (fr:List Nat),Z.s=s/\S.c=c/\Z.New S (fun _=>TB.emp) /\
 (k<=6->fr=[]/\MkS S 2 L (chB k) (1+k) (1+k) (lB f k))/\(k=7->MkF S 2 L (chB 7) 8 8 (lB f 7) fr)/\Step [] (R++Z.hl) w0 wr
theorem Z8g:chB 0=64/\chB 1=192/\chB 2=320/\chB 3=576/\chB 4=832/\chB 5=1088/\chB 6=1120/\chB 7=2144:=by decide
section
variable {s c:Nat} {L:Int} {k:Nat} {f:Nat->Nat×Nat} {R:HL} {w0 wr:World}
theorem BgS.grown{w':World}(h:BgS s c L k f R w0 wr)(hb:Below wr.heap.size wr w'):BgS s c L k f R w0 w':=by
 obtain⟨Z,S,fr,e1,e2,e3,e4,e5,st⟩:=h;exact⟨Z,S,fr,e1,e2,e3,e4,e5,st.trans (st.sep.grown hb)⟩
theorem BgS.beside{R':HL}{w':World}(h:BgS s c L k f R w0 wr)(Aq:∀B,Sep wr (R++B)->Step (R++B) (R'++B) wr w'):BgS s c L k f R' w0 w':=by
 obtain⟨Z,S,fr,e1,e2,e3,e4,e5,st⟩:=h;exact⟨Z,S,fr,e1,e2,e3,e4,e5,st.trans (Aq _ st.sep)⟩
theorem J1g{w w1:World}{S:CO}{limit:Int}(fo:Z4L S 6 limit 2)(st:Step [] (S.hl++[]) w w1)(f:Nat->Nat×Nat) :
  Calls prog 80 #[.pointer (some ⟨S.c,0,none⟩)] w1 fun r w'=>∃s,r=.returned (.pointer (some ⟨s,0,none⟩))/\BgS s S.c limit 0 f [] w w':=by
 have m:=Z7Y fo;have st':Step [] S.hl w w1:=by rwa [J3D] at st
 refine(Z7L st'.sep (fun _=>TB.emp)).mono ?_;rintro r w'⟨Z,rfl,hn,st2⟩;exact⟨Z.s,rfl,Z,S,[],rfl,rfl,hn,fun _=>⟨rfl,m⟩,fun h=>by omega,st'.trans st2⟩
theorem J0k(h:BgS s c L k f R w0 wr)(hk:k<7)(hL:4500<=L) :
  Calls prog 79 #[.pointer (some ⟨c,0,none⟩),.int .u32 0,.int .i64 ((Q0z k:Nat):Int),.int .i64 0] wr fun r w'=>r=.returned (.tuple #[.int .u32 ((k+1:Nat):Int),.int .i64 0])/\∃f',(∀j,j<k->f' j=f j)/\BgS s c L (k+1) f' R w0 w':=by
 obtain⟨Z,S,fr,rfl,rfl,hn,h6,h7,st⟩:=h;obtain⟨rfl,m⟩:=h6 (by omega);have sZ:=st.sep.right;have hs:Sep wr S.hl:=by have:=SP.sS sZ;rwa [hn.S] at this
 obtain⟨hr,hi⟩:=J1f f (k:=k) (by omega);have hv:=Z8g;have fin:∀(S':CO) (a x:Nat) (fr':List Nat) (w':World),S'.c=S.c->((k+1<=6)->fr'=[]/\MkS S' 2 L (chB (k+1)) (1+(k+1)) (1+(k+1)) ((lB f k).set (k+1) ⟨Q0z k,a,0,1,0,x⟩))->(k+1=7->MkF S' 2 L (chB 7) 8 8 ((lB f k).set (k+1) ⟨Q0z k,a,0,1,0,x⟩) fr')->Step S.hl S'.hl wr w'->∃f',(∀j,j<k->f' j=f j)/\BgS Z.s S.c L (k+1) f' R w0 w':=fun S' a x fr' w' ec m1 m2 st'=>by
  have Q4:lB (fun j=>if j=k then(a,x) else f j) (k+1)=(lB f k).set (k+1) ⟨Q0z k,a,0,1,0,x⟩:=by
   rw[lB,Z1k k (f:=f) (f':=fun j=>if j=k then(a,x) else f j) fun j hj=>by simp;omega];simp
  refine⟨fun j=>if j=k then(a,x) else f j,fun j hj=>by simp;omega,Z.setS S' (fun _=>TB.emp),S',fr',rfl,ec,⟨rfl,rfl,hn.F⟩,?_,?_,?_⟩
  ·intro h;rw[Q4];exact m1 h
  ·intro h;have e7:lB (fun j=>if j=k then(a,x) else f j) 7=(lB f k).set (k+1) ⟨Q0z k,a,0,1,0,x⟩:=by rw[<- h];exact Q4
   rw[e7];exact m2 h
  ·have stS:Step Z.S.hl S'.hl wr w':=by rw[hn.S];exact st'
   have s2:=SP.stepS sZ S' (fun _=>TB.emp) (by rw[hn.S];exact ec) stS;have:=Step.frame R [] (by simpa using st.sep) s2;exact st.trans (by simpa using this)
 refine(Q8A hs m.ok (by omega) (x:=0) (by omega) ((Q0z k:Nat):Int) 0).mono ?_;intro r w' hm;by_cases V5:k=6
 ·subst V5;obtain⟨a,x,S',fr',rfl,ec,m',st'⟩:=Z7Z m (by rw[hv.2.2.2.2.2.2.1];omega) (by omega) hr hi (show MakeR S [] 0 ((8:Nat):Int) 0 wr r w' from hm);refine⟨rfl,fin S' a x fr' w' ec (fun h=>by omega) (fun _=>?_) st'⟩;have e:chB 6+1024=chB 7:=by rw[hv.2.2.2.2.2.2.1,hv.2.2.2.2.2.2.2];rfl
  rw[e] at m';exact m'
 ·have Dl:2<=Q0z k/\Q0z k<=5/\((costK (Q0z k):Nat):Int)<=256/\chB k<=1088:=by
   have:k=0∨k=1∨k=2∨k=3∨k=4∨k=5:=by omega
   rcases this with rfl|rfl|rfl|rfl|rfl|rfl <;> decide
  obtain⟨a,x,S',rfl,ec,m',st'⟩:=J0c m ⟨Dl.1,Dl.2.1⟩ (by omega) (by omega) hr hi hm;refine⟨rfl,fin S' a x [] w' ec (fun _=>⟨rfl,?_⟩) (fun h=>by omega) st'⟩;have e:1+(k+1)=1+k+1:=by omega
  rw[e];exact m'
theorem J1z(h:BgS s c L (k+1) f R w0 wr)(hk:k<7)(h3:Q0z k=3) :
  Calls prog 49 #[.pointer (some ⟨c,0,none⟩),.int .u32 ((k+1:Nat):Int),.int .i64 3] wr (Told wr (.tuple #[.agg #[.int .i64 3,.int .i64 ((f k).1:Int),.int .i64 0],.int .i64 0])):=by
 obtain⟨Z,S,fr,rfl,rfl,hn,h6,h7,st⟩:=h;have sZ:=st.sep.right;have hs:Sep wr S.hl:=by have:=SP.sS sZ;rwa [hn.S] at this
 have Pu:k+1<=6:=by
  refine Classical.byContradiction fun hc=>?_
  obtain rfl:k=6:=by omega
  cases h3
 obtain⟨rfl,m⟩:=h6 Pu;have hp:=Q6d f (k:=k+1) (i:=k) (by omega) (by omega);rw[<- m.l] at hp;have:=Q2p hs m.ok.inv.lok (x:=k+1) (by omega) 3 hp (.inr (by dsimp only;omega));unfold Pl.obj at this;dsimp only at this;rw[h3] at this;exact this
end
def endC(l:List (Nat×Nat)):List Value:=l.flatMap fun e=>[.int .u32 (e.1:Int),.int .i64 (e.2:Int)]
theorem Q7Q:∀L:List (Nat×Nat),(endC L).length=L.length*2
 | []=>rfl
 | p::r=>by
  have:=Q7Q r;unfold endC at this ⊢;rw[J2a,J2j,this];simp;omega
theorem Z8h(l m:List (Nat×Nat)):endC (l++m)=endC l++endC m:=by unfold endC;rw[J2i]
theorem J0l:(prog.info? 116).map (fun i=>(i.zero,i.size,i.bytes))=some (some (.agg #[.int .u32 0,.int .i64 0]),2,16):=by kernel_rfl
theorem J0m{w:World}{H:HL}{rv:RV}{l:List (Nat×Nat)}(h:Sep w (rowH rv 116 2 (endC l)++H))(B3:rvOk rv l.length)(hl:l.length<=1000)(m:List (Nat×Nat))(hm:m.length<=2)(h0:0<m.length)(ty:TypeId) :
  ∃rv' w',(Builtin.append_ #[85,85] ty #[lvOf rv l.length,.slice (some ⟨w.heap.size,0,none⟩) m.length m.length]).run prog (w.alloc (.cells (endC m).toArray 116))=.ok (lvOf rv' (l.length+m.length)) w'/\rvOk rv' (l.length+m.length)/\Step (rowH rv 116 2 (endC l)++H) (rowH rv' 116 2 (endC (l++m))++H) w w':=by
 obtain⟨i0,hi,BJ,AZ,Bd⟩:=info_parts J0l;have ha:=h.alloc (.cells (endC m).toArray 116);have Al:=Q3N ha.left B3 (Q7Q l);obtain⟨v',w',hr,q1,q2,_,q4⟩:=run_append_own_at (P:=prog) (w.alloc (.cells (endC m).toArray 116)) 0 85 ty 116 i0 (.agg #[.int .u32 0,.int .i64 0]) 2 16 underlying85 hi BJ AZ Bd rfl (by decide) (lvOf rv l.length) l.length (endC l) Al ⟨w.heap.size,0,none⟩ m.length m.length (endC m) (Q7Q m) (by
  intro j u hj;have:=(Cells.new w 116 (endC m)).cell j u hj;have e:(⟨w.heap.size,0,none⟩:Addr).add j=⟨w.heap.size,j,none⟩:=by unfold Addr.add;split <;> simp_all
  rw[e];exact this) (fun u hu=>by
   unfold endC at hu;obtain⟨e,_,hu⟩:=J2c.1 hu;simp only[J1J,List.mem_nil_iff,or_false] at hu;rcases hu with rfl|rfl <;> rfl) (by unfold maxLen;omega) (by omega) (J3z _)
 obtain⟨rv',rfl,e2,e3⟩:=Q1d (A:=[]) (B:=H) (by simpa using ha) q1 q2 q4;refine⟨rv',w',hr,e2,?_⟩;rw[Z8h];have e4:Step (rowH rv 116 2 (endC l)++H) (rowH rv' 116 2 (endC l++endC m)++H) (w.alloc (.cells (endC m).toArray 116)) w':=by simpa using e3
 exact e4.from_alloc
def endB(f:Nat->Nat×Nat):Nat->List (Nat×Nat)
 | 0=>[]
 | k+1=>if Q0z k=3 then endB f k++[(1+k%2,(f k).1)] else endB f k
theorem Q4F{f f':Nat->Nat×Nat}:∀k,(∀j,j<k->f' j=f j)->endB f' k=endB f k
 | 0,_=>rfl
 | k+1,h=>by
  rw[endB,endB,Q4F k fun j hj=>h j (by omega),h k (by omega)]
theorem Z1l(f:Nat->Nat×Nat):∀k,(endB f k).length<=k
 | 0=>by simp[endB]
 | k+1=>by
  have:=Z1l f k;rw[endB];split
  ·rw[J2j];simp;omega
  ·omega
theorem J1h(f:Nat->Nat×Nat):endB f 7=[(1,(f 2).1),(2,(f 3).1),(1,(f 4).1)]:=rfl
def endL(f:Nat->Nat×Nat):List (Nat×Nat):=[(1,(f 2).1),(2,(f 3).1),(1,(f 4).1),(0,(f 2).1),(1,(f 2).1+8)]
def enR(j:Nat)(h t:Nat):Option (Nat×Nat):=if 1<=j/\h=1/\t=0 then some (6,15) else if 2<=j/\h=1/\t=128 then some (7,15) else none
def RtS(s:Nat)(L:Int)(j:Nat)(f:Nat->Nat×Nat)(R:HL)(w0 wr:World):Prop:=∃(Z:SP) (fr:List Nat),Z.s=s/\MkY Z 2 L 8 (j:Int) (lB f 7) fr/\(∀h t,Z.av.en h t=enR j h t)/\(Z.F.next=j/\Z.S.P.d.top=6)/\Step [] (R++Z.hl) w0 wr
theorem Z5I(f:Nat->Nat×Nat):Q0O (lB f 7) 0=2144:=by kernel_rfl
theorem J1i(f:Nat->Nat×Nat):((lB f 7).filter Pl.is).length=8:=by kernel_rfl
section
variable {s c:Nat} {L:Int} {f:Nat->Nat×Nat} {R:HL} {w0 wr:World}
theorem Z8i(h:BgS s c L 7 f R w0 wr):RtS s L 0 f R w0 wr:=by
 obtain⟨Z,S,fr,rfl,rfl,hn,h6,h7,st⟩:=h;obtain⟨m,Dh,Bm⟩:=J0d (h7 rfl) hn;exact⟨Z,fr,rfl,m,fun h t=>by rw[Dh];unfold enR;rw[if_neg (by omega),if_neg (by omega)],⟨Bm,by rw[hn.S];exact(h7 rfl).top⟩,st⟩
theorem Z5J(j:Nat)(z hh:Nat)(hj:(j=0/\z=0/\hh=6)∨(j=1/\z=128/\hh=7))(hL:4500<=L)(h:RtS s L j f R w0 wr) :
  Calls prog 41 #[.pointer (some ⟨s,0,none⟩),.int .u32 1,.int .i64 z,.agg #[.int .u32 hh,.int .i64 15]] wr fun r w'=>r=.returned (.int .i64 0)/\RtS s L (j+1) f R w0 w':=by
 obtain⟨Z,fr,rfl,m,hE,Bm,st⟩:=h;have sZ:=st.sep.right;refine(Q8W sZ m.ok (by omega) (x:=1) (h:=hh) (by omega) (by omega) (z:Int) 15).mono ?_;rintro r w'⟨er,rfl,Rr⟩;have g1:=Q6d f (k:=7) (i:=0) (by omega) (by omega);have g2:=Q6d f (k:=7) (i:=hh-1) (by omega) (by omega);rw[show hh-1+1=hh by omega] at g2;rw[<- m.l] at g1 g2;have room:∀er,¬WhyL Z fr 0 (1%256) (z:Int).toNat er:=fun er=>by
  refine m.room (if j=0 then [] else [(1,0)]) (if j=0 then [] else [(1,0)]) (fun x s c hc=>?_) (fun x s hx=>?_) (o:=8) (by rw[J1i];omega) ?_ (Z5I f) ?_
  ·rw[hE] at hc;unfold enR at hc;rcases hj with ⟨rfl,_⟩|⟨rfl,_⟩
   ·rw[if_neg (by omega),if_neg (by omega)] at hc;cases hc
   ·by_cases h1:x=1/\s=0
    ·obtain⟨rfl,rfl⟩:=h1;simp
    ·rw[if_neg (by omega),if_neg (by omega)] at hc;cases hc
  ·rcases hj with ⟨rfl,_⟩|⟨rfl,_⟩
   ·simp at hx
   ·simp at hx ⊢;omega
  ·split <;> simp
  ·split <;> simp <;> omega
 have Av:Q0z 0=2:=rfl;have Dl:Q0z (hh-1)=8↔128<=(z:Int):=by
  rcases hj with ⟨_,rfl,rfl⟩|⟨_,rfl,rfl⟩ <;> decide
 have h0:Z.av.en 1 (z:Int).toNat=none:=by
  rw[hE,J2C];unfold enR;rcases hj with ⟨rfl,rfl,_⟩|⟨rfl,rfl,_⟩ <;> rfl
 obtain⟨rfl,Z',k1,k2,k3,⟨b1,k4⟩,k5,k6⟩:=Rr.fine g1 Av (by omega) g2 (by omega) Dl h0 room;have e1:((j:Nat):Int)+1=((j+1:Nat):Int):=by omega
 refine⟨rfl,Z',fr,k2.s,by rw[<- e1];exact m.same k1 k2,fun h t=>?_,⟨by rw[k5,Bm.1];exact e1,k2.alt.same.top.trans Bm.2⟩,?_⟩
 ·have US:Z'.av.en=setA Z.av.en 1 (z:Int).toNat (some (hh,(15:Int).toNat)):=k3;rw[US];unfold setA;rw[hE];unfold enR;rw[J2C,show(15:Int).toNat=15 from rfl];rcases hj with ⟨rfl,rfl,rfl⟩|⟨rfl,rfl,rfl⟩
  ·by_cases h1:h=1/\t=0
   ·rw[if_pos h1,if_pos ⟨by omega,h1.1,h1.2⟩]
   ·rw[if_neg h1,if_neg (by omega),if_neg (by omega),if_neg (by omega),if_neg (by omega)]
  ·by_cases h1:h=1/\t=128
   ·obtain⟨rfl,rfl⟩:=h1;rfl
   ·rw[if_neg h1];by_cases h2:h=1/\t=0
    ·obtain⟨rfl,rfl⟩:=h2;rfl
    ·rw[if_neg (by omega),if_neg (by omega),if_neg (by omega),if_neg (by omega)]
 ·have:=Step.frame R [] (by simpa using st.sep) k6;exact st.trans (by simpa using this)
end
def SP.poke(Z:SP)(m:List Nat):SP:={Z with S:=Z.S.setP (Z.S.P.setA m)}
theorem SP.Ok.poke{Z:SP}{fr:List Nat}{N K:Nat}{M:Int}(ok:Z.Ok fr N K M){m:List Nat}(hl:m.length=Z.S.P.a.mem.length)(hb:∀b∈m,b<256)(hk:∀j a,j=1∨j=2∨j=7->a∈Z.S.P.usedOf j->Kept Z.S.P.a.mem m a (Q0e j)):(Z.poke m).Ok fr N K M:=by
 refine⟨ok.core.stored hl hb fun b hu=>((hk 1 b (.inl rfl) hu).sub (b:=b) (k:=8) (J1E _) (by show b+8<=b+64;omega)).word,⟨fun i p hi h1 h2=>?_,ok.tpi.full,ok.tpi.nil,ok.tpi.lvs,ok.tpi.nds,ok.tpi.xc⟩,ok.fpi,ok.fo,ok.next⟩;have t:=ok.tpi.x 0;exact t.tin_kept ok.core.inv.len (fun j q hj q1 q2=>hk 2 _ (.inr (.inl rfl)) (Q1k ok.core hj q1 q2)) (fun a ha=>hk 7 a (.inr (.inr rfl)) ha) hi h1 h2
theorem Z5K{S:CO}{fr:List Nat}{N K:Nat}(ok:S.Ok fr N K){p:Pl}(hp:p∈S.l)(hi:p.is=true)(Bf:p.kind=3∨p.kind=8){m:List Nat}{b n:Nat}(h1:p.at_<=b)(h2:b+n<=p.at_+costK p.kind)(hk:Q2N S.P.a.mem m b n):∀j a,j=1∨j=2∨j=7->a∈S.P.usedOf j->Kept S.P.a.mem m a (Q0e j):=by
 intro j a hj ha;obtain⟨i,BB⟩:=List.getElem?_of_mem hp;rcases Bf with e|e
 ·have hu:=ok.inv.mem.used hp hi (by omega);rw[Q1j (by omega)] at h2;exact Q2O ok hu h1 h2 hk ha (fun e'=>by omega)
 ·obtain⟨g,hg,e'⟩:=ok.inv.mem.frame hp hi e;have:=Q1E ok.inv.mem.pool hg ha;rw[e,costK_8] at h2;exact hk _ _ (by omega)
theorem Q0R{S:CO}{fr:List Nat}{N K:Nat}(ok:S.Ok fr N K){p:Pl}(hp:p∈S.l)(hi:p.is=true)(Bf:p.kind=3∨p.kind=8):p.at_+costK p.kind<=S.P.a.mem.length/\p.at_%8=0:=by
 rcases Bf with e|e
 ·have hu:=ok.inv.mem.used hp hi (by omega);have h1:=(Q0l ok.inv.mem.pool hu).1;have h2:=Q1V ok.inv.mem.pool hu;rw[Q1j (by omega)];exact⟨h1,h2⟩
 ·obtain⟨g,hg,e'⟩:=ok.inv.mem.frame hp hi e;have h1:=(Q2H ok.inv.mem.pool).2.2 g hg;have h2:=ok.inv.mem.pool.mem;rw[J2Y] at h2;rw[e,costK_8];omega
theorem SP.sA{w:World}{Z:SP}(h:Sep w Z.hl):Sep w Z.S.P.a.hl:=PL.sA (CO.sP (SP.sS h))
theorem Z1m{w:World}{Z:SP}{fr:List Nat}{N K:Nat}{M:Int}(ok:Z.Ok fr N K M)(h:Sep w Z.hl){p:Pl}(hp:p∈Z.S.l)(hi:p.is=true)(Bf:p.kind=3∨p.kind=8){o:Nat}(h8:o%8=0)(ho:o+8<=costK p.kind) :
  Calls prog 58 #[.pointer (some ⟨Z.S.P.a.a,0,none⟩),.int .i64 ((p.at_+o:Nat):Int)] w fun r w'=>r=.returned (.tuple #[.int .u64 (Q0m Z.S.P.a.mem (p.at_+o):Nat),.int .i64 0])/\w=w':=by
 obtain⟨h1,h2⟩:=Q0R ok.core hp hi Bf;exact Q9A (SP.sA h) ok.core.inv.mem.pool.bytes (p.at_+o) (by omega) (by omega) (Q0f ok.core.inv.mem.pool)
def SP.stored(Z:SP)(p:Pl)(o:Nat)(ws:List Nat):SP:=Z.poke (put_ Z.S.P.a.mem (p.at_+o) (ws.flatMap Q0c))
theorem Q4j{w:World}{Z:SP}{fr:List Nat}{N K:Nat}{M:Int}(ok:Z.Ok fr N K M)(h:Sep w Z.hl){p:Pl}(hp:p∈Z.S.l)(hi:p.is=true)(Bf:p.kind=3∨p.kind=8){o:Nat}(h8:o%8=0){ws:List Nat}(ho:o+8*ws.length<=costK p.kind)(hx:∀x∈ws,x<18446744073709551616)(so:Option Addr)(cap:Nat)(hs:∀wr,Chg (fun b=>b∈keys Z.S.P.a.hl) w wr->∀(j x:Nat),ws[j]?=some x->∃ad,so=some ad/\wr.cell? (ad.add j)=some (.int .u64 x)) :
  Calls prog 57 #[.pointer (some ⟨Z.S.P.a.a,0,none⟩),.int .i64 ((p.at_+o:Nat):Int),.slice so ws.length cap] w fun r w'=>r=.returned (.int .i64 0)/\(Z.stored p o ws).Ok fr N K M/\Step Z.hl (Z.stored p o ws).hl w w':=by
 obtain⟨h1,h2⟩:=Q0R ok.core hp hi Bf;have hc:costK p.kind<=1024:=by
  rcases Bf with e|e <;> rw[e] <;> decide
 have hE:Q1m Z.S.P.a.mem.length ((p.at_+o:Nat):Int) ws.length=0:=by
  unfold Q1m;rw[if_neg (by omega),if_pos (by omega)]
 have k:=Z5D (SP.sA h) ((p.at_+o:Nat):Int) ws (by omega) (Q0f ok.core.inv.mem.pool) hx so cap hs;rw[hE] at k;simp only[if_true,J2C] at k;refine k.mono ?_;rintro r w'⟨rfl,st⟩;have Ab:=Q2g ws;refine⟨rfl,ok.poke (Q1h _ _ _ (by omega)) (Z8b _ _ _ ok.core.inv.mem.pool.bytes (Z8c ws)) (Z5K ok.core hp hi Bf (b:=p.at_+o) (n:=8*ws.length) (by omega) (by omega) ?_),SP.stepS h _ Z.tb rfl (CO.stepMem (SP.sS h) _ st)⟩;have:=Q2r (m:=Z.S.P.a.mem) (bs:=ws.flatMap Q0c) (a:=p.at_+o) (by omega)
 rwa [Ab] at this
theorem Q7g{m m':List Nat}{p:Nat}(h:Kept m m' p 256)(i:Nat)(hi:i<32):Q0o m' p i=Q0o m p i:=
 (h.sub (b:=p+8*i) (k:=8) (by omega) (by omega)).word
theorem Q4G{m m':List Nat}{p:Nat}(h:Kept m m' p 256):msgV m' p=msgV m p/\winV m' p=winV m p:=
 ⟨Q7O fun i hi _=>Q7g h i hi,Q7P (Q7g h 2 (by omega))⟩
theorem Z0i{Z:SP}{fr:List Nat}{N K:Nat}{M:Int}(ok:Z.Ok fr N K M){i j:Nat}{p r:Pl}(hi:Z.S.l[i]?=some p)(hj:Z.S.l[j]?=some r)(DE:i≠j)(hp:p.st=1)(hr:r.st=1)(Bf:p.kind=3∨p.kind=8){o:Nat}{ws:List Nat}(ho:o+8*ws.length<=costK p.kind):Kept Z.S.P.a.mem (Z.stored p o ws).S.P.a.mem r.at_ (costK r.kind):=by
 have h2:=Q1L ok.core hi hj DE hp hr;obtain⟨h1,_⟩:=Q0R ok.core (J3L hi) (by simp[Pl.is,hp]) Bf;have Ab:=Q2g ws;exact Q2r (m:=Z.S.P.a.mem) (bs:=ws.flatMap Q0c) (a:=p.at_+o) (by omega) _ _ (by omega)
def BlkC(Z:SP)(p:Pl)(g:Nat)(w:World):Prop:=AsideV Z.hl [ptr Z.S.P.a.a,.int .i64 (p.at_:Int)] (some ⟨g,0,none⟩) w
theorem BlkC.c0{Z:SP}{p:Pl}{g:Nat}{w:World}(h:BlkC Z p g w):w.cell? ⟨g,0,none⟩=some (ptr Z.S.P.a.a):=by
 obtain⟨g',e,_,_,c⟩:=h 0 _ rfl;cases e;exact c
theorem BlkC.c1{Z:SP}{p:Pl}{g:Nat}{w:World}(h:BlkC Z p g w):w.cell? ⟨g,1,none⟩=some (.int .i64 (p.at_:Int)):=by
 obtain⟨g',e,_,_,c⟩:=h 1 _ rfl;cases e;exact c
theorem Q3k{w:World}{g a:Nat}(c1:w.cell? ⟨g,1,none⟩=some (.int .i64 a))(ha:a<=1073741824)(i:Nat)(hi:i<=31):Calls prog 217 #[.pointer (some ⟨g,0,none⟩),.int .i64 i] w fun r w'=>r=.returned (.int .i64 ((a+8*i:Nat):Int))/\w=w':=by
 have e:((a+8*i:Nat):Int)=(a:Int)+(i:Int)*8:=by omega
 rw[e];have h1:(a:Int)<=1073741824:=by omega
 have h2:(i:Int)<=31:=by omega
 clear e ha hi;go_enter func217,ntmps217
 go_wp2
 go_ret;exact⟨rfl,rfl⟩
theorem Q7h{w:World}{Z:SP}{fr:List Nat}{N K:Nat}{M:Int}(ok:Z.Ok fr N K M)(h:Sep w Z.hl){p:Pl}(hp:p∈Z.S.l)(hi:p.is=true)(Bf:p.kind=3){g:Nat}(hb:BlkC Z p g w)(i:Nat)(h31:i<=31) :
  Calls prog 184 #[.pointer (some ⟨g,0,none⟩),.int .i64 i] w fun r w'=>r=.returned (.int .u64 (Q0o Z.S.P.a.mem p.at_ i:Nat))/\w.drew=w':=by
 have hr:=Q0R ok.core hp hi (.inl Bf);rw[Bf,show costK 3=256 from rfl] at hr;have hm:=Q0f ok.core.inv.mem.pool;have kw:=Q3k (w:=w.drew) (show w.drew.cell? ⟨g,1,none⟩=_ from hb.c1) (by omega) i h31;have kl:=Z1m ok h.drew hp hi (.inl Bf) (o:=8*i) (by omega) (by rw[Bf];show 8*i+8<=256;omega);have c0:=hb.c0;have d0:w.drew.cell? ⟨g,0,none⟩=some (ptr Z.S.P.a.a):=c0;have HB:Hid (w.drew=w.drew):=rfl;unfold Q0o;clear hr hm hb ok h;unfold ptr at *
 generalize Q0m Z.S.P.a.mem (p.at_+8*i)=x at *
 generalize (p.at_+8*i:Nat)=y at *
 go_enter func184,ntmps184;go_wp2_with fail
 go_region_held3 (fun V=>V.cell? ⟨g,0,none⟩=some (.pointer (some ⟨Z.S.P.a.a,0,none⟩))) (first|exact c0|exact d0) (first|(go_at_call 217;refine kw.mono ?_;rintro e w'⟨rfl,rfl⟩)|(go_at_call 58;refine kl.mono ?_;rintro e w'⟨rfl,rfl⟩))
 all_goals
  go_wp2_with fail
  (try go_ret);exact⟨rfl,by trivial⟩
theorem Z8j{w:World}{Z:SP}{fr:List Nat}{N K:Nat}{M:Int}(ok:Z.Ok fr N K M)(h:Sep w Z.hl){p:Pl}(hp:p∈Z.S.l)(hi:p.is=true)(Bf:p.kind=3) :
  Calls prog 183 #[.pointer (some ⟨Z.S.P.a.a,0,none⟩),.int .i64 (p.at_:Int)] w fun r w'=>∃g:Nat,r=.returned (.pointer (some ⟨g,0,none⟩))/\Below w.heap.size w w'/\BlkC Z p g w'/\w.heap.size<=g:=by
 have hr:=Q0R ok.core hp hi (.inl Bf);rw[Bf,show costK 3=256 from rfl] at hr;have k:=Z3R (SP.sA h) p.at_ 256 (by omega) (by omega) (Q0f ok.core.inv.mem.pool);have h8:(p.at_:Int)%8=0:=by omega
 have h9:((p.at_:Int)%8 != 0)=false:=by simp;omega
 have HB:Hid (∀r w1,Z9D w ((Z.S.P.a.mem.drop p.at_).take 256) r w1->∃v,r=.returned (.tuple #[v,.int .i64 0])/\Below w.heap.size w w1):=by
  rintro r w1⟨v,rfl,_,hg⟩;exact⟨v,rfl,Below.grown (Below.refl w.heap.size w) hg (J1E _) (fun k e=>by cases e)⟩
 have HF:Hid (∀w1,Below w.heap.size w w1->(∃g:Nat,(Ending.returned (.pointer (some ⟨w1.heap.size,0,none⟩)):Ending)=.returned (.pointer (some ⟨g,0,none⟩))/\Below w.heap.size w (w1.alloc (.cells #[ptr Z.S.P.a.a,.int .i64 (p.at_:Int)] 316))/\BlkC Z p g (w1.alloc (.cells #[ptr Z.S.P.a.a,.int .i64 (p.at_:Int)] 316))/\w.heap.size<=g)):=fun w1 hb=>by
  refine⟨w1.heap.size,rfl,hb.alloc hb.size _,fun j v hj=>⟨w1.heap.size,rfl,fun hk=>?_,by simp,?_⟩,hb.size⟩
  ·have:=h.lt hk;have:=hb.size;omega
  ·exact(Cells.new w1 316 [ptr Z.S.P.a.a,.int .i64 (p.at_:Int)]).cell j v hj
 unfold ptr at HF;clear h ok hr;go_enter func183,ntmps183;go_wp2_with fail;refine k.mono ?_;intro r w1 Lg;obtain⟨v,rfl,hb⟩:=HB.out r w1 Lg;have HX:=Q0a (HF.out w1 hb);clear hb k Lg;go_wp2_with fail
 (try go_ret);exact HX.out
end Go.Proofs.YtfidemmgofcnmaaGreatDoor
