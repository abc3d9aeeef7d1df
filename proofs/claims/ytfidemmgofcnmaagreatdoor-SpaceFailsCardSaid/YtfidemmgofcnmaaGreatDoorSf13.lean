/- SpaceFails returns true at every input. No condition. Part of its proof. -/
import Derived.Test.YtfidemmgofcnmaaGreatDoorSf12
import Derived.Deep.MidRow
set_option maxHeartbeats 2000000
set_option maxRecDepth 100000
set_option linter.unusedVariables false
namespace Go.Proofs.YtfidemmgofcnmaaGreatDoor
open Go.RowKit Go.Proofs.Tryz
def TblC(S:CO)(p:Pl)(g:Nat)(w:World):Prop:=AsideV S.hl [ptr S.P.p,.int .i64 (p.fac:Int),.int .i64 (p.at_:Int)] (some ⟨g,0,none⟩) w
theorem TblC.c0{S:CO}{p:Pl}{g:Nat}{w:World}(h:TblC S p g w):w.cell? ⟨g,0,none⟩=some (.pointer (some ⟨S.P.p,0,none⟩)):=by
 obtain⟨g',e,_,_,c⟩:=h 0 _ rfl;cases e;exact c
theorem TblC.c1{S:CO}{p:Pl}{g:Nat}{w:World}(h:TblC S p g w):w.cell? ⟨g,1,none⟩=some (.int .i64 (p.fac:Int)):=by
 obtain⟨g',e,_,_,c⟩:=h 1 _ rfl;cases e;exact c
theorem TblC.c2{S:CO}{p:Pl}{g:Nat}{w:World}(h:TblC S p g w):w.cell? ⟨g,2,none⟩=some (.int .i64 (p.at_:Int)):=by
 obtain⟨g',e,_,_,c⟩:=h 2 _ rfl;cases e;exact c
structure TT(S:CO)(t:TB)(p:Pl)(g:Nat)(w:World):Prop where
 sep:Sep w S.hl
 pool:∃fr,S.P.Ok fr
 tab:TblC S p g w
 tin:t.In S.P.a.mem p.at_
 al:p.at_%8=0/\p.at_+128<=S.P.a.mem.length
 lv:∀k,k<16->t.lf k≠0->t.lf k%8=0/\t.lf k+256<=S.P.a.mem.length
theorem TT.grown{S:CO}{t:TB}{p:Pl}{g:Nat}{w w':World}(h:TT S t p g w)(hb:Below w.heap.size w w'):TT S t p g w':=
 ⟨(h.sep.grown hb).sep,h.pool,h.tab.step (h.sep.grown hb),h.tin,h.al,h.lv⟩
theorem TPX.tt{S:CO}{fr:List Nat}{N K:Nat}{tb:Nat->TB}{own:Int}{xl xn:List Nat}(ok:S.Ok fr N K)(t:TPX S tb own xl xn){i:Nat}{p:Pl}{g:Nat}{w:World}(hi:S.l[i]?=some p)(h1:p.st=1)(h2:p.kind=2)(hs:Sep w S.hl)(hg:TblC S p g w):TT S (tb i) p g w:=by
 have Ao:=Q1t ok.inv.len hi;have hu:=Q1P ok hi h1 h2;have hm:=Q0m ok.inv.mem.pool hu;have Nn:Q0c 2=128:=rfl;refine⟨hs,⟨fr,ok.inv.mem.pool⟩,hg,t.tin i p hi h1 h2,⟨Q2u ok.inv.mem.pool hu,by omega⟩,fun k hk h0=>?_⟩;have hl:=t.leaf Ao hk h0;have hm:=Q0m ok.inv.mem.pool hl;rw[Q2W] at hm;exact⟨Q2u ok.inv.mem.pool hl,hm.1⟩
section
variable {w:World} {S:CO} {t:TB} {p:Pl} {g:Nat}
theorem Q4J(h:TT S t p g w)(a:Nat)(h8:a%8=0)(hl:a+8<=S.P.a.mem.length):Calls prog 178 #[.pointer (some ⟨g,0,none⟩),.int .i64 a] w fun r w'=>r=.returned (.int .u64 (Q0u S.P.a.mem a:Nat))/\w=w':=by
 obtain⟨fr,hp⟩:=h.pool;have c0:=h.tab.c0;have ka:=Q1h (CO.sP h.sep);have kl:=Z5o (PL.sA (CO.sP h.sep)) hp.bytes a h8 hl (Q0o hp);clear h hp h8 hl;unfold ptr at *
 generalize Q0u S.P.a.mem a=x at *
 go_enter func178,ntmps178;go_wp2_with (first|(go_at_call 50;refine ka.mono ?_;rintro e w'⟨rfl,rfl⟩)|(go_at_call 58;refine kl.mono ?_;rintro e w'⟨rfl,rfl⟩));go_ret;exact⟨rfl,rfl⟩
theorem Q6s(h:TT S t p g w)(s:Nat)(hs:s<256):Calls prog 179 #[.pointer (some ⟨g,0,none⟩),.int .i64 s] w fun r w'=>r=.returned (.int .i64 ((p.at_+8*(s/16):Nat):Int))/\w=w':=by
 have c2:=h.tab.c2;obtain⟨fr,hp⟩:=h.pool;have hm:=Q0o hp;have CH:=h.al.2;have h1:(s:Int).tdiv 16=((s/16:Nat):Int):=by
  rw[J4S (by omega)];omega
 have h2:(s:Int)/16=((s/16:Nat):Int):=by omega
 have hk:s/16<16:=by omega
 have e:((p.at_+8*(s/16):Nat):Int)=(p.at_:Int)+((s/16:Nat):Int)*8:=by omega
 rw[e];generalize s/16=k at *
 generalize p.at_=a at *
 have ha:(a:Int)<=1073741824:=by omega
 have A2:(k:Int)<16:=by omega
 clear h hp hm CH hk e;go_enter func179,ntmps179
 go_wp2
 go_ret;exact⟨by first|rfl|(simp only[h1,h2])|(rw[h2]),rfl⟩
theorem Q5L(w:World)(z:Int):Calls prog 175 #[.int .i64 z] w fun r w'=>r=.returned (.bool (decide (0<=z/\z<256)))/\w=w':=by
 by_cases h0:0<=z
 ·by_cases h1:z<256
  ·rw[decide_eq_true (show 0<=z/\z<256 from⟨h0,h1⟩)];go_enter func175,ntmps175
   go_wp2
   go_ret;exact⟨rfl,rfl⟩
  ·rw[decide_eq_false (show ¬(0<=z/\z<256) from fun h=>h1 h.2)];have hd:decide (z<256)=false:=by simpa using h1
   go_enter func175,ntmps175
   go_wp2
   go_ret;exact⟨rfl,rfl⟩
 ·rw[decide_eq_false (show ¬(0<=z/\z<256) from fun h=>h0 h.1)];have hd:decide (0<=z)=false:=by simpa using h0
  go_enter func175,ntmps175
  go_wp2
  go_ret;exact⟨rfl,rfl⟩
theorem Q3s(w:World)(L s:Nat)(hL:L<=1073741824)(hs:s<256):Calls prog 177 #[.int .i64 L,.int .i64 s] w fun r w'=>r=.returned (.int .i64 ((L+16*(s%16):Nat):Int))/\w=w':=by
 have h1:(s:Int).tmod 16=((s%16:Nat):Int):=by
  rw[J4T (by omega)];omega
 have h2:(s:Int)%16=((s%16:Nat):Int):=by omega
 have hk:s%16<16:=by omega
 have e:((L+16*(s%16):Nat):Int)=(L:Int)+((s%16:Nat):Int)*16:=by omega
 rw[e];generalize s%16=k at *
 have ha:(L:Int)<=1073741824:=by omega
 have A2:(k:Int)<16:=by omega
 clear hk e hL;go_enter func177,ntmps177
 go_wp2
 go_ret;exact⟨by first|rfl|(simp only[h1,h2])|(rw[h2]),rfl⟩
theorem Q4K(h:TT S t p g w)(s:Nat)(hs:s<256):Calls prog 176 #[.pointer (some ⟨g,0,none⟩),.int .i64 s] w fun r w'=>r=.returned (.int .i64 ((t.lf (s/16):Nat):Int))/\w=w':=by
 have hk:s/16<16:=by omega
 have kr:=Q6s h s hs;have CH:=h.al;have kw:=Q4J h (p.at_+8*(s/16)) (by omega) (by omega);rw[h.tin.root (s/16) hk] at kw;obtain⟨fr,hp⟩:=h.pool;have hm:=Q0o hp;have Fu:((t.lf (s/16):Nat):Int)<=1073741824:=by
  by_cases h0:t.lf (s/16)=0
  ·omega
  ·have:=(h.lv _ hk h0).2;omega
 clear h hp hm CH hk;generalize t.lf (s/16)=x at *
 generalize (p.at_+8*(s/16):Nat)=y at *
 go_enter func176,ntmps176;go_wp2_with (first|(go_at_call 179;refine kr.mono ?_;rintro e w'⟨rfl,rfl⟩)|(go_at_call 178;refine kw.mono ?_;rintro e w'⟨rfl,rfl⟩));go_ret;exact⟨rfl,rfl⟩
end
def TB.at'(t:TB)(z:Int):Option Ent:=if 0<=z/\z<256 then t.en z.toNat else none
def getV(o:Option Ent):Ending:=.returned (.tuple #[.int .u64 (Q0s o:Nat),.int .u64 (Q0W o:Nat)])
section
variable {w:World} {S:CO} {t:TB} {p:Pl} {g:Nat}
theorem Q3R(h:TT S t p g w)(z:Int):Calls prog 102 #[.pointer (some ⟨g,0,none⟩),.int .i64 z] w fun r w'=>r=getV (t.at' z)/\w=w':=by
 have km:=Q5L w z;by_cases hz:0<=z/\z<256
 ·obtain⟨s,rfl⟩:=J4G hz.1;have hs:s<256:=by omega
  rw[decide_eq_true hz] at km;have ho:t.at' (s:Int)=t.en s:=by unfold TB.at';rw[if_pos hz,J4h]
  rw[ho];have kl:=Q4K h s hs;by_cases h0:t.lf (s/16)=0
  ·rw[h.tin.hole s hs h0];rw[h0] at kl;unfold getV Q0s Q0W;clear h h0 ho hz;go_enter func102,ntmps102;go_wp2_with (first|(go_at_call 175;refine km.mono ?_;rintro e w'⟨rfl,rfl⟩)|(go_at_call 176;refine kl.mono ?_;rintro e w'⟨rfl,rfl⟩));go_ret2;exact⟨rfl,rfl⟩
  ·obtain⟨e1,e2⟩:=h.tin.ent s hs h0;obtain⟨l8,ll⟩:=h.lv (s/16) (by omega) h0;obtain⟨fr,hp⟩:=h.pool;have hm:=Q0o hp;have ks:=Q3s w (t.lf (s/16)) s (by omega) hs;have k0:=Q4J h (t.lf (s/16)+16*(s%16)) (by omega) (by omega);have k1:=Q4J h (t.lf (s/16)+16*(s%16)+8) (by omega) (by omega);rw[e1] at k0;rw[e2] at k1;have hx:t.lf (s/16)+16*(s%16)<=1073741824:=by omega
   have Aa:(((t.lf (s/16):Nat):Int)==0)=false:=by simpa using h0
   have hc:((t.lf (s/16)+16*(s%16)+8:Nat):Int)=((t.lf (s/16)+16*(s%16):Nat):Int)+8:=by omega
   rw[hc] at k1;unfold getV;generalize Q0s (t.en s)=ca at *
   generalize Q0W (t.en s)=cb at *
   generalize (t.lf (s/16)+16*(s%16):Nat)=x at *
   generalize t.lf (s/16)=L at *
   have Nu:(x:Int)<=1073741824:=by omega
   clear h h0 ho hz e1 e2 l8 ll hp hm hc hx;go_enter func102,ntmps102;go_wp2_with fail;refine km.mono ?_;rintro e w'⟨rfl,rfl⟩;go_wp2_with fail;refine kl.mono ?_;rintro e w'⟨rfl,rfl⟩;go_wp2_with fail;refine kl.mono ?_;rintro e w'⟨rfl,rfl⟩;go_wp2_with fail;refine ks.mono ?_;rintro e w'⟨rfl,rfl⟩;go_wp2_with fail;refine k0.mono ?_;rintro e w'⟨rfl,rfl⟩;go_wp2_with fail;refine k1.mono ?_;rintro e w'⟨rfl,rfl⟩;go_wp2_with fail
   (try go_ret2);exact⟨rfl,rfl⟩
 ·rw[decide_eq_false hz] at km;have ho:t.at' z=none:=by unfold TB.at';rw[if_neg hz]
  rw[ho];unfold getV Q0s Q0W;clear h ho hz;go_enter func102,ntmps102;go_wp2_with (go_at_call 175;refine km.mono ?_;rintro e w'⟨rfl,rfl⟩);go_ret2;exact⟨rfl,rfl⟩
def TB.noneIn(t:TB)(k:Nat):Bool:=(List.range 16).all fun j=>(t.en (16*k+j)).isNone
theorem Z3j(h:TT S t p g w)(k:Nat)(hk:k<16)(h0:t.lf k≠0):Calls prog 215 #[.pointer (some ⟨g,0,none⟩),.int .i64 ((t.lf k:Nat):Int)] w fun r w'=>r=.returned (.bool (t.noneIn k))/\w=w':=by
 obtain⟨fr,hp⟩:=h.pool;have hm:=Q0o hp;obtain⟨l8,ll⟩:=h.lv k hk h0;have HC:Hid (∀j:Nat,j<16->(Calls prog 177 #[.int .i64 ((t.lf k:Nat):Int),.int .i64 j] w fun r w'=>r=.returned (.int .i64 ((t.lf k+16*j:Nat):Int))/\w=w')/\Calls prog 178 #[.pointer (some ⟨g,0,none⟩),.int .i64 ((t.lf k+16*j:Nat):Int)] w fun r w'=>r=.returned (.int .u64 (Q0s (t.en (16*k+j)):Nat))/\w=w'):=fun j hj=>by
  have hd:(16*k+j)/16=k:=by omega
  have RE:(16*k+j)%16=j:=by omega
  have e:=(h.tin.ent (16*k+j) (by omega) (by rw[hd];exact h0)).1;rw[hd,RE] at e;have k1:=Q3s w (t.lf k) j (by omega) (by omega);rw[J4x hj] at k1;have k2:=Q4J h (t.lf k+16*j) (by omega) (by omega);rw[e] at k2;exact⟨k1,k2⟩
 have HT:Hid (∀j:Nat,(∀i:Nat,i<j->t.en (16*k+i)=none)->j=16->t.noneIn k=true):=fun j hj e=>by
  subst e;unfold TB.noneIn;rw[J6h];intro i hi;rw[hj i (J3s.1 hi)];rfl
 have HF:Hid (∀j:Nat,j<16->t.en (16*k+j)≠none->t.noneIn k=false):=fun j hj Aa=>by
  unfold TB.noneIn;rw[List.all_eq_false];exact⟨j,J3s.2 hj,by cases hx:t.en (16*k+j) with|none=>exact absurd hx Aa|some e=>simp⟩
 clear h hp hm l8 ll h0;go_enter func215,ntmps215;go_wp2_with fail
 go_loopg [6] 16 (fun gk iv wr=>∃j:Nat,iv=.int .i64 j/\j+gk=16/\(∀i,i<j->t.en (16*k+i)=none)/\w=wr)
 case atStart=>exact⟨0,rfl,rfl,fun i hi=>by omega,rfl⟩
 case round =>
  obtain⟨j,rfl,Iy,AZ,rfl⟩:=hrel;have Nl:=Q0a AZ;have Jj:=Q0a Iy;clear AZ Iy;by_cases hj:j<16
  ·obtain⟨k1,k2⟩:=HC.out j hj;have OR:(j:Int)<16:=by omega
   cases he:t.en (16*k+j) with
   | none =>
    rw[he] at k2;have HE:=Q0a he;unfold Q0s at k2;generalize (t.lf k+16*j:Nat)=x at *
    generalize t.lf k=L at *
    clear he;go_wp2_with fail;refine k1.mono ?_;rintro e w'⟨rfl,rfl⟩;go_wp2_with fail;refine k2.mono ?_;rintro e w'⟨rfl,rfl⟩;go_wp2_with fail;go_roundg (16-(j+1))
    case measure=>have:=Jj.out;omega
    case rel=>exact⟨j+1,by go_num,by have:=Jj.out;omega,fun i hi=>by
     by_cases e:i=j
     ·subst e;exact HE.out
     ·exact Nl.out i (by omega),rfl⟩
   | some e =>
    rw[he] at k2;have Aa:Q0s (some e)≠0:=fun hz=>by cases codeA_zero.1 hz
    have FV:(((Q0s (some e):Nat):Int) != 0)=true:=by simpa using Aa
    have MJ:(((Q0s (some e):Nat):Int)==0)=false:=by simpa using Aa
    have HR:=Q0a (HF.out j hj (by rw[he];simp));generalize Q0s (some e)=ca at *
    generalize (t.lf k+16*j:Nat)=x at *
    generalize t.lf k=L at *
    clear he Aa;go_wp2_with fail;refine k1.mono ?_;rintro e w'⟨rfl,rfl⟩;go_wp2_with fail;refine k2.mono ?_;rintro e w'⟨rfl,rfl⟩;go_wp2_with fail
    (try go_ret);exact⟨by first|(rw[HR.out];done)|(rw[HR.out];rfl),rfl⟩
  ·have Na:j=16:=by have:=Jj.out;omega
   have HR:=Q0a (HT.out j Nl.out Na);subst Na;go_wp2_with fail;go_ret;exact⟨by first|(rw[HR.out];done)|(rw[HR.out];rfl),rfl⟩
end
theorem Q9m{w:World}{H:HL}(h:Sep w H):w.heap.size∉keys H:=fun hk=>by have:=h.lt hk;omega
section
variable {S:CO} {fr:List Nat} {N K:Nat} {tb:Nat->TB} {own:Int} {xl xn:List Nat}
theorem Q4k(ok:S.Ok fr N K)(t:TPX S tb own xl xn){i s:Nat}{p:Pl}(hi:S.l[i]?=some p)(h1:p.st=1)(h2:p.kind=2)(Af:(p.fac:Int)=own)(hs:s<256)(hl:(tb i).lf (s/16)≠0){o:Option Ent}{xn':List Nat}(hn:(xn'++((tb i).setE s o).nds).Perm (xn++(tb i).nds))
  (hA:Q0s o<18446744073709551616) (hB:Q0W o<18446744073709551616) {w:World} (AE:Sep w S.hl) :
  Calls prog 57 #[.pointer (some ⟨S.P.a.a,0,none⟩),.int .i64 (((tb i).lf (s/16)+16*(s%16):Nat):Int),.slice (some ⟨w.heap.size,0,none⟩) 2 2] (w.alloc (.cells #[.int .u64 (Q0s o:Nat),.int .u64 (Q0W o:Nat)] 83)) fun r w' =>
   r=.returned (.int .i64 0)/\∃S':CO,S'.Ok fr N K/\TPX S' (updT tb i ((tb i).setE s o)) own xl xn'/\Alt S S' own/\Step S.hl S'.hl w w':=by
 have Ao:=Q1t ok.inv.len hi;have hL:=t.leaf Ao (by omega:s/16<16) hl;have hm:=Q0m ok.inv.mem.pool hL;rw[Q2W] at hm;have h8:=Q2u ok.inv.mem.pool hL;have hb:=Q0o ok.inv.mem.pool;have sa:=AE.alloc (.cells #[.int .u64 (Q0s o:Nat),.int .u64 (Q0W o:Nat)] 83);have cn:=Cells.new w 83 [.int .u64 (Q0s o:Nat),.int .u64 (Q0W o:Nat)];have k:=Z6o (PL.sA (CO.sP sa)) ((tb i).lf (s/16)+16*(s%16)) (Q0s o) (Q0W o) (by omega) (by omega) hb hA hB w.heap.size (cn.cell 0 _ rfl) (cn.cell 1 _ rfl) (by simp) (Q9m (PL.sA (CO.sP AE)));refine k.mono ?_;rintro r w'⟨rfl,st⟩;obtain⟨m,Gk⟩:∃m,m=put_ S.P.a.mem ((tb i).lf (s/16)+16*(s%16)) (Q0d (Q0s o)++Q0d (Q0W o)):=⟨_,rfl⟩
 rw[<- Gk] at st;have Ac:m.length=S.P.a.mem.length:=by rw[Gk];exact Q2v _ _ _ (by rw[Q1n];omega)
 have J7:∀b∈m,b<256:=by
  rw[Gk];refine Q9k ok.inv.mem.pool.bytes fun b Al=>?_
  rcases J3Q.1 Al with Al|Al
  ·exact Q3r _ b Al
  ·exact Q3r _ b Al
 have hk:Q4j S.P.a.mem m ((tb i).lf (s/16)+16*(s%16)) 16:=by
  rw[Gk];have:=Q6o (m:=S.P.a.mem) (bs:=Q0d (Q0s o)++Q0d (Q0W o)) (a:=(tb i).lf (s/16)+16*(s%16)) (by rw[Q1n];omega)
  rwa [Q1n] at this
 obtain⟨ha,Ai⟩:=Z3g (m:=S.P.a.mem) (a:=(tb i).lf (s/16)+16*(s%16)) (x:=Q0s o) (y:=Q0W o) (by omega) hA hB;rw[<- Gk] at ha Ai;obtain⟨ok',t'⟩:=t.entry ok hi h1 h2 Af hs hl Ac J7 hk ha Ai hn;have st':Step S.hl (S.setP (S.P.setA m)).hl (w.alloc (.cells #[.int .u64 (Q0s o:Nat),.int .u64 (Q0W o:Nat)] 83)) w':=CO.stepMem sa m st;exact⟨rfl,_,ok',t',Alt.mem ok own (.inr rfl) hL (by omega) (by rw[Q2W];omega) Ac hk,st'.from_alloc⟩
theorem Q7F(ok:S.Ok fr N K)(t:TPX S tb own xl xn){i k:Nat}{p:Pl}(hi:S.l[i]?=some p)(h1:p.st=1)(h2:p.kind=2)(Af:(p.fac:Int)=own)(CL:k<16){L:Nat}{xl':List Nat}(hL64:L<18446744073709551616)(hn:(xl'++((tb i).setL k L).lvs).Perm (xl++(tb i).lvs))
  (Ay:((tb i).lf k=0/\L≠0/\L∈S.P.usedOf 7/\∀j,L<=j->j<L+256->S.P.a.mem[j]?=some 0)∨(L=0/\∀s,s<256->s/16=k->(tb i).en s=none)) {w:World} (AE:Sep w S.hl) :
  Calls prog 57 #[.pointer (some ⟨S.P.a.a,0,none⟩),.int .i64 ((p.at_+8*k:Nat):Int),.slice (some ⟨w.heap.size,0,none⟩) 1 1] (w.alloc (.cells #[.int .u64 (L:Nat)] 83)) fun r w' =>
   r=.returned (.int .i64 0)/\∃S':CO,S'.Ok fr N K/\TPX S' (updT tb i ((tb i).setL k L)) own xl' xn/\Alt S S' own/\Step S.hl S'.hl w w':=by
 have Ao:=Q1t ok.inv.len hi;have hT:=Q1P ok hi h1 h2;have Nn:Q0c 2=128:=rfl;have hm:=Q0m ok.inv.mem.pool hT;rw[Nn] at hm;have h8:=Q2u ok.inv.mem.pool hT;have hb:=Q0o ok.inv.mem.pool;have sa:=AE.alloc (.cells #[.int .u64 (L:Nat)] 83);have cn:=Cells.new w 83 [.int .u64 (L:Nat)];have kk:=Z1S (PL.sA (CO.sP sa)) (p.at_+8*k) L (by omega) (by omega) hb hL64 w.heap.size (cn.cell 0 _ rfl) (by simp) (Q9m (PL.sA (CO.sP AE)));refine kk.mono ?_;rintro r w'⟨rfl,st⟩;obtain⟨m,Gk⟩:∃m,m=put_ S.P.a.mem (p.at_+8*k) (Q0d L):=⟨_,rfl⟩
 rw[<- Gk] at st;have Ac:m.length=S.P.a.mem.length:=by rw[Gk];exact Q2v _ _ _ (by rw[bytes8_len];omega)
 have J7:∀b∈m,b<256:=by
  rw[Gk];exact Q9k ok.inv.mem.pool.bytes (Q3r _)
 have hk:Q4j S.P.a.mem m (p.at_+8*k) 8:=by
  rw[Gk];exact Q6o (m:=S.P.a.mem) (bs:=Q0d L) (a:=p.at_+8*k) (by rw[bytes8_len];omega)
 have B6:Q0u m (p.at_+8*k)=L:=by rw[Gk];exact Z3f (by omega) hL64
 have hr:∀x,x<16->x≠k->Kept S.P.a.mem m (p.at_+8*x) 8:=fun x hx Aa=>hk _ _ (by omega)
 have Bs:∀a,a∈S.P.usedOf 7->Kept S.P.a.mem m a 256:=fun a ha=>Q4I ok hT (b:=p.at_+8*k) (n:=8) (by omega) (by omega) hk ha (by omega)
 have Cm:((tb i).setL k L).In m p.at_:=by
  rcases Ay with ⟨c1,c2,c3,c4⟩|⟨c1,c2⟩
  ·refine(t.tin i p hi h1 h2).grow CL c1 c2 B6 (fun j j1 j2=>?_) hr (fun x hx h0=>Bs _ (t.leaf Ao hx h0));rw[Bs L c3 j j1 j2];exact c4 j j1 j2
  ·subst c1;exact(t.tin i p hi h1 h2).drop CL c2 B6 hr (fun x hx Aa h0=>Bs _ (t.leaf Ao hx h0))
 obtain⟨ok',t'⟩:=t.rootw ok hi h1 h2 Af CL Ac J7 hk Cm hn;have st':Step S.hl (S.setP (S.P.setA m)).hl (w.alloc (.cells #[.int .u64 (L:Nat)] 83)) w':=CO.stepMem sa m st;exact⟨rfl,_,ok',t',Alt.mem ok own (.inl rfl) hT (by omega) (by omega) Ac hk,st'.from_alloc⟩
end
theorem TblC.alt{S S':CO}{p:Pl}{g:Nat}{w w':World}{own:Int}(h:TblC S p g w)(al:Alt S S' own)(st:Step S.hl S'.hl w w'):TblC S' p g w':=by
 unfold TblC;rw[al.same.p];exact AsideV.step h st
theorem Q1c(tb:Nat->TB)(i:Nat)(a b:TB):updT (updT tb i a) i b=updT tb i b:=by
 funext j;unfold updT;split <;> rfl
theorem Z8O{m:List Nat}{a n j:Nat}(h:a+n<=m.length)(h1:a<=j)(h2:j<a+n):(put_ m a (List.replicate n 0))[j]?=some 0:=by
 unfold put_;rw[J4c,J6r (by rw[J5v];omega),J5v,J6B (by omega),J6q (by rw[J3l];omega),J5d,if_pos (by omega)]
def Put1(S:CO)(fr:List Nat)(N K:Nat)(tb:Nat->TB)(own:Int)(xl xn:List Nat)(i s:Nat)(o:Option Ent)(w w':World):Prop:=
 ∃(S':CO) (t':TB),S'.Ok fr N K/\TPX S' (updT tb i t') own xl xn/\(∀x,t'.en x=if x=s then o else(tb i).en x)/\((tb i).Full->t'.Full)/\(∀k,(tb i).lf k=0∨t'.lf k=0∨t'.lf k=(tb i).lf k)/\Alt S S' own/\Step S.hl S'.hl w w'
def SetR(S:CO)(fr:List Nat)(N K:Nat)(tb:Nat->TB)(own:Int)(xl xn:List Nat)(i s:Nat)(o:Option Ent)(w:World)(r:Ending)(w':World):Prop:=
 (r=.returned (.int .i64 0)/\Put1 S fr N K tb own xl xn i s o w w') ∨
 ((tb i).lf (s/16)=0/\Step S.hl S.hl w w'/\((NoRoom S.P 7/\r=.returned (.int .i64 4))∨((∃e,find S.P.q.E own=some e/\e.q.limit-(e.q.charged+e.q.given)<256)/\r=.returned (.int .i64 5))))
theorem Z2g{t:TB}{s:Nat}{e:Ent}{t':TB}(hs:s<256)(hl:∀k,k<16->t'.lf k≠0->t.lf k≠0∨k=s/16)(he:∀x,t'.en x=if x=s then some e else t.en x)(h:t.Full):t'.Full:=by
 intro k hk h0;by_cases DB:k=s/16
 ·exact⟨s,hs,DB.symm,by rw[he,if_pos rfl];simp⟩
 ·obtain⟨x,hx,e1,e2⟩:=h k hk ((hl k hk h0).resolve_right DB);refine⟨x,hx,e1,?_⟩;rw[he];split
  ·simp
  ·exact e2
section
variable {S:CO} {fr:List Nat} {N K:Nat} {tb:Nat->TB} {own:Int} {xl xn xn':List Nat}
theorem Q6t(ok:S.Ok fr N K)(t:TPX S tb own xl xn){i s:Nat}{p:Pl}(hi:S.l[i]?=some p)(h1:p.st=1)(h2:p.kind=2)(Af:(p.fac:Int)=own)(hs:s<256)(hl:(tb i).lf (s/16)≠0){e:Ent}(hn:(xn'++((tb i).setE s (some e)).nds).Perm (xn++(tb i).nds))
  (hA:Q0s (some e)<18446744073709551616) (hB:Q0W (some e)<18446744073709551616) {w:World} (AE:Sep w S.hl) :
  Calls prog 57 #[.pointer (some ⟨S.P.a.a,0,none⟩),.int .i64 (((tb i).lf (s/16)+16*(s%16):Nat):Int),.slice (some ⟨w.heap.size,0,none⟩) 2 2] (w.alloc (.cells #[.int .u64 (Q0s (some e):Nat),.int .u64 (Q0W (some e):Nat)] 83)) fun r w' =>
   r=.returned (.int .i64 0)/\Put1 S fr N K tb own xl xn' i s (some e) w w':=by
 refine(Q4k ok t hi h1 h2 Af hs hl hn hA hB AE).mono ?_;rintro r w'⟨rfl,S',ok',t',al,st⟩;exact⟨rfl,S',_,ok',t',fun _=>rfl,Z2g hs (fun k _ h=>.inl h) fun _=>rfl,fun _=>.inr (.inr rfl),al,st⟩
theorem Z8P(ok:S.Ok fr N K)(t:TPX S tb own xl xn){i s:Nat}{p:Pl}(hi:S.l[i]?=some p)(h1:p.st=1)(h2:p.kind=2)(Af:(p.fac:Int)=own)(hs:s<256)(hl:(tb i).lf (s/16)≠0){e:Ent}(hn:(xn'++((tb i).setE s (some e)).nds).Perm (xn++(tb i).nds))
  (hA:Q0s (some e)<18446744073709551616) (hB:Q0W (some e)<18446744073709551616) {w:World} {g:Nat} (AE:Sep w S.hl) (hg:TblC S p g w) :
  Calls prog 103 #[.pointer (some ⟨g,0,none⟩),.int .i64 s,.int .u64 (Q0s (some e):Nat),.int .u64 (Q0W (some e):Nat)] w (SetR S fr N K tb own xl xn' i s (some e) w):=by
 have Ao:=Q1t ok.inv.len hi;have T:=t.tt ok hi h1 h2 AE hg;have hL:=t.leaf Ao (by omega:s/16<16) hl;have hm:=Q0m ok.inv.mem.pool hL;have hb:=Q0o ok.inv.mem.pool;have c0:=hg.c0;have km:=Q5L w (s:Int);rw[decide_eq_true (show 0<=(s:Int)/\(s:Int)<256 from⟨by omega,by omega⟩)] at km;have kl:=Q4K T s hs;have ka:=Q1h (CO.sP AE);have ks:=Q3s w ((tb i).lf (s/16)) s (by omega) hs;have HX:Hid (Calls prog 57 #[.pointer (some ⟨S.P.a.a,0,none⟩),.int .i64 (((tb i).lf (s/16)+16*(s%16):Nat):Int),.slice (some ⟨w.heap.size,0,none⟩) 2 2] (w.alloc (.cells #[.int .u64 (Q0s (some e):Nat),.int .u64 (Q0W (some e):Nat)] 83)) fun r w' =>
   r=.returned (.int .i64 0)/\SetR S fr N K tb own xl xn' i s (some e) w (.returned (.int .i64 0)) w'):=by
  refine(Q6t ok t hi h1 h2 Af hs hl hn hA hB AE).mono ?_;rintro r w'⟨rfl,h⟩;exact⟨rfl,.inl ⟨rfl,h⟩⟩
 have Cw:Q0s (some e)≠0:=fun h=>by simpa using codeA_zero.1 h
 have Aa:(((Q0s (some e):Nat):Int)==0)=false:=by simpa using Cw
 have B0:((((tb i).lf (s/16):Nat):Int)==0)=false:=by simpa using hl
 generalize SetR S fr N K tb own xl xn' i s (some e) w=Q at *
 unfold ptr at *
 generalize Q0s (some e)=x at *
 generalize Q0W (some e)=y at *
 generalize ((tb i).lf (s/16)+16*(s%16):Nat)=u at *
 generalize (tb i).lf (s/16)=L at *
 clear ok t hi T hL hm hn AE hg Af h1 h2 hl Cw;go_enter func103,ntmps103;go_wp2_with fail;refine km.mono ?_;rintro e w'⟨rfl,rfl⟩;go_wp2_with fail;refine kl.mono ?_;rintro e w'⟨rfl,rfl⟩;go_wp2_with fail;refine ka.mono ?_;rintro e w'⟨rfl,rfl⟩;go_wp2_with fail;refine ks.mono ?_;rintro e w'⟨rfl,rfl⟩;go_wp2_with fail;refine HX.out.mono ?_;rintro e w'⟨rfl,hy⟩;have HY:=Q0a hy;clear hy HX;go_wp2_with fail
 (try go_ret2);exact HY.out
theorem Z8Q(ok:S.Ok fr N K)(t:TPX S tb own xl xn){i s:Nat}{p:Pl}(hi:S.l[i]?=some p)(h1:p.st=1)(h2:p.kind=2)(Af:(p.fac:Int)=own)(hs:s<256)(hl:(tb i).lf (s/16)=0){ac:En Fa}(F5:find S.P.q.E own=some ac){e:Ent}(hn:(xn'++((tb i).setE s (some e)).nds).Perm (xn++(tb i).nds))
  (hA:Q0s (some e)<18446744073709551616) (hB:Q0W (some e)<18446744073709551616) {w:World} {g:Nat} (AE:Sep w S.hl) (hg:TblC S p g w) :
  Calls prog 103 #[.pointer (some ⟨g,0,none⟩),.int .i64 s,.int .u64 (Q0s (some e):Nat),.int .u64 (Q0W (some e):Nat)] w (SetR S fr N K tb own xl xn' i s (some e) w):=by
 have Ao:=Q1t ok.inv.len hi;have T:=t.tt ok hi h1 h2 AE hg;have km:=Q5L w (s:Int);rw[decide_eq_true (show 0<=(s:Int)/\(s:Int)<256 from⟨by omega,by omega⟩)] at km;have kl:=Q4K T s hs;rw[hl] at kl;have c0:=hg.c0;have c1:=hg.c1;have d0:w.drew.cell? ⟨g,0,none⟩=some (.pointer (some ⟨S.P.p,0,none⟩)):=c0;have d1:w.drew.cell? ⟨g,1,none⟩=some (.int .i64 (p.fac:Int)):=c1;have Rx:Q1j 7=256:=costs_67.2;have HG:Hid (Calls prog 15 #[.pointer (some ⟨S.P.p,0,none⟩),.int .i64 (p.fac:Int),.int .i64 7] w.drew fun r w1 =>
   (w1.cell? ⟨g,0,none⟩=some (.pointer (some ⟨S.P.p,0,none⟩))/\w1.cell? ⟨g,1,none⟩=some (.int .i64 (p.fac:Int))) /\
   ∃a er:Int,r=.returned (.tuple #[.int .i64 a,.int .i64 er])/\(((er=4∨er=5)/\SetR S fr N K tb own xl xn' i s (some e) w (.returned (.int .i64 er)) w1) ∨
    (∃L:Nat,a=(L:Int)/\er=0/\(0<L/\L<=1073741824) /\
    Calls prog 50 #[.pointer (some ⟨S.P.p,0,none⟩)] w1 (fun r w'=>r=.returned (.pointer (some ⟨S.P.a.a,0,none⟩))/\w1=w') /\
    Calls prog 179 #[.pointer (some ⟨g,0,none⟩),.int .i64 s] w1 (fun r w'=>r=.returned (.int .i64 ((p.at_+8*(s/16):Nat):Int))/\w1=w') /\
    Calls prog 57 #[.pointer (some ⟨S.P.a.a,0,none⟩),.int .i64 ((p.at_+8*(s/16):Nat):Int),.slice (some ⟨w1.heap.size,0,none⟩) 1 1] (w1.alloc (.cells #[.int .u64 (L:Nat)] 83)) (fun r w2=>r=.returned (.int .i64 0)/\w2.cell? ⟨g,0,none⟩=some (.pointer (some ⟨S.P.p,0,none⟩)) /\
     Calls prog 50 #[.pointer (some ⟨S.P.p,0,none⟩)] w2 (fun r w'=>r=.returned (.pointer (some ⟨S.P.a.a,0,none⟩))/\w2=w') /\
     Calls prog 177 #[.int .i64 L,.int .i64 s] w2 (fun r w'=>r=.returned (.int .i64 ((L+16*(s%16):Nat):Int))/\w2=w') /\
     Calls prog 57 #[.pointer (some ⟨S.P.a.a,0,none⟩),.int .i64 ((L+16*(s%16):Nat):Int),.slice (some ⟨w2.heap.size,0,none⟩) 2 2] (w2.alloc (.cells #[.int .u64 (Q0s (some e):Nat),.int .u64 (Q0W (some e):Nat)] 83)) (fun r w3=>r=.returned (.int .i64 0)/\SetR S fr N K tb own xl xn' i s (some e) w (.returned (.int .i64 0)) w3))))):=by
  rw[Af];refine(Q5G (CO.sP AE.drew) ok.inv.mem.pool own 7).mono ?_;rintro r w1 MT;have cellsOf:∀{H':HL},Step S.hl H' w w1->w1.cell? ⟨g,0,none⟩=some (.pointer (some ⟨S.P.p,0,none⟩))/\w1.cell? ⟨g,1,none⟩=some (.int .i64 own):=fun {H'} st=>by
   have hx:=AsideV.step hg st;obtain⟨g0,e0,_,_,z0⟩:=hx 0 _ rfl;obtain⟨g1,e1,_,_,z1⟩:=hx 1 _ rfl;cases e0;cases e1;rw[<- Af];exact⟨z0,z1⟩
  rcases MT with ⟨h0,_⟩|⟨_,h0,_⟩|⟨_,A8,rfl,st⟩|⟨n,ac',VT,Ta,Vg,TJ,Ia,hr⟩
  ·rw[Rx] at h0;omega
  ·rw[F5] at h0;cases h0
  ·have st':Step S.hl S.hl w w1:=(CO.stepP AE.drew S.P rfl st).from_drew;refine⟨cellsOf st',0,5,rfl,.inl ⟨.inr rfl,.inr ⟨hl,st',.inr ⟨?_,rfl⟩⟩⟩⟩;obtain⟨x,q1,q2⟩:=A8;rw[Rx] at q2;exact⟨x,q1,q2⟩
  ·obtain rfl:n=7:=by omega
   rcases hr with ⟨L,P',rfl,g7,st⟩|⟨Aq,rfl,st⟩
   ·have AH:∃p∈S.l,p.st=1/\(p.fac:Int)=own:=⟨p,J5q hi,h1,Af⟩
    obtain⟨ok1,t1⟩:=TPX.got ok t (.inr rfl) g7 AH;have al1:=Alt.got ok g7;rw[if_pos rfl,if_neg (by decide)] at t1;have BH:P'.p=S.P.p:=g7.p;have st1:Step S.hl (S.paid P' own ((Q0c 7:Nat):Int)).hl w w1:=(CO.stepPaid AE.drew P' own _ BH st).from_drew;have Rz:L∈P'.usedOf 7:=by
     obtain⟨A,B,_,e2⟩:=g7.used;rw[e2];simp
    have R5:=Q0m ok1.inv.mem.pool Rz;have GE:=Q0o ok1.inv.mem.pool;rw[Q2W] at R5;have UW:L+256<=P'.a.mem.length:=R5.1;have Qs:P'.a.mem.length<=1073741824:=GE;have Ch:=hg.alt al1 st1;have T1:=t1.tt ok1 (show(S.paid P' own ((Q0c 7:Nat):Int)).l[i]?=some p from hi) h1 h2 st1.sep Ch;have QZ:=Q1h (CO.sP st1.sep);have SN:(S.paid P' own ((Q0c 7:Nat):Int)).P.a.a=S.P.a.a:=al1.same.aa;rw[SN,show(S.paid P' own ((Q0c 7:Nat):Int)).P.p=S.P.p from BH] at QZ;have hz:∀j,L<=j->j<L+256->P'.a.mem[j]?=some 0:=fun j j1 j2=>by
     have C0:=(g7.gotM ok.inv.mem.pool).room.1;rw[g7.mem];exact Z8O C0 j1 j2
    refine⟨cellsOf st1,(L:Int),0,rfl,.inr ⟨L,rfl,rfl,⟨by omega,by omega⟩,QZ,Q6s T1 s hs,?_⟩⟩;have BB:(xl++((tb i).setL (s/16) L).lvs).Perm ((L::xl)++(tb i).lvs):=by
     refine(J5R xl (TB.lvs_new (by omega) hl (by omega:L≠0))).trans ?_;exact J6H
    have kr:=Q7F ok1 t1 (show(S.paid P' own ((Q0c 7:Nat):Int)).l[i]?=some p from hi) h1 h2 Af (by omega:s/16<16) (by omega:L<18446744073709551616) BB (.inl ⟨hl,by omega,Rz,hz⟩) st1.sep;rw[SN] at kr;refine kr.mono ?_;rintro r w2⟨rfl,S2,ok2,t2,al2,st2⟩;have al12:=al1.trans al2;have st12:=st1.trans st2;have Bu:=hg.alt al12 st12;have c2:=Bu.c0;rw[al12.same.p] at c2;have Ha:=Q1h (CO.sP st2.sep);rw[al12.same.aa,al12.same.p] at Ha;have D8:S2.l[i]?=some p:=by rw[al12.l];exact hi
    have Mz:(updT tb i ((tb i).setL (s/16) L) i).lf (s/16)=L:=by
     rw[updT_same];show(if s/16=s/16 then L else _)=L;rw[if_pos rfl]
    have Hn:(xn'++((updT tb i ((tb i).setL (s/16) L) i).setE s (some e)).nds).Perm (xn++(updT tb i ((tb i).setL (s/16) L) i).nds):=by
     rw[updT_same];exact hn
    have RF:=Q4k ok2 t2 D8 h1 h2 Af hs (by rw[Mz];omega) Hn hA hB st2.sep;rw[Mz,al12.same.aa] at RF;refine⟨rfl,c2,Ha,Q3s w2 L s (by omega) hs,RF.mono ?_⟩;rintro r w3⟨rfl,S3,ok3,t3,al3,st3⟩;rw[updT_same,Q1c] at t3;refine⟨rfl,.inl ⟨rfl,S3,_,ok3,t3,fun _=>rfl,Z2g hs (fun k hk h0=>?_) fun _=>rfl,fun k=>?_,al12.trans al3,st12.trans st3⟩⟩
    ·by_cases DB:k=s/16
     ·exact .inr DB
     ·refine .inl ?_;have Dj:(if k=s/16 then L else(tb i).lf k)≠0:=h0
      rwa [if_neg DB] at Dj
    ·by_cases DB:k=s/16
     ·exact .inl (by rw[DB];exact hl)
     ·refine .inr (.inr ?_);show(if k=s/16 then L else(tb i).lf k)=_;rw[if_neg DB]
   ·have st':Step S.hl S.hl w w1:=(CO.stepP AE.drew S.P rfl st).from_drew;exact⟨cellsOf st',0,4,rfl,.inl ⟨.inl rfl,.inr ⟨hl,st',.inl ⟨Aq,rfl⟩⟩⟩⟩
 have Cw:Q0s (some e)≠0:=fun h=>by simpa using codeA_zero.1 h
 have Aa:(((Q0s (some e):Nat):Int)==0)=false:=by simpa using Cw
 generalize SetR S fr N K tb own xl xn' i s (some e) w=Q at *
 unfold ptr at *
 generalize Q0s (some e)=x at *
 generalize Q0W (some e)=y at *
 generalize (p.at_+8*(s/16):Nat)=u at *
 generalize (p.fac:Int)=fa at *
 clear ok t hi T hn AE hg Af h1 h2 hl Cw F5;go_enter func103,ntmps103;go_wp2_with fail;refine km.mono ?_;rintro e w'⟨rfl,rfl⟩;go_wp2_with fail;refine kl.mono ?_;rintro e w'⟨rfl,rfl⟩;go_wp2_with fail
 go_region_held3 (fun w'=>w'.cell? ⟨g,0,none⟩=some (.pointer (some ⟨S.P.p,0,none⟩))/\w'.cell? ⟨g,1,none⟩=some (.int .i64 fa)) (first|exact⟨c0,c1⟩|exact⟨d0,d1⟩|exact Ak)
  (first|(go_at_call 15;refine HG.out.mono ?_;rintro r w1⟨Ak,a,er,rfl,hy⟩;have HW:=Q0a hy;clear hy HG))
 rcases HW.out with ⟨Co,hy⟩|⟨L,rfl,rfl,hL,hy⟩
 ·have HY:=Q0a hy;clear hy HW;rcases Co with rfl|rfl
  all_goals
   go_wp2_with fail
   (try go_ret2);exact HY.out
 ·obtain⟨ka,Ip,ks⟩:=hy;have HS:=Q0a ks;have NP:=Ak.1;have VZ:=hL.2;clear ks HW;go_wp2_with fail;refine ka.mono ?_;rintro e w'⟨rfl,rfl⟩;go_wp2_with fail;refine Ip.mono ?_;rintro e w'⟨rfl,rfl⟩;go_wp2_with fail;refine HS.out.mono ?_;rintro e w2⟨rfl,c2,Ha,UG,hz⟩;have HZ:=Q0a hz;clear hz HS ka Ip;go_wp2_with fail;refine Ha.mono ?_;rintro e w'⟨rfl,rfl⟩;go_wp2_with fail;refine UG.mono ?_;rintro e w'⟨rfl,rfl⟩;go_wp2_with fail;refine HZ.out.mono ?_;rintro e w3⟨rfl,hq⟩;have HQ:=Q0a hq;clear hq HZ;go_wp2_with fail
  (try go_ret2);exact HQ.out
end
theorem Z0O{t:TB}{k:Nat}(h:t.noneIn k=true):∀s,s<256->s/16=k->t.en s=none:=by
 intro s hs hk;unfold TB.noneIn at h;rw[J6h] at h;have:=h (s%16) (J3s.2 (J6i _ (by omega)));rw[show 16*k+s%16=s by omega] at this;exact Option.isNone_iff_eq_none.1 this
theorem Q9n{t:TB}{k:Nat}(hk:k<16)(h:t.noneIn k=false):∃s,s<256/\s/16=k/\t.en s≠none:=by
 unfold TB.noneIn at h;rw[List.all_eq_false] at h;obtain⟨j,hj,hn⟩:=h;have:=J3s.1 hj;refine⟨16*k+j,by omega,by omega,fun e=>hn ?_⟩;rw[e];rfl
section
variable {S:CO} {fr:List Nat} {N K:Nat} {tb:Nat->TB} {own:Int} {xl xn:List Nat}
theorem Q9o(ok:S.Ok fr N K){i:Nat}{p:Pl}(hi:S.l[i]?=some p)(h1:p.st=1):∃e,find S.P.q.E (p.fac:Int)=some e:=ok.inv.tre.fac p (J5q hi) (Pl.is_iff.2 (.inl h1))
theorem TPX.paid(ok:S.Ok fr N K)(t:TPX S tb own xl xn){e:En Fa}(he:find S.P.q.E own=some e):256*(xl.length:Int)+48*(xn.length:Int)<=e.q.charged:=by
 have h1:=ok.inv.tre.charged own e he;have h2:=t.xc own;rw[if_pos rfl] at h2;have h3:=Z0F S.l tb own;have h4:=Q5c S.l own;omega
theorem Z3k(ok:S.Ok fr N K)(t:TPX S tb own xl xn){i s:Nat}{p:Pl}(hi:S.l[i]?=some p)(h1:p.st=1)(h2:p.kind=2)(Af:(p.fac:Int)=own)(hs:s<256){e:Ent}(he:(tb i).en s=some e){w:World}{g:Nat}(AE:Sep w S.hl)(hg:TblC S p g w) :
  Calls prog 173 #[.pointer (some ⟨g,0,none⟩),.int .i64 s] w fun r w'=>r=.returned (.int .i64 0)/\Put1 S fr N K tb own xl (e.nd::xn) i s none w w':=by
 have Ao:=Q1t ok.inv.len hi;have T:=t.tt ok hi h1 h2 AE hg;have hl:(tb i).lf (s/16)≠0:=fun h=>by
  have:=T.tin.hole s hs h;rw[he] at this;cases this
 have hL:=t.leaf Ao (by omega:s/16<16) hl;have hm:=Q0m ok.inv.mem.pool hL;have hb:=Q0o ok.inv.mem.pool;have c0:=hg.c0;have kg:=Q3R T (s:Int);rw[show(tb i).at' (s:Int)=some e by unfold TB.at';rw[if_pos ⟨by omega,by omega⟩,J4h,he]] at kg;have km:=Q5L w (s:Int);rw[decide_eq_true (show 0<=(s:Int)/\(s:Int)<256 from⟨by omega,by omega⟩)] at km;have kl:=Q4K T s hs;have ka:=Q1h (CO.sP AE);have ks:=Q3s w ((tb i).lf (s/16)) s (by omega) hs;have BB:((e.nd::xn)++((tb i).setE s none).nds).Perm (xn++(tb i).nds):=by
  refine List.Perm.trans ?_ (J5R xn (TB.nds_clr hs he).symm);exact J6H.symm
 have AH:∃p∈S.l,p.st=1/\(p.fac:Int)=own:=⟨p,J5q hi,h1,Af⟩
 have HX:Hid (Calls prog 57 #[.pointer (some ⟨S.P.a.a,0,none⟩),.int .i64 (((tb i).lf (s/16)+16*(s%16):Nat):Int),.slice (some ⟨w.heap.size,0,none⟩) 2 2] (w.alloc (.cells #[.int .u64 0,.int .u64 0] 83)) fun r w2 =>
   r=.returned (.int .i64 0)/\w2.cell? ⟨g,0,none⟩=some (.pointer (some ⟨S.P.p,0,none⟩))/\∃b:Bool,Calls prog 215 #[.pointer (some ⟨g,0,none⟩),.int .i64 (((tb i).lf (s/16):Nat):Int)] w2 (fun r w'=>r=.returned (.bool b)/\w2=w') /\
    ((b=false/\Put1 S fr N K tb own xl (e.nd::xn) i s none w w2) ∨
     (b=true/\Calls prog 50 #[.pointer (some ⟨S.P.p,0,none⟩)] w2 (fun r w'=>r=.returned (.pointer (some ⟨S.P.a.a,0,none⟩))/\w2=w') /\
     Calls prog 179 #[.pointer (some ⟨g,0,none⟩),.int .i64 s] w2 (fun r w'=>r=.returned (.int .i64 ((p.at_+8*(s/16):Nat):Int))/\w2=w') /\
     Calls prog 57 #[.pointer (some ⟨S.P.a.a,0,none⟩),.int .i64 ((p.at_+8*(s/16):Nat):Int),.slice (some ⟨w2.heap.size,0,none⟩) 1 1] (w2.alloc (.cells #[.int .u64 0] 83)) (fun r w3=>r=.returned (.int .i64 0)/\(w3.cell? ⟨g,0,none⟩=some (.pointer (some ⟨S.P.p,0,none⟩))/\w3.cell? ⟨g,1,none⟩=some (.int .i64 (p.fac:Int))) /\
      Calls prog 21 #[.pointer (some ⟨S.P.p,0,none⟩),.int .i64 (p.fac:Int),.int .i64 7,.int .i64 (((tb i).lf (s/16):Nat):Int)] w3.drew (fun r w4=>r=.returned (.int .i64 0)/\(w4.cell? ⟨g,0,none⟩=some (.pointer (some ⟨S.P.p,0,none⟩))/\w4.cell? ⟨g,1,none⟩=some (.int .i64 (p.fac:Int)))/\Put1 S fr N K tb own xl (e.nd::xn) i s none w w4))))):=by
  refine(Q4k (o:=none) ok t hi h1 h2 Af hs hl BB (by decide) (by decide) AE).mono ?_;rintro r w2⟨rfl,S2,ok2,t2,al2,st2⟩;have Bu:=hg.alt al2 st2;have c2:=Bu.c0;rw[al2.same.p] at c2;have D8:S2.l[i]?=some p:=by rw[al2.l];exact hi
  have T2:=t2.tt ok2 D8 h1 h2 st2.sep Bu;rw[updT_same] at T2;have ke:=Z3j T2 (s/16) (by omega) hl;refine⟨rfl,c2,((tb i).setE s none).noneIn (s/16),ke,?_⟩;cases Aq:((tb i).setE s none).noneIn (s/16) with
  | false =>
   refine .inl ⟨rfl,S2,_,ok2,t2,fun _=>rfl,fun hf k hk h0=>?_,fun _=>.inr (.inr rfl),al2,st2⟩;by_cases DB:k=s/16
   ·rw[DB];exact Q9n (by omega) Aq
   ·obtain⟨x,hx,e1,e2⟩:=hf k hk h0;refine⟨x,hx,e1,?_⟩;show(if x=s then none else(tb i).en x)≠none;rw[if_neg (fun h=>DB (by rw[<- e1,h]))];exact e2
  | true =>
   have Ha:=Q1h (CO.sP st2.sep);rw[al2.same.aa,al2.same.p] at Ha;refine .inr ⟨rfl,Ha,Q6s T2 s hs,?_⟩;have JQ:(((tb i).lf (s/16)::xl)++((updT tb i ((tb i).setE s none) i).setL (s/16) 0).lvs).Perm (xl++(updT tb i ((tb i).setE s none) i).lvs):=by
    rw[updT_same];refine List.Perm.trans ?_ (J5R xl (TB.lvs_drop (t:=(tb i).setE s none) (k:=s/16) (by omega) hl).symm);exact J6H.symm
   have kr:=Q7F (L:=0) ok2 t2 D8 h1 h2 Af (by omega:s/16<16) (by omega) JQ (.inr ⟨rfl,fun x hx IM=>by rw[updT_same];exact Z0O Aq x hx IM⟩) st2.sep;rw[al2.same.aa] at kr;refine kr.mono ?_;rintro r w3⟨rfl,S3,ok3,t3,al3,st3⟩;rw[updT_same,Q1c] at t3;have al23:=al2.trans al3;have st23:=st2.trans st3;have IL:=hg.alt al23 st23;have c3:=IL.c0;rw[al23.same.p] at c3;refine⟨rfl,⟨c3,IL.c1⟩,?_⟩;have Tw:S3.l[i]?=some p:=by rw[al23.l];exact hi
   obtain⟨ac,F5⟩:=Q9o ok3 Tw h1;rw[Af] at F5 ⊢;have MW:=t3.paid ok3 F5;rw[J3N,J3N] at MW;obtain⟨c,hc⟩:=PL.cls ok3.inv.mem.pool (by omega:1<=7) (by omega);have Sa:(tb i).lf (s/16)∈S3.P.usedOf 7:=t3.lvs.mem_iff.1 (by simp);have RW:=Q0m ok3.inv.mem.pool Sa;have Ar:=Q0o ok3.inv.mem.pool;have kp:=Q4z (CO.sP st3.sep.drew) ok3.inv.mem.pool own F5 7 (by rw[Q2W];omega) c hc ((tb i).lf (s/16)) (by rw[<- Q0V hc];exact Sa) (by omega);rw[al23.same.p] at kp;refine kp.mono ?_;rintro r w4⟨rfl,P',g7,st⟩;have MD:∃p∈S3.l,p.st=1/\(p.fac:Int)=own:=by rw[al23.l];exact AH
   obtain⟨ok4,t4⟩:=TPX.put (xl:=xl) (xn:=e.nd::xn) ok3 (.inr rfl) (by rw[if_pos rfl,if_neg (by decide)];exact t3) g7 MD;have al4:=Alt.put ok3 g7;have st4:Step S3.hl (S3.paid P' own (-((Q0c 7:Nat):Int))).hl w3 w4:=(CO.stepPaid st3.sep.drew P' own _ g7.p st).from_drew;have alz:=al23.trans al4;have stz:=st23.trans st4;have FQ:=hg.alt alz stz;have c4:=FQ.c0;rw[alz.same.p] at c4;have RN:=FQ.c1;rw[Af] at RN;refine⟨rfl,⟨c4,RN⟩,_,_,ok4,t4,fun _=>rfl,fun hf k hk h0=>?_,fun k=>?_,alz,stz⟩
   rotate_left
   ·by_cases DB:k=s/16
    ·refine .inr (.inl ?_);show(if k=s/16 then 0 else(tb i).lf k)=0;rw[if_pos DB]
    ·refine .inr (.inr ?_);show(if k=s/16 then 0 else(tb i).lf k)=_;rw[if_neg DB]
   have Dj:(if k=s/16 then 0 else(tb i).lf k)≠0:=h0;have DB:k≠s/16:=fun h=>Dj (by rw[if_pos h])
   rw[if_neg DB] at Dj;obtain⟨x,hx,e1,e2⟩:=hf k hk Dj;refine⟨x,hx,e1,?_⟩;show(if x=s then none else(tb i).en x)≠none;rw[if_neg (fun h=>DB (by rw[<- e1,h]))];exact e2
 have Cw:Q0s (some e)≠0:=fun h=>by simpa using codeA_zero.1 h
 have Aa:(((Q0s (some e):Nat):Int)==0)=false:=by simpa using Cw
 generalize Put1 S fr N K tb own xl (e.nd::xn) i s none w=Q at *
 unfold getV at kg;unfold ptr at *
 generalize Q0s (some e)=x at *
 generalize Q0W (some e)=y at *
 generalize ((tb i).lf (s/16)+16*(s%16):Nat)=v at *
 generalize (tb i).lf (s/16)=L at *
 generalize (p.at_+8*(s/16):Nat)=u at *
 generalize (p.fac:Int)=fa at *
 clear ok t hi T BB AE hg Af h1 h2 hl Cw AH hL hm;go_enter func173,ntmps173;go_wp2_with fail;refine kg.mono ?_;rintro e w'⟨rfl,rfl⟩;go_wp2_with fail;refine km.mono ?_;rintro e w'⟨rfl,rfl⟩;go_wp2_with fail;refine kl.mono ?_;rintro e w'⟨rfl,rfl⟩;go_wp2_with fail;refine ka.mono ?_;rintro e w'⟨rfl,rfl⟩;go_wp2_with fail;refine ks.mono ?_;rintro e w'⟨rfl,rfl⟩;go_wp2_with fail;refine HX.out.mono ?_;rintro e w2⟨rfl,c2,b,ke,hy⟩;have HY:=Q0a hy;clear hy HX;go_wp2_with fail;refine ke.mono ?_;rintro e w'⟨rfl,rfl⟩;rcases HY.out with ⟨rfl,hy⟩|⟨rfl,Ha,kr,hy⟩
 ·have HZ:=Q0a hy;clear hy HY;go_wp2_with fail
  (try go_ret);exact⟨rfl,HZ.out⟩
 ·have HZ:=Q0a hy;clear hy HY;go_wp2_with fail;refine Ha.mono ?_;rintro e w'⟨rfl,rfl⟩;go_wp2_with fail;refine kr.mono ?_;rintro e w'⟨rfl,rfl⟩;go_wp2_with fail;refine HZ.out.mono ?_;rintro e w3⟨rfl,⟨c3,Rl⟩,hp⟩;have d3:w3.drew.cell? ⟨g,0,none⟩=some (.pointer (some ⟨S.P.p,0,none⟩)):=c3;have d31:w3.drew.cell? ⟨g,1,none⟩=some (.int .i64 fa):=Rl;have HP:=Q0a hp;clear hp HZ ke Ha kr;go_wp2_with fail
  go_region_held3 (fun w'=>w'.cell? ⟨g,0,none⟩=some (.pointer (some ⟨S.P.p,0,none⟩))/\w'.cell? ⟨g,1,none⟩=some (.int .i64 fa)) (first|exact⟨c3,Rl⟩|exact⟨d3,d31⟩|exact Ak)
   (first|(go_at_call 21;refine HP.out.mono ?_;rintro r w4⟨rfl,Ak,hq⟩;have HQ:=Q0a hq;clear hq HP))
  go_wp2_with fail
  (try go_ret);exact⟨rfl,HQ.out⟩
end
def LOk(l:List Pl):Prop:=l.length=256/\∀p∈l,p.st<=3/\p.age<=1048575
theorem LOk.get{l:List Pl}(h:LOk l)(x:Nat):∃p,l[x%256]?=some p/\p.st<=3/\p.age<=1048575:=by
 have Ab:x%256<l.length:=by rw[h.1];omega
 exact⟨l[x%256],J5t Ab,h.2 _ (J6z Ab)⟩
theorem Z6p{l:List Pl}{s h:Nat}{p:Pl}(hl:l[h%256]?=some p):pget l s h=none↔nm (h%256) p≠h∨p.st≠s:=by
 unfold pget;rw[hl];simp only;by_cases hc:nm (h%256) p=h/\p.st=s
 ·rw[if_pos hc];simp[hc.1,hc.2]
 ·rw[if_neg hc];have:nm (h%256) p≠h∨p.st≠s:=by
   by_cases h1:nm (h%256) p=h
   ·exact .inr fun h2=>hc ⟨h1,h2⟩
   ·exact .inl h1
  simp[this]
theorem Q8r{w:World}{h:HT}(s:Sep w h.hl)(ok:LOk h.l){x st:Nat}(hx:x<4294967296){p:Pl}(hp:pget h.l st x=some p) :
  Calls prog 168 #[.pointer (some ⟨h.t,0,none⟩),.int .u32 x,.int .i64 st] w fun r w'=>r=.returned (.tuple #[.pointer (some ⟨h.t,x%256*5,none⟩),.int .i64 0])/\w=w':=by
 obtain⟨hi,hn,hs⟩:=pget_some.1 hp;have ha:=(ok.2 p (J5q hi)).2;have k1:=Q4B s hi (by omega) ha;obtain⟨-,-,-,c3,-,-⟩:=HT.cell s hi;have HO:=Q9b x hx;rw[hn] at k1;rw[hs] at c3;clear s ok hp hi hn hs ha;have OH:x%256<256:=by omega
 have hw:IntKind.i64.wrap ((x%256:Nat):Int)=((x%256:Nat):Int):=Go.IntWalk.i64_in _ (by omega);generalize x%256=i at *
 go_enter func168,ntmps168;go_wp2_with (go_at_call 202;refine k1.mono ?_;rintro e w'⟨rfl,rfl⟩);go_ret2;exact⟨rfl,rfl⟩
theorem Z6q{a b:Nat}(h:a≠b):(((a:Nat):Int) != ((b:Nat):Int))=true:=by simp;omega
theorem Q4L{a b:Nat}(h:a≠b):(((a:Nat):Int)==((b:Nat):Int))=false:=by simp;omega
theorem Z8R{w:World}{h:HT}(s:Sep w h.hl)(ok:LOk h.l){x st:Nat}(hx:x<4294967296)(hp:pget h.l st x=none) :
  Calls prog 168 #[.pointer (some ⟨h.t,0,none⟩),.int .u32 x,.int .i64 st] w fun r w'=>r=.returned (.tuple #[.pointer none,.int .i64 8])/\w=w':=by
 obtain⟨p,hi,h1,ha⟩:=ok.get x;have Ay:=(Z6p hi).1 hp;have k1:=Q4B s hi (by omega) ha;obtain⟨-,-,-,c3,-,-⟩:=HT.cell s hi;have HO:=Q9b x hx;clear s ok hp hi ha;have OH:x%256<256:=by omega
 have hw:IntKind.i64.wrap ((x%256:Nat):Int)=((x%256:Nat):Int):=Go.IntWalk.i64_in _ (by omega);generalize x%256=i at *
 generalize nm i p=n at *
 generalize p.st=t at *
 by_cases hn:n=x
 ·subst hn;have ht:t≠st:=Ay.resolve_left fun h=>h rfl
  have hb:=Z6q ht;have Ai:=Q4L ht;clear Ay ht;go_enter func168,ntmps168;go_wp2_with (go_at_call 202;refine k1.mono ?_;rintro e w'⟨rfl,rfl⟩);go_ret2;exact⟨rfl,rfl⟩
 ·have hb:=Z6q hn;have Ai:=Q4L hn;clear Ay hn;go_enter func168,ntmps168;go_wp2_with (go_at_call 202;refine k1.mono ?_;rintro e w'⟨rfl,rfl⟩);go_ret2;exact⟨rfl,rfl⟩
def Pl.obj(p:Pl):Value:=.agg #[.int .i64 (p.kind:Int),.int .i64 (p.at_:Int),.int .i64 (p.fac:Int)]
def zobj:Value:=.agg #[.int .i64 0,.int .i64 0,.int .i64 0]
theorem Q6u{w:World}{h:HT}(s:Sep w h.hl)(ok:LOk h.l){x:Nat}(hx:x<4294967296){p:Pl}(hp:pget h.l 1 x=some p) :
  Calls prog 112 #[.pointer (some ⟨h.t,0,none⟩),.int .u32 x] w (Told w (.tuple #[p.obj,.int .i64 0])):=by
 have hi:=(pget_some.1 hp).1;have hA:Calls prog 168 #[.pointer (some ⟨h.t,0,none⟩),.int .u32 x,.int .i64 1] (w.alloc (.cells #[.int .i64 0,.int .i64 0,.int .i64 0] 54)) fun r w'=>r=.returned (.tuple #[.pointer (some ⟨h.t,x%256*5,none⟩),.int .i64 0])/\(w.alloc (.cells #[.int .i64 0,.int .i64 0,.int .i64 0] 54))=w':=Q8r (st:=1) (s.alloc _) ok hx hp
 obtain⟨c0,c1,c2,-,-,-⟩:=HT.cell (s.alloc (.cells #[.int .i64 0,.int .i64 0,.int .i64 0] 54)) hi;have HB:Hid (Below w.heap.size w (w.alloc (.cells #[.int .i64 0,.int .i64 0,.int .i64 0] 54))):=(Below.refl _ _).alloc (J3b _) _;unfold Pl.obj;clear s ok hp hi;generalize x%256*5=i at *
 go_enter func112,ntmps112;go_wp2_with (go_at_call 168;refine hA.mono ?_;rintro e w'⟨rfl,rfl⟩);refine bodyPost_ret (v:=.tuple #[.agg #[.int .i64 (p.kind:Int),.int .i64 (p.at_:Int),.int .i64 (p.fac:Int)],.int .i64 0]) (by simp[results,results112,go_sem]) rfl ⟨rfl,?_⟩;exact(Below.refl _ _).alloc (J3b _) _
theorem Z6r{w:World}{h:HT}(s:Sep w h.hl)(ok:LOk h.l){x:Nat}(hx:x<4294967296)(hp:pget h.l 1 x=none) :
  Calls prog 112 #[.pointer (some ⟨h.t,0,none⟩),.int .u32 x] w (Told w (.tuple #[zobj,.int .i64 8])):=by
 have hA:Calls prog 168 #[.pointer (some ⟨h.t,0,none⟩),.int .u32 x,.int .i64 1] (w.alloc (.cells #[.int .i64 0,.int .i64 0,.int .i64 0] 54)) fun r w'=>r=.returned (.tuple #[.pointer none,.int .i64 8])/\(w.alloc (.cells #[.int .i64 0,.int .i64 0,.int .i64 0] 54))=w':=Z8R (st:=1) (s.alloc _) ok hx hp
 unfold zobj;clear s ok hp;go_enter func112,ntmps112;go_wp2_with (go_at_call 168;refine hA.mono ?_;rintro e w'⟨rfl,rfl⟩);refine bodyPost_ret (v:=.tuple #[.agg #[.int .i64 0,.int .i64 0,.int .i64 0],.int .i64 8]) (by simp[results,results112,go_sem]) rfl ⟨rfl,?_⟩;exact(Below.refl _ _).alloc (J3b _) _
def J1e(h:HT)(x:Nat)(p:Pl)(w:World)(r:Ending)(w':World):Prop:=r=.returned (.int .i64 0)/\Step h.hl ({h with l:=h.l.set (x%256) {p with st:=2}}:HT).hl w w'
theorem Z3l{w:World}{h:HT}(s:Sep w h.hl)(ok:LOk h.l){x:Nat}(hx:x<4294967296){p:Pl}(hp:pget h.l 1 x=some p) :
  Calls prog 209 #[.pointer (some ⟨h.t,0,none⟩),.int .u32 x] w (J1e h x p w):=by
 have hA:Calls prog 168 #[.pointer (some ⟨h.t,0,none⟩),.int .u32 x,.int .i64 1] w fun r w'=>r=.returned (.tuple #[.pointer (some ⟨h.t,x%256*5,none⟩),.int .i64 0])/\w=w':=Q8r (st:=1) s ok hx hp
 have hi:=(pget_some.1 hp).1;obtain⟨-,-,-,c3,-,cf⟩:=HT.cell s hi;have Wy:=cf (x%256*5+3);have HS:Hid (J1e h x p w (.returned (.int .i64 0)) (w.setCell ⟨h.t,x%256*5+3,none⟩ (.int .i64 2))):=⟨rfl,HT.set s hi 3 (.int .i64 2) (by omega) (q:={p with st:=2}) rfl⟩
 clear s ok hp hi cf;generalize J1e h x p w=Q at *
 generalize x%256*5=i at *
 go_enter func209,ntmps209;go_wp2_with (go_at_call 168;refine hA.mono ?_;rintro e w'⟨rfl,rfl⟩)
 (try go_ret);exact HS.out
def J1f(h:HT)(x:Nat)(p:Pl)(w:World)(r:Ending)(w':World):Prop:=r=.returned (.tuple #[p.obj,.int .i64 0])/\Step h.hl ({h with l:=h.l.set (x%256) ⟨0,0,0,0,p.age+1,0⟩}:HT).hl w w'
theorem Z8S{l:List Pl}{i:Nat}{p:Pl}(hi:l[i]?=some p)(q:Pl):(((((l.flatMap Pl.cells).set (i*5+0) (.int .i64 (q.kind:Int))).set (i*5+1) (.int .i64 (q.at_:Int))).set (i*5+2) (.int .i64 (q.fac:Int))).set (i*5+3) (.int .i64 (q.st:Int))).set (i*5+4) (.int .u32 (q.age:Int))=(l.set i q).flatMap Pl.cells:=by
 have g:∀(r:Pl),(l.set i r)[i]?=some r:=fun r=>by rw[J6S (J3t.1 hi).1]
 have e0:=Q4h hi (q:=⟨q.kind,p.at_,p.fac,p.st,p.age,q.own⟩) 0 (.int .i64 (q.kind:Int)) (by omega) rfl;have e1:=Q4h (g ⟨q.kind,p.at_,p.fac,p.st,p.age,q.own⟩) (q:=⟨q.kind,q.at_,p.fac,p.st,p.age,q.own⟩) 1 (.int .i64 (q.at_:Int)) (by omega) rfl;have e2:=Q4h (g ⟨q.kind,q.at_,p.fac,p.st,p.age,q.own⟩) (q:=⟨q.kind,q.at_,q.fac,p.st,p.age,q.own⟩) 2 (.int .i64 (q.fac:Int)) (by omega) rfl;have e3:=Q4h (g ⟨q.kind,q.at_,q.fac,p.st,p.age,q.own⟩) (q:=⟨q.kind,q.at_,q.fac,q.st,p.age,q.own⟩) 3 (.int .i64 (q.st:Int)) (by omega) rfl;have e4:=Q4h (g ⟨q.kind,q.at_,q.fac,q.st,p.age,q.own⟩) (q:=q) 4 (.int .u32 (q.age:Int)) (by omega) rfl
 rw[J5T] at e1 e2 e3 e4;rw[e0,e1,e2,e3,e4]
theorem HT.set5{w:World}{h:HT}(s:Sep w h.hl){i:Nat}{p:Pl}(hi:h.l[i]?=some p)(q:Pl):Step h.hl ({h with l:=h.l.set i q}:HT).hl w (((((w.setCell ⟨h.t,i*5+0,none⟩ (.int .i64 (q.kind:Int))).setCell ⟨h.t,i*5+1,none⟩ (.int .i64 (q.at_:Int))).setCell ⟨h.t,i*5+2,none⟩ (.int .i64 (q.fac:Int))).setCell ⟨h.t,i*5+3,none⟩ (.int .i64 (q.st:Int))).setCell ⟨h.t,i*5+4,none⟩ (.int .u32 (q.age:Int))):=by
 have s1:=Sep.set (A:=[]) (B:=[]) (by simpa[HT.hl] using s) (i*5+0) (.int .i64 (q.kind:Int));have s2:=Sep.set (A:=[]) (B:=[]) s1.sep (i*5+1) (.int .i64 (q.at_:Int));have s3:=Sep.set (A:=[]) (B:=[]) s2.sep (i*5+2) (.int .i64 (q.fac:Int));have s4:=Sep.set (A:=[]) (B:=[]) s3.sep (i*5+3) (.int .i64 (q.st:Int));have s5:=Sep.set (A:=[]) (B:=[]) s4.sep (i*5+4) (.int .u32 (q.age:Int));have:=(((s1.trans s2).trans s3).trans s4).trans s5;rw[Z8S hi q] at this;exact this
theorem J2g:(prog.info? 271).map (·.size)=some 5:=by kernel_rfl
theorem Z3m{w:World}{h:HT}(s:Sep w h.hl)(ok:LOk h.l){x:Nat}(hx:x<4294967296){p:Pl}(hp:pget h.l 2 x=some p)(DL:p.age+1<=1048575) :
  Calls prog 212 #[.pointer (some ⟨h.t,0,none⟩),.int .u32 x] w (J1f h x p w):=by
 have hi:=(pget_some.1 hp).1;have hA:Calls prog 168 #[.pointer (some ⟨h.t,0,none⟩),.int .u32 x,.int .i64 2] (w.alloc (.cells #[.int .i64 0,.int .i64 0,.int .i64 0] 54)) fun r w'=>r=.returned (.tuple #[.pointer (some ⟨h.t,x%256*5,none⟩),.int .i64 0])/\(w.alloc (.cells #[.int .i64 0,.int .i64 0,.int .i64 0] 54))=w':=Q8r (st:=2) (s.alloc _) ok hx hp
 obtain⟨c0,c1,c2,c3,c4,cf⟩:=HT.cell s hi;have f0:=cf (x%256*5);have f1:=cf (x%256*5+1);have f2:=cf (x%256*5+2);have f3:=cf (x%256*5+3);have f4:=cf (x%256*5+4);have Ab:=(HT.cells s).lt;have Ps:h.t<w.heap.size+1:=by omega
 have Aa:h.t≠w.heap.size:=by omega
 have V9:h.t≠w.heap.size+1:=by omega
 have hw:IntKind.u32.wrap ((p.age:Int)+1)=(p.age:Int)+1:=by
  show((p.age:Int)+1)%4294967296=_;omega
 have JM:decide ((1048575:Int)<(p.age:Int)+1)=false:=by rw[decide_eq_false_iff_not];omega
 have Bi:Hid (∀A B,J1f h x p w (.returned (.tuple #[.agg #[.int .i64 (p.kind:Int),.int .i64 (p.at_:Int),.int .i64 (p.fac:Int)],.int .i64 0])) (((((((w.setCell ⟨h.t,x%256*5,none⟩ (.int .i64 0)).setCell ⟨h.t,x%256*5+1,none⟩ (.int .i64 0)).setCell ⟨h.t,x%256*5+2,none⟩ (.int .i64 0)).setCell ⟨h.t,x%256*5+3,none⟩ (.int .i64 0)).setCell ⟨h.t,x%256*5+4,none⟩ (.int .u32 ((p.age:Int)+1))).alloc A).alloc B)):=fun A B=>by
  have st:=HT.set5 s hi ⟨0,0,0,0,p.age+1,0⟩;refine⟨rfl,st.trans (st.sep.grown (((Below.refl _ _).alloc (J3b _) A).alloc (by simp) B))⟩
 clear cf s ok hp hi DL;generalize J1f h x p w=Q at *
 generalize x%256*5=i at *
 go_enter func212,ntmps212;go_wp2_with (go_at_call 168;refine hA.mono ?_;rintro e w'⟨rfl,rfl⟩);refine bodyPost_ret (v:=.tuple #[.agg #[.int .i64 (p.kind:Int),.int .i64 (p.at_:Int),.int .i64 (p.fac:Int)],.int .i64 0]) (by simp[results,results212,go_sem]) rfl ?_;exact Bi.out _ _
end Go.Proofs.YtfidemmgofcnmaaGreatDoor
