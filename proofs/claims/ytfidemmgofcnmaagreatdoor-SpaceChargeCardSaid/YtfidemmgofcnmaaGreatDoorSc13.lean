/- SpaceCharge returns true at every input. No condition. Part of its proof. -/
import Derived.Deep.LoopGhost
import Derived.Test.YtfidemmgofcnmaaGreatDoorSc12
set_option maxHeartbeats 2000000
set_option maxRecDepth 100000
set_option linter.unusedVariables false
namespace Go.Proofs.YtfidemmgofcnmaaGreatDoor
open Go.RowKit Go.Proofs.Tryz
def blk (k i:Nat):Nat×Nat:=(1024*i*2 ^ k,k)
abbrev encI (x:Int):Value:=.int .i64 x
theorem Z0x:(prog.info? 3).map (fun i=>(i.zero,i.size,i.bytes))=some (some (.int .i64 0),1,8):=by kernel_rfl
def AsideV (H:HL) (cs:List Value) (a:Option Addr) (w:World):Prop:=∀(j:Nat) (v:Value),cs[j]?=some v->∃g,a=some ⟨g,0,none⟩/\g∉keys H/\g<w.heap.size/\w.cell? ⟨g,j,none⟩=some v
theorem AsideV.step {H H':HL} {cs:List Value} {a:Option Addr} {w w':World} (h:AsideV H cs a w) (st:Step H H' w w'):AsideV H' cs a w':=fun j x hj=>by
 obtain⟨g,h1,h2,h3,h4⟩:=h j x hj;refine⟨g,h1,fun hk=>?_,J2A h3 st.chg.size,(World.cell?_of_block (w:=w) (st.chg.block g h3 h2)).trans h4⟩;rcases st.new g hk with h'|h'
 ·exact h2 h'
 ·omega
theorem Q5d {w w':World} {H:HL} {T:TypeId} {size n:Nat} {v:Value} {cs:List Value} (hs:Sep w H) (h:w'.ownsRow w.heap.size T size v n cs):∃(a:Option Addr) (cap:Nat),v=.slice a n cap/\AsideV H cs a w':=by
 obtain⟨hl,h2⟩:=h;rcases h2 with ⟨rfl,h0⟩|⟨g,cap,Aj,rfl,hg,Cm,hn,hm,Bj,AR⟩
 ·refine⟨none,0,by rw [h0],fun j x hj=>?_⟩;have:=(J2Q.1 hj).1;rw [hl,h0,J6q] at this;omega
 ·refine⟨_,cap,rfl,fun j x hj=>⟨g,rfl,fun hk=>by have:=hs.lt hk;omega,lt_of_block Cm,?_⟩⟩;rw [<- hl] at AR;rw [<- AR,J4D] at hj;split at hj
  ·simp only [World.cell?,Cm,J5D,J6s,if_false];rw [<- J5a];exact hj
  ·cases hj
def AsideB (H:HL) (L:List (Nat×Nat)) (a:Option Addr) (w:World):Prop:=∀(j:Nat) (x:Nat×Nat),L[j]?=some x->∃g,a=some ⟨g,0,none⟩/\g∉keys H/\g<w.heap.size/\w.cell? ⟨g,j*2,none⟩=some (.int .i64 (x.1:Int))/\w.cell? ⟨g,j*2+1,none⟩=some (.int .i64 (x.2:Int))
theorem AsideB.step {H H':HL} {L:List (Nat×Nat)} {a:Option Addr} {w w':World} (h:AsideB H L a w) (st:Step H H' w w'):AsideB H' L a w':=fun j x hj=>by
 obtain⟨g,h1,h2,h3,h4,h5⟩:=h j x hj;have e:=st.chg.block g h3 h2;refine⟨g,h1,fun hk=>?_,J2A h3 st.chg.size,(World.cell?_of_block (w:=w) e).trans h4,(World.cell?_of_block (w:=w) e).trans h5⟩;rcases st.new g hk with h'|h'
 ·exact h2 h'
 ·omega
theorem Z5J {w:World} {a:AN} (h:Sep w a.hl) (at_:Nat) (h8:at_%8=0) (hl:at_+16<=a.mem.length) (hm:a.mem.length<=1073741824) :
  Calls prog 121 #[.pointer (some ⟨a.a,0,none⟩),.int .i64 at_,.int .i64 2] w fun r w'=>r=.returned (.tuple #[.slice (some ⟨a.mb,at_,none⟩) 16 (a.mem.length-at_),.int .i64 0])/\w=w':=by
 have k1:=Z0m h at_ 16 (by omega) hl hm;have h1:(at_:Int)%8=0:=by omega
 have h2:((at_:Int)%8 != 0)=false:=by simp;omega
 have h3:((0:Int) != 0)=false:=by simp
 clear h h8;generalize a.mem.length=l at *
 go_enter func121,ntmps121;go_wp2_with (go_at_call 113;refine k1.mono ?_;rintro e w' ⟨rfl,rfl⟩);go_ret2;exact⟨rfl,rfl⟩
theorem Z0y (x y k:Nat) (hk:k<16):(Q0d x++Q0d y)[k]?.getD 0=(if k<8 then x else y)/2 ^ (8*(k%8))%256:=by
 have hl:(Q0d x).length=8:=rfl;by_cases h:k<8
 ·rw [J5N (by rw [hl];exact h),Q4U x k h,if_pos h,J3V h]
 ·rw [J5O (by rw [hl];omega),hl,Q4U y (k-8) (by omega),if_neg h,show k%8=k-8 by omega]
theorem Z5K {w:World} {a:AN} (h:Sep w a.hl) (at_ x y:Nat) (h8:at_%8=0) (hl:at_+16<=a.mem.length) (hm:a.mem.length<=1073741824) (hx:x<18446744073709551616) (hy:y<18446744073709551616) (g:Nat) (hg:w.cell? ⟨g,0,none⟩=some (.int .u64 x)) (C3:w.cell? ⟨g,1,none⟩=some (.int .u64 y)) (DE:g<w.heap.size) (Ex:g∉keys a.hl) :
  Calls prog 57 #[.pointer (some ⟨a.a,0,none⟩),.int .i64 at_,.slice (some ⟨g,0,none⟩) 2 2] w fun r w'=>r=.returned (.int .i64 0)/\Step a.hl ({a with mem:=put_ a.mem at_ (Q0d x++Q0d y)}:AN).hl w w':=by
 have k1:=Z5J h at_ h8 hl hm;have EZ:(Q0d x++Q0d y).length=16:=rfl;have Mw:Hid (Step a.hl ({a with mem:=put_ a.mem at_ ((Q0d x++Q0d y).take 0)}:AN).hl w w):=by
  show Step _ _ _ _;rw [J5Z,Z0l];exact Step.refl h
 have HN:Hid (∀k wr,k<16->Step a.hl ({a with mem:=put_ a.mem at_ ((Q0d x++Q0d y).take k)}:AN).hl w wr->(∃old,wr.cell? ⟨a.mb,at_+k,none⟩=some old)/\wr.frozen? ⟨a.mb,at_+k,none⟩=false/\wr.cell? ⟨g,0,none⟩=some (.int .u64 x)/\wr.cell? ⟨g,1,none⟩=some (.int .u64 y)/\Step a.hl ({a with mem:=put_ a.mem at_ ((Q0d x++Q0d y).take (k+1))}:AN).hl w (wr.setCell ⟨a.mb,at_+k,none⟩ (.int .u8 ((Q0d x++Q0d y)[k]?.getD 0:Nat)))):=by
  intro k wr hk hs;have eb:=hs.chg.block g DE Ex;refine⟨⟨_,AN.bcell hs.sep (at_+k) (by show at_+k<(put_ _ _ _).length;rw [Q2q _ _ _ (by rw [J4T,EZ];omega)];omega)⟩,AN.bfree hs.sep (at_+k),(World.cell?_of_block (w:=w) eb).trans hg,(World.cell?_of_block (w:=w) eb).trans C3,?_⟩;have h1:=AN.setB hs.sep (at_+k) ((Q0d x++Q0d y)[k]?.getD 0);have h2:=Q7R a.mem at_ (Q0d x++Q0d y) k (by rw [EZ];exact hk) (by rw [EZ];exact hl);have:=hs.trans h1
  simpa [h2] using this
 have AZ:Hid ((Q0d x++Q0d y).take 16=Q0d x++Q0d y):=J4y (by rw [EZ];exact J2y _);have HV:=Q0a (fun k hk=>Z0y x y k hk);generalize hbs:Q0d x++Q0d y=bs at *
 clear h h8 hg C3 Ex DE hbs EZ;generalize a.hl=H at *
 generalize a.mem.length=l at *
 go_enter func57,ntmps57;go_wp2_with fail;refine k1.mono ?_;rintro e w' ⟨rfl,rfl⟩;go_wp2_with fail
 go_loopw [20] (fun iv wr=>∃k:Nat,k<=16/\iv=.int .i64 k/\Step H ({a with mem:=put_ a.mem at_ (bs.take k)}:AN).hl w wr) (fun iv _=>16-(intOf iv).toNat)
 case atStart=>exact⟨0,by omega,rfl,Mw.out⟩
 case round =>
  obtain⟨k,hk,rfl,hs⟩:=hrel;by_cases Ab:k<16
  ·obtain⟨⟨old,KW⟩,hf,SA,Tm,A7⟩:=HN.out k wr Ab hs;have hv:=HV.out k Ab;clear hs;obtain⟨j,hj⟩:∃j,j=k%8:=⟨_,rfl⟩
   have Vw:j<8:=by omega
   have A0:(k:Int)%8=(j:Int):=by omega
   have A2:k%8=j:=hj.symm;rw [A2] at hv;by_cases h8:k<8
   ·have Bs:(k:Int)/8=0:=by omega
    rw [if_pos h8] at hv;have Qc:IntKind.u8.wrap ((x:Int)/2 ^ (8*j))=((bs[k]?.getD 0:Nat):Int):=by
     rw [hv,IntKind.wrap_u8,show ((x:Int)/2 ^ (8*j))=((x/2 ^ (8*j):Nat):Int) from by rw [J4u,J4v];rfl];omega
    clear hv hj;generalize bs[k]?.getD 0=v at *
    go_wp2_with fail;go_roundw
    case rel=>exact⟨k+1,by omega,by go_num,A7⟩
    case measure=>simp [intOf];omega
   ·have Bs:(k:Int)/8=1:=by omega
    rw [if_neg h8] at hv;have Qc:IntKind.u8.wrap ((y:Int)/2 ^ (8*j))=((bs[k]?.getD 0:Nat):Int):=by
     rw [hv,IntKind.wrap_u8,show ((y:Int)/2 ^ (8*j))=((y/2 ^ (8*j):Nat):Int) from by rw [J4u,J4v];rfl];omega
    clear hv hj;generalize bs[k]?.getD 0=v at *
    go_wp2_with fail;go_roundw
    case rel=>exact⟨k+1,by omega,by go_num,A7⟩
    case measure=>simp [intOf];omega
  ·obtain rfl:k=16:=by omega
   go_wp2_with fail;go_ret;exact⟨rfl,by have:=hs;rw [AZ.out] at this;exact this⟩
def TblC (S:CO) (p:Pl) (g:Nat) (w:World):Prop:=AsideV S.hl [ptr S.P.p,.int .i64 (p.fac:Int),.int .i64 (p.at_:Int)] (some ⟨g,0,none⟩) w
theorem TblC.c0 {S:CO} {p:Pl} {g:Nat} {w:World} (h:TblC S p g w):w.cell? ⟨g,0,none⟩=some (.pointer (some ⟨S.P.p,0,none⟩)):=by
 obtain⟨g',e,_,_,c⟩:=h 0 _ rfl;cases e;exact c
theorem TblC.c1 {S:CO} {p:Pl} {g:Nat} {w:World} (h:TblC S p g w):w.cell? ⟨g,1,none⟩=some (.int .i64 (p.fac:Int)):=by
 obtain⟨g',e,_,_,c⟩:=h 1 _ rfl;cases e;exact c
theorem TblC.c2 {S:CO} {p:Pl} {g:Nat} {w:World} (h:TblC S p g w):w.cell? ⟨g,2,none⟩=some (.int .i64 (p.at_:Int)):=by
 obtain⟨g',e,_,_,c⟩:=h 2 _ rfl;cases e;exact c
structure TT (S:CO) (t:TB) (p:Pl) (g:Nat) (w:World):Prop where
 sep:Sep w S.hl
 pool:∃fr,S.P.Ok fr
 tab:TblC S p g w
 tin:t.In S.P.a.mem p.at_
 al:p.at_%8=0/\p.at_+128<=S.P.a.mem.length
 lv:∀k,k<16->t.lf k≠0->t.lf k%8=0/\t.lf k+256<=S.P.a.mem.length
theorem TT.grown {S:CO} {t:TB} {p:Pl} {g:Nat} {w w':World} (h:TT S t p g w) (hb:Below w.heap.size w w'):TT S t p g w':=
 ⟨(h.sep.grown hb).sep,h.pool,h.tab.step (h.sep.grown hb),h.tin,h.al,h.lv⟩
theorem TPX.tt {S:CO} {fr:List Nat} {N K:Nat} {tb:Nat->TB} {own:Int} {xl xn:List Nat} (ok:S.Ok fr N K) (t:TPX S tb own xl xn) {i:Nat} {p:Pl} {g:Nat} {w:World} (hi:S.l[i]?=some p) (h1:p.st=1) (h2:p.kind=2) (hs:Sep w S.hl) (hg:TblC S p g w):TT S (tb i) p g w:=by
 have Am:=Q1p ok.inv.len hi;have hu:=Q1J ok hi h1 h2;have hm:=Q0n ok.inv.mem.pool hu;have L5:Q0c 2=128:=rfl;refine⟨hs,⟨fr,ok.inv.mem.pool⟩,hg,t.tin i p hi h1 h2,⟨Q2o ok.inv.mem.pool hu,by omega⟩,fun k hk h0=>?_⟩;have hl:=t.leaf Am hk h0;have hm:=Q0n ok.inv.mem.pool hl;rw [Q2O] at hm;exact⟨Q2o ok.inv.mem.pool hl,hm.1⟩
section
variable {w:World} {S:CO} {t:TB} {p:Pl} {g:Nat}
theorem Q4F (h:TT S t p g w) (a:Nat) (h8:a%8=0) (hl:a+8<=S.P.a.mem.length):Calls prog 178 #[.pointer (some ⟨g,0,none⟩),.int .i64 a] w fun r w'=>r=.returned (.int .u64 (Q0u S.P.a.mem a:Nat))/\w=w':=by
 obtain⟨fr,hp⟩:=h.pool;have c0:=h.tab.c0;have ka:=Q1f (CO.sP h.sep);have kl:=Z4S (PL.sA (CO.sP h.sep)) hp.bytes a h8 hl (Q0p hp);clear h hp h8 hl;unfold ptr at *
 generalize Q0u S.P.a.mem a=x at *
 go_enter func178,ntmps178;go_wp2_with (first|(go_at_call 50;refine ka.mono ?_;rintro e w' ⟨rfl,rfl⟩)|(go_at_call 58;refine kl.mono ?_;rintro e w' ⟨rfl,rfl⟩));go_ret;exact⟨rfl,rfl⟩
theorem Q6j (h:TT S t p g w) (s:Nat) (hs:s<256):Calls prog 179 #[.pointer (some ⟨g,0,none⟩),.int .i64 s] w fun r w'=>r=.returned (.int .i64 ((p.at_+8*(s/16):Nat):Int))/\w=w':=by
 have c2:=h.tab.c2;obtain⟨fr,hp⟩:=h.pool;have hm:=Q0p hp;have DG:=h.al.2;have h1:(s:Int).tdiv 16=((s/16:Nat):Int):=by
  rw [J4q (by omega)];omega
 have h2:(s:Int)/16=((s/16:Nat):Int):=by omega
 have hk:s/16<16:=by omega
 have e:((p.at_+8*(s/16):Nat):Int)=(p.at_:Int)+((s/16:Nat):Int)*8:=by omega
 rw [e];generalize s/16=k at *
 generalize p.at_=a at *
 have ha:(a:Int)<=1073741824:=by omega
 have A2:(k:Int)<16:=by omega
 clear h hp hm DG hk e;go_enter func179,ntmps179
 go_wp2
 go_ret;exact⟨by first|rfl|(simp only [h1,h2])|(rw [h2]),rfl⟩
theorem Q5G (w:World) (z:Int):Calls prog 175 #[.int .i64 z] w fun r w'=>r=.returned (.bool (decide (0<=z/\z<256)))/\w=w':=by
 by_cases h0:0<=z
 ·by_cases h1:z<256
  ·rw [decide_eq_true (show 0<=z/\z<256 from ⟨h0,h1⟩)];go_enter func175,ntmps175
   go_wp2
   go_ret;exact⟨rfl,rfl⟩
  ·rw [decide_eq_false (show ¬(0<=z/\z<256) from fun h=>h1 h.2)];have hd:decide (z<256)=false:=by simpa using h1
   go_enter func175,ntmps175
   go_wp2
   go_ret;exact⟨rfl,rfl⟩
 ·rw [decide_eq_false (show ¬(0<=z/\z<256) from fun h=>h0 h.1)];have hd:decide (0<=z)=false:=by simpa using h0
  go_enter func175,ntmps175
  go_wp2
  go_ret;exact⟨rfl,rfl⟩
theorem Q3i (w:World) (L s:Nat) (hL:L<=1073741824) (hs:s<256):Calls prog 177 #[.int .i64 L,.int .i64 s] w fun r w'=>r=.returned (.int .i64 ((L+16*(s%16):Nat):Int))/\w=w':=by
 have h1:(s:Int).tmod 16=((s%16:Nat):Int):=by
  rw [J4r (by omega)];omega
 have h2:(s:Int)%16=((s%16:Nat):Int):=by omega
 have hk:s%16<16:=by omega
 have e:((L+16*(s%16):Nat):Int)=(L:Int)+((s%16:Nat):Int)*16:=by omega
 rw [e];generalize s%16=k at *
 have ha:(L:Int)<=1073741824:=by omega
 have A2:(k:Int)<16:=by omega
 clear hk e hL;go_enter func177,ntmps177
 go_wp2
 go_ret;exact⟨by first|rfl|(simp only [h1,h2])|(rw [h2]),rfl⟩
theorem Q4G (h:TT S t p g w) (s:Nat) (hs:s<256):Calls prog 176 #[.pointer (some ⟨g,0,none⟩),.int .i64 s] w fun r w'=>r=.returned (.int .i64 ((t.lf (s/16):Nat):Int))/\w=w':=by
 have hk:s/16<16:=by omega
 have kr:=Q6j h s hs;have DG:=h.al;have kw:=Q4F h (p.at_+8*(s/16)) (by omega) (by omega);rw [h.tin.root (s/16) hk] at kw;obtain⟨fr,hp⟩:=h.pool;have hm:=Q0p hp;have F7:((t.lf (s/16):Nat):Int)<=1073741824:=by
  by_cases h0:t.lf (s/16)=0
  ·omega
  ·have:=(h.lv _ hk h0).2;omega
 clear h hp hm DG hk;generalize t.lf (s/16)=x at *
 generalize (p.at_+8*(s/16):Nat)=y at *
 go_enter func176,ntmps176;go_wp2_with (first|(go_at_call 179;refine kr.mono ?_;rintro e w' ⟨rfl,rfl⟩)|(go_at_call 178;refine kw.mono ?_;rintro e w' ⟨rfl,rfl⟩));go_ret;exact⟨rfl,rfl⟩
end
def TB.at' (t:TB) (z:Int):Option Ent:=if 0<=z/\z<256 then t.en z.toNat else none
def getV (o:Option Ent):Ending:=.returned (.tuple #[.int .u64 (Q0s o:Nat),.int .u64 (Q0W o:Nat)])
section
variable {w:World} {S:CO} {t:TB} {p:Pl} {g:Nat}
theorem Q3H (h:TT S t p g w) (z:Int):Calls prog 102 #[.pointer (some ⟨g,0,none⟩),.int .i64 z] w fun r w'=>r=getV (t.at' z)/\w=w':=by
 have km:=Q5G w z;by_cases hz:0<=z/\z<256
 ·obtain⟨s,rfl⟩:=J4e hz.1;have hs:s<256:=by omega
  rw [decide_eq_true hz] at km;have ho:t.at' (s:Int)=t.en s:=by unfold TB.at';rw [if_pos hz,J3F]
  rw [ho];have kl:=Q4G h s hs;by_cases h0:t.lf (s/16)=0
  ·rw [h.tin.hole s hs h0];rw [h0] at kl;unfold getV Q0s Q0W;clear h h0 ho hz;go_enter func102,ntmps102;go_wp2_with (first|(go_at_call 175;refine km.mono ?_;rintro e w' ⟨rfl,rfl⟩)|(go_at_call 176;refine kl.mono ?_;rintro e w' ⟨rfl,rfl⟩));go_ret2;exact⟨rfl,rfl⟩
  ·obtain⟨e1,e2⟩:=h.tin.ent s hs h0;obtain⟨l8,ll⟩:=h.lv (s/16) (by omega) h0;obtain⟨fr,hp⟩:=h.pool;have hm:=Q0p hp;have ks:=Q3i w (t.lf (s/16)) s (by omega) hs;have k0:=Q4F h (t.lf (s/16)+16*(s%16)) (by omega) (by omega);have k1:=Q4F h (t.lf (s/16)+16*(s%16)+8) (by omega) (by omega);rw [e1] at k0;rw [e2] at k1;have hx:t.lf (s/16)+16*(s%16)<=1073741824:=by omega
   have Aa:(((t.lf (s/16):Nat):Int)==0)=false:=by simpa using h0
   have hc:((t.lf (s/16)+16*(s%16)+8:Nat):Int)=((t.lf (s/16)+16*(s%16):Nat):Int)+8:=by omega
   rw [hc] at k1;unfold getV;generalize Q0s (t.en s)=ca at *
   generalize Q0W (t.en s)=cb at *
   generalize (t.lf (s/16)+16*(s%16):Nat)=x at *
   generalize t.lf (s/16)=L at *
   have NI:(x:Int)<=1073741824:=by omega
   clear h h0 ho hz e1 e2 l8 ll hp hm hc hx;go_enter func102,ntmps102;go_wp2_with fail;refine km.mono ?_;rintro e w' ⟨rfl,rfl⟩;go_wp2_with fail;refine kl.mono ?_;rintro e w' ⟨rfl,rfl⟩;go_wp2_with fail;refine kl.mono ?_;rintro e w' ⟨rfl,rfl⟩;go_wp2_with fail;refine ks.mono ?_;rintro e w' ⟨rfl,rfl⟩;go_wp2_with fail;refine k0.mono ?_;rintro e w' ⟨rfl,rfl⟩;go_wp2_with fail;refine k1.mono ?_;rintro e w' ⟨rfl,rfl⟩;go_wp2_with fail
   first|exact⟨rfl,rfl⟩|(go_ret2;exact⟨rfl,rfl⟩)
 ·rw [decide_eq_false hz] at km;have ho:t.at' z=none:=by unfold TB.at';rw [if_neg hz]
  rw [ho];unfold getV Q0s Q0W;clear h ho hz;go_enter func102,ntmps102;go_wp2_with (go_at_call 175;refine km.mono ?_;rintro e w' ⟨rfl,rfl⟩);go_ret2;exact⟨rfl,rfl⟩
def TB.noneIn (t:TB) (k:Nat):Bool:=(List.range 16).all fun j=>(t.en (16*k+j)).isNone
theorem Z2M (h:TT S t p g w) (k:Nat) (hk:k<16) (h0:t.lf k≠0):Calls prog 215 #[.pointer (some ⟨g,0,none⟩),.int .i64 ((t.lf k:Nat):Int)] w fun r w'=>r=.returned (.bool (t.noneIn k))/\w=w':=by
 obtain⟨fr,hp⟩:=h.pool;have hm:=Q0p hp;obtain⟨l8,ll⟩:=h.lv k hk h0;have HC:Hid (∀j:Nat,j<16->(Calls prog 177 #[.int .i64 ((t.lf k:Nat):Int),.int .i64 j] w fun r w'=>r=.returned (.int .i64 ((t.lf k+16*j:Nat):Int))/\w=w')/\Calls prog 178 #[.pointer (some ⟨g,0,none⟩),.int .i64 ((t.lf k+16*j:Nat):Int)] w fun r w'=>r=.returned (.int .u64 (Q0s (t.en (16*k+j)):Nat))/\w=w'):=fun j hj=>by
  have hd:(16*k+j)/16=k:=by omega
  have Rr:(16*k+j)%16=j:=by omega
  have e:=(h.tin.ent (16*k+j) (by omega) (by rw [hd];exact h0)).1;rw [hd,Rr] at e;have k1:=Q3i w (t.lf k) j (by omega) (by omega);rw [J3V hj] at k1;have k2:=Q4F h (t.lf k+16*j) (by omega) (by omega);rw [e] at k2;exact⟨k1,k2⟩
 have HT:Hid (∀j:Nat,(∀i:Nat,i<j->t.en (16*k+i)=none)->j=16->t.noneIn k=true):=fun j hj e=>by
  subst e;unfold TB.noneIn;rw [J5F];intro i hi;rw [hj i (J2P.1 hi)];rfl
 have HF:Hid (∀j:Nat,j<16->t.en (16*k+j)≠none->t.noneIn k=false):=fun j hj Aa=>by
  unfold TB.noneIn;rw [List.all_eq_false];exact⟨j,J2P.2 hj,by cases hx:t.en (16*k+j) with|none=>exact absurd hx Aa|some e=>simp⟩
 clear h hp hm l8 ll h0;go_enter func215,ntmps215;go_wp2_with fail
 go_loopg [6] 16 (fun gk iv wr=>∃j:Nat,iv=.int .i64 j/\j+gk=16/\(∀i,i<j->t.en (16*k+i)=none)/\w=wr)
 case atStart=>exact⟨0,rfl,rfl,fun i hi=>by omega,rfl⟩
 case round =>
  obtain⟨j,rfl,IF,AQ,rfl⟩:=hrel;have M8:=Q0a AQ;have J0:=Q0a IF;clear AQ IF;by_cases hj:j<16
  ·obtain⟨k1,k2⟩:=HC.out j hj;have PJ:(j:Int)<16:=by omega
   cases he:t.en (16*k+j) with
   | none =>
    rw [he] at k2;have HE:=Q0a he;unfold Q0s at k2;generalize (t.lf k+16*j:Nat)=x at *
    generalize t.lf k=L at *
    clear he;go_wp2_with fail;refine k1.mono ?_;rintro e w' ⟨rfl,rfl⟩;go_wp2_with fail;refine k2.mono ?_;rintro e w' ⟨rfl,rfl⟩;go_wp2_with fail;go_roundg (16-(j+1))
    case measure=>have:=J0.out;omega
    case rel=>exact⟨j+1,by go_num,by have:=J0.out;omega,fun i hi=>by
     by_cases e:i=j
     ·subst e;exact HE.out
     ·exact M8.out i (by omega),rfl⟩
   | some e =>
    rw [he] at k2;have Aa:Q0s (some e)≠0:=fun hz=>by cases codeA_zero.1 hz
    have FI:(((Q0s (some e):Nat):Int) != 0)=true:=by simpa using Aa
    have Lj:(((Q0s (some e):Nat):Int)==0)=false:=by simpa using Aa
    have HR:=Q0a (HF.out j hj (by rw [he];simp));generalize Q0s (some e)=ca at *
    generalize (t.lf k+16*j:Nat)=x at *
    generalize t.lf k=L at *
    clear he Aa;go_wp2_with fail;refine k1.mono ?_;rintro e w' ⟨rfl,rfl⟩;go_wp2_with fail;refine k2.mono ?_;rintro e w' ⟨rfl,rfl⟩;go_wp2_with fail
    first|exact⟨by first|(rw [HR.out];done)|(rw [HR.out];rfl),rfl⟩|(go_ret;exact⟨by first|(rw [HR.out];done)|(rw [HR.out];rfl),rfl⟩)
  ·have LG:j=16:=by have:=J0.out;omega
   have HR:=Q0a (HT.out j M8.out LG);subst LG;go_wp2_with fail;go_ret;exact⟨by first|(rw [HR.out];done)|(rw [HR.out];rfl),rfl⟩
end
theorem Q8W {w:World} {H:HL} (h:Sep w H):w.heap.size∉keys H:=fun hk=>by have:=h.lt hk;omega
section
variable {S:CO} {fr:List Nat} {N K:Nat} {tb:Nat->TB} {own:Int} {xl xn:List Nat}
theorem Q4f (ok:S.Ok fr N K) (t:TPX S tb own xl xn) {i s:Nat} {p:Pl} (hi:S.l[i]?=some p) (h1:p.st=1) (h2:p.kind=2) (Ah:(p.fac:Int)=own) (hs:s<256) (hl:(tb i).lf (s/16)≠0) {o:Option Ent} {xn':List Nat} (hn:(xn'++((tb i).setE s o).nds).Perm (xn++(tb i).nds))
  (hA:Q0s o<18446744073709551616) (hB:Q0W o<18446744073709551616) {w:World} (A8:Sep w S.hl) :
  Calls prog 57 #[.pointer (some ⟨S.P.a.a,0,none⟩),.int .i64 (((tb i).lf (s/16)+16*(s%16):Nat):Int),.slice (some ⟨w.heap.size,0,none⟩) 2 2] (w.alloc (.cells #[.int .u64 (Q0s o:Nat),.int .u64 (Q0W o:Nat)] 83)) fun r w' =>
   r=.returned (.int .i64 0)/\∃S':CO,S'.Ok fr N K/\TPX S' (updT tb i ((tb i).setE s o)) own xl xn'/\Alt S S' own/\Step S.hl S'.hl w w':=by
 have Am:=Q1p ok.inv.len hi;have hL:=t.leaf Am (by omega:s/16<16) hl;have hm:=Q0n ok.inv.mem.pool hL;rw [Q2O] at hm;have h8:=Q2o ok.inv.mem.pool hL;have hb:=Q0p ok.inv.mem.pool;have sa:=A8.alloc (.cells #[.int .u64 (Q0s o:Nat),.int .u64 (Q0W o:Nat)] 83);have cn:=Cells.new w 83 [.int .u64 (Q0s o:Nat),.int .u64 (Q0W o:Nat)];have k:=Z5K (PL.sA (CO.sP sa)) ((tb i).lf (s/16)+16*(s%16)) (Q0s o) (Q0W o) (by omega) (by omega) hb hA hB w.heap.size (cn.cell 0 _ rfl) (cn.cell 1 _ rfl) (by simp) (Q8W (PL.sA (CO.sP A8)));refine k.mono ?_;rintro r w' ⟨rfl,st⟩;obtain⟨m,GM⟩:∃m,m=put_ S.P.a.mem ((tb i).lf (s/16)+16*(s%16)) (Q0d (Q0s o)++Q0d (Q0W o)):=⟨_,rfl⟩
 rw [<- GM] at st;have Ae:m.length=S.P.a.mem.length:=by rw [GM];exact Q2q _ _ _ (by rw [Q1l];omega)
 have GJ:∀b∈m,b<256:=by
  rw [GM];refine Q8V ok.inv.mem.pool.bytes fun b Ak=>?_
  rcases J3o.1 Ak with Ak|Ak
  ·exact Q3h _ b Ak
  ·exact Q3h _ b Ak
 have hk:Q4e S.P.a.mem m ((tb i).lf (s/16)+16*(s%16)) 16:=by
  rw [GM];have:=Q6i (m:=S.P.a.mem) (bs:=Q0d (Q0s o)++Q0d (Q0W o)) (a:=(tb i).lf (s/16)+16*(s%16)) (by rw [Q1l];omega)
  rwa [Q1l] at this
 obtain⟨ha,Ag⟩:=Z2L (m:=S.P.a.mem) (a:=(tb i).lf (s/16)+16*(s%16)) (x:=Q0s o) (y:=Q0W o) (by omega) hA hB;rw [<- GM] at ha Ag;obtain⟨ok',t'⟩:=t.entry ok hi h1 h2 Ah hs hl Ae GJ hk ha Ag hn;have st':Step S.hl (S.setP (S.P.setA m)).hl (w.alloc (.cells #[.int .u64 (Q0s o:Nat),.int .u64 (Q0W o:Nat)] 83)) w':=CO.stepMem sa m st;exact⟨rfl,_,ok',t',Alt.mem ok own (.inr rfl) hL (by omega) (by rw [Q2O];omega) Ae hk,st'.from_alloc⟩
theorem Q7q (ok:S.Ok fr N K) (t:TPX S tb own xl xn) {i k:Nat} {p:Pl} (hi:S.l[i]?=some p) (h1:p.st=1) (h2:p.kind=2) (Ah:(p.fac:Int)=own) (C8:k<16) {L:Nat} {xl':List Nat} (hL64:L<18446744073709551616) (hn:(xl'++((tb i).setL k L).lvs).Perm (xl++(tb i).lvs))
  (As:((tb i).lf k=0/\L≠0/\L∈S.P.usedOf 7/\∀j,L<=j->j<L+256->S.P.a.mem[j]?=some 0)∨(L=0/\∀s,s<256->s/16=k->(tb i).en s=none)) {w:World} (A8:Sep w S.hl) :
  Calls prog 57 #[.pointer (some ⟨S.P.a.a,0,none⟩),.int .i64 ((p.at_+8*k:Nat):Int),.slice (some ⟨w.heap.size,0,none⟩) 1 1] (w.alloc (.cells #[.int .u64 (L:Nat)] 83)) fun r w' =>
   r=.returned (.int .i64 0)/\∃S':CO,S'.Ok fr N K/\TPX S' (updT tb i ((tb i).setL k L)) own xl' xn/\Alt S S' own/\Step S.hl S'.hl w w':=by
 have Am:=Q1p ok.inv.len hi;have hT:=Q1J ok hi h1 h2;have L5:Q0c 2=128:=rfl;have hm:=Q0n ok.inv.mem.pool hT;rw [L5] at hm;have h8:=Q2o ok.inv.mem.pool hT;have hb:=Q0p ok.inv.mem.pool;have sa:=A8.alloc (.cells #[.int .u64 (L:Nat)] 83);have cn:=Cells.new w 83 [.int .u64 (L:Nat)];have kk:=Z1x (PL.sA (CO.sP sa)) (p.at_+8*k) L (by omega) (by omega) hb hL64 w.heap.size (cn.cell 0 _ rfl) (by simp) (Q8W (PL.sA (CO.sP A8)));refine kk.mono ?_;rintro r w' ⟨rfl,st⟩;obtain⟨m,GM⟩:∃m,m=put_ S.P.a.mem (p.at_+8*k) (Q0d L):=⟨_,rfl⟩
 rw [<- GM] at st;have Ae:m.length=S.P.a.mem.length:=by rw [GM];exact Q2q _ _ _ (by rw [bytes8_len];omega)
 have GJ:∀b∈m,b<256:=by
  rw [GM];exact Q8V ok.inv.mem.pool.bytes (Q3h _)
 have hk:Q4e S.P.a.mem m (p.at_+8*k) 8:=by
  rw [GM];exact Q6i (m:=S.P.a.mem) (bs:=Q0d L) (a:=p.at_+8*k) (by rw [bytes8_len];omega)
 have Bv:Q0u m (p.at_+8*k)=L:=by rw [GM];exact Z2K (by omega) hL64
 have hr:∀x,x<16->x≠k->Kept S.P.a.mem m (p.at_+8*x) 8:=fun x hx Aa=>hk _ _ (by omega)
 have Bn:∀a,a∈S.P.usedOf 7->Kept S.P.a.mem m a 256:=fun a ha=>Q4E ok hT (b:=p.at_+8*k) (n:=8) (by omega) (by omega) hk ha (by omega)
 have Cf:((tb i).setL k L).In m p.at_:=by
  rcases As with ⟨c1,c2,c3,c4⟩|⟨c1,c2⟩
  ·refine (t.tin i p hi h1 h2).grow C8 c1 c2 Bv (fun j j1 j2=>?_) hr (fun x hx h0=>Bn _ (t.leaf Am hx h0));rw [Bn L c3 j j1 j2];exact c4 j j1 j2
  ·subst c1;exact (t.tin i p hi h1 h2).drop C8 c2 Bv hr (fun x hx Aa h0=>Bn _ (t.leaf Am hx h0))
 obtain⟨ok',t'⟩:=t.rootw ok hi h1 h2 Ah C8 Ae GJ hk Cf hn;have st':Step S.hl (S.setP (S.P.setA m)).hl (w.alloc (.cells #[.int .u64 (L:Nat)] 83)) w':=CO.stepMem sa m st;exact⟨rfl,_,ok',t',Alt.mem ok own (.inl rfl) hT (by omega) (by omega) Ae hk,st'.from_alloc⟩
end
theorem TblC.alt {S S':CO} {p:Pl} {g:Nat} {w w':World} {own:Int} (h:TblC S p g w) (al:Alt S S' own) (st:Step S.hl S'.hl w w'):TblC S' p g w':=by
 unfold TblC;rw [al.same.p];exact AsideV.step h st
theorem Q1c (tb:Nat->TB) (i:Nat) (a b:TB):updT (updT tb i a) i b=updT tb i b:=by
 funext j;unfold updT;split <;> rfl
theorem Z8l {m:List Nat} {a n j:Nat} (h:a+n<=m.length) (h1:a<=j) (h2:j<a+n):(put_ m a (List.replicate n 0))[j]?=some 0:=by
 unfold put_;rw [J3A,J5O (by rw [J4T];omega),J4T,J5Y (by omega),J5N (by rw [J2I];omega),J4B,if_pos (by omega)]
def Put1 (S:CO) (fr:List Nat) (N K:Nat) (tb:Nat->TB) (own:Int) (xl xn:List Nat) (i s:Nat) (o:Option Ent) (w w':World):Prop:=
 ∃(S':CO) (t':TB),S'.Ok fr N K/\TPX S' (updT tb i t') own xl xn/\(∀x,t'.en x=if x=s then o else (tb i).en x)/\((tb i).Full->t'.Full)/\(∀k,(tb i).lf k=0∨t'.lf k=0∨t'.lf k=(tb i).lf k)/\Alt S S' own/\Step S.hl S'.hl w w'
def SetR (S:CO) (fr:List Nat) (N K:Nat) (tb:Nat->TB) (own:Int) (xl xn:List Nat) (i s:Nat) (o:Option Ent) (w:World) (r:Ending) (w':World):Prop:=
 (r=.returned (.int .i64 0)/\Put1 S fr N K tb own xl xn i s o w w') ∨
 ((tb i).lf (s/16)=0/\Step S.hl S.hl w w'/\((NoRoom S.P 7/\r=.returned (.int .i64 4))∨((∃e,find S.P.q.E own=some e/\e.q.limit-(e.q.charged+e.q.given)<256)/\r=.returned (.int .i64 5))))
theorem Z1J {t:TB} {s:Nat} {e:Ent} {t':TB} (hs:s<256) (hl:∀k,k<16->t'.lf k≠0->t.lf k≠0∨k=s/16) (he:∀x,t'.en x=if x=s then some e else t.en x) (h:t.Full):t'.Full:=by
 intro k hk h0;by_cases D7:k=s/16
 ·exact⟨s,hs,D7.symm,by rw [he,if_pos rfl];simp⟩
 ·obtain⟨x,hx,e1,e2⟩:=h k hk ((hl k hk h0).resolve_right D7);refine⟨x,hx,e1,?_⟩;rw [he];split
  ·simp
  ·exact e2
section
variable {S:CO} {fr:List Nat} {N K:Nat} {tb:Nat->TB} {own:Int} {xl xn xn':List Nat}
theorem Q6k (ok:S.Ok fr N K) (t:TPX S tb own xl xn) {i s:Nat} {p:Pl} (hi:S.l[i]?=some p) (h1:p.st=1) (h2:p.kind=2) (Ah:(p.fac:Int)=own) (hs:s<256) (hl:(tb i).lf (s/16)≠0) {e:Ent} (hn:(xn'++((tb i).setE s (some e)).nds).Perm (xn++(tb i).nds))
  (hA:Q0s (some e)<18446744073709551616) (hB:Q0W (some e)<18446744073709551616) {w:World} (A8:Sep w S.hl) :
  Calls prog 57 #[.pointer (some ⟨S.P.a.a,0,none⟩),.int .i64 (((tb i).lf (s/16)+16*(s%16):Nat):Int),.slice (some ⟨w.heap.size,0,none⟩) 2 2] (w.alloc (.cells #[.int .u64 (Q0s (some e):Nat),.int .u64 (Q0W (some e):Nat)] 83)) fun r w' =>
   r=.returned (.int .i64 0)/\Put1 S fr N K tb own xl xn' i s (some e) w w':=by
 refine (Q4f ok t hi h1 h2 Ah hs hl hn hA hB A8).mono ?_;rintro r w' ⟨rfl,S',ok',t',al,st⟩;exact⟨rfl,S',_,ok',t',fun _=>rfl,Z1J hs (fun k _ h=>.inl h) fun _=>rfl,fun _=>.inr (.inr rfl),al,st⟩
theorem Z8m (ok:S.Ok fr N K) (t:TPX S tb own xl xn) {i s:Nat} {p:Pl} (hi:S.l[i]?=some p) (h1:p.st=1) (h2:p.kind=2) (Ah:(p.fac:Int)=own) (hs:s<256) (hl:(tb i).lf (s/16)≠0) {e:Ent} (hn:(xn'++((tb i).setE s (some e)).nds).Perm (xn++(tb i).nds))
  (hA:Q0s (some e)<18446744073709551616) (hB:Q0W (some e)<18446744073709551616) {w:World} {g:Nat} (A8:Sep w S.hl) (hg:TblC S p g w) :
  Calls prog 103 #[.pointer (some ⟨g,0,none⟩),.int .i64 s,.int .u64 (Q0s (some e):Nat),.int .u64 (Q0W (some e):Nat)] w (SetR S fr N K tb own xl xn' i s (some e) w):=by
 have Am:=Q1p ok.inv.len hi;have T:=t.tt ok hi h1 h2 A8 hg;have hL:=t.leaf Am (by omega:s/16<16) hl;have hm:=Q0n ok.inv.mem.pool hL;have hb:=Q0p ok.inv.mem.pool;have c0:=hg.c0;have km:=Q5G w (s:Int);rw [decide_eq_true (show 0<=(s:Int)/\(s:Int)<256 from ⟨by omega,by omega⟩)] at km;have kl:=Q4G T s hs;have ka:=Q1f (CO.sP A8);have ks:=Q3i w ((tb i).lf (s/16)) s (by omega) hs;have HX:Hid (Calls prog 57 #[.pointer (some ⟨S.P.a.a,0,none⟩),.int .i64 (((tb i).lf (s/16)+16*(s%16):Nat):Int),.slice (some ⟨w.heap.size,0,none⟩) 2 2] (w.alloc (.cells #[.int .u64 (Q0s (some e):Nat),.int .u64 (Q0W (some e):Nat)] 83)) fun r w' =>
   r=.returned (.int .i64 0)/\SetR S fr N K tb own xl xn' i s (some e) w (.returned (.int .i64 0)) w'):=by
  refine (Q6k ok t hi h1 h2 Ah hs hl hn hA hB A8).mono ?_;rintro r w' ⟨rfl,h⟩;exact⟨rfl,.inl ⟨rfl,h⟩⟩
 have Cl:Q0s (some e)≠0:=fun h=>by simpa using codeA_zero.1 h
 have Aa:(((Q0s (some e):Nat):Int)==0)=false:=by simpa using Cl
 have Br:((((tb i).lf (s/16):Nat):Int)==0)=false:=by simpa using hl
 generalize SetR S fr N K tb own xl xn' i s (some e) w=Q at *
 unfold ptr at *
 generalize Q0s (some e)=x at *
 generalize Q0W (some e)=y at *
 generalize ((tb i).lf (s/16)+16*(s%16):Nat)=u at *
 generalize (tb i).lf (s/16)=L at *
 clear ok t hi T hL hm hn A8 hg Ah h1 h2 hl Cl;go_enter func103,ntmps103;go_wp2_with fail;refine km.mono ?_;rintro e w' ⟨rfl,rfl⟩;go_wp2_with fail;refine kl.mono ?_;rintro e w' ⟨rfl,rfl⟩;go_wp2_with fail;refine ka.mono ?_;rintro e w' ⟨rfl,rfl⟩;go_wp2_with fail;refine ks.mono ?_;rintro e w' ⟨rfl,rfl⟩;go_wp2_with fail;refine HX.out.mono ?_;rintro e w' ⟨rfl,hy⟩;have HY:=Q0a hy;clear hy HX;go_wp2_with fail
 first|exact HY.out|(go_ret2;exact HY.out)
theorem Z8n (ok:S.Ok fr N K) (t:TPX S tb own xl xn) {i s:Nat} {p:Pl} (hi:S.l[i]?=some p) (h1:p.st=1) (h2:p.kind=2) (Ah:(p.fac:Int)=own) (hs:s<256) (hl:(tb i).lf (s/16)=0) {ac:En Fa} (Fr:find S.P.q.E own=some ac) {e:Ent} (hn:(xn'++((tb i).setE s (some e)).nds).Perm (xn++(tb i).nds))
  (hA:Q0s (some e)<18446744073709551616) (hB:Q0W (some e)<18446744073709551616) {w:World} {g:Nat} (A8:Sep w S.hl) (hg:TblC S p g w) :
  Calls prog 103 #[.pointer (some ⟨g,0,none⟩),.int .i64 s,.int .u64 (Q0s (some e):Nat),.int .u64 (Q0W (some e):Nat)] w (SetR S fr N K tb own xl xn' i s (some e) w):=by
 have Am:=Q1p ok.inv.len hi;have T:=t.tt ok hi h1 h2 A8 hg;have km:=Q5G w (s:Int);rw [decide_eq_true (show 0<=(s:Int)/\(s:Int)<256 from ⟨by omega,by omega⟩)] at km;have kl:=Q4G T s hs;rw [hl] at kl;have c0:=hg.c0;have c1:=hg.c1;have d0:w.drew.cell? ⟨g,0,none⟩=some (.pointer (some ⟨S.P.p,0,none⟩)):=c0;have d1:w.drew.cell? ⟨g,1,none⟩=some (.int .i64 (p.fac:Int)):=c1;have QB:Q1g 7=256:=costs_67.2;have HG:Hid (Calls prog 15 #[.pointer (some ⟨S.P.p,0,none⟩),.int .i64 (p.fac:Int),.int .i64 7] w.drew fun r w1 =>
   (w1.cell? ⟨g,0,none⟩=some (.pointer (some ⟨S.P.p,0,none⟩))/\w1.cell? ⟨g,1,none⟩=some (.int .i64 (p.fac:Int))) /\
   ∃a er:Int,r=.returned (.tuple #[.int .i64 a,.int .i64 er])/\(((er=4∨er=5)/\SetR S fr N K tb own xl xn' i s (some e) w (.returned (.int .i64 er)) w1) ∨
    (∃L:Nat,a=(L:Int)/\er=0/\(0<L/\L<=1073741824) /\
    Calls prog 50 #[.pointer (some ⟨S.P.p,0,none⟩)] w1 (fun r w'=>r=.returned (.pointer (some ⟨S.P.a.a,0,none⟩))/\w1=w') /\
    Calls prog 179 #[.pointer (some ⟨g,0,none⟩),.int .i64 s] w1 (fun r w'=>r=.returned (.int .i64 ((p.at_+8*(s/16):Nat):Int))/\w1=w') /\
    Calls prog 57 #[.pointer (some ⟨S.P.a.a,0,none⟩),.int .i64 ((p.at_+8*(s/16):Nat):Int),.slice (some ⟨w1.heap.size,0,none⟩) 1 1] (w1.alloc (.cells #[.int .u64 (L:Nat)] 83)) (fun r w2=>r=.returned (.int .i64 0)/\w2.cell? ⟨g,0,none⟩=some (.pointer (some ⟨S.P.p,0,none⟩)) /\
     Calls prog 50 #[.pointer (some ⟨S.P.p,0,none⟩)] w2 (fun r w'=>r=.returned (.pointer (some ⟨S.P.a.a,0,none⟩))/\w2=w') /\
     Calls prog 177 #[.int .i64 L,.int .i64 s] w2 (fun r w'=>r=.returned (.int .i64 ((L+16*(s%16):Nat):Int))/\w2=w') /\
     Calls prog 57 #[.pointer (some ⟨S.P.a.a,0,none⟩),.int .i64 ((L+16*(s%16):Nat):Int),.slice (some ⟨w2.heap.size,0,none⟩) 2 2] (w2.alloc (.cells #[.int .u64 (Q0s (some e):Nat),.int .u64 (Q0W (some e):Nat)] 83)) (fun r w3=>r=.returned (.int .i64 0)/\SetR S fr N K tb own xl xn' i s (some e) w (.returned (.int .i64 0)) w3))))):=by
  rw [Ah];refine (Q5B (CO.sP A8.drew) ok.inv.mem.pool own 7).mono ?_;rintro r w1 Hk;have cellsOf:∀{H':HL},Step S.hl H' w w1->w1.cell? ⟨g,0,none⟩=some (.pointer (some ⟨S.P.p,0,none⟩))/\w1.cell? ⟨g,1,none⟩=some (.int .i64 own):=fun {H'} st=>by
   have hx:=AsideV.step hg st;obtain⟨g0,e0,_,_,z0⟩:=hx 0 _ rfl;obtain⟨g1,e1,_,_,z1⟩:=hx 1 _ rfl;cases e0;cases e1;rw [<- Ah];exact⟨z0,z1⟩
  rcases Hk with ⟨h0,_⟩|⟨_,h0,_⟩|⟨_,A5,rfl,st⟩|⟨n,ac',VT,SS,Tx,Tt,EU,hr⟩
  ·rw [QB] at h0;omega
  ·rw [Fr] at h0;cases h0
  ·have st':Step S.hl S.hl w w1:=(CO.stepP A8.drew S.P rfl st).from_drew;refine⟨cellsOf st',0,5,rfl,.inl ⟨.inr rfl,.inr ⟨hl,st',.inr ⟨?_,rfl⟩⟩⟩⟩;obtain⟨x,q1,q2⟩:=A5;rw [QB] at q2;exact⟨x,q1,q2⟩
  ·obtain rfl:n=7:=by omega
   rcases hr with ⟨L,P',rfl,g7,st⟩|⟨Aq,rfl,st⟩
   ·have AT:∃p∈S.l,p.st=1/\(p.fac:Int)=own:=⟨p,J4O hi,h1,Ah⟩
    obtain⟨ok1,t1⟩:=TPX.got ok t (.inr rfl) g7 AT;have al1:=Alt.got ok g7;rw [if_pos rfl,if_neg (by decide)] at t1;have B8:P'.p=S.P.p:=g7.p;have st1:Step S.hl (S.paid P' own ((Q0c 7:Nat):Int)).hl w w1:=(CO.stepPaid A8.drew P' own _ B8 st).from_drew;have QV:L∈P'.usedOf 7:=by
     obtain⟨A,B,_,e2⟩:=g7.used;rw [e2];simp
    have Sj:=Q0n ok1.inv.mem.pool QV;have GS:=Q0p ok1.inv.mem.pool;rw [Q2O] at Sj;have Tb:L+256<=P'.a.mem.length:=Sj.1;have PM:P'.a.mem.length<=1073741824:=GS;have C3:=hg.alt al1 st1;have T1:=t1.tt ok1 (show (S.paid P' own ((Q0c 7:Nat):Int)).l[i]?=some p from hi) h1 h2 st1.sep C3;have Si:=Q1f (CO.sP st1.sep);have RE:(S.paid P' own ((Q0c 7:Nat):Int)).P.a.a=S.P.a.a:=al1.same.aa;rw [RE,show (S.paid P' own ((Q0c 7:Nat):Int)).P.p=S.P.p from B8] at Si;have hz:∀j,L<=j->j<L+256->P'.a.mem[j]?=some 0:=fun j j1 j2=>by
     have Cr:=(g7.gotM ok.inv.mem.pool).room.1;rw [g7.mem];exact Z8l Cr j1 j2
    refine⟨cellsOf st1,(L:Int),0,rfl,.inr ⟨L,rfl,rfl,⟨by omega,by omega⟩,Si,Q6j T1 s hs,?_⟩⟩;have B0:(xl++((tb i).setL (s/16) L).lvs).Perm ((L::xl)++(tb i).lvs):=by
     refine (J5p xl (TB.lvs_new (by omega) hl (by omega:L≠0))).trans ?_;exact J6e
    have kr:=Q7q ok1 t1 (show (S.paid P' own ((Q0c 7:Nat):Int)).l[i]?=some p from hi) h1 h2 Ah (by omega:s/16<16) (by omega:L<18446744073709551616) B0 (.inl ⟨hl,by omega,QV,hz⟩) st1.sep;rw [RE] at kr;refine kr.mono ?_;rintro r w2 ⟨rfl,S2,ok2,t2,al2,st2⟩;have al12:=al1.trans al2;have st12:=st1.trans st2;have B3:=hg.alt al12 st12;have c2:=B3.c0;rw [al12.same.p] at c2;have GX:=Q1f (CO.sP st2.sep);rw [al12.same.aa,al12.same.p] at GX;have E6:S2.l[i]?=some p:=by rw [al12.l];exact hi
    have LO:(updT tb i ((tb i).setL (s/16) L) i).lf (s/16)=L:=by
     rw [updT_same];show (if s/16=s/16 then L else _)=L;rw [if_pos rfl]
    have FT:(xn'++((updT tb i ((tb i).setL (s/16) L) i).setE s (some e)).nds).Perm (xn++(updT tb i ((tb i).setL (s/16) L) i).nds):=by
     rw [updT_same];exact hn
    have Qz:=Q4f ok2 t2 E6 h1 h2 Ah hs (by rw [LO];omega) FT hA hB st2.sep;rw [LO,al12.same.aa] at Qz;refine⟨rfl,c2,GX,Q3i w2 L s (by omega) hs,Qz.mono ?_⟩;rintro r w3 ⟨rfl,S3,ok3,t3,al3,st3⟩;rw [updT_same,Q1c] at t3;refine⟨rfl,.inl ⟨rfl,S3,_,ok3,t3,fun _=>rfl,Z1J hs (fun k hk h0=>?_) fun _=>rfl,fun k=>?_,al12.trans al3,st12.trans st3⟩⟩
    ·by_cases D7:k=s/16
     ·exact .inr D7
     ·refine .inl ?_;have Df:(if k=s/16 then L else (tb i).lf k)≠0:=h0
      rwa [if_neg D7] at Df
    ·by_cases D7:k=s/16
     ·exact .inl (by rw [D7];exact hl)
     ·refine .inr (.inr ?_);show (if k=s/16 then L else (tb i).lf k)=_;rw [if_neg D7]
   ·have st':Step S.hl S.hl w w1:=(CO.stepP A8.drew S.P rfl st).from_drew;exact⟨cellsOf st',0,4,rfl,.inl ⟨.inl rfl,.inr ⟨hl,st',.inl ⟨Aq,rfl⟩⟩⟩⟩
 have Cl:Q0s (some e)≠0:=fun h=>by simpa using codeA_zero.1 h
 have Aa:(((Q0s (some e):Nat):Int)==0)=false:=by simpa using Cl
 generalize SetR S fr N K tb own xl xn' i s (some e) w=Q at *
 unfold ptr at *
 generalize Q0s (some e)=x at *
 generalize Q0W (some e)=y at *
 generalize (p.at_+8*(s/16):Nat)=u at *
 generalize (p.fac:Int)=fa at *
 clear ok t hi T hn A8 hg Ah h1 h2 hl Cl Fr;go_enter func103,ntmps103;go_wp2_with fail;refine km.mono ?_;rintro e w' ⟨rfl,rfl⟩;go_wp2_with fail;refine kl.mono ?_;rintro e w' ⟨rfl,rfl⟩;go_wp2_with fail
 go_region_held3 (fun w'=>w'.cell? ⟨g,0,none⟩=some (.pointer (some ⟨S.P.p,0,none⟩))/\w'.cell? ⟨g,1,none⟩=some (.int .i64 fa)) (first|exact⟨c0,c1⟩|exact⟨d0,d1⟩|exact Al)
  (first|(go_at_call 15;refine HG.out.mono ?_;rintro r w1 ⟨Al,a,er,rfl,hy⟩;have HW:=Q0a hy;clear hy HG))
 rcases HW.out with ⟨Cu,hy⟩|⟨L,rfl,rfl,hL,hy⟩
 ·have HY:=Q0a hy;clear hy HW;rcases Cu with rfl|rfl
  all_goals
   go_wp2_with fail
   first|exact HY.out|(go_ret2;exact HY.out)
 ·obtain⟨ka,RW,ks⟩:=hy;have HS:=Q0a ks;have N6:=Al.1;have VH:=hL.2;clear ks HW;go_wp2_with fail;refine ka.mono ?_;rintro e w' ⟨rfl,rfl⟩;go_wp2_with fail;refine RW.mono ?_;rintro e w' ⟨rfl,rfl⟩;go_wp2_with fail;refine HS.out.mono ?_;rintro e w2 ⟨rfl,c2,GX,T7,hz⟩;have HZ:=Q0a hz;clear hz HS ka RW;go_wp2_with fail;refine GX.mono ?_;rintro e w' ⟨rfl,rfl⟩;go_wp2_with fail;refine T7.mono ?_;rintro e w' ⟨rfl,rfl⟩;go_wp2_with fail;refine HZ.out.mono ?_;rintro e w3 ⟨rfl,hq⟩;have HQ:=Q0a hq;clear hq HZ;go_wp2_with fail
  first|exact HQ.out|(go_ret2;exact HQ.out)
end
theorem Z0z {t:TB} {k:Nat} (h:t.noneIn k=true):∀s,s<256->s/16=k->t.en s=none:=by
 intro s hs hk;unfold TB.noneIn at h;rw [J5F] at h;have:=h (s%16) (J2P.2 (J5G _ (by omega)));rw [show 16*k+s%16=s by omega] at this;exact Option.isNone_iff_eq_none.1 this
theorem Q8X {t:TB} {k:Nat} (hk:k<16) (h:t.noneIn k=false):∃s,s<256/\s/16=k/\t.en s≠none:=by
 unfold TB.noneIn at h;rw [List.all_eq_false] at h;obtain⟨j,hj,hn⟩:=h;have:=J2P.1 hj;refine⟨16*k+j,by omega,by omega,fun e=>hn ?_⟩;rw [e];rfl
section
variable {S:CO} {fr:List Nat} {N K:Nat} {tb:Nat->TB} {own:Int} {xl xn:List Nat}
theorem Q8Y (ok:S.Ok fr N K) {i:Nat} {p:Pl} (hi:S.l[i]?=some p) (h1:p.st=1):∃e,find S.P.q.E (p.fac:Int)=some e:=ok.inv.tre.fac p (J4O hi) (Pl.is_iff.2 (.inl h1))
theorem TPX.paid (ok:S.Ok fr N K) (t:TPX S tb own xl xn) {e:En Fa} (he:find S.P.q.E own=some e):256*(xl.length:Int)+48*(xn.length:Int)<=e.q.charged:=by
 have h1:=ok.inv.tre.charged own e he;have h2:=t.xc own;rw [if_pos rfl] at h2;have h3:=Z0s S.l tb own;have h4:=Q4W S.l own;omega
theorem Z2N (ok:S.Ok fr N K) (t:TPX S tb own xl xn) {i s:Nat} {p:Pl} (hi:S.l[i]?=some p) (h1:p.st=1) (h2:p.kind=2) (Ah:(p.fac:Int)=own) (hs:s<256) {e:Ent} (he:(tb i).en s=some e) {w:World} {g:Nat} (A8:Sep w S.hl) (hg:TblC S p g w) :
  Calls prog 173 #[.pointer (some ⟨g,0,none⟩),.int .i64 s] w fun r w'=>r=.returned (.int .i64 0)/\Put1 S fr N K tb own xl (e.nd::xn) i s none w w':=by
 have Am:=Q1p ok.inv.len hi;have T:=t.tt ok hi h1 h2 A8 hg;have hl:(tb i).lf (s/16)≠0:=fun h=>by
  have:=T.tin.hole s hs h;rw [he] at this;cases this
 have hL:=t.leaf Am (by omega:s/16<16) hl;have hm:=Q0n ok.inv.mem.pool hL;have hb:=Q0p ok.inv.mem.pool;have c0:=hg.c0;have kg:=Q3H T (s:Int);rw [show (tb i).at' (s:Int)=some e by unfold TB.at';rw [if_pos ⟨by omega,by omega⟩,J3F,he]] at kg;have km:=Q5G w (s:Int);rw [decide_eq_true (show 0<=(s:Int)/\(s:Int)<256 from ⟨by omega,by omega⟩)] at km;have kl:=Q4G T s hs;have ka:=Q1f (CO.sP A8);have ks:=Q3i w ((tb i).lf (s/16)) s (by omega) hs;have B0:((e.nd::xn)++((tb i).setE s none).nds).Perm (xn++(tb i).nds):=by
  refine List.Perm.trans ?_ (J5p xn (TB.nds_clr hs he).symm);exact J6e.symm
 have AT:∃p∈S.l,p.st=1/\(p.fac:Int)=own:=⟨p,J4O hi,h1,Ah⟩
 have HX:Hid (Calls prog 57 #[.pointer (some ⟨S.P.a.a,0,none⟩),.int .i64 (((tb i).lf (s/16)+16*(s%16):Nat):Int),.slice (some ⟨w.heap.size,0,none⟩) 2 2] (w.alloc (.cells #[.int .u64 0,.int .u64 0] 83)) fun r w2 =>
   r=.returned (.int .i64 0)/\w2.cell? ⟨g,0,none⟩=some (.pointer (some ⟨S.P.p,0,none⟩))/\∃b:Bool,Calls prog 215 #[.pointer (some ⟨g,0,none⟩),.int .i64 (((tb i).lf (s/16):Nat):Int)] w2 (fun r w'=>r=.returned (.bool b)/\w2=w') /\
    ((b=false/\Put1 S fr N K tb own xl (e.nd::xn) i s none w w2) ∨
     (b=true/\Calls prog 50 #[.pointer (some ⟨S.P.p,0,none⟩)] w2 (fun r w'=>r=.returned (.pointer (some ⟨S.P.a.a,0,none⟩))/\w2=w') /\
     Calls prog 179 #[.pointer (some ⟨g,0,none⟩),.int .i64 s] w2 (fun r w'=>r=.returned (.int .i64 ((p.at_+8*(s/16):Nat):Int))/\w2=w') /\
     Calls prog 57 #[.pointer (some ⟨S.P.a.a,0,none⟩),.int .i64 ((p.at_+8*(s/16):Nat):Int),.slice (some ⟨w2.heap.size,0,none⟩) 1 1] (w2.alloc (.cells #[.int .u64 0] 83)) (fun r w3=>r=.returned (.int .i64 0)/\(w3.cell? ⟨g,0,none⟩=some (.pointer (some ⟨S.P.p,0,none⟩))/\w3.cell? ⟨g,1,none⟩=some (.int .i64 (p.fac:Int))) /\
      Calls prog 21 #[.pointer (some ⟨S.P.p,0,none⟩),.int .i64 (p.fac:Int),.int .i64 7,.int .i64 (((tb i).lf (s/16):Nat):Int)] w3.drew (fun r w4=>r=.returned (.int .i64 0)/\(w4.cell? ⟨g,0,none⟩=some (.pointer (some ⟨S.P.p,0,none⟩))/\w4.cell? ⟨g,1,none⟩=some (.int .i64 (p.fac:Int)))/\Put1 S fr N K tb own xl (e.nd::xn) i s none w w4))))):=by
  refine (Q4f (o:=none) ok t hi h1 h2 Ah hs hl B0 (by decide) (by decide) A8).mono ?_;rintro r w2 ⟨rfl,S2,ok2,t2,al2,st2⟩;have B3:=hg.alt al2 st2;have c2:=B3.c0;rw [al2.same.p] at c2;have E6:S2.l[i]?=some p:=by rw [al2.l];exact hi
  have T2:=t2.tt ok2 E6 h1 h2 st2.sep B3;rw [updT_same] at T2;have ke:=Z2M T2 (s/16) (by omega) hl;refine⟨rfl,c2,((tb i).setE s none).noneIn (s/16),ke,?_⟩;cases Aq:((tb i).setE s none).noneIn (s/16) with
  | false =>
   refine .inl ⟨rfl,S2,_,ok2,t2,fun _=>rfl,fun hf k hk h0=>?_,fun _=>.inr (.inr rfl),al2,st2⟩;by_cases D7:k=s/16
   ·rw [D7];exact Q8X (by omega) Aq
   ·obtain⟨x,hx,e1,e2⟩:=hf k hk h0;refine⟨x,hx,e1,?_⟩;show (if x=s then none else (tb i).en x)≠none;rw [if_neg (fun h=>D7 (by rw [<- e1,h]))];exact e2
  | true =>
   have GX:=Q1f (CO.sP st2.sep);rw [al2.same.aa,al2.same.p] at GX;refine .inr ⟨rfl,GX,Q6j T2 s hs,?_⟩;have Kg:(((tb i).lf (s/16)::xl)++((updT tb i ((tb i).setE s none) i).setL (s/16) 0).lvs).Perm (xl++(updT tb i ((tb i).setE s none) i).lvs):=by
    rw [updT_same];refine List.Perm.trans ?_ (J5p xl (TB.lvs_drop (t:=(tb i).setE s none) (k:=s/16) (by omega) hl).symm);exact J6e.symm
   have kr:=Q7q (L:=0) ok2 t2 E6 h1 h2 Ah (by omega:s/16<16) (by omega) Kg (.inr ⟨rfl,fun x hx IE=>by rw [updT_same];exact Z0z Aq x hx IE⟩) st2.sep;rw [al2.same.aa] at kr;refine kr.mono ?_;rintro r w3 ⟨rfl,S3,ok3,t3,al3,st3⟩;rw [updT_same,Q1c] at t3;have al23:=al2.trans al3;have st23:=st2.trans st3;have JE:=hg.alt al23 st23;have c3:=JE.c0;rw [al23.same.p] at c3;refine⟨rfl,⟨c3,JE.c1⟩,?_⟩;have SC:S3.l[i]?=some p:=by rw [al23.l];exact hi
   obtain⟨ac,Fr⟩:=Q8Y ok3 SC h1;rw [Ah] at Fr ⊢;have M9:=t3.paid ok3 Fr;rw [J3k,J3k] at M9;obtain⟨c,hc⟩:=PL.cls ok3.inv.mem.pool (by omega:1<=7) (by omega);have Q8:(tb i).lf (s/16)∈S3.P.usedOf 7:=t3.lvs.mem_iff.1 (by simp);have QP:=Q0n ok3.inv.mem.pool Q8;have Ar:=Q0p ok3.inv.mem.pool;have kp:=Q4u (CO.sP st3.sep.drew) ok3.inv.mem.pool own Fr 7 (by rw [Q2O];omega) c hc ((tb i).lf (s/16)) (by rw [<- Q0U hc];exact Q8) (by omega);rw [al23.same.p] at kp;refine kp.mono ?_;rintro r w4 ⟨rfl,P',g7,st⟩;have Mx:∃p∈S3.l,p.st=1/\(p.fac:Int)=own:=by rw [al23.l];exact AT
   obtain⟨ok4,t4⟩:=TPX.put (xl:=xl) (xn:=e.nd::xn) ok3 (.inr rfl) (by rw [if_pos rfl,if_neg (by decide)];exact t3) g7 Mx;have al4:=Alt.put ok3 g7;have st4:Step S3.hl (S3.paid P' own (-((Q0c 7:Nat):Int))).hl w3 w4:=(CO.stepPaid st3.sep.drew P' own _ g7.p st).from_drew;have alz:=al23.trans al4;have stz:=st23.trans st4;have GY:=hg.alt alz stz;have c4:=GY.c0;rw [alz.same.p] at c4;have RD:=GY.c1;rw [Ah] at RD;refine⟨rfl,⟨c4,RD⟩,_,_,ok4,t4,fun _=>rfl,fun hf k hk h0=>?_,fun k=>?_,alz,stz⟩
   rotate_left
   ·by_cases D7:k=s/16
    ·refine .inr (.inl ?_);show (if k=s/16 then 0 else (tb i).lf k)=0;rw [if_pos D7]
    ·refine .inr (.inr ?_);show (if k=s/16 then 0 else (tb i).lf k)=_;rw [if_neg D7]
   have Df:(if k=s/16 then 0 else (tb i).lf k)≠0:=h0;have D7:k≠s/16:=fun h=>Df (by rw [if_pos h])
   rw [if_neg D7] at Df;obtain⟨x,hx,e1,e2⟩:=hf k hk Df;refine⟨x,hx,e1,?_⟩;show (if x=s then none else (tb i).en x)≠none;rw [if_neg (fun h=>D7 (by rw [<- e1,h]))];exact e2
 have Cl:Q0s (some e)≠0:=fun h=>by simpa using codeA_zero.1 h
 have Aa:(((Q0s (some e):Nat):Int)==0)=false:=by simpa using Cl
 generalize Put1 S fr N K tb own xl (e.nd::xn) i s none w=Q at *
 unfold getV at kg;unfold ptr at *
 generalize Q0s (some e)=x at *
 generalize Q0W (some e)=y at *
 generalize ((tb i).lf (s/16)+16*(s%16):Nat)=v at *
 generalize (tb i).lf (s/16)=L at *
 generalize (p.at_+8*(s/16):Nat)=u at *
 generalize (p.fac:Int)=fa at *
 clear ok t hi T B0 A8 hg Ah h1 h2 hl Cl AT hL hm;go_enter func173,ntmps173;go_wp2_with fail;refine kg.mono ?_;rintro e w' ⟨rfl,rfl⟩;go_wp2_with fail;refine km.mono ?_;rintro e w' ⟨rfl,rfl⟩;go_wp2_with fail;refine kl.mono ?_;rintro e w' ⟨rfl,rfl⟩;go_wp2_with fail;refine ka.mono ?_;rintro e w' ⟨rfl,rfl⟩;go_wp2_with fail;refine ks.mono ?_;rintro e w' ⟨rfl,rfl⟩;go_wp2_with fail;refine HX.out.mono ?_;rintro e w2 ⟨rfl,c2,b,ke,hy⟩;have HY:=Q0a hy;clear hy HX;go_wp2_with fail;refine ke.mono ?_;rintro e w' ⟨rfl,rfl⟩;rcases HY.out with ⟨rfl,hy⟩|⟨rfl,GX,kr,hy⟩
 ·have HZ:=Q0a hy;clear hy HY;go_wp2_with fail
  first|exact⟨rfl,HZ.out⟩|(go_ret;exact⟨rfl,HZ.out⟩)
 ·have HZ:=Q0a hy;clear hy HY;go_wp2_with fail;refine GX.mono ?_;rintro e w' ⟨rfl,rfl⟩;go_wp2_with fail;refine kr.mono ?_;rintro e w' ⟨rfl,rfl⟩;go_wp2_with fail;refine HZ.out.mono ?_;rintro e w3 ⟨rfl,⟨c3,Rc⟩,hp⟩;have d3:w3.drew.cell? ⟨g,0,none⟩=some (.pointer (some ⟨S.P.p,0,none⟩)):=c3;have d31:w3.drew.cell? ⟨g,1,none⟩=some (.int .i64 fa):=Rc;have HP:=Q0a hp;clear hp HZ ke GX kr;go_wp2_with fail
  go_region_held3 (fun w'=>w'.cell? ⟨g,0,none⟩=some (.pointer (some ⟨S.P.p,0,none⟩))/\w'.cell? ⟨g,1,none⟩=some (.int .i64 fa)) (first|exact⟨c3,Rc⟩|exact⟨d3,d31⟩|exact Al)
   (first|(go_at_call 21;refine HP.out.mono ?_;rintro r w4 ⟨rfl,Al,hq⟩;have HQ:=Q0a hq;clear hq HP))
  go_wp2_with fail
  first|exact⟨rfl,HQ.out⟩|(go_ret;exact⟨rfl,HQ.out⟩)
end
end Go.Proofs.YtfidemmgofcnmaaGreatDoor
