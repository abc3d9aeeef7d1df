/- SpaceRevokes returns true at every input. No condition. Part of its proof. -/
import Derived.Deep.LoopGhost
import Derived.Test.YtlakjlmaboioiaaGreatDoorSv16
set_option maxHeartbeats 2000000
set_option maxRecDepth 100000
set_option linter.unusedVariables false
namespace Go.Proofs.YtlakjlmaboioiaaGreatDoor
open Go.RowKit Go.Proofs.Tryz
def blk (k i:Nat):Nat×Nat:=(1024*i*2 ^ k,k)
abbrev encI (x:Int):Value:=.int .i64 x
theorem Z0x:(prog.info? 3).map (fun i=>(i.zero,i.size,i.bytes))=some (some (.int .i64 0),1,8):=by kernel_rfl
def AsideV (H:HL) (cs:List Value) (a:Option Addr) (w:World):Prop:=∀(j:Nat) (v:Value),cs[j]?=some v->∃g,a=some ⟨g,0,none⟩/\g∉keys H/\g<w.heap.size/\w.cell? ⟨g,j,none⟩=some v
theorem AsideV.step {H H':HL} {cs:List Value} {a:Option Addr} {w w':World} (h:AsideV H cs a w) (st:Step H H' w w'):AsideV H' cs a w':=fun j x hj=>by
 obtain⟨g,h1,h2,h3,h4⟩:=h j x hj;refine⟨g,h1,fun hk=>?_,J1N h3 st.chg.size,(World.cell?_of_block (w:=w) (st.chg.block g h3 h2)).trans h4⟩;rcases st.new g hk with h'|h'
 ·exact h2 h'
 ·omega
theorem Q7j {w w':World} {H:HL} {T:TypeId} {size n:Nat} {v:Value} {cs:List Value} (hs:Sep w H) (h:w'.ownsRow w.heap.size T size v n cs):∃(a:Option Addr) (cap:Nat),v=.slice a n cap/\AsideV H cs a w':=by
 obtain⟨hl,h2⟩:=h;rcases h2 with ⟨rfl,h0⟩|⟨g,cap,Ah,rfl,hg,Cn,hn,hm,Bv,AR⟩
 ·refine⟨none,0,by rw [h0],fun j x hj=>?_⟩;have:=(J2c.1 hj).1;rw [hl,h0,J5C] at this;omega
 ·refine⟨_,cap,rfl,fun j x hj=>⟨g,rfl,fun hk=>by have:=hs.lt hk;omega,lt_of_block Cn,?_⟩⟩;rw [<- hl] at AR;rw [<- AR,J3P] at hj;split at hj
  ·simp only [World.cell?,Cn,J4P,J5E,if_false];rw [<- J4m];exact hj
  ·cases hj
theorem Z6c {w:World} {a:AN} (h:Sep w a.hl) (at_:Nat) (h8:at_%8=0) (hl:at_+16<=a.mem.length) (hm:a.mem.length<=1073741824) :
  Calls prog 230 #[.pointer (some ⟨a.a,0,none⟩),.int .i64 at_,.int .i64 2] w fun r w'=>r=.returned (.tuple #[.slice (some ⟨a.mb,at_,none⟩) 16 (a.mem.length-at_),.int .i64 0])/\w=w':=by
 have k1:=Z0c h at_ 16 (by omega) hl hm;have h1:(at_:Int)%8=0:=by omega
 have h2:((at_:Int)%8 != 0)=false:=by simp;omega
 have h3:((0:Int) != 0)=false:=by simp
 clear h h8;generalize a.mem.length=l at *
 go_enter func230,ntmps230;go_wp2_with (go_at_call 229;refine k1.mono ?_;rintro e w' ⟨rfl,rfl⟩);go_ret2;exact⟨rfl,rfl⟩
theorem Z0y (x y k:Nat) (hk:k<16):(Q0d x++Q0d y)[k]?.getD 0=(if k<8 then x else y)/2 ^ (8*(k%8))%256:=by
 have hl:(Q0d x).length=8:=rfl;by_cases h:k<8
 ·rw [J4Z (by rw [hl];exact h),Q4X x k h,if_pos h,J3h h]
 ·rw [J5a (by rw [hl];omega),hl,Q4X y (k-8) (by omega),if_neg h,show k%8=k-8 by omega]
theorem Z6d {w:World} {a:AN} (h:Sep w a.hl) (at_ x y:Nat) (h8:at_%8=0) (hl:at_+16<=a.mem.length) (hm:a.mem.length<=1073741824) (hx:x<18446744073709551616) (hy:y<18446744073709551616) (g:Nat) (hg:w.cell? ⟨g,0,none⟩=some (.int .u64 x)) (C5:w.cell? ⟨g,1,none⟩=some (.int .u64 y)) (DG:g<w.heap.size) (E6:g∉keys a.hl) :
  Calls prog 158 #[.pointer (some ⟨a.a,0,none⟩),.int .i64 at_,.slice (some ⟨g,0,none⟩) 2 2] w fun r w'=>r=.returned (.int .i64 0)/\Step a.hl ({a with mem:=put_ a.mem at_ (Q0d x++Q0d y)}:AN).hl w w':=by
 have k1:=Z6c h at_ h8 hl hm;have FQ:(Q0d x++Q0d y).length=16:=rfl;have LW:Hid (Step a.hl ({a with mem:=put_ a.mem at_ ((Q0d x++Q0d y).take 0)}:AN).hl w w):=by
  show Step _ _ _ _;rw [J5l,Z0b];exact Step.refl h
 have HN:Hid (∀k wr,k<16->Step a.hl ({a with mem:=put_ a.mem at_ ((Q0d x++Q0d y).take k)}:AN).hl w wr->(∃old,wr.cell? ⟨a.mb,at_+k,none⟩=some old)/\wr.frozen? ⟨a.mb,at_+k,none⟩=false/\wr.cell? ⟨g,0,none⟩=some (.int .u64 x)/\wr.cell? ⟨g,1,none⟩=some (.int .u64 y)/\Step a.hl ({a with mem:=put_ a.mem at_ ((Q0d x++Q0d y).take (k+1))}:AN).hl w (wr.setCell ⟨a.mb,at_+k,none⟩ (.int .u8 ((Q0d x++Q0d y)[k]?.getD 0:Nat)))):=by
  intro k wr hk hs;have eb:=hs.chg.block g DG E6;refine⟨⟨_,AN.bcell hs.sep (at_+k) (by show at_+k<(put_ _ _ _).length;rw [Q2s _ _ _ (by rw [J4f,FQ];omega)];omega)⟩,AN.bfree hs.sep (at_+k),(World.cell?_of_block (w:=w) eb).trans hg,(World.cell?_of_block (w:=w) eb).trans C5,?_⟩;have h1:=AN.setB hs.sep (at_+k) ((Q0d x++Q0d y)[k]?.getD 0);have h2:=Q7N a.mem at_ (Q0d x++Q0d y) k (by rw [FQ];exact hk) (by rw [FQ];exact hl);have:=hs.trans h1
  simpa [h2] using this
 have AZ:Hid ((Q0d x++Q0d y).take 16=Q0d x++Q0d y):=J3K (by rw [FQ];exact J1L _);have HV:=Q0a (fun k hk=>Z0y x y k hk);generalize hbs:Q0d x++Q0d y=bs at *
 clear h h8 hg C5 E6 DG hbs FQ;generalize a.hl=H at *
 generalize a.mem.length=l at *
 go_enter func158,ntmps158;go_wp2_with fail;refine k1.mono ?_;rintro e w' ⟨rfl,rfl⟩;go_wp2_with fail
 go_loopw [20] (fun iv wr=>∃k:Nat,k<=16/\iv=.int .i64 k/\Step H ({a with mem:=put_ a.mem at_ (bs.take k)}:AN).hl w wr) (fun iv _=>16-(intOf iv).toNat)
 case atStart=>exact⟨0,by omega,rfl,LW.out⟩
 case round =>
  obtain⟨k,hk,rfl,hs⟩:=hrel;by_cases Ab:k<16
  ·obtain⟨⟨old,Kx⟩,hf,Uf,S6,A6⟩:=HN.out k wr Ab hs;have hv:=HV.out k Ab;clear hs;obtain⟨j,hj⟩:∃j,j=k%8:=⟨_,rfl⟩
   have Vh:j<8:=by omega
   have A2:(k:Int)%8=(j:Int):=by omega
   have A3:k%8=j:=hj.symm;rw [A3] at hv;by_cases h8:k<8
   ·have Bx:(k:Int)/8=0:=by omega
    rw [if_pos h8] at hv;have Rw:IntKind.u8.wrap ((x:Int)/2 ^ (8*j))=((bs[k]?.getD 0:Nat):Int):=by
     rw [hv,IntKind.wrap_u8,show ((x:Int)/2 ^ (8*j))=((x/2 ^ (8*j):Nat):Int) from by rw [J3G,J3H];rfl];omega
    clear hv hj;generalize bs[k]?.getD 0=v at *
    go_wp2_with fail;go_roundw
    case rel=>exact⟨k+1,by omega,by go_num,A6⟩
    case measure=>simp [intOf];omega
   ·have Bx:(k:Int)/8=1:=by omega
    rw [if_neg h8] at hv;have Rw:IntKind.u8.wrap ((y:Int)/2 ^ (8*j))=((bs[k]?.getD 0:Nat):Int):=by
     rw [hv,IntKind.wrap_u8,show ((y:Int)/2 ^ (8*j))=((y/2 ^ (8*j):Nat):Int) from by rw [J3G,J3H];rfl];omega
    clear hv hj;generalize bs[k]?.getD 0=v at *
    go_wp2_with fail;go_roundw
    case rel=>exact⟨k+1,by omega,by go_num,A6⟩
    case measure=>simp [intOf];omega
  ·obtain rfl:k=16:=by omega
   go_wp2_with fail;go_ret;exact⟨rfl,by have:=hs;rw [AZ.out] at this;exact this⟩
def TblC (S:CO) (p:Pl) (g:Nat) (w:World):Prop:=AsideV S.hl [ptr S.P.p,.int .i64 (p.fac:Int),.int .i64 (p.at_:Int)] (some ⟨g,0,none⟩) w
theorem TblC.c0 {S:CO} {p:Pl} {g:Nat} {w:World} (h:TblC S p g w):w.cell? ⟨g,0,none⟩=some (.pointer (some ⟨S.P.p,0,none⟩)):=by
 obtain⟨g',e,_,_,c⟩:=h 0 _ rfl;cases e;exact c
theorem TblC.c1 {S:CO} {p:Pl} {g:Nat} {w:World} (h:TblC S p g w):w.cell? ⟨g,1,none⟩=some (.int .i64 (p.fac:Int)):=by
 obtain⟨g',e,_,_,c⟩:=h 1 _ rfl;cases e;exact c
theorem TblC.c2 {S:CO} {p:Pl} {g:Nat} {w:World} (h:TblC S p g w):w.cell? ⟨g,2,none⟩=some (.int .i64 (p.at_:Int)):=by
 obtain⟨g',e,_,_,c⟩:=h 2 _ rfl;cases e;exact c
structure TT (S:CO) (t:TB) (p:Pl) (g:Nat) (w:World):Prop where
 sep:Sep w S.hl
 pool:∃fr,S.P.Ok fr
 tab:TblC S p g w
 tin:t.In S.P.a.mem p.at_
 al:p.at_%8=0/\p.at_+128<=S.P.a.mem.length
 lv:∀k,k<16->t.lf k≠0->t.lf k%8=0/\t.lf k+256<=S.P.a.mem.length
theorem TT.grown {S:CO} {t:TB} {p:Pl} {g:Nat} {w w':World} (h:TT S t p g w) (hb:Below w.heap.size w w'):TT S t p g w':=
 ⟨(h.sep.grown hb).sep,h.pool,h.tab.step (h.sep.grown hb),h.tin,h.al,h.lv⟩
theorem TPX.tt {S:CO} {fr:List Nat} {N K:Nat} {tb:Nat->TB} {own:Int} {xl xn:List Nat} (ok:S.Ok fr N K) (t:TPX S tb own xl xn) {i:Nat} {p:Pl} {g:Nat} {w:World} (hi:S.l[i]?=some p) (h1:p.st=1) (h2:p.kind=2) (hs:Sep w S.hl) (hg:TblC S p g w):TT S (tb i) p g w:=by
 have An:=Q1r ok.inv.len hi;have hu:=Q1I ok hi h1 h2;have hm:=Q0m ok.inv.mem.pool hu;have Lb:Q0c 2=128:=rfl;refine⟨hs,⟨fr,ok.inv.mem.pool⟩,hg,t.tin i p hi h1 h2,⟨Q2q ok.inv.mem.pool hu,by omega⟩,fun k hk h0=>?_⟩;have hl:=t.leaf An hk h0;have hm:=Q0m ok.inv.mem.pool hl;rw [Q2R] at hm;exact⟨Q2q ok.inv.mem.pool hl,hm.1⟩
section
variable {w:World} {S:CO} {t:TB} {p:Pl} {g:Nat}
theorem Q4J (h:TT S t p g w) (a:Nat) (h8:a%8=0) (hl:a+8<=S.P.a.mem.length):Calls prog 180 #[.pointer (some ⟨g,0,none⟩),.int .i64 a] w fun r w'=>r=.returned (.int .u64 (Q0u S.P.a.mem a:Nat))/\w=w':=by
 obtain⟨fr,hp⟩:=h.pool;have c0:=h.tab.c0;have ka:=Q1f (CO.sP h.sep);have kl:=Z4K (PL.sA (CO.sP h.sep)) hp.bytes a h8 hl (Q0o hp);clear h hp h8 hl;unfold ptr at *
 generalize Q0u S.P.a.mem a=x at *
 go_enter func180,ntmps180;go_wp2_with (first|(go_at_call 155;refine ka.mono ?_;rintro e w' ⟨rfl,rfl⟩)|(go_at_call 216;refine kl.mono ?_;rintro e w' ⟨rfl,rfl⟩));go_ret;exact⟨rfl,rfl⟩
theorem Q6n (h:TT S t p g w) (s:Nat) (hs:s<256):Calls prog 181 #[.pointer (some ⟨g,0,none⟩),.int .i64 s] w fun r w'=>r=.returned (.int .i64 ((p.at_+8*(s/16):Nat):Int))/\w=w':=by
 have c2:=h.tab.c2;obtain⟨fr,hp⟩:=h.pool;have hm:=Q0o hp;have DQ:=h.al.2;have h1:(s:Int).tdiv 16=((s/16:Nat):Int):=by
  rw [J3C (by omega)];omega
 have h2:(s:Int)/16=((s/16:Nat):Int):=by omega
 have hk:s/16<16:=by omega
 have e:((p.at_+8*(s/16):Nat):Int)=(p.at_:Int)+((s/16:Nat):Int)*8:=by omega
 rw [e];generalize s/16=k at *
 generalize p.at_=a at *
 have ha:(a:Int)<=1073741824:=by omega
 have A3:(k:Int)<16:=by omega
 clear h hp hm DQ hk e;go_enter func181,ntmps181
 go_wp2
 go_ret;exact⟨by first|rfl|(simp only [h1,h2])|(rw [h2]),rfl⟩
theorem Q5L (w:World) (z:Int):Calls prog 177 #[.int .i64 z] w fun r w'=>r=.returned (.bool (decide (0<=z/\z<256)))/\w=w':=by
 by_cases h0:0<=z
 ·by_cases h1:z<256
  ·rw [decide_eq_true (show 0<=z/\z<256 from ⟨h0,h1⟩)];go_enter func177,ntmps177
   go_wp2
   go_ret;exact⟨rfl,rfl⟩
  ·rw [decide_eq_false (show ¬(0<=z/\z<256) from fun h=>h1 h.2)];have hd:decide (z<256)=false:=by simpa using h1
   go_enter func177,ntmps177
   go_wp2
   go_ret;exact⟨rfl,rfl⟩
 ·rw [decide_eq_false (show ¬(0<=z/\z<256) from fun h=>h0 h.1)];have hd:decide (0<=z)=false:=by simpa using h0
  go_enter func177,ntmps177
  go_wp2
  go_ret;exact⟨rfl,rfl⟩
theorem Q3n (w:World) (L s:Nat) (hL:L<=1073741824) (hs:s<256):Calls prog 179 #[.int .i64 L,.int .i64 s] w fun r w'=>r=.returned (.int .i64 ((L+16*(s%16):Nat):Int))/\w=w':=by
 have h1:(s:Int).tmod 16=((s%16:Nat):Int):=by
  rw [J3D (by omega)];omega
 have h2:(s:Int)%16=((s%16:Nat):Int):=by omega
 have hk:s%16<16:=by omega
 have e:((L+16*(s%16):Nat):Int)=(L:Int)+((s%16:Nat):Int)*16:=by omega
 rw [e];generalize s%16=k at *
 have ha:(L:Int)<=1073741824:=by omega
 have A3:(k:Int)<16:=by omega
 clear hk e hL;go_enter func179,ntmps179
 go_wp2
 go_ret;exact⟨by first|rfl|(simp only [h1,h2])|(rw [h2]),rfl⟩
theorem Q4K (h:TT S t p g w) (s:Nat) (hs:s<256):Calls prog 178 #[.pointer (some ⟨g,0,none⟩),.int .i64 s] w fun r w'=>r=.returned (.int .i64 ((t.lf (s/16):Nat):Int))/\w=w':=by
 have hk:s/16<16:=by omega
 have kr:=Q6n h s hs;have DQ:=h.al;have kw:=Q4J h (p.at_+8*(s/16)) (by omega) (by omega);rw [h.tin.root (s/16) hk] at kw;obtain⟨fr,hp⟩:=h.pool;have hm:=Q0o hp;have EV:((t.lf (s/16):Nat):Int)<=1073741824:=by
  by_cases h0:t.lf (s/16)=0
  ·omega
  ·have:=(h.lv _ hk h0).2;omega
 clear h hp hm DQ hk;generalize t.lf (s/16)=x at *
 generalize (p.at_+8*(s/16):Nat)=y at *
 go_enter func178,ntmps178;go_wp2_with (first|(go_at_call 181;refine kr.mono ?_;rintro e w' ⟨rfl,rfl⟩)|(go_at_call 180;refine kw.mono ?_;rintro e w' ⟨rfl,rfl⟩));go_ret;exact⟨rfl,rfl⟩
end
def TB.at' (t:TB) (z:Int):Option Ent:=if 0<=z/\z<256 then t.en z.toNat else none
def getV (o:Option Ent):Ending:=.returned (.tuple #[.int .u64 (Q0t o:Nat),.int .u64 (Q0V o:Nat)])
section
variable {w:World} {S:CO} {t:TB} {p:Pl} {g:Nat}
theorem Q3I (h:TT S t p g w) (z:Int):Calls prog 103 #[.pointer (some ⟨g,0,none⟩),.int .i64 z] w fun r w'=>r=getV (t.at' z)/\w=w':=by
 have km:=Q5L w z;by_cases hz:0<=z/\z<256
 ·obtain⟨s,rfl⟩:=J3q hz.1;have hs:s<256:=by omega
  rw [decide_eq_true hz] at km;have ho:t.at' (s:Int)=t.en s:=by unfold TB.at';rw [if_pos hz,J2R]
  rw [ho];have kl:=Q4K h s hs;by_cases h0:t.lf (s/16)=0
  ·rw [h.tin.hole s hs h0];rw [h0] at kl;unfold getV Q0t Q0V;clear h h0 ho hz;go_enter func103,ntmps103;go_wp2_with (first|(go_at_call 177;refine km.mono ?_;rintro e w' ⟨rfl,rfl⟩)|(go_at_call 178;refine kl.mono ?_;rintro e w' ⟨rfl,rfl⟩));go_ret2;exact⟨rfl,rfl⟩
  ·obtain⟨e1,e2⟩:=h.tin.ent s hs h0;obtain⟨l8,ll⟩:=h.lv (s/16) (by omega) h0;obtain⟨fr,hp⟩:=h.pool;have hm:=Q0o hp;have ks:=Q3n w (t.lf (s/16)) s (by omega) hs;have k0:=Q4J h (t.lf (s/16)+16*(s%16)) (by omega) (by omega);have k1:=Q4J h (t.lf (s/16)+16*(s%16)+8) (by omega) (by omega);rw [e1] at k0;rw [e2] at k1;have hx:t.lf (s/16)+16*(s%16)<=1073741824:=by omega
   have Aa:(((t.lf (s/16):Nat):Int)==0)=false:=by simpa using h0
   have hc:((t.lf (s/16)+16*(s%16)+8:Nat):Int)=((t.lf (s/16)+16*(s%16):Nat):Int)+8:=by omega
   rw [hc] at k1;unfold getV;generalize Q0t (t.en s)=ca at *
   generalize Q0V (t.en s)=cb at *
   generalize (t.lf (s/16)+16*(s%16):Nat)=x at *
   generalize t.lf (s/16)=L at *
   have Nc:(x:Int)<=1073741824:=by omega
   clear h h0 ho hz e1 e2 l8 ll hp hm hc hx;go_enter func103,ntmps103;go_wp2_with fail;refine km.mono ?_;rintro e w' ⟨rfl,rfl⟩;go_wp2_with fail;refine kl.mono ?_;rintro e w' ⟨rfl,rfl⟩;go_wp2_with fail;refine kl.mono ?_;rintro e w' ⟨rfl,rfl⟩;go_wp2_with fail;refine ks.mono ?_;rintro e w' ⟨rfl,rfl⟩;go_wp2_with fail;refine k0.mono ?_;rintro e w' ⟨rfl,rfl⟩;go_wp2_with fail;refine k1.mono ?_;rintro e w' ⟨rfl,rfl⟩;go_wp2_with fail
   first|exact⟨rfl,rfl⟩|(go_ret2;exact⟨rfl,rfl⟩)
 ·rw [decide_eq_false hz] at km;have ho:t.at' z=none:=by unfold TB.at';rw [if_neg hz]
  rw [ho];unfold getV Q0t Q0V;clear h ho hz;go_enter func103,ntmps103;go_wp2_with (go_at_call 177;refine km.mono ?_;rintro e w' ⟨rfl,rfl⟩);go_ret2;exact⟨rfl,rfl⟩
def TB.noneIn (t:TB) (k:Nat):Bool:=(List.range 16).all fun j=>(t.en (16*k+j)).isNone
theorem Z3b (h:TT S t p g w) (k:Nat) (hk:k<16) (h0:t.lf k≠0):Calls prog 234 #[.pointer (some ⟨g,0,none⟩),.int .i64 ((t.lf k:Nat):Int)] w fun r w'=>r=.returned (.bool (t.noneIn k))/\w=w':=by
 obtain⟨fr,hp⟩:=h.pool;have hm:=Q0o hp;obtain⟨l8,ll⟩:=h.lv k hk h0;have HC:Hid (∀j:Nat,j<16->(Calls prog 179 #[.int .i64 ((t.lf k:Nat):Int),.int .i64 j] w fun r w'=>r=.returned (.int .i64 ((t.lf k+16*j:Nat):Int))/\w=w')/\Calls prog 180 #[.pointer (some ⟨g,0,none⟩),.int .i64 ((t.lf k+16*j:Nat):Int)] w fun r w'=>r=.returned (.int .u64 (Q0t (t.en (16*k+j)):Nat))/\w=w'):=fun j hj=>by
  have hd:(16*k+j)/16=k:=by omega
  have PC:(16*k+j)%16=j:=by omega
  have e:=(h.tin.ent (16*k+j) (by omega) (by rw [hd];exact h0)).1;rw [hd,PC] at e;have k1:=Q3n w (t.lf k) j (by omega) (by omega);rw [J3h hj] at k1;have k2:=Q4J h (t.lf k+16*j) (by omega) (by omega);rw [e] at k2;exact⟨k1,k2⟩
 have HT:Hid (∀j:Nat,(∀i:Nat,i<j->t.en (16*k+i)=none)->j=16->t.noneIn k=true):=fun j hj e=>by
  subst e;unfold TB.noneIn;rw [J4R];intro i hi;rw [hj i (J2b.1 hi)];rfl
 have HF:Hid (∀j:Nat,j<16->t.en (16*k+j)≠none->t.noneIn k=false):=fun j hj Aa=>by
  unfold TB.noneIn;rw [List.all_eq_false];exact⟨j,J2b.2 hj,by cases hx:t.en (16*k+j) with|none=>exact absurd hx Aa|some e=>simp⟩
 clear h hp hm l8 ll h0;go_enter func234,ntmps234;go_wp2_with fail
 go_loopg [6] 16 (fun gk iv wr=>∃j:Nat,iv=.int .i64 j/\j+gk=16/\(∀i,i<j->t.en (16*k+i)=none)/\w=wr)
 case atStart=>exact⟨0,rfl,rfl,fun i hi=>by omega,rfl⟩
 case round =>
  obtain⟨j,rfl,Ew,AP,rfl⟩:=hrel;have L5:=Q0a AP;have Jk:=Q0a Ew;clear AP Ew;by_cases hj:j<16
  ·obtain⟨k1,k2⟩:=HC.out j hj;have N6:(j:Int)<16:=by omega
   cases he:t.en (16*k+j) with
   | none =>
    rw [he] at k2;have HE:=Q0a he;unfold Q0t at k2;generalize (t.lf k+16*j:Nat)=x at *
    generalize t.lf k=L at *
    clear he;go_wp2_with fail;refine k1.mono ?_;rintro e w' ⟨rfl,rfl⟩;go_wp2_with fail;refine k2.mono ?_;rintro e w' ⟨rfl,rfl⟩;go_wp2_with fail;go_roundg (16-(j+1))
    case measure=>have:=Jk.out;omega
    case rel=>exact⟨j+1,by go_num,by have:=Jk.out;omega,fun i hi=>by
     by_cases e:i=j
     ·subst e;exact HE.out
     ·exact L5.out i (by omega),rfl⟩
   | some e =>
    rw [he] at k2;have Aa:Q0t (some e)≠0:=fun hz=>by cases codeA_zero.1 hz
    have FX:(((Q0t (some e):Nat):Int) != 0)=true:=by simpa using Aa
    have MA:(((Q0t (some e):Nat):Int)==0)=false:=by simpa using Aa
    have HR:=Q0a (HF.out j hj (by rw [he];simp));generalize Q0t (some e)=ca at *
    generalize (t.lf k+16*j:Nat)=x at *
    generalize t.lf k=L at *
    clear he Aa;go_wp2_with fail;refine k1.mono ?_;rintro e w' ⟨rfl,rfl⟩;go_wp2_with fail;refine k2.mono ?_;rintro e w' ⟨rfl,rfl⟩;go_wp2_with fail
    first|exact⟨by first|(rw [HR.out];done)|(rw [HR.out];rfl),rfl⟩|(go_ret;exact⟨by first|(rw [HR.out];done)|(rw [HR.out];rfl),rfl⟩)
  ·have Me:j=16:=by have:=Jk.out;omega
   have HR:=Q0a (HT.out j L5.out Me);subst Me;go_wp2_with fail;go_ret;exact⟨by first|(rw [HR.out];done)|(rw [HR.out];rfl),rfl⟩
end
theorem Q8Z {w:World} {H:HL} (h:Sep w H):w.heap.size∉keys H:=fun hk=>by have:=h.lt hk;omega
section
variable {S:CO} {fr:List Nat} {N K:Nat} {tb:Nat->TB} {own:Int} {xl xn:List Nat}
theorem Q4e (ok:S.Ok fr N K) (t:TPX S tb own xl xn) {i s:Nat} {p:Pl} (hi:S.l[i]?=some p) (h1:p.st=1) (h2:p.kind=2) (Ag:(p.fac:Int)=own) (hs:s<256) (hl:(tb i).lf (s/16)≠0) {o:Option Ent} {xn':List Nat} (hn:(xn'++((tb i).setE s o).nds).Perm (xn++(tb i).nds))
  (hA:Q0t o<18446744073709551616) (hB:Q0V o<18446744073709551616) {w:World} (AA:Sep w S.hl) :
  Calls prog 158 #[.pointer (some ⟨S.P.a.a,0,none⟩),.int .i64 (((tb i).lf (s/16)+16*(s%16):Nat):Int),.slice (some ⟨w.heap.size,0,none⟩) 2 2] (w.alloc (.cells #[.int .u64 (Q0t o:Nat),.int .u64 (Q0V o:Nat)] 171)) fun r w' =>
   r=.returned (.int .i64 0)/\∃S':CO,S'.Ok fr N K/\TPX S' (updT tb i ((tb i).setE s o)) own xl xn'/\Alt S S' own/\Step S.hl S'.hl w w':=by
 have An:=Q1r ok.inv.len hi;have hL:=t.leaf An (by omega:s/16<16) hl;have hm:=Q0m ok.inv.mem.pool hL;rw [Q2R] at hm;have h8:=Q2q ok.inv.mem.pool hL;have hb:=Q0o ok.inv.mem.pool;have sa:=AA.alloc (.cells #[.int .u64 (Q0t o:Nat),.int .u64 (Q0V o:Nat)] 171);have cn:=Cells.new w 171 [.int .u64 (Q0t o:Nat),.int .u64 (Q0V o:Nat)];have k:=Z6d (PL.sA (CO.sP sa)) ((tb i).lf (s/16)+16*(s%16)) (Q0t o) (Q0V o) (by omega) (by omega) hb hA hB w.heap.size (cn.cell 0 _ rfl) (cn.cell 1 _ rfl) (by simp) (Q8Z (PL.sA (CO.sP AA)));refine k.mono ?_;rintro r w' ⟨rfl,st⟩;obtain⟨m,E9⟩:∃m,m=put_ S.P.a.mem ((tb i).lf (s/16)+16*(s%16)) (Q0d (Q0t o)++Q0d (Q0V o)):=⟨_,rfl⟩
 rw [<- E9] at st;have Ac:m.length=S.P.a.mem.length:=by rw [E9];exact Q2s _ _ _ (by rw [Q1o];omega)
 have Gw:∀b∈m,b<256:=by
  rw [E9];refine Q8Y ok.inv.mem.pool.bytes fun b Ak=>?_
  rcases J2A.1 Ak with Ak|Ak
  ·exact Q3m _ b Ak
  ·exact Q3m _ b Ak
 have hk:Q4d S.P.a.mem m ((tb i).lf (s/16)+16*(s%16)) 16:=by
  rw [E9];have:=Q6m (m:=S.P.a.mem) (bs:=Q0d (Q0t o)++Q0d (Q0V o)) (a:=(tb i).lf (s/16)+16*(s%16)) (by rw [Q1o];omega)
  rwa [Q1o] at this
 obtain⟨ha,Af⟩:=Z3a (m:=S.P.a.mem) (a:=(tb i).lf (s/16)+16*(s%16)) (x:=Q0t o) (y:=Q0V o) (by omega) hA hB;rw [<- E9] at ha Af;obtain⟨ok',t'⟩:=t.entry ok hi h1 h2 Ag hs hl Ac Gw hk ha Af hn;have st':Step S.hl (S.setP (S.P.setA m)).hl (w.alloc (.cells #[.int .u64 (Q0t o:Nat),.int .u64 (Q0V o:Nat)] 171)) w':=CO.stepMem sa m st;exact⟨rfl,_,ok',t',Alt.mem ok own (.inr rfl) hL (by omega) (by rw [Q2R];omega) Ac hk,st'.from_alloc⟩
theorem Q7k (ok:S.Ok fr N K) (t:TPX S tb own xl xn) {i k:Nat} {p:Pl} (hi:S.l[i]?=some p) (h1:p.st=1) (h2:p.kind=2) (Ag:(p.fac:Int)=own) (CE:k<16) {L:Nat} {xl':List Nat} (hL64:L<18446744073709551616) (hn:(xl'++((tb i).setL k L).lvs).Perm (xl++(tb i).lvs))
  (Aw:((tb i).lf k=0/\L≠0/\L∈S.P.usedOf 7/\∀j,L<=j->j<L+256->S.P.a.mem[j]?=some 0)∨(L=0/\∀s,s<256->s/16=k->(tb i).en s=none)) {w:World} (AA:Sep w S.hl) :
  Calls prog 158 #[.pointer (some ⟨S.P.a.a,0,none⟩),.int .i64 ((p.at_+8*k:Nat):Int),.slice (some ⟨w.heap.size,0,none⟩) 1 1] (w.alloc (.cells #[.int .u64 (L:Nat)] 171)) fun r w' =>
   r=.returned (.int .i64 0)/\∃S':CO,S'.Ok fr N K/\TPX S' (updT tb i ((tb i).setL k L)) own xl' xn/\Alt S S' own/\Step S.hl S'.hl w w':=by
 have An:=Q1r ok.inv.len hi;have hT:=Q1I ok hi h1 h2;have Lb:Q0c 2=128:=rfl;have hm:=Q0m ok.inv.mem.pool hT;rw [Lb] at hm;have h8:=Q2q ok.inv.mem.pool hT;have hb:=Q0o ok.inv.mem.pool;have sa:=AA.alloc (.cells #[.int .u64 (L:Nat)] 171);have cn:=Cells.new w 171 [.int .u64 (L:Nat)];have kk:=Z1q (PL.sA (CO.sP sa)) (p.at_+8*k) L (by omega) (by omega) hb hL64 w.heap.size (cn.cell 0 _ rfl) (by simp) (Q8Z (PL.sA (CO.sP AA)));refine kk.mono ?_;rintro r w' ⟨rfl,st⟩;obtain⟨m,E9⟩:∃m,m=put_ S.P.a.mem (p.at_+8*k) (Q0d L):=⟨_,rfl⟩
 rw [<- E9] at st;have Ac:m.length=S.P.a.mem.length:=by rw [E9];exact Q2s _ _ _ (by rw [bytes8_len];omega)
 have Gw:∀b∈m,b<256:=by
  rw [E9];exact Q8Y ok.inv.mem.pool.bytes (Q3m _)
 have hk:Q4d S.P.a.mem m (p.at_+8*k) 8:=by
  rw [E9];exact Q6m (m:=S.P.a.mem) (bs:=Q0d L) (a:=p.at_+8*k) (by rw [bytes8_len];omega)
 have B6:Q0u m (p.at_+8*k)=L:=by rw [E9];exact Z2Z (by omega) hL64
 have hr:∀x,x<16->x≠k->Kept S.P.a.mem m (p.at_+8*x) 8:=fun x hx Aa=>hk _ _ (by omega)
 have Bl:∀a,a∈S.P.usedOf 7->Kept S.P.a.mem m a 256:=fun a ha=>Q4I ok hT (b:=p.at_+8*k) (n:=8) (by omega) (by omega) hk ha (by omega)
 have Cj:((tb i).setL k L).In m p.at_:=by
  rcases Aw with ⟨c1,c2,c3,c4⟩|⟨c1,c2⟩
  ·refine (t.tin i p hi h1 h2).grow CE c1 c2 B6 (fun j j1 j2=>?_) hr (fun x hx h0=>Bl _ (t.leaf An hx h0));rw [Bl L c3 j j1 j2];exact c4 j j1 j2
  ·subst c1;exact (t.tin i p hi h1 h2).drop CE c2 B6 hr (fun x hx Aa h0=>Bl _ (t.leaf An hx h0))
 obtain⟨ok',t'⟩:=t.rootw ok hi h1 h2 Ag CE Ac Gw hk Cj hn;have st':Step S.hl (S.setP (S.P.setA m)).hl (w.alloc (.cells #[.int .u64 (L:Nat)] 171)) w':=CO.stepMem sa m st;exact⟨rfl,_,ok',t',Alt.mem ok own (.inl rfl) hT (by omega) (by omega) Ac hk,st'.from_alloc⟩
end
theorem TblC.alt {S S':CO} {p:Pl} {g:Nat} {w w':World} {own:Int} (h:TblC S p g w) (al:Alt S S' own) (st:Step S.hl S'.hl w w'):TblC S' p g w':=by
 unfold TblC;rw [al.same.p];exact AsideV.step h st
theorem Q1c (tb:Nat->TB) (i:Nat) (a b:TB):updT (updT tb i a) i b=updT tb i b:=by
 funext j;unfold updT;split <;> rfl
theorem Z8q {m:List Nat} {a n j:Nat} (h:a+n<=m.length) (h1:a<=j) (h2:j<a+n):(put_ m a (List.replicate n 0))[j]?=some 0:=by
 unfold put_;rw [J2M,J5a (by rw [J4f];omega),J4f,J5k (by omega),J4Z (by rw [J1V];omega),J3N,if_pos (by omega)]
def Put1 (S:CO) (fr:List Nat) (N K:Nat) (tb:Nat->TB) (own:Int) (xl xn:List Nat) (i s:Nat) (o:Option Ent) (w w':World):Prop:=
 ∃(S':CO) (t':TB),S'.Ok fr N K/\TPX S' (updT tb i t') own xl xn/\(∀x,t'.en x=if x=s then o else (tb i).en x)/\((tb i).Full->t'.Full)/\(∀k,(tb i).lf k=0∨t'.lf k=0∨t'.lf k=(tb i).lf k)/\Alt S S' own/\Step S.hl S'.hl w w'
def SetR (S:CO) (fr:List Nat) (N K:Nat) (tb:Nat->TB) (own:Int) (xl xn:List Nat) (i s:Nat) (o:Option Ent) (w:World) (r:Ending) (w':World):Prop:=
 (r=.returned (.int .i64 0)/\Put1 S fr N K tb own xl xn i s o w w') ∨
 ((tb i).lf (s/16)=0/\Step S.hl S.hl w w'/\((NoRoom S.P 7/\r=.returned (.int .i64 4))∨((∃e,find S.P.q.E own=some e/\e.q.limit-(e.q.charged+e.q.given)<256)/\r=.returned (.int .i64 5))))
theorem Z1L {t:TB} {s:Nat} {e:Ent} {t':TB} (hs:s<256) (hl:∀k,k<16->t'.lf k≠0->t.lf k≠0∨k=s/16) (he:∀x,t'.en x=if x=s then some e else t.en x) (h:t.Full):t'.Full:=by
 intro k hk h0;by_cases D0:k=s/16
 ·exact⟨s,hs,D0.symm,by rw [he,if_pos rfl];simp⟩
 ·obtain⟨x,hx,e1,e2⟩:=h k hk ((hl k hk h0).resolve_right D0);refine⟨x,hx,e1,?_⟩;rw [he];split
  ·simp
  ·exact e2
section
variable {S:CO} {fr:List Nat} {N K:Nat} {tb:Nat->TB} {own:Int} {xl xn xn':List Nat}
theorem Q6o (ok:S.Ok fr N K) (t:TPX S tb own xl xn) {i s:Nat} {p:Pl} (hi:S.l[i]?=some p) (h1:p.st=1) (h2:p.kind=2) (Ag:(p.fac:Int)=own) (hs:s<256) (hl:(tb i).lf (s/16)≠0) {e:Ent} (hn:(xn'++((tb i).setE s (some e)).nds).Perm (xn++(tb i).nds))
  (hA:Q0t (some e)<18446744073709551616) (hB:Q0V (some e)<18446744073709551616) {w:World} (AA:Sep w S.hl) :
  Calls prog 158 #[.pointer (some ⟨S.P.a.a,0,none⟩),.int .i64 (((tb i).lf (s/16)+16*(s%16):Nat):Int),.slice (some ⟨w.heap.size,0,none⟩) 2 2] (w.alloc (.cells #[.int .u64 (Q0t (some e):Nat),.int .u64 (Q0V (some e):Nat)] 171)) fun r w' =>
   r=.returned (.int .i64 0)/\Put1 S fr N K tb own xl xn' i s (some e) w w':=by
 refine (Q4e ok t hi h1 h2 Ag hs hl hn hA hB AA).mono ?_;rintro r w' ⟨rfl,S',ok',t',al,st⟩;exact⟨rfl,S',_,ok',t',fun _=>rfl,Z1L hs (fun k _ h=>.inl h) fun _=>rfl,fun _=>.inr (.inr rfl),al,st⟩
theorem Z8r (ok:S.Ok fr N K) (t:TPX S tb own xl xn) {i s:Nat} {p:Pl} (hi:S.l[i]?=some p) (h1:p.st=1) (h2:p.kind=2) (Ag:(p.fac:Int)=own) (hs:s<256) (hl:(tb i).lf (s/16)≠0) {e:Ent} (hn:(xn'++((tb i).setE s (some e)).nds).Perm (xn++(tb i).nds))
  (hA:Q0t (some e)<18446744073709551616) (hB:Q0V (some e)<18446744073709551616) {w:World} {g:Nat} (AA:Sep w S.hl) (hg:TblC S p g w) :
  Calls prog 104 #[.pointer (some ⟨g,0,none⟩),.int .i64 s,.int .u64 (Q0t (some e):Nat),.int .u64 (Q0V (some e):Nat)] w (SetR S fr N K tb own xl xn' i s (some e) w):=by
 have An:=Q1r ok.inv.len hi;have T:=t.tt ok hi h1 h2 AA hg;have hL:=t.leaf An (by omega:s/16<16) hl;have hm:=Q0m ok.inv.mem.pool hL;have hb:=Q0o ok.inv.mem.pool;have c0:=hg.c0;have km:=Q5L w (s:Int);rw [decide_eq_true (show 0<=(s:Int)/\(s:Int)<256 from ⟨by omega,by omega⟩)] at km;have kl:=Q4K T s hs;have ka:=Q1f (CO.sP AA);have ks:=Q3n w ((tb i).lf (s/16)) s (by omega) hs;have HX:Hid (Calls prog 158 #[.pointer (some ⟨S.P.a.a,0,none⟩),.int .i64 (((tb i).lf (s/16)+16*(s%16):Nat):Int),.slice (some ⟨w.heap.size,0,none⟩) 2 2] (w.alloc (.cells #[.int .u64 (Q0t (some e):Nat),.int .u64 (Q0V (some e):Nat)] 171)) fun r w' =>
   r=.returned (.int .i64 0)/\SetR S fr N K tb own xl xn' i s (some e) w (.returned (.int .i64 0)) w'):=by
  refine (Q6o ok t hi h1 h2 Ag hs hl hn hA hB AA).mono ?_;rintro r w' ⟨rfl,h⟩;exact⟨rfl,.inl ⟨rfl,h⟩⟩
 have Ci:Q0t (some e)≠0:=fun h=>by simpa using codeA_zero.1 h
 have Aa:(((Q0t (some e):Nat):Int)==0)=false:=by simpa using Ci
 have Bt:((((tb i).lf (s/16):Nat):Int)==0)=false:=by simpa using hl
 generalize SetR S fr N K tb own xl xn' i s (some e) w=Q at *
 unfold ptr at *
 generalize Q0t (some e)=x at *
 generalize Q0V (some e)=y at *
 generalize ((tb i).lf (s/16)+16*(s%16):Nat)=u at *
 generalize (tb i).lf (s/16)=L at *
 clear ok t hi T hL hm hn AA hg Ag h1 h2 hl Ci;go_enter func104,ntmps104;go_wp2_with fail;refine km.mono ?_;rintro e w' ⟨rfl,rfl⟩;go_wp2_with fail;refine kl.mono ?_;rintro e w' ⟨rfl,rfl⟩;go_wp2_with fail;refine ka.mono ?_;rintro e w' ⟨rfl,rfl⟩;go_wp2_with fail;refine ks.mono ?_;rintro e w' ⟨rfl,rfl⟩;go_wp2_with fail;refine HX.out.mono ?_;rintro e w' ⟨rfl,hy⟩;have HY:=Q0a hy;clear hy HX;go_wp2_with fail
 first|exact HY.out|(go_ret2;exact HY.out)
theorem Z8s (ok:S.Ok fr N K) (t:TPX S tb own xl xn) {i s:Nat} {p:Pl} (hi:S.l[i]?=some p) (h1:p.st=1) (h2:p.kind=2) (Ag:(p.fac:Int)=own) (hs:s<256) (hl:(tb i).lf (s/16)=0) {ac:En Fa} (F8:find S.P.q.E own=some ac) {e:Ent} (hn:(xn'++((tb i).setE s (some e)).nds).Perm (xn++(tb i).nds))
  (hA:Q0t (some e)<18446744073709551616) (hB:Q0V (some e)<18446744073709551616) {w:World} {g:Nat} (AA:Sep w S.hl) (hg:TblC S p g w) :
  Calls prog 104 #[.pointer (some ⟨g,0,none⟩),.int .i64 s,.int .u64 (Q0t (some e):Nat),.int .u64 (Q0V (some e):Nat)] w (SetR S fr N K tb own xl xn' i s (some e) w):=by
 have An:=Q1r ok.inv.len hi;have T:=t.tt ok hi h1 h2 AA hg;have km:=Q5L w (s:Int);rw [decide_eq_true (show 0<=(s:Int)/\(s:Int)<256 from ⟨by omega,by omega⟩)] at km;have kl:=Q4K T s hs;rw [hl] at kl;have c0:=hg.c0;have c1:=hg.c1;have d0:w.drew.cell? ⟨g,0,none⟩=some (.pointer (some ⟨S.P.p,0,none⟩)):=c0;have d1:w.drew.cell? ⟨g,1,none⟩=some (.int .i64 (p.fac:Int)):=c1;have QC:Q1h 7=256:=costs_67.2;have HG:Hid (Calls prog 65 #[.pointer (some ⟨S.P.p,0,none⟩),.int .i64 (p.fac:Int),.int .i64 7] w.drew fun r w1 =>
   (w1.cell? ⟨g,0,none⟩=some (.pointer (some ⟨S.P.p,0,none⟩))/\w1.cell? ⟨g,1,none⟩=some (.int .i64 (p.fac:Int))) /\
   ∃a er:Int,r=.returned (.tuple #[.int .i64 a,.int .i64 er])/\(((er=4∨er=5)/\SetR S fr N K tb own xl xn' i s (some e) w (.returned (.int .i64 er)) w1) ∨
    (∃L:Nat,a=(L:Int)/\er=0/\(0<L/\L<=1073741824) /\
    Calls prog 155 #[.pointer (some ⟨S.P.p,0,none⟩)] w1 (fun r w'=>r=.returned (.pointer (some ⟨S.P.a.a,0,none⟩))/\w1=w') /\
    Calls prog 181 #[.pointer (some ⟨g,0,none⟩),.int .i64 s] w1 (fun r w'=>r=.returned (.int .i64 ((p.at_+8*(s/16):Nat):Int))/\w1=w') /\
    Calls prog 158 #[.pointer (some ⟨S.P.a.a,0,none⟩),.int .i64 ((p.at_+8*(s/16):Nat):Int),.slice (some ⟨w1.heap.size,0,none⟩) 1 1] (w1.alloc (.cells #[.int .u64 (L:Nat)] 171)) (fun r w2=>r=.returned (.int .i64 0)/\w2.cell? ⟨g,0,none⟩=some (.pointer (some ⟨S.P.p,0,none⟩)) /\
     Calls prog 155 #[.pointer (some ⟨S.P.p,0,none⟩)] w2 (fun r w'=>r=.returned (.pointer (some ⟨S.P.a.a,0,none⟩))/\w2=w') /\
     Calls prog 179 #[.int .i64 L,.int .i64 s] w2 (fun r w'=>r=.returned (.int .i64 ((L+16*(s%16):Nat):Int))/\w2=w') /\
     Calls prog 158 #[.pointer (some ⟨S.P.a.a,0,none⟩),.int .i64 ((L+16*(s%16):Nat):Int),.slice (some ⟨w2.heap.size,0,none⟩) 2 2] (w2.alloc (.cells #[.int .u64 (Q0t (some e):Nat),.int .u64 (Q0V (some e):Nat)] 171)) (fun r w3=>r=.returned (.int .i64 0)/\SetR S fr N K tb own xl xn' i s (some e) w (.returned (.int .i64 0)) w3))))):=by
  rw [Ag];refine (Q5E (CO.sP AA.drew) ok.inv.mem.pool own 7).mono ?_;rintro r w1 Lv;have cellsOf:∀{H':HL},Step S.hl H' w w1->w1.cell? ⟨g,0,none⟩=some (.pointer (some ⟨S.P.p,0,none⟩))/\w1.cell? ⟨g,1,none⟩=some (.int .i64 own):=fun {H'} st=>by
   have hx:=AsideV.step hg st;obtain⟨g0,e0,_,_,z0⟩:=hx 0 _ rfl;obtain⟨g1,e1,_,_,z1⟩:=hx 1 _ rfl;cases e0;cases e1;rw [<- Ag];exact⟨z0,z1⟩
  rcases Lv with ⟨h0,_⟩|⟨_,h0,_⟩|⟨_,A7,rfl,st⟩|⟨n,ac',Vs,Un,SN,SX,Ix,hr⟩
  ·rw [QC] at h0;omega
  ·rw [F8] at h0;cases h0
  ·have st':Step S.hl S.hl w w1:=(CO.stepP AA.drew S.P rfl st).from_drew;refine⟨cellsOf st',0,5,rfl,.inl ⟨.inr rfl,.inr ⟨hl,st',.inr ⟨?_,rfl⟩⟩⟩⟩;obtain⟨x,q1,q2⟩:=A7;rw [QC] at q2;exact⟨x,q1,q2⟩
  ·obtain rfl:n=7:=by omega
   rcases hr with ⟨L,P',rfl,g7,st⟩|⟨Aq,rfl,st⟩
   ·have AS:∃p∈S.l,p.st=1/\(p.fac:Int)=own:=⟨p,J4a hi,h1,Ag⟩
    obtain⟨ok1,t1⟩:=TPX.got ok t (.inr rfl) g7 AS;have al1:=Alt.got ok g7;rw [if_pos rfl,if_neg (by decide)] at t1;have By:P'.p=S.P.p:=g7.p;have st1:Step S.hl (S.paid P' own ((Q0c 7:Nat):Int)).hl w w1:=(CO.stepPaid AA.drew P' own _ By st).from_drew;have R3:L∈P'.usedOf 7:=by
     obtain⟨A,B,_,e2⟩:=g7.used;rw [e2];simp
    have QE:=Q0m ok1.inv.mem.pool R3;have GM:=Q0o ok1.inv.mem.pool;rw [Q2R] at QE;have Ty:L+256<=P'.a.mem.length:=QE.1;have P4:P'.a.mem.length<=1073741824:=GM;have C5:=hg.alt al1 st1;have T1:=t1.tt ok1 (show (S.paid P' own ((Q0c 7:Nat):Int)).l[i]?=some p from hi) h1 h2 st1.sep C5;have RC:=Q1f (CO.sP st1.sep);have QM:(S.paid P' own ((Q0c 7:Nat):Int)).P.a.a=S.P.a.a:=al1.same.aa;rw [QM,show (S.paid P' own ((Q0c 7:Nat):Int)).P.p=S.P.p from By] at RC;have hz:∀j,L<=j->j<L+256->P'.a.mem[j]?=some 0:=fun j j1 j2=>by
     have Cp:=(g7.gotM ok.inv.mem.pool).room.1;rw [g7.mem];exact Z8q Cp j1 j2
    refine⟨cellsOf st1,(L:Int),0,rfl,.inr ⟨L,rfl,rfl,⟨by omega,by omega⟩,RC,Q6n T1 s hs,?_⟩⟩;have C1:(xl++((tb i).setL (s/16) L).lvs).Perm ((L::xl)++(tb i).lvs):=by
     refine (J4B xl (TB.lvs_new (by omega) hl (by omega:L≠0))).trans ?_;exact J5q
    have kr:=Q7k ok1 t1 (show (S.paid P' own ((Q0c 7:Nat):Int)).l[i]?=some p from hi) h1 h2 Ag (by omega:s/16<16) (by omega:L<18446744073709551616) C1 (.inl ⟨hl,by omega,R3,hz⟩) st1.sep;rw [QM] at kr;refine kr.mono ?_;rintro r w2 ⟨rfl,S2,ok2,t2,al2,st2⟩;have al12:=al1.trans al2;have st12:=st1.trans st2;have B9:=hg.alt al12 st12;have c2:=B9.c0;rw [al12.same.p] at c2;have GO:=Q1f (CO.sP st2.sep);rw [al12.same.aa,al12.same.p] at GO;have Ff:S2.l[i]?=some p:=by rw [al12.l];exact hi
    have LH:(updT tb i ((tb i).setL (s/16) L) i).lf (s/16)=L:=by
     rw [updT_same];show (if s/16=s/16 then L else _)=L;rw [if_pos rfl]
    have FC:(xn'++((updT tb i ((tb i).setL (s/16) L) i).setE s (some e)).nds).Perm (xn++(updT tb i ((tb i).setL (s/16) L) i).nds):=by
     rw [updT_same];exact hn
    have R4:=Q4e ok2 t2 Ff h1 h2 Ag hs (by rw [LH];omega) FC hA hB st2.sep;rw [LH,al12.same.aa] at R4;refine⟨rfl,c2,GO,Q3n w2 L s (by omega) hs,R4.mono ?_⟩;rintro r w3 ⟨rfl,S3,ok3,t3,al3,st3⟩;rw [updT_same,Q1c] at t3;refine⟨rfl,.inl ⟨rfl,S3,_,ok3,t3,fun _=>rfl,Z1L hs (fun k hk h0=>?_) fun _=>rfl,fun k=>?_,al12.trans al3,st12.trans st3⟩⟩
    ·by_cases D0:k=s/16
     ·exact .inr D0
     ·refine .inl ?_;have Dd:(if k=s/16 then L else (tb i).lf k)≠0:=h0
      rwa [if_neg D0] at Dd
    ·by_cases D0:k=s/16
     ·exact .inl (by rw [D0];exact hl)
     ·refine .inr (.inr ?_);show (if k=s/16 then L else (tb i).lf k)=_;rw [if_neg D0]
   ·have st':Step S.hl S.hl w w1:=(CO.stepP AA.drew S.P rfl st).from_drew;exact⟨cellsOf st',0,4,rfl,.inl ⟨.inl rfl,.inr ⟨hl,st',.inl ⟨Aq,rfl⟩⟩⟩⟩
 have Ci:Q0t (some e)≠0:=fun h=>by simpa using codeA_zero.1 h
 have Aa:(((Q0t (some e):Nat):Int)==0)=false:=by simpa using Ci
 generalize SetR S fr N K tb own xl xn' i s (some e) w=Q at *
 unfold ptr at *
 generalize Q0t (some e)=x at *
 generalize Q0V (some e)=y at *
 generalize (p.at_+8*(s/16):Nat)=u at *
 generalize (p.fac:Int)=fa at *
 clear ok t hi T hn AA hg Ag h1 h2 hl Ci F8;go_enter func104,ntmps104;go_wp2_with fail;refine km.mono ?_;rintro e w' ⟨rfl,rfl⟩;go_wp2_with fail;refine kl.mono ?_;rintro e w' ⟨rfl,rfl⟩;go_wp2_with fail
 go_region_held3 (fun w'=>w'.cell? ⟨g,0,none⟩=some (.pointer (some ⟨S.P.p,0,none⟩))/\w'.cell? ⟨g,1,none⟩=some (.int .i64 fa)) (first|exact⟨c0,c1⟩|exact⟨d0,d1⟩|exact Al)
  (first|(go_at_call 65;refine HG.out.mono ?_;rintro r w1 ⟨Al,a,er,rfl,hy⟩;have HW:=Q0a hy;clear hy HG))
 rcases HW.out with ⟨Cs,hy⟩|⟨L,rfl,rfl,hL,hy⟩
 ·have HY:=Q0a hy;clear hy HW;rcases Cs with rfl|rfl
  all_goals
   go_wp2_with fail
   first|exact HY.out|(go_ret2;exact HY.out)
 ·obtain⟨ka,Ra,ks⟩:=hy;have HS:=Q0a ks;have ML:=Al.1;have Vp:=hL.2;clear ks HW;go_wp2_with fail;refine ka.mono ?_;rintro e w' ⟨rfl,rfl⟩;go_wp2_with fail;refine Ra.mono ?_;rintro e w' ⟨rfl,rfl⟩;go_wp2_with fail;refine HS.out.mono ?_;rintro e w2 ⟨rfl,c2,GO,T4,hz⟩;have HZ:=Q0a hz;clear hz HS ka Ra;go_wp2_with fail;refine GO.mono ?_;rintro e w' ⟨rfl,rfl⟩;go_wp2_with fail;refine T4.mono ?_;rintro e w' ⟨rfl,rfl⟩;go_wp2_with fail;refine HZ.out.mono ?_;rintro e w3 ⟨rfl,hq⟩;have HQ:=Q0a hq;clear hq HZ;go_wp2_with fail
  first|exact HQ.out|(go_ret2;exact HQ.out)
end
theorem Z0z {t:TB} {k:Nat} (h:t.noneIn k=true):∀s,s<256->s/16=k->t.en s=none:=by
 intro s hs hk;unfold TB.noneIn at h;rw [J4R] at h;have:=h (s%16) (J2b.2 (J4S _ (by omega)));rw [show 16*k+s%16=s by omega] at this;exact Option.isNone_iff_eq_none.1 this
theorem Q9a {t:TB} {k:Nat} (hk:k<16) (h:t.noneIn k=false):∃s,s<256/\s/16=k/\t.en s≠none:=by
 unfold TB.noneIn at h;rw [List.all_eq_false] at h;obtain⟨j,hj,hn⟩:=h;have:=J2b.1 hj;refine⟨16*k+j,by omega,by omega,fun e=>hn ?_⟩;rw [e];rfl
section
variable {S:CO} {fr:List Nat} {N K:Nat} {tb:Nat->TB} {own:Int} {xl xn:List Nat}
theorem Q9b (ok:S.Ok fr N K) {i:Nat} {p:Pl} (hi:S.l[i]?=some p) (h1:p.st=1):∃e,find S.P.q.E (p.fac:Int)=some e:=ok.inv.tre.fac p (J4a hi) (Pl.is_iff.2 (.inl h1))
theorem TPX.paid (ok:S.Ok fr N K) (t:TPX S tb own xl xn) {e:En Fa} (he:find S.P.q.E own=some e):256*(xl.length:Int)+48*(xn.length:Int)<=e.q.charged:=by
 have h1:=ok.inv.tre.charged own e he;have h2:=t.xc own;rw [if_pos rfl] at h2;have h3:=Z0s S.l tb own;have h4:=Q4Z S.l own;omega
theorem Z3c (ok:S.Ok fr N K) (t:TPX S tb own xl xn) {i s:Nat} {p:Pl} (hi:S.l[i]?=some p) (h1:p.st=1) (h2:p.kind=2) (Ag:(p.fac:Int)=own) (hs:s<256) {e:Ent} (he:(tb i).en s=some e) {w:World} {g:Nat} (AA:Sep w S.hl) (hg:TblC S p g w) :
  Calls prog 165 #[.pointer (some ⟨g,0,none⟩),.int .i64 s] w fun r w'=>r=.returned (.int .i64 0)/\Put1 S fr N K tb own xl (e.nd::xn) i s none w w':=by
 have An:=Q1r ok.inv.len hi;have T:=t.tt ok hi h1 h2 AA hg;have hl:(tb i).lf (s/16)≠0:=fun h=>by
  have:=T.tin.hole s hs h;rw [he] at this;cases this
 have hL:=t.leaf An (by omega:s/16<16) hl;have hm:=Q0m ok.inv.mem.pool hL;have hb:=Q0o ok.inv.mem.pool;have c0:=hg.c0;have kg:=Q3I T (s:Int);rw [show (tb i).at' (s:Int)=some e by unfold TB.at';rw [if_pos ⟨by omega,by omega⟩,J2R,he]] at kg;have km:=Q5L w (s:Int);rw [decide_eq_true (show 0<=(s:Int)/\(s:Int)<256 from ⟨by omega,by omega⟩)] at km;have kl:=Q4K T s hs;have ka:=Q1f (CO.sP AA);have ks:=Q3n w ((tb i).lf (s/16)) s (by omega) hs;have C1:((e.nd::xn)++((tb i).setE s none).nds).Perm (xn++(tb i).nds):=by
  refine List.Perm.trans ?_ (J4B xn (TB.nds_clr hs he).symm);exact J5q.symm
 have AS:∃p∈S.l,p.st=1/\(p.fac:Int)=own:=⟨p,J4a hi,h1,Ag⟩
 have HX:Hid (Calls prog 158 #[.pointer (some ⟨S.P.a.a,0,none⟩),.int .i64 (((tb i).lf (s/16)+16*(s%16):Nat):Int),.slice (some ⟨w.heap.size,0,none⟩) 2 2] (w.alloc (.cells #[.int .u64 0,.int .u64 0] 171)) fun r w2 =>
   r=.returned (.int .i64 0)/\w2.cell? ⟨g,0,none⟩=some (.pointer (some ⟨S.P.p,0,none⟩))/\∃b:Bool,Calls prog 234 #[.pointer (some ⟨g,0,none⟩),.int .i64 (((tb i).lf (s/16):Nat):Int)] w2 (fun r w'=>r=.returned (.bool b)/\w2=w') /\
    ((b=false/\Put1 S fr N K tb own xl (e.nd::xn) i s none w w2) ∨
     (b=true/\Calls prog 155 #[.pointer (some ⟨S.P.p,0,none⟩)] w2 (fun r w'=>r=.returned (.pointer (some ⟨S.P.a.a,0,none⟩))/\w2=w') /\
     Calls prog 181 #[.pointer (some ⟨g,0,none⟩),.int .i64 s] w2 (fun r w'=>r=.returned (.int .i64 ((p.at_+8*(s/16):Nat):Int))/\w2=w') /\
     Calls prog 158 #[.pointer (some ⟨S.P.a.a,0,none⟩),.int .i64 ((p.at_+8*(s/16):Nat):Int),.slice (some ⟨w2.heap.size,0,none⟩) 1 1] (w2.alloc (.cells #[.int .u64 0] 171)) (fun r w3=>r=.returned (.int .i64 0)/\(w3.cell? ⟨g,0,none⟩=some (.pointer (some ⟨S.P.p,0,none⟩))/\w3.cell? ⟨g,1,none⟩=some (.int .i64 (p.fac:Int))) /\
      Calls prog 159 #[.pointer (some ⟨S.P.p,0,none⟩),.int .i64 (p.fac:Int),.int .i64 7,.int .i64 (((tb i).lf (s/16):Nat):Int)] w3.drew (fun r w4=>r=.returned (.int .i64 0)/\(w4.cell? ⟨g,0,none⟩=some (.pointer (some ⟨S.P.p,0,none⟩))/\w4.cell? ⟨g,1,none⟩=some (.int .i64 (p.fac:Int)))/\Put1 S fr N K tb own xl (e.nd::xn) i s none w w4))))):=by
  refine (Q4e (o:=none) ok t hi h1 h2 Ag hs hl C1 (by decide) (by decide) AA).mono ?_;rintro r w2 ⟨rfl,S2,ok2,t2,al2,st2⟩;have B9:=hg.alt al2 st2;have c2:=B9.c0;rw [al2.same.p] at c2;have Ff:S2.l[i]?=some p:=by rw [al2.l];exact hi
  have T2:=t2.tt ok2 Ff h1 h2 st2.sep B9;rw [updT_same] at T2;have ke:=Z3b T2 (s/16) (by omega) hl;refine⟨rfl,c2,((tb i).setE s none).noneIn (s/16),ke,?_⟩;cases Aq:((tb i).setE s none).noneIn (s/16) with
  | false =>
   refine .inl ⟨rfl,S2,_,ok2,t2,fun _=>rfl,fun hf k hk h0=>?_,fun _=>.inr (.inr rfl),al2,st2⟩;by_cases D0:k=s/16
   ·rw [D0];exact Q9a (by omega) Aq
   ·obtain⟨x,hx,e1,e2⟩:=hf k hk h0;refine⟨x,hx,e1,?_⟩;show (if x=s then none else (tb i).en x)≠none;rw [if_neg (fun h=>D0 (by rw [<- e1,h]))];exact e2
  | true =>
   have GO:=Q1f (CO.sP st2.sep);rw [al2.same.aa,al2.same.p] at GO;refine .inr ⟨rfl,GO,Q6n T2 s hs,?_⟩;have JE:(((tb i).lf (s/16)::xl)++((updT tb i ((tb i).setE s none) i).setL (s/16) 0).lvs).Perm (xl++(updT tb i ((tb i).setE s none) i).lvs):=by
    rw [updT_same];refine List.Perm.trans ?_ (J4B xl (TB.lvs_drop (t:=(tb i).setE s none) (k:=s/16) (by omega) hl).symm);exact J5q.symm
   have kr:=Q7k (L:=0) ok2 t2 Ff h1 h2 Ag (by omega:s/16<16) (by omega) JE (.inr ⟨rfl,fun x hx Hn=>by rw [updT_same];exact Z0z Aq x hx Hn⟩) st2.sep;rw [al2.same.aa] at kr;refine kr.mono ?_;rintro r w3 ⟨rfl,S3,ok3,t3,al3,st3⟩;rw [updT_same,Q1c] at t3;have al23:=al2.trans al3;have st23:=st2.trans st3;have Kg:=hg.alt al23 st23;have c3:=Kg.c0;rw [al23.same.p] at c3;refine⟨rfl,⟨c3,Kg.c1⟩,?_⟩;have So:S3.l[i]?=some p:=by rw [al23.l];exact hi
   obtain⟨ac,F8⟩:=Q9b ok3 So h1;rw [Ag] at F8 ⊢;have LU:=t3.paid ok3 F8;rw [J2w,J2w] at LU;obtain⟨c,hc⟩:=PL.cls ok3.inv.mem.pool (by omega:1<=7) (by omega);have Qi:(tb i).lf (s/16)∈S3.P.usedOf 7:=t3.lvs.mem_iff.1 (by simp);have QO:=Q0m ok3.inv.mem.pool Qi;have Ar:=Q0o ok3.inv.mem.pool;have kp:=Q4t (CO.sP st3.sep.drew) ok3.inv.mem.pool own F8 7 (by rw [Q2R];omega) c hc ((tb i).lf (s/16)) (by rw [<- Q0T hc];exact Qi) (by omega);rw [al23.same.p] at kp;refine kp.mono ?_;rintro r w4 ⟨rfl,P',g7,st⟩;have Lq:∃p∈S3.l,p.st=1/\(p.fac:Int)=own:=by rw [al23.l];exact AS
   obtain⟨ok4,t4⟩:=TPX.put (xl:=xl) (xn:=e.nd::xn) ok3 (.inr rfl) (by rw [if_pos rfl,if_neg (by decide)];exact t3) g7 Lq;have al4:=Alt.put ok3 g7;have st4:Step S3.hl (S3.paid P' own (-((Q0c 7:Nat):Int))).hl w3 w4:=(CO.stepPaid st3.sep.drew P' own _ g7.p st).from_drew;have alz:=al23.trans al4;have stz:=st23.trans st4;have GV:=hg.alt alz stz;have c4:=GV.c0;rw [alz.same.p] at c4;have PM:=GV.c1;rw [Ag] at PM;refine⟨rfl,⟨c4,PM⟩,_,_,ok4,t4,fun _=>rfl,fun hf k hk h0=>?_,fun k=>?_,alz,stz⟩
   rotate_left
   ·by_cases D0:k=s/16
    ·refine .inr (.inl ?_);show (if k=s/16 then 0 else (tb i).lf k)=0;rw [if_pos D0]
    ·refine .inr (.inr ?_);show (if k=s/16 then 0 else (tb i).lf k)=_;rw [if_neg D0]
   have Dd:(if k=s/16 then 0 else (tb i).lf k)≠0:=h0;have D0:k≠s/16:=fun h=>Dd (by rw [if_pos h])
   rw [if_neg D0] at Dd;obtain⟨x,hx,e1,e2⟩:=hf k hk Dd;refine⟨x,hx,e1,?_⟩;show (if x=s then none else (tb i).en x)≠none;rw [if_neg (fun h=>D0 (by rw [<- e1,h]))];exact e2
 have Ci:Q0t (some e)≠0:=fun h=>by simpa using codeA_zero.1 h
 have Aa:(((Q0t (some e):Nat):Int)==0)=false:=by simpa using Ci
 generalize Put1 S fr N K tb own xl (e.nd::xn) i s none w=Q at *
 unfold getV at kg;unfold ptr at *
 generalize Q0t (some e)=x at *
 generalize Q0V (some e)=y at *
 generalize ((tb i).lf (s/16)+16*(s%16):Nat)=v at *
 generalize (tb i).lf (s/16)=L at *
 generalize (p.at_+8*(s/16):Nat)=u at *
 generalize (p.fac:Int)=fa at *
 clear ok t hi T C1 AA hg Ag h1 h2 hl Ci AS hL hm;go_enter func165,ntmps165;go_wp2_with fail;refine kg.mono ?_;rintro e w' ⟨rfl,rfl⟩;go_wp2_with fail;refine km.mono ?_;rintro e w' ⟨rfl,rfl⟩;go_wp2_with fail;refine kl.mono ?_;rintro e w' ⟨rfl,rfl⟩;go_wp2_with fail;refine ka.mono ?_;rintro e w' ⟨rfl,rfl⟩;go_wp2_with fail;refine ks.mono ?_;rintro e w' ⟨rfl,rfl⟩;go_wp2_with fail;refine HX.out.mono ?_;rintro e w2 ⟨rfl,c2,b,ke,hy⟩;have HY:=Q0a hy;clear hy HX;go_wp2_with fail;refine ke.mono ?_;rintro e w' ⟨rfl,rfl⟩;rcases HY.out with ⟨rfl,hy⟩|⟨rfl,GO,kr,hy⟩
 ·have HZ:=Q0a hy;clear hy HY;go_wp2_with fail
  first|exact⟨rfl,HZ.out⟩|(go_ret;exact⟨rfl,HZ.out⟩)
 ·have HZ:=Q0a hy;clear hy HY;go_wp2_with fail;refine GO.mono ?_;rintro e w' ⟨rfl,rfl⟩;go_wp2_with fail;refine kr.mono ?_;rintro e w' ⟨rfl,rfl⟩;go_wp2_with fail;refine HZ.out.mono ?_;rintro e w3 ⟨rfl,⟨c3,Ri⟩,hp⟩;have d3:w3.drew.cell? ⟨g,0,none⟩=some (.pointer (some ⟨S.P.p,0,none⟩)):=c3;have d31:w3.drew.cell? ⟨g,1,none⟩=some (.int .i64 fa):=Ri;have HP:=Q0a hp;clear hp HZ ke GO kr;go_wp2_with fail
  go_region_held3 (fun w'=>w'.cell? ⟨g,0,none⟩=some (.pointer (some ⟨S.P.p,0,none⟩))/\w'.cell? ⟨g,1,none⟩=some (.int .i64 fa)) (first|exact⟨c3,Ri⟩|exact⟨d3,d31⟩|exact Al)
   (first|(go_at_call 159;refine HP.out.mono ?_;rintro r w4 ⟨rfl,Al,hq⟩;have HQ:=Q0a hq;clear hq HP))
  go_wp2_with fail
  first|exact⟨rfl,HQ.out⟩|(go_ret;exact⟨rfl,HQ.out⟩)
end
end Go.Proofs.YtlakjlmaboioiaaGreatDoor
