/- What the laws of spaces share is proved. No condition. Part of a proof. -/
import Derived.Test.YtfidemmgofcnmaaGreatDoorAt13
set_option maxHeartbeats 2000000
set_option maxRecDepth 100000
set_option linter.unusedVariables false
namespace Go.Proofs.YtfidemmgofcnmaaGreatDoor
open Go.RowKit Go.Proofs.Tryz
def TB.at'(t:TB)(z:Int):Option Ent:=if 0<=z/\z<256 then t.en z.toNat else none
def getV(o:Option Ent):Ending:=.returned (.tuple #[.int .u64 (Q0t o:Nat),.int .u64 (Q0T o:Nat)])
section
variable {w:World} {S:CO} {t:TB} {p:Pl} {g:Nat}
theorem Q4d(h:TT S t p g w)(z:Int):Calls prog 102 #[.pointer (some ⟨g,0,none⟩),.int .i64 z] w fun r w'=>r=getV (t.at' z)/\w=w':=by
 have km:=Q5h w z;by_cases hz:0<=z/\z<256
 ·obtain⟨s,rfl⟩:=J3b hz.1;have hs:s<256:=by omega
  rw[decide_eq_true hz] at km;have ho:t.at' (s:Int)=t.en s:=by unfold TB.at';rw[if_pos hz,J2C]
  rw[ho];have kl:=Q4c h s hs;by_cases h0:t.lf (s/16)=0
  ·rw[h.tin.hole s hs h0];rw[h0] at kl;unfold getV Q0t Q0T;clear h h0 ho hz;go_enter func102,ntmps102;go_wp2_with (first|(go_at_call 175;refine km.mono ?_;rintro e w'⟨rfl,rfl⟩)|(go_at_call 176;refine kl.mono ?_;rintro e w'⟨rfl,rfl⟩));go_ret2;exact⟨rfl,rfl⟩
  ·obtain⟨e1,e2⟩:=h.tin.ent s hs h0;obtain⟨l8,ll⟩:=h.lv (s/16) (by omega) h0;obtain⟨fr,hp⟩:=h.pool;have hm:=Q0f hp;have ks:=Q2P w (t.lf (s/16)) s (by omega) hs;have k0:=Q4b h (t.lf (s/16)+16*(s%16)) (by omega) (by omega);have k1:=Q4b h (t.lf (s/16)+16*(s%16)+8) (by omega) (by omega);rw[e1] at k0;rw[e2] at k1;have hx:t.lf (s/16)+16*(s%16)<=1073741824:=by omega
   have Ac:(((t.lf (s/16):Nat):Int)==0)=false:=by simpa using h0
   have hc:((t.lf (s/16)+16*(s%16)+8:Nat):Int)=((t.lf (s/16)+16*(s%16):Nat):Int)+8:=by omega
   rw[hc] at k1;unfold getV;generalize Q0t (t.en s)=ca at *
   generalize Q0T (t.en s)=cb at *
   generalize (t.lf (s/16)+16*(s%16):Nat)=x at *
   generalize t.lf (s/16)=L at *
   have UJ:(x:Int)<=1073741824:=by omega
   clear h h0 ho hz e1 e2 l8 ll hp hm hc hx;go_enter func102,ntmps102;go_wp2_with fail;refine km.mono ?_;rintro e w'⟨rfl,rfl⟩;go_wp2_with fail;refine kl.mono ?_;rintro e w'⟨rfl,rfl⟩;go_wp2_with fail;refine kl.mono ?_;rintro e w'⟨rfl,rfl⟩;go_wp2_with fail;refine ks.mono ?_;rintro e w'⟨rfl,rfl⟩;go_wp2_with fail;refine k0.mono ?_;rintro e w'⟨rfl,rfl⟩;go_wp2_with fail;refine k1.mono ?_;rintro e w'⟨rfl,rfl⟩;go_wp2_with fail
   (try go_ret2);exact⟨rfl,rfl⟩
 ·rw[decide_eq_false hz] at km;have ho:t.at' z=none:=by unfold TB.at';rw[if_neg hz]
  rw[ho];unfold getV Q0t Q0T;clear h ho hz;go_enter func102,ntmps102;go_wp2_with (go_at_call 175;refine km.mono ?_;rintro e w'⟨rfl,rfl⟩);go_ret2;exact⟨rfl,rfl⟩
def TB.noneIn(t:TB)(k:Nat):Bool:=(List.range 16).all fun j=>(t.en (16*k+j)).isNone
theorem Z2n(h:TT S t p g w)(k:Nat)(hk:k<16)(h0:t.lf k≠0):Calls prog 215 #[.pointer (some ⟨g,0,none⟩),.int .i64 ((t.lf k:Nat):Int)] w fun r w'=>r=.returned (.bool (t.noneIn k))/\w=w':=by
 obtain⟨fr,hp⟩:=h.pool;have hm:=Q0f hp;obtain⟨l8,ll⟩:=h.lv k hk h0;have HC:Hid (∀j:Nat,j<16->(Calls prog 177 #[.int .i64 ((t.lf k:Nat):Int),.int .i64 j] w fun r w'=>r=.returned (.int .i64 ((t.lf k+16*j:Nat):Int))/\w=w')/\Calls prog 178 #[.pointer (some ⟨g,0,none⟩),.int .i64 ((t.lf k+16*j:Nat):Int)] w fun r w'=>r=.returned (.int .u64 (Q0t (t.en (16*k+j)):Nat))/\w=w'):=fun j hj=>by
  have hd:(16*k+j)/16=k:=by omega
  have QS:(16*k+j)%16=j:=by omega
  have e:=(h.tin.ent (16*k+j) (by omega) (by rw[hd];exact h0)).1;rw[hd,QS] at e;have k1:=Q2P w (t.lf k) j (by omega) (by omega);rw[J2S hj] at k1;have k2:=Q4b h (t.lf k+16*j) (by omega) (by omega);rw[e] at k2;exact⟨k1,k2⟩
 have HT:Hid (∀j:Nat,(∀i:Nat,i<j->t.en (16*k+i)=none)->j=16->t.noneIn k=true):=fun j hj e=>by
  subst e;unfold TB.noneIn;rw[J4C];intro i hi;rw[hj i (J1U.1 hi)];rfl
 have HF:Hid (∀j:Nat,j<16->t.en (16*k+j)≠none->t.noneIn k=false):=fun j hj Ac=>by
  unfold TB.noneIn;rw[List.all_eq_false];exact⟨j,J1U.2 hj,by cases hx:t.en (16*k+j) with|none=>exact absurd hx Ac|some e=>simp⟩
 clear h hp hm l8 ll h0;go_enter func215,ntmps215;go_wp2_with fail
 go_loopg [6] 16 (fun gk iv wr=>∃j:Nat,iv=.int .i64 j/\j+gk=16/\(∀i,i<j->t.en (16*k+i)=none)/\w=wr)
 case atStart=>exact⟨0,rfl,rfl,fun i hi=>by omega,rfl⟩
 case round =>
  obtain⟨j,rfl,E7,A4,rfl⟩:=hrel;have Cx:=Q0a A4;have Jh:=Q0a E7;clear A4 E7;by_cases hj:j<16
  ·obtain⟨k1,k2⟩:=HC.out j hj;have MR:(j:Int)<16:=by omega
   cases he:t.en (16*k+j) with
   | none =>
    rw[he] at k2;have HE:=Q0a he;unfold Q0t at k2;generalize (t.lf k+16*j:Nat)=x at *
    generalize t.lf k=L at *
    clear he;go_wp2_with fail;refine k1.mono ?_;rintro e w'⟨rfl,rfl⟩;go_wp2_with fail;refine k2.mono ?_;rintro e w'⟨rfl,rfl⟩;go_wp2_with fail;go_roundg (16-(j+1))
    case measure=>have:=Jh.out;omega
    case rel=>exact⟨j+1,by go_num,by have:=Jh.out;omega,fun i hi=>by
     by_cases e:i=j
     ·subst e;exact HE.out
     ·exact Cx.out i (by omega),rfl⟩
   | some e =>
    rw[he] at k2;have Ac:Q0t (some e)≠0:=fun hz=>by cases codeA_zero.1 hz
    have GY:(((Q0t (some e):Nat):Int) != 0)=true:=by simpa using Ac
    have Qy:(((Q0t (some e):Nat):Int)==0)=false:=by simpa using Ac
    have HR:=Q0a (HF.out j hj (by rw[he];simp));generalize Q0t (some e)=ca at *
    generalize (t.lf k+16*j:Nat)=x at *
    generalize t.lf k=L at *
    clear he Ac;go_wp2_with fail;refine k1.mono ?_;rintro e w'⟨rfl,rfl⟩;go_wp2_with fail;refine k2.mono ?_;rintro e w'⟨rfl,rfl⟩;go_wp2_with fail
    (try go_ret);exact⟨by first|(rw[HR.out];done)|(rw[HR.out];rfl),rfl⟩
  ·have LY:j=16:=by have:=Jh.out;omega
   have HR:=Q0a (HT.out j Cx.out LY);subst LY;go_wp2_with fail;go_ret;exact⟨by first|(rw[HR.out];done)|(rw[HR.out];rfl),rfl⟩
end
theorem Q4e{w:World}{H:HL}(h:Sep w H):w.heap.size∉keys H:=fun hk=>by have:=h.lt hk;omega
section
variable {S:CO} {fr:List Nat} {N K:Nat} {tb:Nat->TB} {own:Int} {xl xn:List Nat}
theorem Q3E(ok:S.Ok fr N K)(t:TPX S tb own xl xn){i s:Nat}{p:Pl}(hi:S.l[i]?=some p)(h1:p.st=1)(h2:p.kind=2)(Al:(p.fac:Int)=own)(hs:s<256)(hl:(tb i).lf (s/16)≠0){o:Option Ent}{xn':List Nat}(hn:(xn'++((tb i).setE s o).nds).Perm (xn++(tb i).nds))
  (hA:Q0t o<18446744073709551616) (hB:Q0T o<18446744073709551616) {w:World} (A6:Sep w S.hl) :
  Calls prog 57 #[.pointer (some ⟨S.P.a.a,0,none⟩),.int .i64 (((tb i).lf (s/16)+16*(s%16):Nat):Int),.slice (some ⟨w.heap.size,0,none⟩) 2 2] (w.alloc (.cells #[.int .u64 (Q0t o:Nat),.int .u64 (Q0T o:Nat)] 83)) fun r w' =>
   r=.returned (.int .i64 0)/\∃S':CO,S'.Ok fr N K/\TPX S' (updT tb i ((tb i).setE s o)) own xl xn'/\Alt S S' own/\Step S.hl S'.hl w w':=by
 have Ap:=Q1w ok.inv.len hi;have hL:=t.leaf Ap (by omega:s/16<16) hl;have hm:=Q0l ok.inv.mem.pool hL;rw[Q2q] at hm;have h8:=Q1V ok.inv.mem.pool hL;have hb:=Q0f ok.inv.mem.pool;have sa:=A6.alloc (.cells #[.int .u64 (Q0t o:Nat),.int .u64 (Q0T o:Nat)] 83);have cn:=Cells.new w 83 [.int .u64 (Q0t o:Nat),.int .u64 (Q0T o:Nat)];have k:=Z4X (PL.sA (CO.sP sa)) ((tb i).lf (s/16)+16*(s%16)) (Q0t o) (Q0T o) (by omega) (by omega) hb hA hB w.heap.size (cn.cell 0 _ rfl) (cn.cell 1 _ rfl) (by simp) (Q4e (PL.sA (CO.sP A6)));refine k.mono ?_;rintro r w'⟨rfl,st⟩;obtain⟨m,GP⟩:∃m,m=put_ S.P.a.mem ((tb i).lf (s/16)+16*(s%16)) (Q0c (Q0t o)++Q0c (Q0T o)):=⟨_,rfl⟩
 rw[<- GP] at st;have Ab:m.length=S.P.a.mem.length:=by rw[GP];exact Q1h _ _ _ (by rw[Q1b];omega)
 have JV:∀b∈m,b<256:=by
  rw[GP];refine Q8G ok.inv.mem.pool.bytes fun b Aj=>?_
  rcases J2m.1 Aj with Aj|Aj
  ·exact Q2M _ b Aj
  ·exact Q2M _ b Aj
 have hk:Q2N S.P.a.mem m ((tb i).lf (s/16)+16*(s%16)) 16:=by
  rw[GP];have:=Q2r (m:=S.P.a.mem) (bs:=Q0c (Q0t o)++Q0c (Q0T o)) (a:=(tb i).lf (s/16)+16*(s%16)) (by rw[Q1b];omega)
  rwa [Q1b] at this
 obtain⟨ha,Ae⟩:=Z2m (m:=S.P.a.mem) (a:=(tb i).lf (s/16)+16*(s%16)) (x:=Q0t o) (y:=Q0T o) (by omega) hA hB;rw[<- GP] at ha Ae;obtain⟨ok',t'⟩:=t.entry ok hi h1 h2 Al hs hl Ab JV hk ha Ae hn;have st':Step S.hl (S.setP (S.P.setA m)).hl (w.alloc (.cells #[.int .u64 (Q0t o:Nat),.int .u64 (Q0T o:Nat)] 83)) w':=CO.stepMem sa m st;exact⟨rfl,_,ok',t',Alt.mem ok own (.inr rfl) hL (by omega) (by rw[Q2q];omega) Ab hk,st'.from_alloc⟩
theorem Q6U(ok:S.Ok fr N K)(t:TPX S tb own xl xn){i k:Nat}{p:Pl}(hi:S.l[i]?=some p)(h1:p.st=1)(h2:p.kind=2)(Al:(p.fac:Int)=own)(C6:k<16){L:Nat}{xl':List Nat}(hL64:L<18446744073709551616)(hn:(xl'++((tb i).setL k L).lvs).Perm (xl++(tb i).lvs))
  (Az:((tb i).lf k=0/\L≠0/\L∈S.P.usedOf 7/\∀j,L<=j->j<L+256->S.P.a.mem[j]?=some 0)∨(L=0/\∀s,s<256->s/16=k->(tb i).en s=none)) {w:World} (A6:Sep w S.hl) :
  Calls prog 57 #[.pointer (some ⟨S.P.a.a,0,none⟩),.int .i64 ((p.at_+8*k:Nat):Int),.slice (some ⟨w.heap.size,0,none⟩) 1 1] (w.alloc (.cells #[.int .u64 (L:Nat)] 83)) fun r w' =>
   r=.returned (.int .i64 0)/\∃S':CO,S'.Ok fr N K/\TPX S' (updT tb i ((tb i).setL k L)) own xl' xn/\Alt S S' own/\Step S.hl S'.hl w w':=by
 have Ap:=Q1w ok.inv.len hi;have hT:=Q1k ok hi h1 h2;have M4:Q0e 2=128:=rfl;have hm:=Q0l ok.inv.mem.pool hT;rw[M4] at hm;have h8:=Q1V ok.inv.mem.pool hT;have hb:=Q0f ok.inv.mem.pool;have sa:=A6.alloc (.cells #[.int .u64 (L:Nat)] 83);have cn:=Cells.new w 83 [.int .u64 (L:Nat)];have kk:=Z0I (PL.sA (CO.sP sa)) (p.at_+8*k) L (by omega) (by omega) hb hL64 w.heap.size (cn.cell 0 _ rfl) (by simp) (Q4e (PL.sA (CO.sP A6)));refine kk.mono ?_;rintro r w'⟨rfl,st⟩;obtain⟨m,GP⟩:∃m,m=put_ S.P.a.mem (p.at_+8*k) (Q0c L):=⟨_,rfl⟩
 rw[<- GP] at st;have Ab:m.length=S.P.a.mem.length:=by rw[GP];exact Q1h _ _ _ (by rw[bytes8_len];omega)
 have JV:∀b∈m,b<256:=by
  rw[GP];exact Q8G ok.inv.mem.pool.bytes (Q2M _)
 have hk:Q2N S.P.a.mem m (p.at_+8*k) 8:=by
  rw[GP];exact Q2r (m:=S.P.a.mem) (bs:=Q0c L) (a:=p.at_+8*k) (by rw[bytes8_len];omega)
 have Br:Q0m m (p.at_+8*k)=L:=by rw[GP];exact Z2l (by omega) hL64
 have hr:∀x,x<16->x≠k->Kept S.P.a.mem m (p.at_+8*x) 8:=fun x hx Ac=>hk _ _ (by omega)
 have Bg:∀a,a∈S.P.usedOf 7->Kept S.P.a.mem m a 256:=fun a ha=>Q2O ok hT (b:=p.at_+8*k) (n:=8) (by omega) (by omega) hk ha (by omega)
 have BU:((tb i).setL k L).In m p.at_:=by
  rcases Az with ⟨c1,c2,c3,c4⟩|⟨c1,c2⟩
  ·refine(t.tin i p hi h1 h2).grow C6 c1 c2 Br (fun j j1 j2=>?_) hr (fun x hx h0=>Bg _ (t.leaf Ap hx h0));rw[Bg L c3 j j1 j2];exact c4 j j1 j2
  ·subst c1;exact(t.tin i p hi h1 h2).drop C6 c2 Br hr (fun x hx Ac h0=>Bg _ (t.leaf Ap hx h0))
 obtain⟨ok',t'⟩:=t.rootw ok hi h1 h2 Al C6 Ab JV hk BU hn;have st':Step S.hl (S.setP (S.P.setA m)).hl (w.alloc (.cells #[.int .u64 (L:Nat)] 83)) w':=CO.stepMem sa m st;exact⟨rfl,_,ok',t',Alt.mem ok own (.inl rfl) hT (by omega) (by omega) Ab hk,st'.from_alloc⟩
end
theorem TblC.alt{S S':CO}{p:Pl}{g:Nat}{w w':World}{own:Int}(h:TblC S p g w)(al:Alt S S' own)(st:Step S.hl S'.hl w w'):TblC S' p g w':=by
 unfold TblC;rw[al.same.p];exact AsideV.step h st
theorem Q0U(tb:Nat->TB)(i:Nat)(a b:TB):updT (updT tb i a) i b=updT tb i b:=by
 funext j;unfold updT;split <;> rfl
theorem Z7A{m:List Nat}{a n j:Nat}(h:a+n<=m.length)(h1:a<=j)(h2:j<a+n):(put_ m a (List.replicate n 0))[j]?=some 0:=by
 unfold put_;rw[J2x,J4L (by rw[J3Q];omega),J3Q,J4W (by omega),J4K (by rw[J1O];omega),J3y,if_pos (by omega)]
def Put1(S:CO)(fr:List Nat)(N K:Nat)(tb:Nat->TB)(own:Int)(xl xn:List Nat)(i s:Nat)(o:Option Ent)(w w':World):Prop:=
 ∃(S':CO) (t':TB),S'.Ok fr N K/\TPX S' (updT tb i t') own xl xn/\(∀x,t'.en x=if x=s then o else(tb i).en x)/\((tb i).Full->t'.Full)/\(∀k,(tb i).lf k=0∨t'.lf k=0∨t'.lf k=(tb i).lf k)/\Alt S S' own/\Step S.hl S'.hl w w'
def SetR(S:CO)(fr:List Nat)(N K:Nat)(tb:Nat->TB)(own:Int)(xl xn:List Nat)(i s:Nat)(o:Option Ent)(w:World)(r:Ending)(w':World):Prop:=
 (r=.returned (.int .i64 0)/\Put1 S fr N K tb own xl xn i s o w w') ∨
 ((tb i).lf (s/16)=0/\Step S.hl S.hl w w'/\((NoRoom S.P 7/\r=.returned (.int .i64 4))∨((∃e,find S.P.q.E own=some e/\e.q.limit-(e.q.charged+e.q.given)<256)/\r=.returned (.int .i64 5))))
theorem Z0V{t:TB}{s:Nat}{e:Ent}{t':TB}(hs:s<256)(hl:∀k,k<16->t'.lf k≠0->t.lf k≠0∨k=s/16)(he:∀x,t'.en x=if x=s then some e else t.en x)(h:t.Full):t'.Full:=by
 intro k hk h0;by_cases D4:k=s/16
 ·exact⟨s,hs,D4.symm,by rw[he,if_pos rfl];simp⟩
 ·obtain⟨x,hx,e1,e2⟩:=h k hk ((hl k hk h0).resolve_right D4);refine⟨x,hx,e1,?_⟩;rw[he];split
  ·simp
  ·exact e2
section
variable {S:CO} {fr:List Nat} {N K:Nat} {tb:Nat->TB} {own:Int} {xl xn xn':List Nat}
theorem Q5K(ok:S.Ok fr N K)(t:TPX S tb own xl xn){i s:Nat}{p:Pl}(hi:S.l[i]?=some p)(h1:p.st=1)(h2:p.kind=2)(Al:(p.fac:Int)=own)(hs:s<256)(hl:(tb i).lf (s/16)≠0){e:Ent}(hn:(xn'++((tb i).setE s (some e)).nds).Perm (xn++(tb i).nds))
  (hA:Q0t (some e)<18446744073709551616) (hB:Q0T (some e)<18446744073709551616) {w:World} (A6:Sep w S.hl) :
  Calls prog 57 #[.pointer (some ⟨S.P.a.a,0,none⟩),.int .i64 (((tb i).lf (s/16)+16*(s%16):Nat):Int),.slice (some ⟨w.heap.size,0,none⟩) 2 2] (w.alloc (.cells #[.int .u64 (Q0t (some e):Nat),.int .u64 (Q0T (some e):Nat)] 83)) fun r w' =>
   r=.returned (.int .i64 0)/\Put1 S fr N K tb own xl xn' i s (some e) w w':=by
 refine(Q3E ok t hi h1 h2 Al hs hl hn hA hB A6).mono ?_;rintro r w'⟨rfl,S',ok',t',al,st⟩;exact⟨rfl,S',_,ok',t',fun _=>rfl,Z0V hs (fun k _ h=>.inl h) fun _=>rfl,fun _=>.inr (.inr rfl),al,st⟩
theorem Z7B(ok:S.Ok fr N K)(t:TPX S tb own xl xn){i s:Nat}{p:Pl}(hi:S.l[i]?=some p)(h1:p.st=1)(h2:p.kind=2)(Al:(p.fac:Int)=own)(hs:s<256)(hl:(tb i).lf (s/16)≠0){e:Ent}(hn:(xn'++((tb i).setE s (some e)).nds).Perm (xn++(tb i).nds))
  (hA:Q0t (some e)<18446744073709551616) (hB:Q0T (some e)<18446744073709551616) {w:World} {g:Nat} (A6:Sep w S.hl) (hg:TblC S p g w) :
  Calls prog 103 #[.pointer (some ⟨g,0,none⟩),.int .i64 s,.int .u64 (Q0t (some e):Nat),.int .u64 (Q0T (some e):Nat)] w (SetR S fr N K tb own xl xn' i s (some e) w):=by
 have Ap:=Q1w ok.inv.len hi;have T:=t.tt ok hi h1 h2 A6 hg;have hL:=t.leaf Ap (by omega:s/16<16) hl;have hm:=Q0l ok.inv.mem.pool hL;have hb:=Q0f ok.inv.mem.pool;have c0:=hg.c0;have km:=Q5h w (s:Int);rw[decide_eq_true (show 0<=(s:Int)/\(s:Int)<256 from⟨by omega,by omega⟩)] at km;have kl:=Q4c T s hs;have ka:=Q0v (CO.sP A6);have ks:=Q2P w ((tb i).lf (s/16)) s (by omega) hs;have HX:Hid (Calls prog 57 #[.pointer (some ⟨S.P.a.a,0,none⟩),.int .i64 (((tb i).lf (s/16)+16*(s%16):Nat):Int),.slice (some ⟨w.heap.size,0,none⟩) 2 2] (w.alloc (.cells #[.int .u64 (Q0t (some e):Nat),.int .u64 (Q0T (some e):Nat)] 83)) fun r w' =>
   r=.returned (.int .i64 0)/\SetR S fr N K tb own xl xn' i s (some e) w (.returned (.int .i64 0)) w'):=by
  refine(Q5K ok t hi h1 h2 Al hs hl hn hA hB A6).mono ?_;rintro r w'⟨rfl,h⟩;exact⟨rfl,.inl ⟨rfl,h⟩⟩
 have CI:Q0t (some e)≠0:=fun h=>by simpa using codeA_zero.1 h
 have Ac:(((Q0t (some e):Nat):Int)==0)=false:=by simpa using CI
 have Bk:((((tb i).lf (s/16):Nat):Int)==0)=false:=by simpa using hl
 generalize SetR S fr N K tb own xl xn' i s (some e) w=Q at *
 unfold ptr at *
 generalize Q0t (some e)=x at *
 generalize Q0T (some e)=y at *
 generalize ((tb i).lf (s/16)+16*(s%16):Nat)=u at *
 generalize (tb i).lf (s/16)=L at *
 clear ok t hi T hL hm hn A6 hg Al h1 h2 hl CI;go_enter func103,ntmps103;go_wp2_with fail;refine km.mono ?_;rintro e w'⟨rfl,rfl⟩;go_wp2_with fail;refine kl.mono ?_;rintro e w'⟨rfl,rfl⟩;go_wp2_with fail;refine ka.mono ?_;rintro e w'⟨rfl,rfl⟩;go_wp2_with fail;refine ks.mono ?_;rintro e w'⟨rfl,rfl⟩;go_wp2_with fail;refine HX.out.mono ?_;rintro e w'⟨rfl,hy⟩;have HY:=Q0a hy;clear hy HX;go_wp2_with fail
 (try go_ret2);exact HY.out
theorem Z7C(ok:S.Ok fr N K)(t:TPX S tb own xl xn){i s:Nat}{p:Pl}(hi:S.l[i]?=some p)(h1:p.st=1)(h2:p.kind=2)(Al:(p.fac:Int)=own)(hs:s<256)(hl:(tb i).lf (s/16)=0){ac:En Fa}(Fs:find S.P.q.E own=some ac){e:Ent}(hn:(xn'++((tb i).setE s (some e)).nds).Perm (xn++(tb i).nds))
  (hA:Q0t (some e)<18446744073709551616) (hB:Q0T (some e)<18446744073709551616) {w:World} {g:Nat} (A6:Sep w S.hl) (hg:TblC S p g w) :
  Calls prog 103 #[.pointer (some ⟨g,0,none⟩),.int .i64 s,.int .u64 (Q0t (some e):Nat),.int .u64 (Q0T (some e):Nat)] w (SetR S fr N K tb own xl xn' i s (some e) w):=by
 have Ap:=Q1w ok.inv.len hi;have T:=t.tt ok hi h1 h2 A6 hg;have km:=Q5h w (s:Int);rw[decide_eq_true (show 0<=(s:Int)/\(s:Int)<256 from⟨by omega,by omega⟩)] at km;have kl:=Q4c T s hs;rw[hl] at kl;have c0:=hg.c0;have c1:=hg.c1;have d0:w.drew.cell? ⟨g,0,none⟩=some (.pointer (some ⟨S.P.p,0,none⟩)):=c0;have d1:w.drew.cell? ⟨g,1,none⟩=some (.int .i64 (p.fac:Int)):=c1;have Sz:Q0X 7=256:=costs_67.2;have HG:Hid (Calls prog 15 #[.pointer (some ⟨S.P.p,0,none⟩),.int .i64 (p.fac:Int),.int .i64 7] w.drew fun r w1 =>
   (w1.cell? ⟨g,0,none⟩=some (.pointer (some ⟨S.P.p,0,none⟩))/\w1.cell? ⟨g,1,none⟩=some (.int .i64 (p.fac:Int))) /\
   ∃a er:Int,r=.returned (.tuple #[.int .i64 a,.int .i64 er])/\(((er=4∨er=5)/\SetR S fr N K tb own xl xn' i s (some e) w (.returned (.int .i64 er)) w1) ∨
    (∃L:Nat,a=(L:Int)/\er=0/\(0<L/\L<=1073741824) /\
    Calls prog 50 #[.pointer (some ⟨S.P.p,0,none⟩)] w1 (fun r w'=>r=.returned (.pointer (some ⟨S.P.a.a,0,none⟩))/\w1=w') /\
    Calls prog 179 #[.pointer (some ⟨g,0,none⟩),.int .i64 s] w1 (fun r w'=>r=.returned (.int .i64 ((p.at_+8*(s/16):Nat):Int))/\w1=w') /\
    Calls prog 57 #[.pointer (some ⟨S.P.a.a,0,none⟩),.int .i64 ((p.at_+8*(s/16):Nat):Int),.slice (some ⟨w1.heap.size,0,none⟩) 1 1] (w1.alloc (.cells #[.int .u64 (L:Nat)] 83)) (fun r w2=>r=.returned (.int .i64 0)/\w2.cell? ⟨g,0,none⟩=some (.pointer (some ⟨S.P.p,0,none⟩)) /\
     Calls prog 50 #[.pointer (some ⟨S.P.p,0,none⟩)] w2 (fun r w'=>r=.returned (.pointer (some ⟨S.P.a.a,0,none⟩))/\w2=w') /\
     Calls prog 177 #[.int .i64 L,.int .i64 s] w2 (fun r w'=>r=.returned (.int .i64 ((L+16*(s%16):Nat):Int))/\w2=w') /\
     Calls prog 57 #[.pointer (some ⟨S.P.a.a,0,none⟩),.int .i64 ((L+16*(s%16):Nat):Int),.slice (some ⟨w2.heap.size,0,none⟩) 2 2] (w2.alloc (.cells #[.int .u64 (Q0t (some e):Nat),.int .u64 (Q0T (some e):Nat)] 83)) (fun r w3=>r=.returned (.int .i64 0)/\SetR S fr N K tb own xl xn' i s (some e) w (.returned (.int .i64 0)) w3))))):=by
  rw[Al];refine(Q5c (CO.sP A6.drew) ok.inv.mem.pool own 7).mono ?_;rintro r w1 LX;have cellsOf:∀{H':HL},Step S.hl H' w w1->w1.cell? ⟨g,0,none⟩=some (.pointer (some ⟨S.P.p,0,none⟩))/\w1.cell? ⟨g,1,none⟩=some (.int .i64 own):=fun {H'} st=>by
   have hx:=AsideV.step hg st;obtain⟨g0,e0,_,_,z0⟩:=hx 0 _ rfl;obtain⟨g1,e1,_,_,z1⟩:=hx 1 _ rfl;cases e0;cases e1;rw[<- Al];exact⟨z0,z1⟩
  rcases LX with ⟨h0,_⟩|⟨_,h0,_⟩|⟨_,As,rfl,st⟩|⟨n,ac',VV,TO,Tq,Uv,P9,hr⟩
  ·rw[Sz] at h0;omega
  ·rw[Fs] at h0;cases h0
  ·have st':Step S.hl S.hl w w1:=(CO.stepP A6.drew S.P rfl st).from_drew;refine⟨cellsOf st',0,5,rfl,.inl ⟨.inr rfl,.inr ⟨hl,st',.inr ⟨?_,rfl⟩⟩⟩⟩;obtain⟨x,q1,q2⟩:=As;rw[Sz] at q2;exact⟨x,q1,q2⟩
  ·obtain rfl:n=7:=by omega
   rcases hr with ⟨L,P',rfl,g7,st⟩|⟨Aw,rfl,st⟩
   ·have Bs:∃p∈S.l,p.st=1/\(p.fac:Int)=own:=⟨p,J3L hi,h1,Al⟩
    obtain⟨ok1,t1⟩:=TPX.got ok t (.inr rfl) g7 Bs;have al1:=Alt.got ok g7;rw[if_pos rfl,if_neg (by decide)] at t1;have AL:P'.p=S.P.p:=g7.p;have st1:Step S.hl (S.paid P' own ((Q0e 7:Nat):Int)).hl w w1:=(CO.stepPaid A6.drew P' own _ AL st).from_drew;have RB:L∈P'.usedOf 7:=by
     obtain⟨A,B,_,e2⟩:=g7.used;rw[e2];simp
    have Rc:=Q0l ok1.inv.mem.pool RB;have Lz:=Q0f ok1.inv.mem.pool;rw[Q2q] at Rc;have VI:L+256<=P'.a.mem.length:=Rc.1;have Pz:P'.a.mem.length<=1073741824:=Lz;have BX:=hg.alt al1 st1;have T1:=t1.tt ok1 (show(S.paid P' own ((Q0e 7:Nat):Int)).l[i]?=some p from hi) h1 h2 st1.sep BX;have Sg:=Q0v (CO.sP st1.sep);have SJ:(S.paid P' own ((Q0e 7:Nat):Int)).P.a.a=S.P.a.a:=al1.same.aa;rw[SJ,show(S.paid P' own ((Q0e 7:Nat):Int)).P.p=S.P.p from AL] at Sg;have hz:∀j,L<=j->j<L+256->P'.a.mem[j]?=some 0:=fun j j1 j2=>by
     have Ex:=(g7.gotM ok.inv.mem.pool).room.1;rw[g7.mem];exact Z7A Ex j1 j2
    refine⟨cellsOf st1,(L:Int),0,rfl,.inr ⟨L,rfl,rfl,⟨by omega,by omega⟩,Sg,Q5J T1 s hs,?_⟩⟩;have Cp:(xl++((tb i).setL (s/16) L).lvs).Perm ((L::xl)++(tb i).lvs):=by
     refine(J4o xl (TB.lvs_new (by omega) hl (by omega:L≠0))).trans ?_;exact J5a
    have kr:=Q6U ok1 t1 (show(S.paid P' own ((Q0e 7:Nat):Int)).l[i]?=some p from hi) h1 h2 Al (by omega:s/16<16) (by omega:L<18446744073709551616) Cp (.inl ⟨hl,by omega,RB,hz⟩) st1.sep;rw[SJ] at kr;refine kr.mono ?_;rintro r w2⟨rfl,S2,ok2,t2,al2,st2⟩;have al12:=al1.trans al2;have st12:=st1.trans st2;have Bw:=hg.alt al12 st12;have c2:=Bw.c0;rw[al12.same.p] at c2;have Ho:=Q0v (CO.sP st2.sep);rw[al12.same.aa,al12.same.p] at Ho;have EG:S2.l[i]?=some p:=by rw[al12.l];exact hi
    have My:(updT tb i ((tb i).setL (s/16) L) i).lf (s/16)=L:=by
     rw[updT_same];show(if s/16=s/16 then L else _)=L;rw[if_pos rfl]
    have Ge:(xn'++((updT tb i ((tb i).setL (s/16) L) i).setE s (some e)).nds).Perm (xn++(updT tb i ((tb i).setL (s/16) L) i).nds):=by
     rw[updT_same];exact hn
    have RY:=Q3E ok2 t2 EG h1 h2 Al hs (by rw[My];omega) Ge hA hB st2.sep;rw[My,al12.same.aa] at RY;refine⟨rfl,c2,Ho,Q2P w2 L s (by omega) hs,RY.mono ?_⟩;rintro r w3⟨rfl,S3,ok3,t3,al3,st3⟩;rw[updT_same,Q0U] at t3;refine⟨rfl,.inl ⟨rfl,S3,_,ok3,t3,fun _=>rfl,Z0V hs (fun k hk h0=>?_) fun _=>rfl,fun k=>?_,al12.trans al3,st12.trans st3⟩⟩
    ·by_cases D4:k=s/16
     ·exact .inr D4
     ·refine .inl ?_;have Dk:(if k=s/16 then L else(tb i).lf k)≠0:=h0
      rwa [if_neg D4] at Dk
    ·by_cases D4:k=s/16
     ·exact .inl (by rw[D4];exact hl)
     ·refine .inr (.inr ?_);show(if k=s/16 then L else(tb i).lf k)=_;rw[if_neg D4]
   ·have st':Step S.hl S.hl w w1:=(CO.stepP A6.drew S.P rfl st).from_drew;exact⟨cellsOf st',0,4,rfl,.inl ⟨.inl rfl,.inr ⟨hl,st',.inl ⟨Aw,rfl⟩⟩⟩⟩
 have CI:Q0t (some e)≠0:=fun h=>by simpa using codeA_zero.1 h
 have Ac:(((Q0t (some e):Nat):Int)==0)=false:=by simpa using CI
 generalize SetR S fr N K tb own xl xn' i s (some e) w=Q at *
 unfold ptr at *
 generalize Q0t (some e)=x at *
 generalize Q0T (some e)=y at *
 generalize (p.at_+8*(s/16):Nat)=u at *
 generalize (p.fac:Int)=fa at *
 clear ok t hi T hn A6 hg Al h1 h2 hl CI Fs;go_enter func103,ntmps103;go_wp2_with fail;refine km.mono ?_;rintro e w'⟨rfl,rfl⟩;go_wp2_with fail;refine kl.mono ?_;rintro e w'⟨rfl,rfl⟩;go_wp2_with fail
 go_region_held3 (fun w'=>w'.cell? ⟨g,0,none⟩=some (.pointer (some ⟨S.P.p,0,none⟩))/\w'.cell? ⟨g,1,none⟩=some (.int .i64 fa)) (first|exact⟨c0,c1⟩|exact⟨d0,d1⟩|exact Am)
  (first|(go_at_call 15;refine HG.out.mono ?_;rintro r w1⟨Am,a,er,rfl,hy⟩;have HW:=Q0a hy;clear hy HG))
 rcases HW.out with ⟨Ci,hy⟩|⟨L,rfl,rfl,hL,hy⟩
 ·have HY:=Q0a hy;clear hy HW;rcases Ci with rfl|rfl
  all_goals
   go_wp2_with fail
   (try go_ret2);exact HY.out
 ·obtain⟨ka,Re,ks⟩:=hy;have HS:=Q0a ks;have NK:=Am.1;have VS:=hL.2;clear ks HW;go_wp2_with fail;refine ka.mono ?_;rintro e w'⟨rfl,rfl⟩;go_wp2_with fail;refine Re.mono ?_;rintro e w'⟨rfl,rfl⟩;go_wp2_with fail;refine HS.out.mono ?_;rintro e w2⟨rfl,c2,Ho,Tz,hz⟩;have HZ:=Q0a hz;clear hz HS ka Re;go_wp2_with fail;refine Ho.mono ?_;rintro e w'⟨rfl,rfl⟩;go_wp2_with fail;refine Tz.mono ?_;rintro e w'⟨rfl,rfl⟩;go_wp2_with fail;refine HZ.out.mono ?_;rintro e w3⟨rfl,hq⟩;have HQ:=Q0a hq;clear hq HZ;go_wp2_with fail
  (try go_ret2);exact HQ.out
end
theorem Q9S{t:TB}{k:Nat}(h:t.noneIn k=true):∀s,s<256->s/16=k->t.en s=none:=by
 intro s hs hk;unfold TB.noneIn at h;rw[J4C] at h;have:=h (s%16) (J1U.2 (J4D _ (by omega)));rw[show 16*k+s%16=s by omega] at this;exact Option.isNone_iff_eq_none.1 this
theorem Q8H{t:TB}{k:Nat}(hk:k<16)(h:t.noneIn k=false):∃s,s<256/\s/16=k/\t.en s≠none:=by
 unfold TB.noneIn at h;rw[List.all_eq_false] at h;obtain⟨j,hj,hn⟩:=h;have:=J1U.1 hj;refine⟨16*k+j,by omega,by omega,fun e=>hn ?_⟩;rw[e];rfl
section
variable {S:CO} {fr:List Nat} {N K:Nat} {tb:Nat->TB} {own:Int} {xl xn:List Nat}
theorem Q8I(ok:S.Ok fr N K){i:Nat}{p:Pl}(hi:S.l[i]?=some p)(h1:p.st=1):∃e,find S.P.q.E (p.fac:Int)=some e:=ok.inv.tre.fac p (J3L hi) (Pl.is_iff.2 (.inl h1))
theorem TPX.paid(ok:S.Ok fr N K)(t:TPX S tb own xl xn){e:En Fa}(he:find S.P.q.E own=some e):256*(xl.length:Int)+48*(xn.length:Int)<=e.q.charged:=by
 have h1:=ok.inv.tre.charged own e he;have h2:=t.xc own;rw[if_pos rfl] at h2;have h3:=Z4O S.l tb own;have h4:=Q6K S.l own;omega
theorem Z2o(ok:S.Ok fr N K)(t:TPX S tb own xl xn){i s:Nat}{p:Pl}(hi:S.l[i]?=some p)(h1:p.st=1)(h2:p.kind=2)(Al:(p.fac:Int)=own)(hs:s<256){e:Ent}(he:(tb i).en s=some e){w:World}{g:Nat}(A6:Sep w S.hl)(hg:TblC S p g w) :
  Calls prog 173 #[.pointer (some ⟨g,0,none⟩),.int .i64 s] w fun r w'=>r=.returned (.int .i64 0)/\Put1 S fr N K tb own xl (e.nd::xn) i s none w w':=by
 have Ap:=Q1w ok.inv.len hi;have T:=t.tt ok hi h1 h2 A6 hg;have hl:(tb i).lf (s/16)≠0:=fun h=>by
  have:=T.tin.hole s hs h;rw[he] at this;cases this
 have hL:=t.leaf Ap (by omega:s/16<16) hl;have hm:=Q0l ok.inv.mem.pool hL;have hb:=Q0f ok.inv.mem.pool;have c0:=hg.c0;have kg:=Q4d T (s:Int);rw[show(tb i).at' (s:Int)=some e by unfold TB.at';rw[if_pos ⟨by omega,by omega⟩,J2C,he]] at kg;have km:=Q5h w (s:Int);rw[decide_eq_true (show 0<=(s:Int)/\(s:Int)<256 from⟨by omega,by omega⟩)] at km;have kl:=Q4c T s hs;have ka:=Q0v (CO.sP A6);have ks:=Q2P w ((tb i).lf (s/16)) s (by omega) hs;have Cp:((e.nd::xn)++((tb i).setE s none).nds).Perm (xn++(tb i).nds):=by
  refine List.Perm.trans ?_ (J4o xn (TB.nds_clr hs he).symm);exact J5a.symm
 have Bs:∃p∈S.l,p.st=1/\(p.fac:Int)=own:=⟨p,J3L hi,h1,Al⟩
 have HX:Hid (Calls prog 57 #[.pointer (some ⟨S.P.a.a,0,none⟩),.int .i64 (((tb i).lf (s/16)+16*(s%16):Nat):Int),.slice (some ⟨w.heap.size,0,none⟩) 2 2] (w.alloc (.cells #[.int .u64 0,.int .u64 0] 83)) fun r w2 =>
   r=.returned (.int .i64 0)/\w2.cell? ⟨g,0,none⟩=some (.pointer (some ⟨S.P.p,0,none⟩))/\∃b:Bool,Calls prog 215 #[.pointer (some ⟨g,0,none⟩),.int .i64 (((tb i).lf (s/16):Nat):Int)] w2 (fun r w'=>r=.returned (.bool b)/\w2=w') /\
    ((b=false/\Put1 S fr N K tb own xl (e.nd::xn) i s none w w2) ∨
     (b=true/\Calls prog 50 #[.pointer (some ⟨S.P.p,0,none⟩)] w2 (fun r w'=>r=.returned (.pointer (some ⟨S.P.a.a,0,none⟩))/\w2=w') /\
     Calls prog 179 #[.pointer (some ⟨g,0,none⟩),.int .i64 s] w2 (fun r w'=>r=.returned (.int .i64 ((p.at_+8*(s/16):Nat):Int))/\w2=w') /\
     Calls prog 57 #[.pointer (some ⟨S.P.a.a,0,none⟩),.int .i64 ((p.at_+8*(s/16):Nat):Int),.slice (some ⟨w2.heap.size,0,none⟩) 1 1] (w2.alloc (.cells #[.int .u64 0] 83)) (fun r w3=>r=.returned (.int .i64 0)/\(w3.cell? ⟨g,0,none⟩=some (.pointer (some ⟨S.P.p,0,none⟩))/\w3.cell? ⟨g,1,none⟩=some (.int .i64 (p.fac:Int))) /\
      Calls prog 21 #[.pointer (some ⟨S.P.p,0,none⟩),.int .i64 (p.fac:Int),.int .i64 7,.int .i64 (((tb i).lf (s/16):Nat):Int)] w3.drew (fun r w4=>r=.returned (.int .i64 0)/\(w4.cell? ⟨g,0,none⟩=some (.pointer (some ⟨S.P.p,0,none⟩))/\w4.cell? ⟨g,1,none⟩=some (.int .i64 (p.fac:Int)))/\Put1 S fr N K tb own xl (e.nd::xn) i s none w w4))))):=by
  refine(Q3E (o:=none) ok t hi h1 h2 Al hs hl Cp (by decide) (by decide) A6).mono ?_;rintro r w2⟨rfl,S2,ok2,t2,al2,st2⟩;have Bw:=hg.alt al2 st2;have c2:=Bw.c0;rw[al2.same.p] at c2;have EG:S2.l[i]?=some p:=by rw[al2.l];exact hi
  have T2:=t2.tt ok2 EG h1 h2 st2.sep Bw;rw[updT_same] at T2;have ke:=Z2n T2 (s/16) (by omega) hl;refine⟨rfl,c2,((tb i).setE s none).noneIn (s/16),ke,?_⟩;cases Aw:((tb i).setE s none).noneIn (s/16) with
  | false =>
   refine .inl ⟨rfl,S2,_,ok2,t2,fun _=>rfl,fun hf k hk h0=>?_,fun _=>.inr (.inr rfl),al2,st2⟩;by_cases D4:k=s/16
   ·rw[D4];exact Q8H (by omega) Aw
   ·obtain⟨x,hx,e1,e2⟩:=hf k hk h0;refine⟨x,hx,e1,?_⟩;show(if x=s then none else(tb i).en x)≠none;rw[if_neg (fun h=>D4 (by rw[<- e1,h]))];exact e2
  | true =>
   have Ho:=Q0v (CO.sP st2.sep);rw[al2.same.aa,al2.same.p] at Ho;refine .inr ⟨rfl,Ho,Q5J T2 s hs,?_⟩;have Ks:(((tb i).lf (s/16)::xl)++((updT tb i ((tb i).setE s none) i).setL (s/16) 0).lvs).Perm (xl++(updT tb i ((tb i).setE s none) i).lvs):=by
    rw[updT_same];refine List.Perm.trans ?_ (J4o xl (TB.lvs_drop (t:=(tb i).setE s none) (k:=s/16) (by omega) hl).symm);exact J5a.symm
   have kr:=Q6U (L:=0) ok2 t2 EG h1 h2 Al (by omega:s/16<16) (by omega) Ks (.inr ⟨rfl,fun x hx NT=>by rw[updT_same];exact Q9S Aw x hx NT⟩) st2.sep;rw[al2.same.aa] at kr;refine kr.mono ?_;rintro r w3⟨rfl,S3,ok3,t3,al3,st3⟩;rw[updT_same,Q0U] at t3;have al23:=al2.trans al3;have st23:=st2.trans st3;have Kq:=hg.alt al23 st23;have c3:=Kq.c0;rw[al23.same.p] at c3;refine⟨rfl,⟨c3,Kq.c1⟩,?_⟩;have Vv:S3.l[i]?=some p:=by rw[al23.l];exact hi
   obtain⟨ac,Fs⟩:=Q8I ok3 Vv h1;rw[Al] at Fs ⊢;have M1:=t3.paid ok3 Fs;rw[J2k,J2k] at M1;obtain⟨c,hc⟩:=PL.cls ok3.inv.mem.pool (by omega:1<=7) (by omega);have RT:(tb i).lf (s/16)∈S3.P.usedOf 7:=t3.lvs.mem_iff.1 (by simp);have Rg:=Q0l ok3.inv.mem.pool RT;have An:=Q0f ok3.inv.mem.pool;have kp:=Q3T (CO.sP st3.sep.drew) ok3.inv.mem.pool own Fs 7 (by rw[Q2q];omega) c hc ((tb i).lf (s/16)) (by rw[<- Q0N hc];exact RT) (by omega);rw[al23.same.p] at kp;refine kp.mono ?_;rintro r w4⟨rfl,P',g7,st⟩;have L6:∃p∈S3.l,p.st=1/\(p.fac:Int)=own:=by rw[al23.l];exact Bs
   obtain⟨ok4,t4⟩:=TPX.put (xl:=xl) (xn:=e.nd::xn) ok3 (.inr rfl) (by rw[if_pos rfl,if_neg (by decide)];exact t3) g7 L6;have al4:=Alt.put ok3 g7;have st4:Step S3.hl (S3.paid P' own (-((Q0e 7:Nat):Int))).hl w3 w4:=(CO.stepPaid st3.sep.drew P' own _ g7.p st).from_drew;have alz:=al23.trans al4;have stz:=st23.trans st4;have Oh:=hg.alt alz stz;have c4:=Oh.c0;rw[alz.same.p] at c4;have SL:=Oh.c1;rw[Al] at SL;refine⟨rfl,⟨c4,SL⟩,_,_,ok4,t4,fun _=>rfl,fun hf k hk h0=>?_,fun k=>?_,alz,stz⟩
   rotate_left
   ·by_cases D4:k=s/16
    ·refine .inr (.inl ?_);show(if k=s/16 then 0 else(tb i).lf k)=0;rw[if_pos D4]
    ·refine .inr (.inr ?_);show(if k=s/16 then 0 else(tb i).lf k)=_;rw[if_neg D4]
   have Dk:(if k=s/16 then 0 else(tb i).lf k)≠0:=h0;have D4:k≠s/16:=fun h=>Dk (by rw[if_pos h])
   rw[if_neg D4] at Dk;obtain⟨x,hx,e1,e2⟩:=hf k hk Dk;refine⟨x,hx,e1,?_⟩;show(if x=s then none else(tb i).en x)≠none;rw[if_neg (fun h=>D4 (by rw[<- e1,h]))];exact e2
 have CI:Q0t (some e)≠0:=fun h=>by simpa using codeA_zero.1 h
 have Ac:(((Q0t (some e):Nat):Int)==0)=false:=by simpa using CI
 generalize Put1 S fr N K tb own xl (e.nd::xn) i s none w=Q at *
 unfold getV at kg;unfold ptr at *
 generalize Q0t (some e)=x at *
 generalize Q0T (some e)=y at *
 generalize ((tb i).lf (s/16)+16*(s%16):Nat)=v at *
 generalize (tb i).lf (s/16)=L at *
 generalize (p.at_+8*(s/16):Nat)=u at *
 generalize (p.fac:Int)=fa at *
 clear ok t hi T Cp A6 hg Al h1 h2 hl CI Bs hL hm;go_enter func173,ntmps173;go_wp2_with fail;refine kg.mono ?_;rintro e w'⟨rfl,rfl⟩;go_wp2_with fail;refine km.mono ?_;rintro e w'⟨rfl,rfl⟩;go_wp2_with fail;refine kl.mono ?_;rintro e w'⟨rfl,rfl⟩;go_wp2_with fail;refine ka.mono ?_;rintro e w'⟨rfl,rfl⟩;go_wp2_with fail;refine ks.mono ?_;rintro e w'⟨rfl,rfl⟩;go_wp2_with fail;refine HX.out.mono ?_;rintro e w2⟨rfl,c2,b,ke,hy⟩;have HY:=Q0a hy;clear hy HX;go_wp2_with fail;refine ke.mono ?_;rintro e w'⟨rfl,rfl⟩;rcases HY.out with ⟨rfl,hy⟩|⟨rfl,Ho,kr,hy⟩
 ·have HZ:=Q0a hy;clear hy HY;go_wp2_with fail
  (try go_ret);exact⟨rfl,HZ.out⟩
 ·have HZ:=Q0a hy;clear hy HY;go_wp2_with fail;refine Ho.mono ?_;rintro e w'⟨rfl,rfl⟩;go_wp2_with fail;refine kr.mono ?_;rintro e w'⟨rfl,rfl⟩;go_wp2_with fail;refine HZ.out.mono ?_;rintro e w3⟨rfl,⟨c3,Rp⟩,hp⟩;have d3:w3.drew.cell? ⟨g,0,none⟩=some (.pointer (some ⟨S.P.p,0,none⟩)):=c3;have d31:w3.drew.cell? ⟨g,1,none⟩=some (.int .i64 fa):=Rp;have HP:=Q0a hp;clear hp HZ ke Ho kr;go_wp2_with fail
  go_region_held3 (fun w'=>w'.cell? ⟨g,0,none⟩=some (.pointer (some ⟨S.P.p,0,none⟩))/\w'.cell? ⟨g,1,none⟩=some (.int .i64 fa)) (first|exact⟨c3,Rp⟩|exact⟨d3,d31⟩|exact Am)
   (first|(go_at_call 21;refine HP.out.mono ?_;rintro r w4⟨rfl,Am,hq⟩;have HQ:=Q0a hq;clear hq HP))
  go_wp2_with fail
  (try go_ret);exact⟨rfl,HQ.out⟩
end
def OutI(w wr:World)(v:Value)(L:List Int):Prop:=wr.ownsRow w.heap.size 3 1 v L.length (L.map encI)/\Below w.heap.size w wr
theorem OutI.nil(w:World):OutI w w (.slice none 0 0) []:=⟨World.ownsRow_nil _ _ _ _,Below.refl _ _⟩
theorem OutI.below{w wr w1:World}{v:Value}{L:List Int}(h:OutI w wr v L)(hb:Below wr.heap.size wr w1):OutI w w1 v L:=
 ⟨h.1.kept (row:=none) ⟨hb.os,hb.tape,hb.output,hb.size,fun k hk _=>hb.block k hk⟩ (by cases hv:v.ownBlock with|none=>exact .inl rfl|some b=>exact .inr (by simp)),h.2.trans (hb.mono h.2.size)⟩
theorem OutI.app{w wr:World}{v:Value}{L:List Int}(h:OutI w wr v L)(hl:L.length<=16777216)(x:Int)(ty:TypeId):∃v' w',(Builtin.append_ #[38,38] ty #[v,.slice (some ⟨wr.heap.size,0,none⟩) 1 1]).run prog (wr.alloc (.cells #[.int .i64 x] 3))=.ok v' w'/\OutI w w' v' (L++[x]):=by
 obtain⟨i0,hi,BJ,AZ,Bd⟩:=info_parts Q9Q;have h2:=h.below ((Below.refl _ _).alloc (J1E _) (.cells #[.int .i64 x] 3));obtain⟨v',w',hr,q1,q2,_,q4⟩:=run_append_own_at (P:=prog) (wr.alloc (.cells #[.int .i64 x] 3)) w.heap.size 38 ty 3 i0 (.int .i64 0) 1 8 underlying38 hi BJ AZ Bd rfl (by decide) v L.length (L.map encI) h2.1 ⟨wr.heap.size,0,none⟩ 1 1 [.int .i64 x] rfl (by
  intro j u hj;have:=(Cells.new wr 3 [.int .i64 x]).cell j u hj;have e:(⟨wr.heap.size,0,none⟩:Addr).add j=⟨wr.heap.size,j,none⟩:=by unfold Addr.add;split <;> simp_all
  rw[e];exact this) (fun u hu=>by rw[J3E.1 hu];rfl) (by unfold maxLen;omega) (by omega) h2.2.size
 refine⟨v',w',hr,?_,?_⟩
 ·rw[J2j,J4Z];exact q1
 ·exact h2.2.trans ((Below.refl _ _).mono h2.2.size |>.grown q2 h2.2.size (fun b hb=>(h2.1.lt b hb).1))
def Z9U(w:World)(L:List Int)(r:Ending)(w':World):Prop:=∃v,r=.returned v/\w'.ownsRow w.heap.size 3 1 v L.length (L.map encI)/\Below w.heap.size w w'
section
variable {w:World} {S:CO} {t:TB} {p:Pl} {g:Nat}
end
theorem Z9V{w:World}{S:CO}{fr:List Nat}{N K:Nat}(hs:Sep w S.hl)(ok:S.Ok fr N K){p:Pl}(hu:p.at_∈S.P.usedOf 2):Calls prog 169 #[.pointer (some ⟨S.P.p,0,none⟩),.int .i64 (p.fac:Int),.int .i64 (p.at_:Int)] w fun r w'=>∃g:Nat,r=.returned (.pointer (some ⟨g,0,none⟩))/\Below w.heap.size w w'/\TblC S p g w'/\w.heap.size<=g:=by
 have hm:=Q0l ok.inv.mem.pool hu;have CV:=Q0f ok.inv.mem.pool;have kh:=Q7y (CO.sP hs) ok.inv.mem.pool 2 (p.at_:Int) (by unfold Z4a;omega);have DH:S.P.has 2 (p.at_:Int)=true:=by
  unfold PL.has PL.usedI;rw[decide_eq_true_eq,if_pos (by omega),J2C];exact⟨by omega,hu⟩
 rw[DH] at kh;have HF:Hid (∀w1,Below w.heap.size w w1->(∃g:Nat,(Ending.returned (.pointer (some ⟨w1.heap.size,0,none⟩)):Ending)=.returned (.pointer (some ⟨g,0,none⟩))/\Below w.heap.size w (w1.alloc (.cells #[ptr S.P.p,.int .i64 (p.fac:Int),.int .i64 (p.at_:Int)] 277))/\TblC S p g (w1.alloc (.cells #[ptr S.P.p,.int .i64 (p.fac:Int),.int .i64 (p.at_:Int)] 277))/\w.heap.size<=g)):=fun w1 hb=>by
  refine⟨w1.heap.size,rfl,hb.alloc hb.size _,fun j v hj=>⟨w1.heap.size,rfl,fun hk=>?_,by simp,?_⟩,hb.size⟩
  ·have:=hs.lt hk;have:=hb.size;omega
  ·exact(Cells.new w1 277 [ptr S.P.p,.int .i64 (p.fac:Int),.int .i64 (p.at_:Int)]).cell j v hj
 unfold ptr at HF;clear hs ok hu hm CV DH;go_enter func169,ntmps169;go_wp2_with fail;refine kh.mono ?_;rintro r w1⟨rfl,hb⟩;have HX:=Q0a (HF.out w1 hb);clear hb kh;go_wp2_with fail
 (try go_ret);exact HX.out
structure FO where
 f:Nat
 m:Nat
 o:Nat
 N:List (En Nd)
 next:Int
 kr:Int->RV
def Nd.cells(n:Nd)(rv:RV):List Value:=[.int .i64 n.sp,.int .i64 n.sl,.int .i64 n.par,lvOf rv n.ks.length]
def ndH(kr:Int->RV)(e:En Nd):HL:=(e.b,isC 285 (e.q.cells (kr e.id)))::rowH (kr e.id) 3 1 (e.q.ks.map encI)
def okv(N:List (En Nd)):SKV:=N.map fun e=>((e.q.sp,e.q.sl),.int .i64 e.id)
def isMS(kv:SKV):Obj->Prop:=isM (kv.map fun q=>(Q1X q.1,q.2))
def FO.head(q:FO):Nat×(Obj->Prop):=(q.f,isC 283 [.map (some q.m),.map (some q.o),.int .i64 q.next])
def FO.hl(q:FO):HL:=q.head::(q.m,isMI (kvs q.N))::(q.o,isMS (okv q.N))::q.N.flatMap (ndH q.kr)
structure FO.Ok(q:FO):Prop where
 n:NOk q.N q.next
 lim:q.next<1099511627776
 rv:∀e∈q.N,rvOk (q.kr e.id) e.q.ks.length
 few:q.N.length<=65536
theorem Q9T:WideMaps.KeyLaw prog 173:=deep_law (m:=2) (by omega) (by kernel_rfl) (by kernel_rfl) (by kernel_rfl)
theorem Q5L{p:Int×Int}(h1:0<=p.1)(h2:p.1<9223372036854775808)(h3:0<=p.2)(h4:p.2<9223372036854775808):Q1x prog 173 p:=by
 have hu:=underlying173;have hi:=underlying3;have hk:prog.keyType 173=true:=by kernel_rfl
 have hc:prog.cellsOf 173=2:=by kernel_rfl
 have Dj:prog.cellsOf 3=1:=by kernel_rfl
 obtain⟨m,hm⟩:∃m,prog.types.size=m+1:=⟨prog.types.size-1,by
  have:0<prog.types.size:=of_decide_eq_true (by kernel_rfl);omega⟩
 have e1:IntKind.i64.min = -9223372036854775808:=rfl;have e2:IntKind.i64.max=9223372036854775807:=rfl;have wa:(Lit.int .i64 p.1).wf=true:=by
  simp only[Lit.wf,J1Y,decide_eq_true_eq,e1,e2];omega
 have wb:(Lit.int .i64 p.2).wf=true:=by
  simp only[Lit.wf,J1Y,decide_eq_true_eq,e1,e2];omega
 unfold Q1x Q1X keyOf;simp only[hu];rw[if_pos (by simp[hk,Value.formed,hu,hc]),hm];unfold Program.keyLits;simp only[hu,Value.cells];rw[if_pos (by simp[hc])];exact⟨_,by simp[Program.keyLits,hi,wa,wb,Dj];rfl⟩
section
variable {w:World} {q:FO}
theorem FO.c(h:Sep w q.hl):Cells w q.f 283 [.map (some q.m),.map (some q.o),.int .i64 q.next]:=h.cells (by simp[FO.hl,FO.head])
theorem FO.c0(h:Sep w q.hl):w.cell? ⟨q.f,0,none⟩=some (.map (some q.m)):=(FO.c h).cell 0 _ rfl
theorem FO.c1(h:Sep w q.hl):w.cell? ⟨q.f,1,none⟩=some (.map (some q.o)):=(FO.c h).cell 1 _ rfl
theorem FO.c2(h:Sep w q.hl):w.cell? ⟨q.f,2,none⟩=some (.int .i64 q.next):=(FO.c h).cell 2 _ rfl
theorem FO.map(h:Sep w q.hl):Q0G w q.m (kvs q.N):=h.map (by simp[FO.hl,isMI])
theorem FO.omap(h:Sep w q.hl):Q2L w q.o (okv q.N):=h.map (by simp[FO.hl,isMS])
theorem FO.nd(h:Sep w q.hl){id:Int}{e:En Nd}(hf:find q.N id=some e):Cells w e.b 285 (e.q.cells (q.kr e.id)):=
 h.cells (by
  simp only[FO.hl,J1J];exact .inr (.inr (.inr (J2c.2 ⟨e,(Q0d hf).1,by simp[ndH]⟩))))
theorem Z0W(ok:q.Ok):(okv q.N).Pairwise (fun a b=>a.1≠b.1):=by
 unfold okv;rw[J2h];exact ok.n.spots
theorem Z0X(ok:q.Ok):∀p∈okv q.N,Q1x prog 173 p.1:=fun p hp=>by
 obtain⟨e,he,rfl⟩:=J1K.1 hp;have:=ok.n.sm e he;exact Q5L (by show 0<=e.q.sp;omega) (by show e.q.sp<_;omega) (by show 0<=e.q.sl;omega) (by show e.q.sl<_;omega)
end
def ownN(N:List (En Nd))(sp sl:Int):Int:=match N.find? fun e=>decide ((e.q.sp,e.q.sl)=(sp,sl)) with
 | some e=>e.id
 | none=>0
theorem Z4Y(N:List (En Nd))(sp sl:Int):(Q3p (okv N) (sp,sl)).getD (.int .i64 0)=.int .i64 (ownN N sp sl):=by
 unfold Q3p okv ownN;rw[List.find?_map];cases h:List.find? ((fun q=>decide (q.1=(sp,sl))) ∘ fun(e:En Nd)=>((e.q.sp,e.q.sl),Value.int .i64 e.id)) N with
 | none =>
  have:N.find? (fun e=>decide ((e.q.sp,e.q.sl)=(sp,sl)))=none:=h;rw[this];rfl
 | some e =>
  have:N.find? (fun e=>decide ((e.q.sp,e.q.sl)=(sp,sl)))=some e:=h;rw[this];rfl
theorem Z4Z{N:List (En Nd)}{next:Int}(ok:NOk N next){e:En Nd}(he:e∈N):ownN N e.q.sp e.q.sl=e.id:=by
 unfold ownN;cases h:N.find? fun x=>decide ((x.q.sp,x.q.sl)=(e.q.sp,e.q.sl)) with
 | none =>
  have:=J3q.1 h e he;simp at this
 | some x =>
  have hx:=J5E h;have hp:=J5F h;simp only[decide_eq_true_eq] at hp;simp only[Prod.mk.injEq] at hp;rw[Q4B ok hx he hp.1 hp.2]
theorem Q5M{N:List (En Nd)}{next:Int}(ok:NOk N next){sp sl:Int}:ownN N sp sl=0↔∀e∈N,(e.q.sp,e.q.sl)≠(sp,sl):=by
 unfold ownN;cases h:N.find? fun x=>decide ((x.q.sp,x.q.sl)=(sp,sl)) with
 | none =>
  simp only[true_iff];intro e he hc;have:=J3q.1 h e he;exact this (by simpa using hc)
 | some x =>
  have hx:=J5E h;have hp:=J5F h;simp only[decide_eq_true_eq] at hp;have:=ok.rng x hx
  constructor
  ·intro h0;have Dk:x.id=0:=h0;omega
  ·intro A4;exact absurd hp (A4 x hx)
section
variable {w:World} {q:FO}
theorem Q8J(w:World):(zeroValue 278).run prog w=.ok (.pointer none) w:=by kernel_rfl
theorem FO.look_some(h:Sep w q.hl){id:Int}{e:En Nd}(hf:find q.N id=some e) :
  (Instr.lookup 280 (.map (some q.m)) (.int .i64 id) false).run prog w=.ok (.pointer (some ⟨e.b,0,none⟩)) w:=by
 rw[Q0Y (FO.map h) id false (.pointer none) underlying280 underlying3 (Q8J w)];simp[Q4Y,hf,ptr]
theorem FO.look_none(h:Sep w q.hl){id:Int}(hf:find q.N id=none) :
  (Instr.lookup 280 (.map (some q.m)) (.int .i64 id) false).run prog w=.ok (.pointer none) w:=by
 rw[Q0Y (FO.map h) id false (.pointer none) underlying280 underlying3 (Q8J w)];simp[Q4Y,hf]
theorem FO.look_own(h:Sep w q.hl)(ok:q.Ok){sp sl:Int}(hp:Q1x prog 173 (sp,sl)) :
  (Instr.lookup 281 (.map (some q.o)) (.agg #[.int .i64 sp,.int .i64 sl]) false).run prog w=.ok (.int .i64 (ownN q.N sp sl)) w:=by
 have:=Q5G (FO.omap h) Q9T (Z0W ok) (Z0X ok) hp false (.int .i64 0) underlying281 (Z0D w);rw[Z4Y] at this;exact this
theorem Q3f(h:Sep w q.hl){id:Int}{e:En Nd}(hf:find q.N id=some e) :
  Calls prog 180 #[.pointer (some ⟨q.f,0,none⟩),.int .i64 id] w fun r w'=>r=.returned (.pointer (some ⟨e.b,0,none⟩))/\w=w':=by
 have h0:=FO.c0 h;have hl:=FO.look_some h hf;clear h hf;go_enter func180,ntmps180
 go_wp2
 go_ret;exact⟨rfl,rfl⟩
theorem Q5i(h:Sep w q.hl){id:Int}(hf:find q.N id=none) :
  Calls prog 180 #[.pointer (some ⟨q.f,0,none⟩),.int .i64 id] w fun r w'=>r=.returned (.pointer none)/\w=w':=by
 have h0:=FO.c0 h;have hl:=FO.look_none h hf;clear h hf;go_enter func180,ntmps180
 go_wp2
 go_ret;exact⟨rfl,rfl⟩
theorem Z5a(h:Sep w q.hl)(ok:q.Ok){sp sl:Int}(hp:Q1x prog 173 (sp,sl)) :
  Calls prog 161 #[.pointer (some ⟨q.f,0,none⟩),.int .i64 sp,.int .i64 sl] w fun r w'=>r=.returned (.int .i64 (ownN q.N sp sl))/\w=w':=by
 have h1:=FO.c1 h;have hl:=FO.look_own h ok hp;clear h hp ok;generalize ownN q.N sp sl=z at *
 go_enter func161,ntmps161
 go_wp2
 go_ret;exact⟨rfl,rfl⟩
theorem FO.nd0(h:Sep w q.hl){id:Int}{e:En Nd}(hf:find q.N id=some e):w.cell? ⟨e.b,0,none⟩=some (.int .i64 e.q.sp)/\w.cell? ⟨e.b,1,none⟩=some (.int .i64 e.q.sl)/\w.cell? ⟨e.b,2,none⟩=some (.int .i64 e.q.par)/\w.cell? ⟨e.b,3,none⟩=some (lvOf (q.kr e.id) e.q.ks.length):=by
 have k:=FO.nd h hf;exact⟨k.cell 0 _ rfl,k.cell 1 _ rfl,k.cell 2 _ rfl,k.cell 3 _ rfl⟩
theorem Q9U(h:Sep w q.hl){id:Int}(hf:find q.N id=none) :
  Calls prog 159 #[.pointer (some ⟨q.f,0,none⟩),.int .i64 id] w fun r w'=>r=.returned (.tuple #[.int .i64 0,.int .i64 0,.bool false])/\w=w':=by
 have k:=Q5i h hf;clear h hf;go_enter func159,ntmps159;go_wp2_with (go_at_call 180;refine k.mono ?_;rintro e w'⟨rfl,rfl⟩)
 go_ret3
 exact⟨rfl,rfl⟩
theorem Q9V(h:Sep w q.hl){id:Int}{e:En Nd}(hf:find q.N id=some e) :
  Calls prog 159 #[.pointer (some ⟨q.f,0,none⟩),.int .i64 id] w fun r w'=>r=.returned (.tuple #[.int .i64 e.q.sp,.int .i64 e.q.sl,.bool true])/\Below w.heap.size w w':=by
 have k:=Q3f h hf;obtain⟨c0,c1,c2,-⟩:=FO.nd0 h hf;have hb:∀m,Below w.heap.size w (w.drewN m):=fun m=>by first|exact(Below.refl _ _).drewN|exact Below.drewN (Below.refl _ _)|exact⟨rfl,rfl,rfl,J1E _,fun _ _=>rfl⟩
 clear h hf;go_enter func159,ntmps159;go_wp2_with (go_at_call 180;refine k.mono ?_;rintro e w'⟨rfl,rfl⟩)
 go_quiet (fail)
 go_wp2
 go_ret3
 exact⟨rfl,by first|exact hb _|exact(Below.refl _ _).drew⟩
end
end Go.Proofs.YtfidemmgofcnmaaGreatDoor
