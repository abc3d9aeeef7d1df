/- What the laws of spaces share is proved. No condition. Part of a proof. -/
import Derived.Test.YtfidemmgofcnmaaGreatDoorBz14
set_option maxHeartbeats 2000000
set_option linter.unusedVariables false
namespace Go.Proofs.YtfidemmgofcnmaaGreatDoor
open Go.RowKit Go.Proofs.Tryz
theorem TblC.alt{S S':CO}{p:Pl}{g:Nat}{w w':World}{own:Int}(h:TblC S p g w)(al:Alt S S' own)(st:Step S.hl S'.hl w w'):TblC S' p g w':=by
 unfold TblC;rw[al.same.p];exact AsideV.step h st
theorem Q0V(tb:Nat->TB)(i:Nat)(a b:TB):updT (updT tb i a) i b=updT tb i b:=by
 funext j;unfold updT;split <;> rfl
theorem Z8T{m:List Nat}{a n j:Nat}(h:a+n<=m.length)(h1:a<=j)(h2:j<a+n):(put_ m a (List.replicate n 0))[j]?=some 0:=by
 unfold put_;rw[J4b,J6q (by rw[J5u];omega),J5u,J6B (by omega),J6p (by rw[J3r];omega),J5c,if_pos (by omega)]
def Put1(S:CO)(fr:List Nat)(N K:Nat)(tb:Nat->TB)(own:Int)(xl xn:List Nat)(i s:Nat)(o:Option Ent)(w w':World):Prop:=
 ∃(S':CO) (t':TB),S'.Ok fr N K/\TPX S' (updT tb i t') own xl xn/\(∀x,t'.en x=if x=s then o else(tb i).en x)/\((tb i).Full->t'.Full)/\(∀k,(tb i).lf k=0∨t'.lf k=0∨t'.lf k=(tb i).lf k)/\Alt S S' own/\Step S.hl S'.hl w w'
def SetR(S:CO)(fr:List Nat)(N K:Nat)(tb:Nat->TB)(own:Int)(xl xn:List Nat)(i s:Nat)(o:Option Ent)(w:World)(r:Ending)(w':World):Prop:=
 (r=.returned (.int .i64 0)/\Put1 S fr N K tb own xl xn i s o w w') ∨
 ((tb i).lf (s/16)=0/\Step S.hl S.hl w w'/\((NoRoom S.P 7/\r=.returned (.int .i64 4))∨((∃e,find S.P.q.E own=some e/\e.q.limit-(e.q.charged+e.q.given)<256)/\r=.returned (.int .i64 5))))
theorem Z1Q{t:TB}{s:Nat}{e:Ent}{t':TB}(hs:s<256)(hl:∀k,k<16->t'.lf k≠0->t.lf k≠0∨k=s/16)(he:∀x,t'.en x=if x=s then some e else t.en x)(h:t.Full):t'.Full:=by
 intro k hk h0;by_cases DT:k=s/16
 ·exact⟨s,hs,DT.symm,by rw[he,if_pos rfl];simp⟩
 ·obtain⟨x,hx,e1,e2⟩:=h k hk ((hl k hk h0).resolve_right DT);refine⟨x,hx,e1,?_⟩;rw[he];split
  ·simp
  ·exact e2
section
variable {S:CO} {fr:List Nat} {N K:Nat} {tb:Nat->TB} {own:Int} {xl xn xn':List Nat}
theorem Q5Z(ok:S.Ok fr N K)(t:TPX S tb own xl xn){i s:Nat}{p:Pl}(hi:S.l[i]?=some p)(h1:p.st=1)(h2:p.kind=2)(An:(p.fac:Int)=own)(hs:s<256)(hl:(tb i).lf (s/16)≠0){e:Ent}(hn:(xn'++((tb i).setE s (some e)).nds).Perm (xn++(tb i).nds))
  (hA:Q0t (some e)<18446744073709551616) (hB:Q0T (some e)<18446744073709551616) {w:World} (A6:Sep w S.hl) :
  Calls prog 57 #[.pointer (some ⟨S.P.a.a,0,none⟩),.int .i64 (((tb i).lf (s/16)+16*(s%16):Nat):Int),.slice (some ⟨w.heap.size,0,none⟩) 2 2] (w.alloc (.cells #[.int .u64 (Q0t (some e):Nat),.int .u64 (Q0T (some e):Nat)] 83)) fun r w' =>
   r=.returned (.int .i64 0)/\Put1 S fr N K tb own xl xn' i s (some e) w w':=by
 refine(Q3N ok t hi h1 h2 An hs hl hn hA hB A6).mono ?_;rintro r w'⟨rfl,S',ok',t',al,st⟩;exact⟨rfl,S',_,ok',t',fun _=>rfl,Z1Q hs (fun k _ h=>.inl h) fun _=>rfl,fun _=>.inr (.inr rfl),al,st⟩
theorem Z8U(ok:S.Ok fr N K)(t:TPX S tb own xl xn){i s:Nat}{p:Pl}(hi:S.l[i]?=some p)(h1:p.st=1)(h2:p.kind=2)(An:(p.fac:Int)=own)(hs:s<256)(hl:(tb i).lf (s/16)≠0){e:Ent}(hn:(xn'++((tb i).setE s (some e)).nds).Perm (xn++(tb i).nds))
  (hA:Q0t (some e)<18446744073709551616) (hB:Q0T (some e)<18446744073709551616) {w:World} {g:Nat} (A6:Sep w S.hl) (hg:TblC S p g w) :
  Calls prog 103 #[.pointer (some ⟨g,0,none⟩),.int .i64 s,.int .u64 (Q0t (some e):Nat),.int .u64 (Q0T (some e):Nat)] w (SetR S fr N K tb own xl xn' i s (some e) w):=by
 have Ar:=Q1C ok.inv.len hi;have T:=t.tt ok hi h1 h2 A6 hg;have hL:=t.leaf Ar (by omega:s/16<16) hl;have hm:=Q0k ok.inv.mem.pool hL;have hb:=Q0g ok.inv.mem.pool;have c0:=hg.c0;have km:=Q5p w (s:Int);rw[decide_eq_true (show 0<=(s:Int)/\(s:Int)<256 from⟨by omega,by omega⟩)] at km;have kl:=Q4n T s hs;have ka:=Q0s (CO.sP A6);have ks:=Q3b w ((tb i).lf (s/16)) s (by omega) hs;have HX:Hid (Calls prog 57 #[.pointer (some ⟨S.P.a.a,0,none⟩),.int .i64 (((tb i).lf (s/16)+16*(s%16):Nat):Int),.slice (some ⟨w.heap.size,0,none⟩) 2 2] (w.alloc (.cells #[.int .u64 (Q0t (some e):Nat),.int .u64 (Q0T (some e):Nat)] 83)) fun r w' =>
   r=.returned (.int .i64 0)/\SetR S fr N K tb own xl xn' i s (some e) w (.returned (.int .i64 0)) w'):=by
  refine(Q5Z ok t hi h1 h2 An hs hl hn hA hB A6).mono ?_;rintro r w'⟨rfl,h⟩;exact⟨rfl,.inl ⟨rfl,h⟩⟩
 have Df:Q0t (some e)≠0:=fun h=>by simpa using codeA_zero.1 h
 have Ac:(((Q0t (some e):Nat):Int)==0)=false:=by simpa using Df
 have Bp:((((tb i).lf (s/16):Nat):Int)==0)=false:=by simpa using hl
 generalize SetR S fr N K tb own xl xn' i s (some e) w=Q at *
 unfold ptr at *
 generalize Q0t (some e)=x at *
 generalize Q0T (some e)=y at *
 generalize ((tb i).lf (s/16)+16*(s%16):Nat)=u at *
 generalize (tb i).lf (s/16)=L at *
 clear ok t hi T hL hm hn A6 hg An h1 h2 hl Df;go_enter func103,ntmps103;go_wp2_with fail;refine km.mono ?_;rintro e w'⟨rfl,rfl⟩;go_wp2_with fail;refine kl.mono ?_;rintro e w'⟨rfl,rfl⟩;go_wp2_with fail;refine ka.mono ?_;rintro e w'⟨rfl,rfl⟩;go_wp2_with fail;refine ks.mono ?_;rintro e w'⟨rfl,rfl⟩;go_wp2_with fail;refine HX.out.mono ?_;rintro e w'⟨rfl,hy⟩;have HY:=Q0a hy;clear hy HX;go_wp2_with fail
 (try go_ret2);exact HY.out
theorem Z8V(ok:S.Ok fr N K)(t:TPX S tb own xl xn){i s:Nat}{p:Pl}(hi:S.l[i]?=some p)(h1:p.st=1)(h2:p.kind=2)(An:(p.fac:Int)=own)(hs:s<256)(hl:(tb i).lf (s/16)=0){ac:En Fa}(FB:find S.P.q.E own=some ac){e:Ent}(hn:(xn'++((tb i).setE s (some e)).nds).Perm (xn++(tb i).nds))
  (hA:Q0t (some e)<18446744073709551616) (hB:Q0T (some e)<18446744073709551616) {w:World} {g:Nat} (A6:Sep w S.hl) (hg:TblC S p g w) :
  Calls prog 103 #[.pointer (some ⟨g,0,none⟩),.int .i64 s,.int .u64 (Q0t (some e):Nat),.int .u64 (Q0T (some e):Nat)] w (SetR S fr N K tb own xl xn' i s (some e) w):=by
 have Ar:=Q1C ok.inv.len hi;have T:=t.tt ok hi h1 h2 A6 hg;have km:=Q5p w (s:Int);rw[decide_eq_true (show 0<=(s:Int)/\(s:Int)<256 from⟨by omega,by omega⟩)] at km;have kl:=Q4n T s hs;rw[hl] at kl;have c0:=hg.c0;have c1:=hg.c1;have d0:w.drew.cell? ⟨g,0,none⟩=some (.pointer (some ⟨S.P.p,0,none⟩)):=c0;have d1:w.drew.cell? ⟨g,1,none⟩=some (.int .i64 (p.fac:Int)):=c1;have SL:Q1a 7=256:=costs_67.2;have HG:Hid (Calls prog 15 #[.pointer (some ⟨S.P.p,0,none⟩),.int .i64 (p.fac:Int),.int .i64 7] w.drew fun r w1 =>
   (w1.cell? ⟨g,0,none⟩=some (.pointer (some ⟨S.P.p,0,none⟩))/\w1.cell? ⟨g,1,none⟩=some (.int .i64 (p.fac:Int))) /\
   ∃a er:Int,r=.returned (.tuple #[.int .i64 a,.int .i64 er])/\(((er=4∨er=5)/\SetR S fr N K tb own xl xn' i s (some e) w (.returned (.int .i64 er)) w1) ∨
    (∃L:Nat,a=(L:Int)/\er=0/\(0<L/\L<=1073741824) /\
    Calls prog 50 #[.pointer (some ⟨S.P.p,0,none⟩)] w1 (fun r w'=>r=.returned (.pointer (some ⟨S.P.a.a,0,none⟩))/\w1=w') /\
    Calls prog 179 #[.pointer (some ⟨g,0,none⟩),.int .i64 s] w1 (fun r w'=>r=.returned (.int .i64 ((p.at_+8*(s/16):Nat):Int))/\w1=w') /\
    Calls prog 57 #[.pointer (some ⟨S.P.a.a,0,none⟩),.int .i64 ((p.at_+8*(s/16):Nat):Int),.slice (some ⟨w1.heap.size,0,none⟩) 1 1] (w1.alloc (.cells #[.int .u64 (L:Nat)] 83)) (fun r w2=>r=.returned (.int .i64 0)/\w2.cell? ⟨g,0,none⟩=some (.pointer (some ⟨S.P.p,0,none⟩)) /\
     Calls prog 50 #[.pointer (some ⟨S.P.p,0,none⟩)] w2 (fun r w'=>r=.returned (.pointer (some ⟨S.P.a.a,0,none⟩))/\w2=w') /\
     Calls prog 177 #[.int .i64 L,.int .i64 s] w2 (fun r w'=>r=.returned (.int .i64 ((L+16*(s%16):Nat):Int))/\w2=w') /\
     Calls prog 57 #[.pointer (some ⟨S.P.a.a,0,none⟩),.int .i64 ((L+16*(s%16):Nat):Int),.slice (some ⟨w2.heap.size,0,none⟩) 2 2] (w2.alloc (.cells #[.int .u64 (Q0t (some e):Nat),.int .u64 (Q0T (some e):Nat)] 83)) (fun r w3=>r=.returned (.int .i64 0)/\SetR S fr N K tb own xl xn' i s (some e) w (.returned (.int .i64 0)) w3))))):=by
  rw[An];refine(Q5k (CO.sP A6.drew) ok.inv.mem.pool own 7).mono ?_;rintro r w1 Nc;have cellsOf:∀{H':HL},Step S.hl H' w w1->w1.cell? ⟨g,0,none⟩=some (.pointer (some ⟨S.P.p,0,none⟩))/\w1.cell? ⟨g,1,none⟩=some (.int .i64 own):=fun {H'} st=>by
   have hx:=AsideV.step hg st;obtain⟨g0,e0,_,_,z0⟩:=hx 0 _ rfl;obtain⟨g1,e1,_,_,z1⟩:=hx 1 _ rfl;cases e0;cases e1;rw[<- An];exact⟨z0,z1⟩
  rcases Nc with ⟨h0,_⟩|⟨_,h0,_⟩|⟨_,Au,rfl,st⟩|⟨n,ac',XG,UT,WE,Wb,R7,hr⟩
  ·rw[SL] at h0;omega
  ·rw[FB] at h0;cases h0
  ·have st':Step S.hl S.hl w w1:=(CO.stepP A6.drew S.P rfl st).from_drew;refine⟨cellsOf st',0,5,rfl,.inl ⟨.inr rfl,.inr ⟨hl,st',.inr ⟨?_,rfl⟩⟩⟩⟩;obtain⟨x,q1,q2⟩:=Au;rw[SL] at q2;exact⟨x,q1,q2⟩
  ·obtain rfl:n=7:=by omega
   rcases hr with ⟨L,P',rfl,g7,st⟩|⟨Aw,rfl,st⟩
   ·have Bc:∃p∈S.l,p.st=1/\(p.fac:Int)=own:=⟨p,J5p hi,h1,An⟩
    obtain⟨ok1,t1⟩:=TPX.got ok t (.inr rfl) g7 Bc;have al1:=Alt.got ok g7;rw[if_pos rfl,if_neg (by decide)] at t1;have AG:P'.p=S.P.p:=g7.p;have st1:Step S.hl (S.paid P' own ((Q0e 7:Nat):Int)).hl w w1:=(CO.stepPaid A6.drew P' own _ AG st).from_drew;have Tz:L∈P'.usedOf 7:=by
     obtain⟨A,B,_,e2⟩:=g7.used;rw[e2];simp
    have TM:=Q0k ok1.inv.mem.pool Tz;have NQ:=Q0g ok1.inv.mem.pool;rw[Q2C] at TM;have Xm:L+256<=P'.a.mem.length:=TM.1;have R4:P'.a.mem.length<=1073741824:=NQ;have BS:=hg.alt al1 st1;have T1:=t1.tt ok1 (show(S.paid P' own ((Q0e 7:Nat):Int)).l[i]?=some p from hi) h1 h2 st1.sep BS;have TS:=Q0s (CO.sP st1.sep);have Se:(S.paid P' own ((Q0e 7:Nat):Int)).P.a.a=S.P.a.a:=al1.same.aa;rw[Se,show(S.paid P' own ((Q0e 7:Nat):Int)).P.p=S.P.p from AG] at TS;have hz:∀j,L<=j->j<L+256->P'.a.mem[j]?=some 0:=fun j j1 j2=>by
     have Eq:=(g7.gotM ok.inv.mem.pool).room.1;rw[g7.mem];exact Z8T Eq j1 j2
    refine⟨cellsOf st1,(L:Int),0,rfl,.inr ⟨L,rfl,rfl,⟨by omega,by omega⟩,TS,Q5Y T1 s hs,?_⟩⟩;have CB:(xl++((tb i).setL (s/16) L).lvs).Perm ((L::xl)++(tb i).lvs):=by
     refine(J5S xl (TB.lvs_new (by omega) hl (by omega:L≠0))).trans ?_;exact J6F
    have kr:=Q7n ok1 t1 (show(S.paid P' own ((Q0e 7:Nat):Int)).l[i]?=some p from hi) h1 h2 An (by omega:s/16<16) (by omega:L<18446744073709551616) CB (.inl ⟨hl,by omega,Tz,hz⟩) st1.sep;rw[Se] at kr;refine kr.mono ?_;rintro r w2⟨rfl,S2,ok2,t2,al2,st2⟩;have al12:=al1.trans al2;have st12:=st1.trans st2;have BB:=hg.alt al12 st12;have c2:=BB.c0;rw[al12.same.p] at c2;have Iy:=Q0s (CO.sP st2.sep);rw[al12.same.aa,al12.same.p] at Iy;have DQ:S2.l[i]?=some p:=by rw[al12.l];exact hi
    have Of:(updT tb i ((tb i).setL (s/16) L) i).lf (s/16)=L:=by
     rw[updT_same];show(if s/16=s/16 then L else _)=L;rw[if_pos rfl]
    have G7:(xn'++((updT tb i ((tb i).setL (s/16) L) i).setE s (some e)).nds).Perm (xn++(updT tb i ((tb i).setL (s/16) L) i).nds):=by
     rw[updT_same];exact hn
    have Tk:=Q3N ok2 t2 DQ h1 h2 An hs (by rw[Of];omega) G7 hA hB st2.sep;rw[Of,al12.same.aa] at Tk;refine⟨rfl,c2,Iy,Q3b w2 L s (by omega) hs,Tk.mono ?_⟩;rintro r w3⟨rfl,S3,ok3,t3,al3,st3⟩;rw[updT_same,Q0V] at t3;refine⟨rfl,.inl ⟨rfl,S3,_,ok3,t3,fun _=>rfl,Z1Q hs (fun k hk h0=>?_) fun _=>rfl,fun k=>?_,al12.trans al3,st12.trans st3⟩⟩
    ·by_cases DT:k=s/16
     ·exact .inr DT
     ·refine .inl ?_;have D1:(if k=s/16 then L else(tb i).lf k)≠0:=h0
      rwa [if_neg DT] at D1
    ·by_cases DT:k=s/16
     ·exact .inl (by rw[DT];exact hl)
     ·refine .inr (.inr ?_);show(if k=s/16 then L else(tb i).lf k)=_;rw[if_neg DT]
   ·have st':Step S.hl S.hl w w1:=(CO.stepP A6.drew S.P rfl st).from_drew;exact⟨cellsOf st',0,4,rfl,.inl ⟨.inl rfl,.inr ⟨hl,st',.inl ⟨Aw,rfl⟩⟩⟩⟩
 have Df:Q0t (some e)≠0:=fun h=>by simpa using codeA_zero.1 h
 have Ac:(((Q0t (some e):Nat):Int)==0)=false:=by simpa using Df
 generalize SetR S fr N K tb own xl xn' i s (some e) w=Q at *
 unfold ptr at *
 generalize Q0t (some e)=x at *
 generalize Q0T (some e)=y at *
 generalize (p.at_+8*(s/16):Nat)=u at *
 generalize (p.fac:Int)=fa at *
 clear ok t hi T hn A6 hg An h1 h2 hl Df FB;go_enter func103,ntmps103;go_wp2_with fail;refine km.mono ?_;rintro e w'⟨rfl,rfl⟩;go_wp2_with fail;refine kl.mono ?_;rintro e w'⟨rfl,rfl⟩;go_wp2_with fail
 go_region_held3 (fun w'=>w'.cell? ⟨g,0,none⟩=some (.pointer (some ⟨S.P.p,0,none⟩))/\w'.cell? ⟨g,1,none⟩=some (.int .i64 fa)) (first|exact⟨c0,c1⟩|exact⟨d0,d1⟩|exact Ap)
  (first|(go_at_call 15;refine HG.out.mono ?_;rintro r w1⟨Ap,a,er,rfl,hy⟩;have HW:=Q0a hy;clear hy HG))
 rcases HW.out with ⟨Cv,hy⟩|⟨L,rfl,rfl,hL,hy⟩
 ·have HY:=Q0a hy;clear hy HW;rcases Cv with rfl|rfl
  all_goals
   go_wp2_with fail
   (try go_ret2);exact HY.out
 ·obtain⟨ka,Up,ks⟩:=hy;have HS:=Q0a ks;have Pc:=Ap.1;have WS:=hL.2;clear ks HW;go_wp2_with fail;refine ka.mono ?_;rintro e w'⟨rfl,rfl⟩;go_wp2_with fail;refine Up.mono ?_;rintro e w'⟨rfl,rfl⟩;go_wp2_with fail;refine HS.out.mono ?_;rintro e w2⟨rfl,c2,Iy,VW,hz⟩;have HZ:=Q0a hz;clear hz HS ka Up;go_wp2_with fail;refine Iy.mono ?_;rintro e w'⟨rfl,rfl⟩;go_wp2_with fail;refine VW.mono ?_;rintro e w'⟨rfl,rfl⟩;go_wp2_with fail;refine HZ.out.mono ?_;rintro e w3⟨rfl,hq⟩;have HQ:=Q0a hq;clear hq HZ;go_wp2_with fail
  (try go_ret2);exact HQ.out
end
theorem Z0D{t:TB}{k:Nat}(h:t.noneIn k=true):∀s,s<256->s/16=k->t.en s=none:=by
 intro s hs hk;unfold TB.noneIn at h;rw[J6g] at h;have:=h (s%16) (J3x.2 (J6h _ (by omega)));rw[show 16*k+s%16=s by omega] at this;exact Option.isNone_iff_eq_none.1 this
theorem Q9l{t:TB}{k:Nat}(hk:k<16)(h:t.noneIn k=false):∃s,s<256/\s/16=k/\t.en s≠none:=by
 unfold TB.noneIn at h;rw[List.all_eq_false] at h;obtain⟨j,hj,hn⟩:=h;have:=J3x.1 hj;refine⟨16*k+j,by omega,by omega,fun e=>hn ?_⟩;rw[e];rfl
section
variable {S:CO} {fr:List Nat} {N K:Nat} {tb:Nat->TB} {own:Int} {xl xn:List Nat}
theorem Q9m(ok:S.Ok fr N K){i:Nat}{p:Pl}(hi:S.l[i]?=some p)(h1:p.st=1):∃e,find S.P.q.E (p.fac:Int)=some e:=ok.inv.tre.fac p (J5p hi) (Pl.is_iff.2 (.inl h1))
theorem TPX.paid(ok:S.Ok fr N K)(t:TPX S tb own xl xn){e:En Fa}(he:find S.P.q.E own=some e):256*(xl.length:Int)+48*(xn.length:Int)<=e.q.charged:=by
 have h1:=ok.inv.tre.charged own e he;have h2:=t.xc own;rw[if_pos rfl] at h2;have h3:=Z5V S.l tb own;have h4:=Q7b S.l own;omega
theorem Z3l(ok:S.Ok fr N K)(t:TPX S tb own xl xn){i s:Nat}{p:Pl}(hi:S.l[i]?=some p)(h1:p.st=1)(h2:p.kind=2)(An:(p.fac:Int)=own)(hs:s<256){e:Ent}(he:(tb i).en s=some e){w:World}{g:Nat}(A6:Sep w S.hl)(hg:TblC S p g w) :
  Calls prog 173 #[.pointer (some ⟨g,0,none⟩),.int .i64 s] w fun r w'=>r=.returned (.int .i64 0)/\Put1 S fr N K tb own xl (e.nd::xn) i s none w w':=by
 have Ar:=Q1C ok.inv.len hi;have T:=t.tt ok hi h1 h2 A6 hg;have hl:(tb i).lf (s/16)≠0:=fun h=>by
  have:=T.tin.hole s hs h;rw[he] at this;cases this
 have hL:=t.leaf Ar (by omega:s/16<16) hl;have hm:=Q0k ok.inv.mem.pool hL;have hb:=Q0g ok.inv.mem.pool;have c0:=hg.c0;have kg:=Q4o T (s:Int);rw[show(tb i).at' (s:Int)=some e by unfold TB.at';rw[if_pos ⟨by omega,by omega⟩,J4g,he]] at kg;have km:=Q5p w (s:Int);rw[decide_eq_true (show 0<=(s:Int)/\(s:Int)<256 from⟨by omega,by omega⟩)] at km;have kl:=Q4n T s hs;have ka:=Q0s (CO.sP A6);have ks:=Q3b w ((tb i).lf (s/16)) s (by omega) hs;have CB:((e.nd::xn)++((tb i).setE s none).nds).Perm (xn++(tb i).nds):=by
  refine List.Perm.trans ?_ (J5S xn (TB.nds_clr hs he).symm);exact J6F.symm
 have Bc:∃p∈S.l,p.st=1/\(p.fac:Int)=own:=⟨p,J5p hi,h1,An⟩
 have HX:Hid (Calls prog 57 #[.pointer (some ⟨S.P.a.a,0,none⟩),.int .i64 (((tb i).lf (s/16)+16*(s%16):Nat):Int),.slice (some ⟨w.heap.size,0,none⟩) 2 2] (w.alloc (.cells #[.int .u64 0,.int .u64 0] 83)) fun r w2 =>
   r=.returned (.int .i64 0)/\w2.cell? ⟨g,0,none⟩=some (.pointer (some ⟨S.P.p,0,none⟩))/\∃b:Bool,Calls prog 215 #[.pointer (some ⟨g,0,none⟩),.int .i64 (((tb i).lf (s/16):Nat):Int)] w2 (fun r w'=>r=.returned (.bool b)/\w2=w') /\
    ((b=false/\Put1 S fr N K tb own xl (e.nd::xn) i s none w w2) ∨
     (b=true/\Calls prog 50 #[.pointer (some ⟨S.P.p,0,none⟩)] w2 (fun r w'=>r=.returned (.pointer (some ⟨S.P.a.a,0,none⟩))/\w2=w') /\
     Calls prog 179 #[.pointer (some ⟨g,0,none⟩),.int .i64 s] w2 (fun r w'=>r=.returned (.int .i64 ((p.at_+8*(s/16):Nat):Int))/\w2=w') /\
     Calls prog 57 #[.pointer (some ⟨S.P.a.a,0,none⟩),.int .i64 ((p.at_+8*(s/16):Nat):Int),.slice (some ⟨w2.heap.size,0,none⟩) 1 1] (w2.alloc (.cells #[.int .u64 0] 83)) (fun r w3=>r=.returned (.int .i64 0)/\(w3.cell? ⟨g,0,none⟩=some (.pointer (some ⟨S.P.p,0,none⟩))/\w3.cell? ⟨g,1,none⟩=some (.int .i64 (p.fac:Int))) /\
      Calls prog 21 #[.pointer (some ⟨S.P.p,0,none⟩),.int .i64 (p.fac:Int),.int .i64 7,.int .i64 (((tb i).lf (s/16):Nat):Int)] w3.drew (fun r w4=>r=.returned (.int .i64 0)/\(w4.cell? ⟨g,0,none⟩=some (.pointer (some ⟨S.P.p,0,none⟩))/\w4.cell? ⟨g,1,none⟩=some (.int .i64 (p.fac:Int)))/\Put1 S fr N K tb own xl (e.nd::xn) i s none w w4))))):=by
  refine(Q3N (o:=none) ok t hi h1 h2 An hs hl CB (by decide) (by decide) A6).mono ?_;rintro r w2⟨rfl,S2,ok2,t2,al2,st2⟩;have BB:=hg.alt al2 st2;have c2:=BB.c0;rw[al2.same.p] at c2;have DQ:S2.l[i]?=some p:=by rw[al2.l];exact hi
  have T2:=t2.tt ok2 DQ h1 h2 st2.sep BB;rw[updT_same] at T2;have ke:=Z3k T2 (s/16) (by omega) hl;refine⟨rfl,c2,((tb i).setE s none).noneIn (s/16),ke,?_⟩;cases Aw:((tb i).setE s none).noneIn (s/16) with
  | false =>
   refine .inl ⟨rfl,S2,_,ok2,t2,fun _=>rfl,fun hf k hk h0=>?_,fun _=>.inr (.inr rfl),al2,st2⟩;by_cases DT:k=s/16
   ·rw[DT];exact Q9l (by omega) Aw
   ·obtain⟨x,hx,e1,e2⟩:=hf k hk h0;refine⟨x,hx,e1,?_⟩;show(if x=s then none else(tb i).en x)≠none;rw[if_neg (fun h=>DT (by rw[<- e1,h]))];exact e2
  | true =>
   have Iy:=Q0s (CO.sP st2.sep);rw[al2.same.aa,al2.same.p] at Iy;refine .inr ⟨rfl,Iy,Q5Y T2 s hs,?_⟩;have K6:(((tb i).lf (s/16)::xl)++((updT tb i ((tb i).setE s none) i).setL (s/16) 0).lvs).Perm (xl++(updT tb i ((tb i).setE s none) i).lvs):=by
    rw[updT_same];refine List.Perm.trans ?_ (J5S xl (TB.lvs_drop (t:=(tb i).setE s none) (k:=s/16) (by omega) hl).symm);exact J6F.symm
   have kr:=Q7n (L:=0) ok2 t2 DQ h1 h2 An (by omega:s/16<16) (by omega) K6 (.inr ⟨rfl,fun x hx Pp=>by rw[updT_same];exact Z0D Aw x hx Pp⟩) st2.sep;rw[al2.same.aa] at kr;refine kr.mono ?_;rintro r w3⟨rfl,S3,ok3,t3,al3,st3⟩;rw[updT_same,Q0V] at t3;have al23:=al2.trans al3;have st23:=st2.trans st3;have K1:=hg.alt al23 st23;have c3:=K1.c0;rw[al23.same.p] at c3;refine⟨rfl,⟨c3,K1.c1⟩,?_⟩;have Vm:S3.l[i]?=some p:=by rw[al23.l];exact hi
   obtain⟨ac,FB⟩:=Q9m ok3 Vm h1;rw[An] at FB ⊢;have Mr:=t3.paid ok3 FB;rw[J3O,J3O] at Mr;obtain⟨c,hc⟩:=PL.cls ok3.inv.mem.pool (by omega:1<=7) (by omega);have SH:(tb i).lf (s/16)∈S3.P.usedOf 7:=t3.lvs.mem_iff.1 (by simp);have Uc:=Q0k ok3.inv.mem.pool SH;have Am:=Q0g ok3.inv.mem.pool;have kp:=Q4d (CO.sP st3.sep.drew) ok3.inv.mem.pool own FB 7 (by rw[Q2C];omega) c hc ((tb i).lf (s/16)) (by rw[<- Q0P hc];exact SH) (by omega);rw[al23.same.p] at kp;refine kp.mono ?_;rintro r w4⟨rfl,P',g7,st⟩;have NL:∃p∈S3.l,p.st=1/\(p.fac:Int)=own:=by rw[al23.l];exact Bc
   obtain⟨ok4,t4⟩:=TPX.put (xl:=xl) (xn:=e.nd::xn) ok3 (.inr rfl) (by rw[if_pos rfl,if_neg (by decide)];exact t3) g7 NL;have al4:=Alt.put ok3 g7;have st4:Step S3.hl (S3.paid P' own (-((Q0e 7:Nat):Int))).hl w3 w4:=(CO.stepPaid st3.sep.drew P' own _ g7.p st).from_drew;have alz:=al23.trans al4;have stz:=st23.trans st4;have Oo:=hg.alt alz stz;have c4:=Oo.c0;rw[alz.same.p] at c4;have SR:=Oo.c1;rw[An] at SR;refine⟨rfl,⟨c4,SR⟩,_,_,ok4,t4,fun _=>rfl,fun hf k hk h0=>?_,fun k=>?_,alz,stz⟩
   rotate_left
   ·by_cases DT:k=s/16
    ·refine .inr (.inl ?_);show(if k=s/16 then 0 else(tb i).lf k)=0;rw[if_pos DT]
    ·refine .inr (.inr ?_);show(if k=s/16 then 0 else(tb i).lf k)=_;rw[if_neg DT]
   have D1:(if k=s/16 then 0 else(tb i).lf k)≠0:=h0;have DT:k≠s/16:=fun h=>D1 (by rw[if_pos h])
   rw[if_neg DT] at D1;obtain⟨x,hx,e1,e2⟩:=hf k hk D1;refine⟨x,hx,e1,?_⟩;show(if x=s then none else(tb i).en x)≠none;rw[if_neg (fun h=>DT (by rw[<- e1,h]))];exact e2
 have Df:Q0t (some e)≠0:=fun h=>by simpa using codeA_zero.1 h
 have Ac:(((Q0t (some e):Nat):Int)==0)=false:=by simpa using Df
 generalize Put1 S fr N K tb own xl (e.nd::xn) i s none w=Q at *
 unfold getV at kg;unfold ptr at *
 generalize Q0t (some e)=x at *
 generalize Q0T (some e)=y at *
 generalize ((tb i).lf (s/16)+16*(s%16):Nat)=v at *
 generalize (tb i).lf (s/16)=L at *
 generalize (p.at_+8*(s/16):Nat)=u at *
 generalize (p.fac:Int)=fa at *
 clear ok t hi T CB A6 hg An h1 h2 hl Df Bc hL hm;go_enter func173,ntmps173;go_wp2_with fail;refine kg.mono ?_;rintro e w'⟨rfl,rfl⟩;go_wp2_with fail;refine km.mono ?_;rintro e w'⟨rfl,rfl⟩;go_wp2_with fail;refine kl.mono ?_;rintro e w'⟨rfl,rfl⟩;go_wp2_with fail;refine ka.mono ?_;rintro e w'⟨rfl,rfl⟩;go_wp2_with fail;refine ks.mono ?_;rintro e w'⟨rfl,rfl⟩;go_wp2_with fail;refine HX.out.mono ?_;rintro e w2⟨rfl,c2,b,ke,hy⟩;have HY:=Q0a hy;clear hy HX;go_wp2_with fail;refine ke.mono ?_;rintro e w'⟨rfl,rfl⟩;rcases HY.out with ⟨rfl,hy⟩|⟨rfl,Iy,kr,hy⟩
 ·have HZ:=Q0a hy;clear hy HY;go_wp2_with fail
  (try go_ret);exact⟨rfl,HZ.out⟩
 ·have HZ:=Q0a hy;clear hy HY;go_wp2_with fail;refine Iy.mono ?_;rintro e w'⟨rfl,rfl⟩;go_wp2_with fail;refine kr.mono ?_;rintro e w'⟨rfl,rfl⟩;go_wp2_with fail;refine HZ.out.mono ?_;rintro e w3⟨rfl,⟨c3,Sr⟩,hp⟩;have d3:w3.drew.cell? ⟨g,0,none⟩=some (.pointer (some ⟨S.P.p,0,none⟩)):=c3;have d31:w3.drew.cell? ⟨g,1,none⟩=some (.int .i64 fa):=Sr;have HP:=Q0a hp;clear hp HZ ke Iy kr;go_wp2_with fail
  go_region_held3 (fun w'=>w'.cell? ⟨g,0,none⟩=some (.pointer (some ⟨S.P.p,0,none⟩))/\w'.cell? ⟨g,1,none⟩=some (.int .i64 fa)) (first|exact⟨c3,Sr⟩|exact⟨d3,d31⟩|exact Ap)
   (first|(go_at_call 21;refine HP.out.mono ?_;rintro r w4⟨rfl,Ap,hq⟩;have HQ:=Q0a hq;clear hq HP))
  go_wp2_with fail
  (try go_ret);exact⟨rfl,HQ.out⟩
end
def OutI(w wr:World)(v:Value)(L:List Int):Prop:=wr.ownsRow w.heap.size 3 1 v L.length (L.map encI)/\Below w.heap.size w wr
theorem OutI.nil(w:World):OutI w w (.slice none 0 0) []:=⟨World.ownsRow_nil _ _ _ _,Below.refl _ _⟩
theorem OutI.below{w wr w1:World}{v:Value}{L:List Int}(h:OutI w wr v L)(hb:Below wr.heap.size wr w1):OutI w w1 v L:=
 ⟨h.1.kept (row:=none) ⟨hb.os,hb.tape,hb.output,hb.size,fun k hk _=>hb.block k hk⟩ (by cases hv:v.ownBlock with|none=>exact .inl rfl|some b=>exact .inr (by simp)),h.2.trans (hb.mono h.2.size)⟩
theorem OutI.app{w wr:World}{v:Value}{L:List Int}(h:OutI w wr v L)(hl:L.length<=16777216)(x:Int)(ty:TypeId):∃v' w',(Builtin.append_ #[38,38] ty #[v,.slice (some ⟨wr.heap.size,0,none⟩) 1 1]).run prog (wr.alloc (.cells #[.int .i64 x] 3))=.ok v' w'/\OutI w w' v' (L++[x]):=by
 obtain⟨i0,hi,Bu,AT,Bk⟩:=info_parts Z0B;have h2:=h.below ((Below.refl _ _).alloc (J3h _) (.cells #[.int .i64 x] 3));obtain⟨v',w',hr,q1,q2,_,q4⟩:=run_append_own_at (P:=prog) (wr.alloc (.cells #[.int .i64 x] 3)) w.heap.size 38 ty 3 i0 (.int .i64 0) 1 8 underlying38 hi Bu AT Bk rfl (by decide) v L.length (L.map encI) h2.1 ⟨wr.heap.size,0,none⟩ 1 1 [.int .i64 x] rfl (by
  intro j u hj;have:=(Cells.new wr 3 [.int .i64 x]).cell j u hj;have e:(⟨wr.heap.size,0,none⟩:Addr).add j=⟨wr.heap.size,j,none⟩:=by unfold Addr.add;split <;> simp_all
  rw[e];exact this) (fun u hu=>by rw[J5i.1 hu];rfl) (by unfold maxLen;omega) (by omega) h2.2.size
 refine⟨v',w',hr,?_,?_⟩
 ·rw[J3N,J6E];exact q1
 ·exact h2.2.trans ((Below.refl _ _).mono h2.2.size |>.grown q2 h2.2.size (fun b hb=>(h2.1.lt b hb).1))
def J1r(w:World)(L:List Int)(r:Ending)(w':World):Prop:=∃v,r=.returned v/\w'.ownsRow w.heap.size 3 1 v L.length (L.map encI)/\Below w.heap.size w w'
section
variable {w:World} {S:CO} {t:TB} {p:Pl} {g:Nat}
end
theorem J1s{w:World}{S:CO}{fr:List Nat}{N K:Nat}(hs:Sep w S.hl)(ok:S.Ok fr N K){p:Pl}(hu:p.at_∈S.P.usedOf 2):Calls prog 169 #[.pointer (some ⟨S.P.p,0,none⟩),.int .i64 (p.fac:Int),.int .i64 (p.at_:Int)] w fun r w'=>∃g:Nat,r=.returned (.pointer (some ⟨g,0,none⟩))/\Below w.heap.size w w'/\TblC S p g w'/\w.heap.size<=g:=by
 have hm:=Q0k ok.inv.mem.pool hu;have Dt:=Q0g ok.inv.mem.pool;have kh:=Q7S (CO.sP hs) ok.inv.mem.pool 2 (p.at_:Int) (by unfold Z5f;omega);have DS:S.P.has 2 (p.at_:Int)=true:=by
  unfold PL.has PL.usedI;rw[decide_eq_true_eq,if_pos (by omega),J4g];exact⟨by omega,hu⟩
 rw[DS] at kh;have HF:Hid (∀w1,Below w.heap.size w w1->(∃g:Nat,(Ending.returned (.pointer (some ⟨w1.heap.size,0,none⟩)):Ending)=.returned (.pointer (some ⟨g,0,none⟩))/\Below w.heap.size w (w1.alloc (.cells #[ptr S.P.p,.int .i64 (p.fac:Int),.int .i64 (p.at_:Int)] 277))/\TblC S p g (w1.alloc (.cells #[ptr S.P.p,.int .i64 (p.fac:Int),.int .i64 (p.at_:Int)] 277))/\w.heap.size<=g)):=fun w1 hb=>by
  refine⟨w1.heap.size,rfl,hb.alloc hb.size _,fun j v hj=>⟨w1.heap.size,rfl,fun hk=>?_,by simp,?_⟩,hb.size⟩
  ·have:=hs.lt hk;have:=hb.size;omega
  ·exact(Cells.new w1 277 [ptr S.P.p,.int .i64 (p.fac:Int),.int .i64 (p.at_:Int)]).cell j v hj
 unfold ptr at HF;clear hs ok hu hm Dt DS;go_enter func169,ntmps169;go_wp2_with fail;refine kh.mono ?_;rintro r w1⟨rfl,hb⟩;have HX:=Q0a (HF.out w1 hb);clear hb kh;go_wp2_with fail
 (try go_ret);exact HX.out
structure FO where
 f:Nat
 m:Nat
 o:Nat
 N:List (En Nd)
 next:Int
 kr:Int->RV
def Nd.cells(n:Nd)(rv:RV):List Value:=[.int .i64 n.sp,.int .i64 n.sl,.int .i64 n.par,lvOf rv n.ks.length]
def ndH(kr:Int->RV)(e:En Nd):HL:=(e.b,isC 285 (e.q.cells (kr e.id)))::rowH (kr e.id) 3 1 (e.q.ks.map encI)
def okv(N:List (En Nd)):SKV:=N.map fun e=>((e.q.sp,e.q.sl),.int .i64 e.id)
def isMS(kv:SKV):Obj->Prop:=isM (kv.map fun q=>(Q2i q.1,q.2))
def FO.head(q:FO):Nat×(Obj->Prop):=(q.f,isC 283 [.map (some q.m),.map (some q.o),.int .i64 q.next])
def FO.hl(q:FO):HL:=q.head::(q.m,isMI (kvs q.N))::(q.o,isMS (okv q.N))::q.N.flatMap (ndH q.kr)
structure FO.Ok(q:FO):Prop where
 n:NOk q.N q.next
 lim:q.next<1099511627776
 rv:∀e∈q.N,rvOk (q.kr e.id) e.q.ks.length
 few:q.N.length<=65536
theorem Z0E:WideMaps.KeyLaw prog 173:=deep_law (m:=2) (by omega) (by kernel_rfl) (by kernel_rfl) (by kernel_rfl)
theorem Q6a{p:Int×Int}(h1:0<=p.1)(h2:p.1<9223372036854775808)(h3:0<=p.2)(h4:p.2<9223372036854775808):Q1D prog 173 p:=by
 have hu:=underlying173;have hi:=underlying3;have hk:prog.keyType 173=true:=by kernel_rfl
 have hc:prog.cellsOf 173=2:=by kernel_rfl
 have Cd:prog.cellsOf 3=1:=by kernel_rfl
 obtain⟨m,hm⟩:∃m,prog.types.size=m+1:=⟨prog.types.size-1,by
  have:0<prog.types.size:=of_decide_eq_true (by kernel_rfl);omega⟩
 have e1:IntKind.i64.min = -9223372036854775808:=rfl;have e2:IntKind.i64.max=9223372036854775807:=rfl;have wa:(Lit.int .i64 p.1).wf=true:=by
  simp only[Lit.wf,J3C,decide_eq_true_eq,e1,e2];omega
 have wb:(Lit.int .i64 p.2).wf=true:=by
  simp only[Lit.wf,J3C,decide_eq_true_eq,e1,e2];omega
 unfold Q1D Q2i keyOf;simp only[hu];rw[if_pos (by simp[hk,Value.formed,hu,hc]),hm];unfold Program.keyLits;simp only[hu,Value.cells];rw[if_pos (by simp[hc])];exact⟨_,by simp[Program.keyLits,hi,wa,wb,Cd];rfl⟩
section
variable {w:World} {q:FO}
theorem FO.c(h:Sep w q.hl):Cells w q.f 283 [.map (some q.m),.map (some q.o),.int .i64 q.next]:=h.cells (by simp[FO.hl,FO.head])
theorem FO.c0(h:Sep w q.hl):w.cell? ⟨q.f,0,none⟩=some (.map (some q.m)):=(FO.c h).cell 0 _ rfl
theorem FO.c1(h:Sep w q.hl):w.cell? ⟨q.f,1,none⟩=some (.map (some q.o)):=(FO.c h).cell 1 _ rfl
theorem FO.c2(h:Sep w q.hl):w.cell? ⟨q.f,2,none⟩=some (.int .i64 q.next):=(FO.c h).cell 2 _ rfl
theorem FO.map(h:Sep w q.hl):Q0H w q.m (kvs q.N):=h.map (by simp[FO.hl,isMI])
theorem FO.omap(h:Sep w q.hl):Q2X w q.o (okv q.N):=h.map (by simp[FO.hl,isMS])
theorem FO.nd(h:Sep w q.hl){id:Int}{e:En Nd}(hf:find q.N id=some e):Cells w e.b 285 (e.q.cells (q.kr e.id)):=
 h.cells (by
  simp only[FO.hl,J3m];exact .inr (.inr (.inr (J3G.2 ⟨e,(Q0d hf).1,by simp[ndH]⟩))))
theorem Z1R(ok:q.Ok):(okv q.N).Pairwise (fun a b=>a.1≠b.1):=by
 unfold okv;rw[J3L];exact ok.n.spots
theorem Z1S(ok:q.Ok):∀p∈okv q.N,Q1D prog 173 p.1:=fun p hp=>by
 obtain⟨e,he,rfl⟩:=J3n.1 hp;have:=ok.n.sm e he;exact Q6a (by show 0<=e.q.sp;omega) (by show e.q.sp<_;omega) (by show 0<=e.q.sl;omega) (by show e.q.sl<_;omega)
end
def ownN(N:List (En Nd))(sp sl:Int):Int:=match N.find? fun e=>decide ((e.q.sp,e.q.sl)=(sp,sl)) with
 | some e=>e.id
 | none=>0
theorem Z6l(N:List (En Nd))(sp sl:Int):(Q3B (okv N) (sp,sl)).getD (.int .i64 0)=.int .i64 (ownN N sp sl):=by
 unfold Q3B okv ownN;rw[List.find?_map];cases h:List.find? ((fun q=>decide (q.1=(sp,sl))) ∘ fun(e:En Nd)=>((e.q.sp,e.q.sl),Value.int .i64 e.id)) N with
 | none =>
  have:N.find? (fun e=>decide ((e.q.sp,e.q.sl)=(sp,sl)))=none:=h;rw[this];rfl
 | some e =>
  have:N.find? (fun e=>decide ((e.q.sp,e.q.sl)=(sp,sl)))=some e:=h;rw[this];rfl
theorem Z6m{N:List (En Nd)}{next:Int}(ok:NOk N next){e:En Nd}(he:e∈N):ownN N e.q.sp e.q.sl=e.id:=by
 unfold ownN;cases h:N.find? fun x=>decide ((x.q.sp,x.q.sl)=(e.q.sp,e.q.sl)) with
 | none =>
  have:=J4U.1 h e he;simp at this
 | some x =>
  have hx:=J7k h;have hp:=J7l h;simp only[decide_eq_true_eq] at hp;simp only[Prod.mk.injEq] at hp;rw[Q4K ok hx he hp.1 hp.2]
theorem Q6b{N:List (En Nd)}{next:Int}(ok:NOk N next){sp sl:Int}:ownN N sp sl=0↔∀e∈N,(e.q.sp,e.q.sl)≠(sp,sl):=by
 unfold ownN;cases h:N.find? fun x=>decide ((x.q.sp,x.q.sl)=(sp,sl)) with
 | none =>
  simp only[true_iff];intro e he hc;have:=J4U.1 h e he;exact this (by simpa using hc)
 | some x =>
  have hx:=J7k h;have hp:=J7l h;simp only[decide_eq_true_eq] at hp;have:=ok.rng x hx
  constructor
  ·intro h0;have D1:x.id=0:=h0;omega
  ·intro A9;exact absurd hp (A9 x hx)
section
variable {w:World} {q:FO}
theorem Q9n(w:World):(zeroValue 278).run prog w=.ok (.pointer none) w:=by kernel_rfl
theorem FO.look_some(h:Sep w q.hl){id:Int}{e:En Nd}(hf:find q.N id=some e) :
  (Instr.lookup 280 (.map (some q.m)) (.int .i64 id) false).run prog w=.ok (.pointer (some ⟨e.b,0,none⟩)) w:=by
 rw[Q1b (FO.map h) id false (.pointer none) underlying280 underlying3 (Q9n w)];simp[Q5f,hf,ptr]
theorem FO.look_none(h:Sep w q.hl){id:Int}(hf:find q.N id=none) :
  (Instr.lookup 280 (.map (some q.m)) (.int .i64 id) false).run prog w=.ok (.pointer none) w:=by
 rw[Q1b (FO.map h) id false (.pointer none) underlying280 underlying3 (Q9n w)];simp[Q5f,hf]
theorem FO.look_own(h:Sep w q.hl)(ok:q.Ok){sp sl:Int}(hp:Q1D prog 173 (sp,sl)) :
  (Instr.lookup 281 (.map (some q.o)) (.agg #[.int .i64 sp,.int .i64 sl]) false).run prog w=.ok (.int .i64 (ownN q.N sp sl)) w:=by
 have:=Q5R (FO.omap h) Z0E (Z1R ok) (Z1S ok) hp false (.int .i64 0) underlying281 (Z1t w);rw[Z6l] at this;exact this
theorem Q3r(h:Sep w q.hl){id:Int}{e:En Nd}(hf:find q.N id=some e) :
  Calls prog 180 #[.pointer (some ⟨q.f,0,none⟩),.int .i64 id] w fun r w'=>r=.returned (.pointer (some ⟨e.b,0,none⟩))/\w=w':=by
 have h0:=FO.c0 h;have hl:=FO.look_some h hf;clear h hf;go_enter func180,ntmps180
 go_wp2
 go_ret;exact⟨rfl,rfl⟩
theorem Q5q(h:Sep w q.hl){id:Int}(hf:find q.N id=none) :
  Calls prog 180 #[.pointer (some ⟨q.f,0,none⟩),.int .i64 id] w fun r w'=>r=.returned (.pointer none)/\w=w':=by
 have h0:=FO.c0 h;have hl:=FO.look_none h hf;clear h hf;go_enter func180,ntmps180
 go_wp2
 go_ret;exact⟨rfl,rfl⟩
theorem Z6n(h:Sep w q.hl)(ok:q.Ok){sp sl:Int}(hp:Q1D prog 173 (sp,sl)) :
  Calls prog 161 #[.pointer (some ⟨q.f,0,none⟩),.int .i64 sp,.int .i64 sl] w fun r w'=>r=.returned (.int .i64 (ownN q.N sp sl))/\w=w':=by
 have h1:=FO.c1 h;have hl:=FO.look_own h ok hp;clear h hp ok;generalize ownN q.N sp sl=z at *
 go_enter func161,ntmps161
 go_wp2
 go_ret;exact⟨rfl,rfl⟩
theorem FO.nd0(h:Sep w q.hl){id:Int}{e:En Nd}(hf:find q.N id=some e):w.cell? ⟨e.b,0,none⟩=some (.int .i64 e.q.sp)/\w.cell? ⟨e.b,1,none⟩=some (.int .i64 e.q.sl)/\w.cell? ⟨e.b,2,none⟩=some (.int .i64 e.q.par)/\w.cell? ⟨e.b,3,none⟩=some (lvOf (q.kr e.id) e.q.ks.length):=by
 have k:=FO.nd h hf;exact⟨k.cell 0 _ rfl,k.cell 1 _ rfl,k.cell 2 _ rfl,k.cell 3 _ rfl⟩
theorem Z0F(h:Sep w q.hl){id:Int}(hf:find q.N id=none) :
  Calls prog 159 #[.pointer (some ⟨q.f,0,none⟩),.int .i64 id] w fun r w'=>r=.returned (.tuple #[.int .i64 0,.int .i64 0,.bool false])/\w=w':=by
 have k:=Q5q h hf;clear h hf;go_enter func159,ntmps159;go_wp2_with (go_at_call 180;refine k.mono ?_;rintro e w'⟨rfl,rfl⟩)
 go_ret3
 exact⟨rfl,rfl⟩
theorem Z0G(h:Sep w q.hl){id:Int}{e:En Nd}(hf:find q.N id=some e) :
  Calls prog 159 #[.pointer (some ⟨q.f,0,none⟩),.int .i64 id] w fun r w'=>r=.returned (.tuple #[.int .i64 e.q.sp,.int .i64 e.q.sl,.bool true])/\Below w.heap.size w w':=by
 have k:=Q3r h hf;obtain⟨c0,c1,c2,-⟩:=FO.nd0 h hf;have hb:∀m,Below w.heap.size w (w.drewN m):=fun m=>by first|exact(Below.refl _ _).drewN|exact Below.drewN (Below.refl _ _)|exact⟨rfl,rfl,rfl,J3h _,fun _ _=>rfl⟩
 clear h hf;go_enter func159,ntmps159;go_wp2_with (go_at_call 180;refine k.mono ?_;rintro e w'⟨rfl,rfl⟩)
 go_quiet (fail)
 go_wp2
 go_ret3
 exact⟨rfl,by first|exact hb _|exact(Below.refl _ _).drew⟩
end
theorem Z8W(f:En Nd->Nd)(N:List (En Nd)):kvs (mapE f N)=kvs N:=by
 unfold kvs mapE;rw[J5j];rfl
theorem Z8X{f:En Nd->Nd}{N:List (En Nd)}(h:∀c∈N,(f c).sp=c.q.sp/\(f c).sl=c.q.sl):okv (mapE f N)=okv N:=by
 unfold okv mapE;rw[J5j];exact J5k fun c hc=>by simp[(h c hc).1,(h c hc).2]
def FO.setN(q:FO)(id:Int)(n:Nd)(rv:RV):FO:={q with N:=mapE (fun c=>if c.id=id then n else c.q) q.N,kr:=fun j=>if j=id then rv else q.kr j}
theorem FO.split{q:FO}(Ai:q.N.Pairwise (fun a b=>a.id≠b.id)){id:Int}{e:En Nd}(hf:find q.N id=some e) :
  ∃R:HL,q.hl.Perm (((e.b,isC 285 (e.q.cells (q.kr id)))::rowH (q.kr id) 3 1 (e.q.ks.map encI))++R)/\∀(n:Nd) (rv:RV),n.sp=e.q.sp->n.sl=e.q.sl ->
   (q.setN id n rv).hl.Perm (((e.b,isC 285 (n.cells rv))::rowH rv 3 1 (n.ks.map encI))++R):=by
 obtain⟨he,hid⟩:=Q0d hf;obtain⟨A,B,hN⟩:=List.append_of_mem he;have hA:∀c∈A,c.id≠id:=fun c hc=>by
  rw[hN,J3P] at Ai;have:=Ai.2.2 c hc e (by simp);rw[hid] at this;exact this
 have hB:∀c∈B,c.id≠id:=fun c hc=>by
  rw[hN,J3P,J3H] at Ai;have:=Ai.2.1.1 c hc;rw[hid] at this;exact this.symm
 have mid:∀(X Y:HL) (h1 h2 h3:Nat×(Obj->Prop)) (Z:HL),(h1::h2::h3::(X++(Z++Y))).Perm (Z++(h1::h2::h3::(X++Y))):=fun X Y h1 h2 h3 Z=>by
  have e1:h1::h2::h3::(X++(Z++Y))=(h1::h2::h3::X)++(Z++Y):=by simp
  have e2:Z++(h1::h2::h3::(X++Y))=Z++((h1::h2::h3::X)++Y):=by simp
  rw[e1,e2,<- J4b,<- J4b];exact J5O Y J5P
 refine⟨q.head::(q.m,isMI (kvs q.N))::(q.o,isMS (okv q.N))::(A.flatMap (ndH q.kr)++B.flatMap (ndH q.kr)),?_,fun n rv h1 h2=>?_⟩
 ·unfold FO.hl;have:q.N.flatMap (ndH q.kr)=A.flatMap (ndH q.kr)++(ndH q.kr e++B.flatMap (ndH q.kr)):=by
   conv=>lhs;rw[hN]
   simp
  rw[this];refine(mid _ _ _ _ _ _).trans ?_;unfold ndH;rw[hid]
 ·have e1:kvs (q.setN id n rv).N=kvs q.N:=Z8W _ _;have e2:okv (q.setN id n rv).N=okv q.N:=Z8X fun c hc=>by
   by_cases h:c.id=id
   ·rw[if_pos h];have:c=e:=by
     have:=Q0q Ai hc;rw[h,hf] at this;cases this;rfl
    subst this;exact⟨h1,h2⟩
   ·rw[if_neg h];exact⟨rfl,rfl⟩
  have e3:∀L:List (En Nd),(∀c∈L,c.id≠id)->(mapE (fun c=>if c.id=id then n else c.q) L).flatMap (ndH (q.setN id n rv).kr)=L.flatMap (ndH q.kr):=fun L hL=>by
   rw[Z0x (fun c hc=>if_neg (hL c hc))];unfold List.flatMap;congr 1;exact J5k fun c hc=>by
    unfold ndH FO.setN;simp only[if_neg (hL c hc)]
  have e4:(q.setN id n rv).N.flatMap (ndH (q.setN id n rv).kr)=A.flatMap (ndH q.kr)++(((e.b,isC 285 (n.cells rv))::rowH rv 3 1 (n.ks.map encI))++B.flatMap (ndH q.kr)):=by
   have:(q.setN id n rv).N=mapE (fun c=>if c.id=id then n else c.q) A++({e with q:=n}::mapE (fun c=>if c.id=id then n else c.q) B):=by
    show mapE _ q.N=_
    conv=>lhs;rw[hN]
    unfold mapE;have QK:(fun c:En Nd=>if c.id=id then n else c.q) e=n:=if_pos hid;rw[J6E,J3k,QK]
   rw[this,J3M,J3E,e3 A hA,e3 B hB];congr 2;unfold ndH FO.setN;simp only[hid,if_true]
  unfold FO.hl;rw[e1,e2,e4];exact mid _ _ _ _ _ _
def FO.app(q:FO)(b:Nat)(n:Nd):FO:={q with N:=q.N++[⟨q.next+1,b,n⟩],next:=q.next+1,kr:=fun j=>if j=q.next+1 then none else q.kr j}
theorem FO.new_none{q:FO}(ok:q.Ok):find q.N (q.next+1)=none:=by
 cases hf:find q.N (q.next+1) with
 | none=>rfl
 | some e =>
  obtain⟨e1,e2⟩:=Q0d hf;have:=ok.n.rng e e1;omega
theorem FO.appSteps{w:World}{q:FO}(h:Sep w q.hl)(ok:q.Ok){sp sl par:Int}(hp:Q1D prog 173 (sp,sl))(Aw:ownN q.N sp sl=0)(W1 W2:World)(Iu:W1=(w.setCell ⟨q.f,2,none⟩ (.int .i64 (q.next+1))).drew)(hW2:W2=W1.alloc (.cells #[.int .i64 sp,.int .i64 sl,.int .i64 par,.slice none 0 0] 285)) :
  ∃w3 w4,(Instr.mapUpdate 280 (.map (some q.m)) (.int .i64 (q.next+1)) (.pointer (some ⟨w.heap.size,0,none⟩))).run prog W2=.ok () w3 /\
   (Instr.mapUpdate 281 (.map (some q.o)) (.agg #[.int .i64 sp,.int .i64 sl]) (.int .i64 (q.next+1))).run prog w3.drew=.ok () w4 /\
   Step q.hl (q.app w.heap.size ⟨sp,sl,par,[]⟩).hl w w4 /\
   w3.cell? ⟨q.f,0,none⟩=some (.map (some q.m))/\w3.cell? ⟨q.f,1,none⟩=some (.map (some q.o))/\w3.cell? ⟨q.f,2,none⟩=some (.int .i64 (q.next+1)) /\
   W1.cell? ⟨q.f,0,none⟩=some (.map (some q.m))/\W1.cell? ⟨q.f,2,none⟩=some (.int .i64 (q.next+1)) /\
   W2.cell? ⟨q.f,0,none⟩=some (.map (some q.m))/\W2.cell? ⟨q.f,2,none⟩=some (.int .i64 (q.next+1)) /\
   (∀b i v,b∉keys q.hl->b<w.heap.size->w.cell? ⟨b,i,none⟩=some v->w3.cell? ⟨b,i,none⟩=some v/\w4.cell? ⟨b,i,none⟩=some v):=by
 have s1:Step q.hl ((q.f,isC 283 [.map (some q.m),.map (some q.o),.int .i64 (q.next+1)])::(q.m,isMI (kvs q.N))::(q.o,isMS (okv q.N))::q.N.flatMap (ndH q.kr)) w (w.setCell ⟨q.f,2,none⟩ (.int .i64 (q.next+1))):=Sep.set (A:=[]) (B:=(q.m,isMI (kvs q.N))::(q.o,isMS (okv q.N))::q.N.flatMap (ndH q.kr)) h 2 (.int .i64 (q.next+1));have s1d:=s1.drew;rw[<- Iu] at s1d;have Br:W1.heap.size=w.heap.size:=by rw[Iu];simp[World.setCell,World.drew]
 have s2:=s1d.sep.new 285 [.int .i64 sp,.int .i64 sl,.int .i64 par,.slice none 0 0];rw[Br] at s2;have s2':Step _ _ W1 W2:=hW2 ▸ s2;have m2:Q0H W2 q.m (kvs q.N):=s2'.sep.map (by simp[isMI]);obtain⟨w3,r3,m3,g3⟩:=Q1q m2 (q.next+1) (.pointer (some ⟨w.heap.size,0,none⟩)) underlying280 underlying3;obtain⟨es,Ah,ho,hr⟩:=m3;have s3:=Sep.turn (A:=[(w.heap.size,isC 285 [.int .i64 sp,.int .i64 sl,.int .i64 par,.slice none 0 0]),(q.f,isC 283 [.map (some q.m),.map (some q.o),.int .i64 (q.next+1)])]) (B:=(q.o,isMS (okv q.N))::q.N.flatMap (ndH q.kr)) (q':=isMI (put (kvs q.N) (q.next+1) (ptr w.heap.size))) s2'.sep g3 ⟨_,ho,es,Ah,rfl,hr⟩
 have s3d:=s3.drew;have m3':Q2X w3.drew q.o (okv q.N):=s3d.sep.map (by simp[isMS]);have Eo:Q3B (okv q.N) (sp,sl)=none:=by
  cases hl:Q3B (okv q.N) (sp,sl) with
  | none=>rfl
  | some v =>
   exfalso;unfold Q3B okv at hl;obtain⟨a,ha,_⟩:=J6V.1 hl;have h1:=J7k ha;have h2:=J7l ha;obtain⟨c,hc,rfl⟩:=J3n.1 h1;exact(Q6b ok.n).1 Aw c hc (by simpa using h2)
 obtain⟨w4,r4,m4,g4⟩:=Q4k m3' Z0E (Z1R ok) (Z1S ok) hp (.int .i64 (q.next+1)) Eo underlying281;obtain⟨es4,Fk,RR,L1⟩:=m4;have s4:=Sep.turn (A:=[(w.heap.size,isC 285 [.int .i64 sp,.int .i64 sl,.int .i64 par,.slice none 0 0]),(q.f,isC 283 [.map (some q.m),.map (some q.o),.int .i64 (q.next+1)]),(q.m,isMI (put (kvs q.N) (q.next+1) (ptr w.heap.size)))]) (B:=q.N.flatMap (ndH q.kr)) (q':=isMS (okv q.N++[((sp,sl),.int .i64 (q.next+1))])) s3d.sep g4 ⟨_,RR,es4,Fk,rfl,L1⟩;have t4:=((s1d.trans s2').trans s3d).trans s4;have t3:=(s1d.trans s2').trans s3;refine⟨w3,w4,r3,r4,?_,?_,?_,?_,?_,?_,?_,?_,fun b i v hb Aa hc=>?_⟩
 ·refine t4.perm (J6v _) ?_;have e1:kvs (q.N++[⟨q.next+1,w.heap.size,⟨sp,sl,par,[]⟩⟩])=put (kvs q.N) (q.next+1) (ptr w.heap.size):=(Z4u q.N (q.next+1) w.heap.size _ (FO.new_none ok)).symm;have e2:okv (q.N++[⟨q.next+1,w.heap.size,⟨sp,sl,par,[]⟩⟩])=okv q.N++[((sp,sl),.int .i64 (q.next+1))]:=by
   unfold okv;rw[J6E];rfl
  have e3:(q.N++[(⟨q.next+1,w.heap.size,⟨sp,sl,par,[]⟩⟩:En Nd)]).flatMap (ndH (q.app w.heap.size ⟨sp,sl,par,[]⟩).kr)=q.N.flatMap (ndH q.kr)++[(w.heap.size,isC 285 [.int .i64 sp,.int .i64 sl,.int .i64 par,.slice none 0 0])]:=by
   have a1:q.N.flatMap (ndH (q.app w.heap.size ⟨sp,sl,par,[]⟩).kr)=q.N.flatMap (ndH q.kr):=by
    rw[J7d,J7d];refine congrArg List.flatten (J5k fun c hc=>?_);have:=ok.n.rng c hc;have hk:(q.app w.heap.size ⟨sp,sl,par,[]⟩).kr c.id=q.kr c.id:=if_neg (by omega);unfold ndH;rw[hk]
   have a2:[(⟨q.next+1,w.heap.size,⟨sp,sl,par,[]⟩⟩:En Nd)].flatMap (ndH (q.app w.heap.size ⟨sp,sl,par,[]⟩).kr)=[(w.heap.size,isC 285 [.int .i64 sp,.int .i64 sl,.int .i64 par,.slice none 0 0])]:=by
    have hk:(q.app w.heap.size ⟨sp,sl,par,[]⟩).kr (q.next+1)=none:=if_pos rfl;rw[J3E,J7b,J5h];unfold ndH;rw[hk];rfl
   rw[J3M,a1,a2]
  unfold FO.hl FO.head;show List.Perm _ ((q.f,_)::(q.m,isMI (kvs (q.N++[_])))::(q.o,isMS (okv (q.N++[_])))::(q.N++[_]).flatMap _);rw[e1,e2,e3];exact(J6G _ ((q.f,isC 283 [.map (some q.m),.map (some q.o),.int .i64 (q.next+1)])::(q.m,isMI (put (kvs q.N) (q.next+1) (ptr w.heap.size)))::(q.o,isMS (okv q.N++[((sp,sl),.int .i64 (q.next+1))]))::q.N.flatMap (ndH q.kr))).symm
 ·exact(s3.sep.cells (b:=q.f) (T:=283) (cs:=[.map (some q.m),.map (some q.o),.int .i64 (q.next+1)]) (by simp)).cell 0 _ rfl
 ·exact(s3.sep.cells (b:=q.f) (T:=283) (cs:=[.map (some q.m),.map (some q.o),.int .i64 (q.next+1)]) (by simp)).cell 1 _ rfl
 ·exact(s3.sep.cells (b:=q.f) (T:=283) (cs:=[.map (some q.m),.map (some q.o),.int .i64 (q.next+1)]) (by simp)).cell 2 _ rfl
 ·exact(s1d.sep.cells (b:=q.f) (T:=283) (cs:=[.map (some q.m),.map (some q.o),.int .i64 (q.next+1)]) (by simp)).cell 0 _ rfl
 ·exact(s1d.sep.cells (b:=q.f) (T:=283) (cs:=[.map (some q.m),.map (some q.o),.int .i64 (q.next+1)]) (by simp)).cell 2 _ rfl
 ·exact(s2'.sep.cells (b:=q.f) (T:=283) (cs:=[.map (some q.m),.map (some q.o),.int .i64 (q.next+1)]) (by simp)).cell 0 _ rfl
 ·exact(s2'.sep.cells (b:=q.f) (T:=283) (cs:=[.map (some q.m),.map (some q.o),.int .i64 (q.next+1)]) (by simp)).cell 2 _ rfl
 ·exact⟨(World.cell?_of_block (t3.chg.block b Aa hb)).trans hc,(World.cell?_of_block (t4.chg.block b Aa hb)).trans hc⟩
end Go.Proofs.YtfidemmgofcnmaaGreatDoor
