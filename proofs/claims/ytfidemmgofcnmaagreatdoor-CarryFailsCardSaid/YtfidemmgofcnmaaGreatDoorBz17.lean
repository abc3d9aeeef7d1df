/- What the laws of spaces share is proved. No condition. Part of a proof. -/
import Derived.Test.YtfidemmgofcnmaaGreatDoorBz16
set_option maxHeartbeats 4000000
set_option maxRecDepth 100000
set_option linter.unusedVariables false
namespace Go.Proofs.YtfidemmgofcnmaaGreatDoor
open Go.RowKit Go.Proofs.Tryz
def J1u(Z:SP)(fr:List Nat)(N K:Nat)(own:Int)(i s:Nat)(o:Option Ent)(w w':World):Prop:=∃S' t',TurnP Z.S fr N K Z.tb own i s o S' t'/\Step Z.hl (Z.setS S' (updT Z.tb i t')).hl w w'
def WhyL(Z:SP)(fr:List Nat)(own:Int)(i s:Nat)(er:Int):Prop:=
 (er=5/\∃e,find Z.S.P.q.E own=some e/\Q0u e<48)∨(er=4/\NoRoom Z.S.P 6) ∨
 ∃a P1,GetOk Z.S.P fr own 6 a P1/\(Z.tb i).lf (s/16)=0/\((er=5/\∃e,find P1.q.E own=some e/\Q0u e<256)∨(er=4/\NoRoom P1 7))
def LayR(Z:SP)(fr:List Nat)(N K:Nat)(own:Int)(i s h r:Nat)(w:World)(er:Int)(w':World):Prop:=
 (er=0/\∃nd,J1u Z fr N K own i s (some ⟨h,r,nd⟩) w w')∨((er=4∨er=5)/\WhyL Z fr own i s er/\∃P',Tried Z.S.P fr Z.S.l P'/\Step Z.hl (Z.setS (Z.S.setP P') Z.tb).hl w w')
theorem Z1U{S:CO}{fr:List Nat}{N K:Nat}{tb:Nat->TB}{own:Int}{xl xn xn':List Nat}(ok:S.Ok fr N K)(t:TPX S tb own xl xn){i s:Nat}{p:Pl}(hi:S.l[i]?=some p)(h1:p.st=1)(h2:p.kind=2)(An:(p.fac:Int)=own)(hs:s<256){e:Ent}(hn:(xn'++((tb i).setE s (some e)).nds).Perm (xn++(tb i).nds))
  (hA:Q0t (some e)<18446744073709551616) (hB:Q0T (some e)<18446744073709551616) {w:World} {g:Nat} (A6:Sep w S.hl) (hg:TblC S p g w) :
  Calls prog 103 #[.pointer (some ⟨g,0,none⟩),.int .i64 s,.int .u64 (Q0t (some e):Nat),.int .u64 (Q0T (some e):Nat)] w (SetR S fr N K tb own xl xn' i s (some e) w):=by
 by_cases hl:(tb i).lf (s/16)=0
 ·obtain⟨ac,FB⟩:=Q9m ok hi h1;rw[An] at FB;exact Z8V ok t hi h1 h2 An hs hl FB hn hA hB A6 hg
 ·exact Z8U ok t hi h1 h2 An hs hl hn hA hB A6 hg
theorem Put1.turn{S:CO}{fr:List Nat}{N K:Nat}{tb:Nat->TB}{own:Int}{i s:Nat}{o:Option Ent}{w w':World}(h:Put1 S fr N K tb own [] [] i s o w w')(hf:∀j,j<256->(tb j).Full):J2u S fr N K tb own i s o w w':=by
 obtain⟨S',t',ok,t,en,full,lf,al,st⟩:=h;refine⟨S',t',⟨ok,t.done fun j hj=>?_,en,lf,al⟩,st⟩;by_cases e:j=i
 ·subst e;rw[updT_same];exact full (hf j hj)
 ·rw[Q0x e];exact hf j hj
theorem TurnP.after{S S1:CO}{fr:List Nat}{N K:Nat}{tb:Nat->TB}{own:Int}{i s:Nat}{o:Option Ent}{S':CO}{t':TB}(al:Alt S S1 own)(h:TurnP S1 fr N K tb own i s o S' t'):TurnP S fr N K tb own i s o S' t':=⟨h.ok,h.tpi,h.en,h.lf,al.trans h.alt⟩
structure BoxL(Z:SP)(g x f h r B:Nat)(w:World):Prop where
 x:AsideV Z.hl [.pointer (some ⟨g,0,none⟩),.int .u32 x,.int .i64 f] (some ⟨B,0,none⟩) w
 c:AsideV Z.hl [.int .u32 h,.int .i64 r] (some ⟨B+1,0,none⟩) w
theorem BoxL.step{Z Z':SP}{g x f h r B:Nat}{w w':World}(b:BoxL Z g x f h r B w)(st:Step Z.hl Z'.hl w w'):BoxL Z' g x f h r B w':=⟨b.x.step st,b.c.step st⟩
theorem AsideV.at{H:HL}{cs:List Value}{b:Nat}{w:World}(h:AsideV H cs (some ⟨b,0,none⟩) w)(j:Nat)(v:Value)(hj:cs[j]?=some v):w.cell? ⟨b,j,none⟩=some v:=by
 obtain⟨g,e,_,_,hc⟩:=h j v hj;cases e;exact hc
def HeldL(Z:SP)(g f h r B:Nat)(w':World):Prop:=w'.cell? ⟨Z.s,0,none⟩=some (.pointer (some ⟨Z.S.c,0,none⟩))/\w'.cell? ⟨B,0,none⟩=some (.pointer (some ⟨g,0,none⟩))/\w'.cell? ⟨B,2,none⟩=some (.int .i64 f)/\w'.cell? ⟨B+1,0,none⟩=some (.int .u32 h)/\w'.cell? ⟨B+1,1,none⟩=some (.int .i64 r)
theorem BoxL.held{Z:SP}{g x f h r B:Nat}{w:World}(b:BoxL Z g x f h r B w)(hs:Sep w Z.hl):HeldL Z g f h r B w:=⟨SP.c0 hs,b.x.at 0 _ rfl,b.x.at 2 _ rfl,b.c.at 0 _ rfl,b.c.at 1 _ rfl⟩
theorem HeldL.grown{Z:SP}{g f h r B:Nat}{w w':World}(b:HeldL Z g f h r B w)(hb:Below w.heap.size w w'):HeldL Z g f h r B w':=by
 obtain⟨a1,a2,a3,a4,a5⟩:=b;have k:∀{p:Addr} {v:Value},w.cell? p=some v->w'.cell? p=some v:=fun {p v} e=>(hb.cell (World.block_lt_of_cell? w p e)).trans e
 exact⟨k a1,k a2,k a3,k a4,k a5⟩
theorem Z6s{w w1:World}{Z:SP}{fr:List Nat}{N K:Nat}(hs:Sep w Z.hl)(hb:Below w.heap.size w w1)(ok:Z.S.Ok fr N K)(t:TPI Z.S Z.tb){i s x g B h r:Nat}{p:Pl}(hi:Z.S.l[i]?=some p)(h1:p.st=1)(h2:p.kind=2)(AC:s<256)(h0:(Z.tb i).en s=none)(hh:h<4294967295)(hr:r<16)
  (hg:TblZ Z p g w1) (DD:BoxL Z g x p.fac h r B w1) :
  Calls prog 15 #[.pointer (some ⟨Z.S.P.p,0,none⟩),.int .i64 (p.fac:Int),.int .i64 6] w1 fun rv w2=>HeldL Z g p.fac h r B w2/\∃a er:Int,rv=.returned (.tuple #[.int .i64 a,.int .i64 er]) /\
   (((er=4∨er=5)/\LayR Z fr N K p.fac i s h r w er w2) ∨
    ∃A:Nat,a=(A:Int)/\er=0/\A<=1073741824/\∀w3,Below w2.heap.size w2 w3 ->
    Calls prog 103 #[.pointer (some ⟨g,0,none⟩),.int .i64 s,.int .u64 ((⟨h,r,0⟩:Ent).a:Nat),.int .u64 A] w3 fun rv w4=>HeldL Z g p.fac h r B w4/\∃er:Int,rv=.returned (.int .i64 er) /\
     ((er=0/\LayR Z fr N K p.fac i s h r w 0 w4)∨((er=4∨er=5)/\∀w5,Below w4.heap.size w4 w5 ->
      Calls prog 27 #[.pointer (some ⟨Z.S.c,0,none⟩)] w5 (fun r w'=>r=.returned (.pointer (some ⟨Z.S.P.p,0,none⟩))/\w5=w') /\
      Calls prog 21 #[.pointer (some ⟨Z.S.P.p,0,none⟩),.int .i64 (p.fac:Int),.int .i64 6,.int .i64 A] w5 fun rv w6=>rv=.returned (.int .i64 0)/\HeldL Z g p.fac h r B w6/\LayR Z fr N K p.fac i s h r w er w6))):=by
 have s1:=(hs.grown hb).sep;have OU:Q1a 6=48:=costs_67.1;have Bc:∃q∈Z.S.l,q.st=1/\(q.fac:Int)=(p.fac:Int):=⟨p,J5p hi,h1,rfl⟩
 have Ar:=Q1C ok.inv.len hi;refine(Q5k (CO.sP (SP.sS s1)) ok.inv.mem.pool (p.fac:Int) 6).mono ?_;rintro rv w2 Nc;have zstep:∀{P':PL},P'.p=Z.S.P.p->Step Z.S.P.hl P'.hl w1 w2->Step Z.hl (Z.setS (Z.S.setP P') Z.tb).hl w w2:=fun {P'} e st=>(hs.grown hb).trans (SP.stepS s1 _ _ rfl (CO.stepP (SP.sS s1) P' e st))
 rcases Nc with ⟨D1,_⟩|⟨_,Aw,_⟩|⟨_,⟨e,he,Au⟩,rfl,st⟩|⟨n,ac,hk,UT,WE,FB,R7,PS⟩
 ·rw[OU] at D1;omega
 ·obtain⟨e,he⟩:=Q9m ok hi h1;rw[Aw] at he;cases he
 ·have st':=zstep rfl st;refine⟨(DD.step (SP.stepS s1 _ _ rfl (CO.stepP (SP.sS s1) Z.S.P rfl st))).held st'.sep,0,5,rfl,.inl ⟨.inr rfl,.inr ⟨.inr rfl,.inl ⟨rfl,e,he,?_⟩,Z.S.P,Tried.refl ok.inv.mem.pool _,st'⟩⟩⟩;rw[OU] at Au;exact Au
 ·obtain rfl:n=6:=by omega
  rcases PS with ⟨A,P1,rfl,g6,st⟩|⟨Aw,rfl,st⟩
  ·have GP:Step Z.hl (Z.setS (Z.S.setP P1) Z.tb).hl w w2:=zstep g6.p st;obtain⟨ok1,t1⟩:=TPX.got ok (t.x (p.fac:Int)) (.inl rfl) g6 Bc;rw[if_neg (by decide),if_pos rfl] at t1;have al1:=Alt.got ok g6;have st1:Step Z.hl (Z.setS (Z.S.paid P1 (p.fac:Int) ((Q0e 6:Nat):Int)) Z.tb).hl w w2:=GP;have SI:A∈P1.usedOf 6:=by
    obtain⟨X,Y,_,e2⟩:=g6.used;rw[e2];simp
   have Vg:=Q0k ok1.inv.mem.pool SI;have NQ:=Q0g ok1.inv.mem.pool;have WC:A+Q0e 6<=P1.a.mem.length:=Vg.1;have R4:P1.a.mem.length<=1073741824:=NQ;have Db:BoxL (Z.setS (Z.S.paid P1 (p.fac:Int) ((Q0e 6:Nat):Int)) Z.tb) g x p.fac h r B w2:=DD.step (Z':=Z.setS (Z.S.paid P1 (p.fac:Int) ((Q0e 6:Nat):Int)) Z.tb) (SP.stepS s1 _ _ rfl (CO.stepP (SP.sS s1) P1 g6.p st));have BS:TblZ (Z.setS (Z.S.paid P1 (p.fac:Int) ((Q0e 6:Nat):Int)) Z.tb) p g w2:=hg.step (Z':=Z.setS (Z.S.paid P1 (p.fac:Int) ((Q0e 6:Nat):Int)) Z.tb) (SP.stepS s1 _ _ rfl (CO.stepP (SP.sS s1) P1 g6.p st)) g6.p;refine⟨Db.held st1.sep,(A:Int),0,rfl,.inr ⟨A,rfl,rfl,by omega,fun w3 Am=>?_⟩⟩
   have st3:=st1.trans (st1.sep.grown Am);have K1:=(BS.grown st1.sep Am).c;have II:=Db.step (st1.sep.grown Am);have CB:([]++((Z.tb i).setE s (some ⟨h,r,A⟩)).nds).Perm ([A]++(Z.tb i).nds):=TB.nds_set AC (e:=⟨h,r,A⟩) h0;have Qe:Q0t (some (⟨h,r,A⟩:Ent))<18446744073709551616:=by
    show h+1+4294967296*r<_;omega
   refine(Z1U ok1 t1 (show(Z.S.paid P1 (p.fac:Int) ((Q0e 6:Nat):Int)).l[i]?=some p from hi) h1 h2 rfl AC CB Qe (by show A<_;omega) (SP.sS st3.sep) K1).mono ?_;rintro rv w4 (⟨rfl,B7⟩|⟨EW,st,FZ⟩)
   ·obtain⟨S',t',T,stt⟩:=B7.turn t.full;have T0:=T.after al1;have stz:Step Z.hl (Z.setS S' (updT Z.tb i t')).hl w w4:=st3.trans (SP.stepS st3.sep S' (updT Z.tb i t') (T.alt.c) stt);refine⟨?_,0,rfl,.inl ⟨rfl,.inl ⟨rfl,A,S',t',T0,stz⟩⟩⟩;have Av:=II.step (SP.stepS st3.sep S' (updT Z.tb i t') T.alt.c stt);have:=Av.held stz.sep;exact⟨by rw[<- T0.alt.c];exact this.1,this.2⟩
   ·have st4:Step Z.hl (Z.setS (Z.S.paid P1 (p.fac:Int) ((Q0e 6:Nat):Int)) Z.tb).hl w w4:=st3.trans (SP.stepS st3.sep _ _ rfl st);have Nz:=II.step (SP.stepS st3.sep (Z.S.paid P1 (p.fac:Int) ((Q0e 6:Nat):Int)) Z.tb rfl st);have Aj:∃er:Int,rv=.returned (.int .i64 er)/\(er=4∨er=5)/\WhyL Z fr p.fac i s er:=by
     rcases FZ with ⟨Aw,rfl⟩|⟨⟨e,he,Au⟩,rfl⟩
     ·exact⟨4,rfl,.inl rfl,.inr (.inr ⟨A,P1,g6,EW,.inr ⟨rfl,Aw⟩⟩)⟩
     ·exact⟨5,rfl,.inr rfl,.inr (.inr ⟨A,P1,g6,EW,.inl ⟨rfl,e,he,Au⟩⟩)⟩
    obtain⟨er,rfl,Cv,hw⟩:=Aj;refine⟨Nz.held st4.sep,er,rfl,.inr ⟨Cv,fun w5 As=>?_⟩⟩;have st5:=st4.trans (st4.sep.grown As);have Rg:=Nz.step (st4.sep.grown As);have km:=Q0S (SP.sS st5.sep);have KV:(Z.S.paid P1 (p.fac:Int) ((Q0e 6:Nat):Int)).P.p=Z.S.P.p:=g6.p;refine⟨?_,?_⟩
    ·have:=km;rw[show((Z.setS (Z.S.paid P1 (p.fac:Int) ((Q0e 6:Nat):Int)) Z.tb).S.P.p)=Z.S.P.p from g6.p] at this;exact this
    obtain⟨ac1,GC⟩:=Q9m ok1 (show(Z.S.paid P1 (p.fac:Int) ((Q0e 6:Nat):Int)).l[i]?=some p from hi) h1;have Mr:=t1.paid ok1 GC;rw[J5A,J6Z] at Mr;obtain⟨c,hc⟩:=PL.cls ok1.inv.mem.pool (by omega:1<=6) (by omega);have kp:=Q4d (CO.sP (SP.sS st5.sep)) ok1.inv.mem.pool (p.fac:Int) GC 6 (by rw[Q4H];omega) c hc A (by rw[<- Q0P hc];exact SI) (by omega);rw[show((Z.setS (Z.S.paid P1 (p.fac:Int) ((Q0e 6:Nat):Int)) Z.tb).S.P.p)=Z.S.P.p from g6.p] at kp;refine kp.mono ?_;rintro rv w6⟨rfl,P2,b6,stp⟩;have tr:Tried Z.S.P fr Z.S.l P2:=(g6.gotM ok.inv.mem.pool).back ok.inv.mem (b6.backM ok1.inv.mem.pool)
    have stz:Step Z.hl (Z.setS (Z.S.setP P2) Z.tb).hl w w6:=st5.trans (SP.stepS st5.sep _ _ rfl (CO.stepP (SP.sS st5.sep) P2 b6.p stp));have Ih:=Rg.step (Z':=Z.setS (Z.S.setP P2) Z.tb) (SP.stepS st5.sep _ _ rfl (CO.stepP (SP.sS st5.sep) P2 b6.p stp));exact⟨rfl,Ih.held stz.sep,.inr ⟨Cv,hw,P2,tr,stz⟩⟩
  ·have st':=zstep rfl st;exact⟨(DD.step (SP.stepS s1 _ _ rfl (CO.stepP (SP.sS s1) Z.S.P rfl st))).held st'.sep,0,4,rfl,.inl ⟨.inl rfl,.inr ⟨.inl rfl,.inr (.inl ⟨rfl,Aw⟩),Z.S.P,Tried.refl ok.inv.mem.pool _,st'⟩⟩⟩
theorem Q6d(w:World)(h r:Nat)(hh:h<4294967295)(hr:r<16):Calls prog 104 #[.agg #[.int .u32 h,.int .i64 r]] w (Told w (.int .u64 ((⟨h,r,0⟩:Ent).a:Nat))):=by
 have hn:=Z9b h r hh hr;have hA:=Cells.new w 72 [.int .u32 h,.int .i64 r];have a0:=hA.cell 0 _ rfl;have a1:=hA.cell 1 _ rfl;have hb:Below w.heap.size w (w.alloc (.cells #[.int .u32 h,.int .i64 r] 72)):=(Below.refl _ _).alloc (J3h _) _;have HB:=Q0a hb;have UR:(0:Int)<=(h:Int)/\(h:Int)<4294967295:=by omega
 have G6:(0:Int)<=(r:Int)/\(r:Int)<16:=by omega
 obtain⟨q1,q2⟩:=UR;obtain⟨q3,q4⟩:=G6;generalize ((⟨h,r,0⟩:Ent).a:Nat)=z at *
 clear hA hb hh hr;go_enter func104,ntmps104;go_wp2_with fail
 (try go_ret);exact⟨rfl,HB.out⟩
theorem Q8h{w:World}{Z:SP}{fr:List Nat}{N K:Nat}(hs:Sep w Z.hl)(ok:Z.S.Ok fr N K)(t:TPI Z.S Z.tb){i s x g h r:Nat}{p:Pl}(hi:Z.S.l[i]?=some p)(h1:p.st=1)(h2:p.kind=2)(AC:s<256)(h0:(Z.tb i).en s=none)(hh:h<4294967295)(hr:r<16)(hg:TblZ Z p g w) :
  Calls prog 98 #[.pointer (some ⟨Z.s,0,none⟩),.agg #[.pointer (some ⟨g,0,none⟩),.int .u32 x,.int .i64 (p.fac:Int)],.int .i64 s,.agg #[.int .u32 h,.int .i64 r]] w fun rv w'=>∃er:Int,rv=.returned (.int .i64 er)/\LayR Z fr N K p.fac i s h r w er w':=by
 have hb:Below w.heap.size w ((w.alloc (.cells #[.pointer (some ⟨g,0,none⟩),.int .u32 x,.int .i64 (p.fac:Int)] 191)).alloc (.cells #[.int .u32 h,.int .i64 r] 72)):=((Below.refl _ _).alloc (J3h _) _).alloc (by simp) _;have DD:BoxL Z g x p.fac h r w.heap.size ((w.alloc (.cells #[.pointer (some ⟨g,0,none⟩),.int .u32 x,.int .i64 (p.fac:Int)] 191)).alloc (.cells #[.int .u32 h,.int .i64 r] 72)):=by
  refine⟨fun j v hj=>⟨w.heap.size,rfl,fun hk=>by have:=hs.lt hk;omega,by simp;omega,?_⟩,fun j v hj=>⟨w.heap.size+1,rfl,fun hk=>by have:=hs.lt hk;omega,by simp,?_⟩⟩
  ·exact((Cells.new w 191 [.pointer (some ⟨g,0,none⟩),.int .u32 x,.int .i64 (p.fac:Int)]).alloc _).cell j v hj
  ·have:=(Cells.new (w.alloc (.cells #[.pointer (some ⟨g,0,none⟩),.int .u32 x,.int .i64 (p.fac:Int)] 191)) 72 [.int .u32 h,.int .i64 r]).cell j v hj
   simpa using this
 have Ls:Hid (∀w1,Below ((w.alloc (.cells #[.pointer (some ⟨g,0,none⟩),.int .u32 x,.int .i64 (p.fac:Int)] 191)).alloc (.cells #[.int .u32 h,.int .i64 r] 72)).heap.size ((w.alloc (.cells #[.pointer (some ⟨g,0,none⟩),.int .u32 x,.int .i64 (p.fac:Int)] 191)).alloc (.cells #[.int .u32 h,.int .i64 r] 72)) w1->HeldL Z g p.fac h r w.heap.size w1/\Calls prog 27 #[.pointer (some ⟨Z.S.c,0,none⟩)] w1 (fun r w'=>r=.returned (.pointer (some ⟨Z.S.P.p,0,none⟩))/\w1=w')/\_):=fun w1 Aq=>by
  have Al:Below w.heap.size w w1:=hb.trans (Aq.mono (by simp;omega));have s0:=(hs.grown hb).sep;have Db:=DD.step (s0.grown Aq);have s1:=(hs.grown Al).sep;exact⟨Db.held s1,Q0S (SP.sS s1),Z6s hs Al ok t hi h1 h2 AC h0 hh hr (hg.grown hs Al) Db⟩
 have Dp:=(Ls.out _ (Below.refl _ _)).1;have DO:=(Ls.out _ ((Below.refl _ _).drew)).1;have DX:=(Ls.out _ ((Below.refl _ _).drew)).2.1;have Di:=(Ls.out _ ((Below.refl _ _).drew)).2.2;have Cm:=Q0a Di;have Ju:Hid (∀w,Calls prog 104 #[.agg #[.int .u32 h,.int .i64 r]] w (Told w (.int .u64 ((⟨h,r,0⟩:Ent).a:Nat)))):=fun w=>Q6d w h r hh hr
 clear Ls DD hb hs ok t hi h1 h2 h0 hg Di;generalize LayR Z fr N K p.fac i s h r w=Q at *
 unfold HeldL at Dp DO;go_enter func98,ntmps98;go_wp2_with fail
 go_region_held3 (fun w'=>w'.cell? ⟨Z.s,0,none⟩=some (.pointer (some ⟨Z.S.c,0,none⟩))/\w'.cell? ⟨w.heap.size,0,none⟩=some (.pointer (some ⟨g,0,none⟩))/\w'.cell? ⟨w.heap.size,2,none⟩=some (.int .i64 (p.fac:Int))/\w'.cell? ⟨w.heap.size+1,0,none⟩=some (.int .u32 h)/\w'.cell? ⟨w.heap.size+1,1,none⟩=some (.int .i64 r)) (first|exact Dp|exact DO|exact Ap)
  (first|(go_at_call 27;refine DX.mono ?_;rintro r w'⟨rfl,rfl⟩)|(go_at_call 15;refine Cm.out.mono ?_;rintro r w2⟨Ap,a,er,rfl,hy⟩;have HY:=Q0a hy;clear hy Cm))
 rcases HY.out with ⟨Cv,hq⟩|⟨A,rfl,rfl,hA,hy⟩
 ·have HQ:=Q0a hq;clear hq HY Dp DO DX Ju Ap;rcases Cv with rfl|rfl
  all_goals
   go_wp2_with fail
   (try go_ret);exact⟨_,rfl,HQ.out⟩
 ·have HS:=Q0a hy;have LK:(0:Int)<=(A:Int):=by omega
  have SB:(A:Int)<=1073741824:=by omega
  have QO:IntKind.u64.wrap (A:Int)=(A:Int):=by rw[IntKind.wrap_u64];omega
  have MQ:IntKind.i64.wrap (A:Int)=(A:Int):=Go.IntWalk.i64_in _ (by omega);have Fv:HeldL Z g p.fac h r w.heap.size w2.drew:=Ap;generalize ((⟨h,r,0⟩:Ent).a:Nat)=za at *
  clear hy HY Dp DO DX hA;unfold HeldL at Ap Fv;go_wp2_with fail
  go_region_held3 (fun w'=>w'.cell? ⟨Z.s,0,none⟩=some (.pointer (some ⟨Z.S.c,0,none⟩))/\w'.cell? ⟨w.heap.size,0,none⟩=some (.pointer (some ⟨g,0,none⟩))/\w'.cell? ⟨w.heap.size,2,none⟩=some (.int .i64 (p.fac:Int))/\w'.cell? ⟨w.heap.size+1,0,none⟩=some (.int .u32 h)/\w'.cell? ⟨w.heap.size+1,1,none⟩=some (.int .i64 r)) (first|exact Ap|exact Fv|exact Dg|exact Bf)
   (first|(go_at_call 104;refine(Ju.out _).mono ?_;rintro r w3⟨rfl,Am⟩;have Dg:=HeldL.grown Fv Am;have DC:=Q0a Am;clear Am Ju)|(go_at_call 103;refine(HS.out _ (((Below.refl w2.heap.size w2).drew).trans DC.out)).mono ?_;rintro r w4⟨Bf,er,rfl,hz⟩;have HZ:=Q0a hz;clear hz HS))
  rcases HZ.out with ⟨rfl,hq⟩|⟨Cv,hy⟩
  ·have HQ:=Q0a hq;clear hq HZ Ap Fv Dg Bf;go_wp2_with fail
   (try go_ret);exact⟨_,rfl,HQ.out⟩
  ·have MJ:HeldL Z g p.fac h r w.heap.size w4.drew:=Bf;have DX:=(hy _ ((Below.refl _ _).drew)).1;have HP:=Q0a (hy _ ((Below.refl _ _).drew)).2;have Ib:(er==0)=false:=by rcases Cv with rfl|rfl <;> rfl
   clear hy HZ Ap Fv Dg Cv;unfold HeldL at Bf MJ;go_wp2_with fail
   go_region_held3 (fun w'=>w'.cell? ⟨Z.s,0,none⟩=some (.pointer (some ⟨Z.S.c,0,none⟩))/\w'.cell? ⟨w.heap.size,0,none⟩=some (.pointer (some ⟨g,0,none⟩))/\w'.cell? ⟨w.heap.size,2,none⟩=some (.int .i64 (p.fac:Int))/\w'.cell? ⟨w.heap.size+1,0,none⟩=some (.int .u32 h)/\w'.cell? ⟨w.heap.size+1,1,none⟩=some (.int .i64 r)) (first|exact Bf|exact MJ|exact OU)
    (first|(go_at_call 27;refine DX.mono ?_;rintro r w'⟨rfl,rfl⟩)|(go_at_call 21;refine HP.out.mono ?_;rintro r w6⟨rfl,OU,hq⟩;have HQ:=Q0a hq;clear hq HP))
   go_wp2_with fail
   (try go_ret);exact⟨_,rfl,HQ.out⟩
def Z6t(Z:SP)(g f B:Nat)(w':World):Prop:=w'.cell? ⟨Z.s,0,none⟩=some (.pointer (some ⟨Z.S.c,0,none⟩))/\w'.cell? ⟨B,0,none⟩=some (.pointer (some ⟨g,0,none⟩))/\w'.cell? ⟨B,2,none⟩=some (.int .i64 f)
theorem Z3m{w w1:World}{Z:SP}{fr:List Nat}{N K:Nat}(hs:Sep w Z.hl)(hb:Below w.heap.size w w1)(ok:Z.S.Ok fr N K)(t:TPI Z.S Z.tb){i s x g B:Nat}{p:Pl}{e:Ent}(hi:Z.S.l[i]?=some p)(h1:p.st=1)(h2:p.kind=2)(AC:s<256)(he:(Z.tb i).en s=some e)
  (hg:TblZ Z p g w1) (DD:AsideV Z.hl [.pointer (some ⟨g,0,none⟩),.int .u32 x,.int .i64 (p.fac:Int)] (some ⟨B,0,none⟩) w1) :
  Calls prog 173 #[.pointer (some ⟨g,0,none⟩),.int .i64 s] w1 fun rv w2=>rv=.returned (.int .i64 0)/\Z6t Z g p.fac B w2/\e.nd<=1073741824/\∀w3,Below w2.heap.size w2 w3 ->
   Calls prog 27 #[.pointer (some ⟨Z.S.c,0,none⟩)] w3 (fun r w'=>r=.returned (.pointer (some ⟨Z.S.P.p,0,none⟩))/\w3=w') /\
   Calls prog 21 #[.pointer (some ⟨Z.S.P.p,0,none⟩),.int .i64 (p.fac:Int),.int .i64 6,.int .i64 (e.nd:Int)] w3 fun rv w4=>rv=.returned (.int .i64 0)/\Z6t Z g p.fac B w4/\J1u Z fr N K p.fac i s none w w4:=by
 have s1:=(hs.grown hb).sep;have Bc:∃q∈Z.S.l,q.st=1/\(q.fac:Int)=(p.fac:Int):=⟨p,J5p hi,h1,rfl⟩
 have Ar:=Q1C ok.inv.len hi;refine(Z3l ok (t.x (p.fac:Int)) hi h1 h2 rfl AC he (SP.sS s1) hg.c).mono ?_;rintro rv w2⟨rfl,S1,t',ok1,t1,en,full,lf,al,st⟩;have st1z:=SP.stepS s1 S1 (updT Z.tb i t') al.c st;have st1:Step Z.hl (Z.setS S1 (updT Z.tb i t')).hl w w2:=(hs.grown hb).trans st1z;have Db:=AsideV.step DD st1z;have OL:e.nd∈S1.P.usedOf 6:=t1.nds.mem_iff.1 (by simp);have hm:=Q0k ok1.inv.mem.pool OL;have NQ:=Q0g ok1.inv.mem.pool;have Dp:∀{w3:World} {Z':SP},Z'.s=Z.s->Z'.S.c=Z.S.c->Sep w3 Z'.hl->AsideV Z'.hl [.pointer (some ⟨g,0,none⟩),.int .u32 x,.int .i64 (p.fac:Int)] (some ⟨B,0,none⟩) w3->Z6t Z g p.fac B w3:=fun {w3 Z'} e1 e2 hz hx=>by
  have:=SP.c0 hz;rw[e1,e2] at this;exact⟨this,hx.at 0 _ rfl,hx.at 2 _ rfl⟩
 refine⟨rfl,Dp (Z':=Z.setS S1 (updT Z.tb i t')) rfl al.c st1.sep Db,by omega,fun w3 Am=>?_⟩;have st3:=st1.trans (st1.sep.grown Am);have II:=AsideV.step Db (st1.sep.grown Am);have GX:S1.l[i]?=some p:=by rw[al.l];exact hi
 have km:=Q0S (SP.sS st3.sep);have KV:(Z.setS S1 (updT Z.tb i t')).S.P.p=Z.S.P.p:=al.same.p;have A7:(Z.setS S1 (updT Z.tb i t')).S.c=Z.S.c:=al.c;rw[KV,A7] at km;refine⟨km,?_⟩;obtain⟨ac1,GC⟩:=Q9m ok1 GX h1;have Mr:=t1.paid ok1 GC;rw[J5A,J6Z] at Mr;obtain⟨c,hc⟩:=PL.cls ok1.inv.mem.pool (by omega:1<=6) (by omega);have kp:=Q4d (CO.sP (SP.sS st3.sep)) ok1.inv.mem.pool (p.fac:Int) GC 6 (by rw[Q4H];omega) c hc e.nd (by rw[<- Q0P hc];exact OL) (by omega);rw[KV] at kp;refine kp.mono ?_;rintro rv w4⟨rfl,P2,b6,stp⟩;have MY:∃q∈S1.l,q.st=1/\(q.fac:Int)=(p.fac:Int):=by rw[al.l];exact Bc
 obtain⟨ok2,t2⟩:=TPX.put (xl:=[]) (xn:=[]) ok1 (.inl rfl) (by rw[if_neg (by decide),if_pos rfl];exact t1) b6 MY;have al2:=al.trans (Alt.put ok1 b6);have stz:Step (Z.setS S1 (updT Z.tb i t')).hl ((Z.setS S1 (updT Z.tb i t')).setS (S1.paid P2 (p.fac:Int) (-((Q0e 6:Nat):Int))) (updT Z.tb i t')).hl w3 w4:=SP.stepS st3.sep _ _ rfl (CO.stepPaid (SP.sS st3.sep) P2 (p.fac:Int) _ b6.p stp);have stf:Step Z.hl (Z.setS (S1.paid P2 (p.fac:Int) (-((Q0e 6:Nat):Int))) (updT Z.tb i t')).hl w w4:=st3.trans stz;refine⟨rfl,Dp (Z':=Z.setS (S1.paid P2 (p.fac:Int) (-((Q0e 6:Nat):Int))) (updT Z.tb i t')) rfl al2.c stf.sep (AsideV.step II stz),_,t',⟨ok2,t2.done fun j hj=>?_,en,lf,al2⟩,stf⟩
 by_cases ej:j=i
 ·subst ej;rw[updT_same];exact full (t.full j hj)
 ·rw[Q0x ej];exact t.full j hj
theorem Q4q{w:World}{Z:SP}{fr:List Nat}{N K:Nat}(hs:Sep w Z.hl)(ok:Z.S.Ok fr N K)(t:TPI Z.S Z.tb){i s x g:Nat}{p:Pl}{e:Ent}(hi:Z.S.l[i]?=some p)(h1:p.st=1)(h2:p.kind=2)(AC:s<256)(he:(Z.tb i).en s=some e)(hg:TblZ Z p g w) :
  Calls prog 99 #[.pointer (some ⟨Z.s,0,none⟩),.agg #[.pointer (some ⟨g,0,none⟩),.int .u32 x,.int .i64 (p.fac:Int)],.int .i64 s] w fun rv w'=>rv=.returned (.tuple #[])/\J1u Z fr N K p.fac i s none w w':=by
 have hb:Below w.heap.size w (w.alloc (.cells #[.pointer (some ⟨g,0,none⟩),.int .u32 x,.int .i64 (p.fac:Int)] 191)):=(Below.refl _ _).alloc (J3h _) _;have DD:AsideV Z.hl [.pointer (some ⟨g,0,none⟩),.int .u32 x,.int .i64 (p.fac:Int)] (some ⟨w.heap.size,0,none⟩) (w.alloc (.cells #[.pointer (some ⟨g,0,none⟩),.int .u32 x,.int .i64 (p.fac:Int)] 191)):=fun j v hj=>⟨w.heap.size,rfl,fun hk=>by have:=hs.lt hk;omega,by simp,(Cells.new w 191 [.pointer (some ⟨g,0,none⟩),.int .u32 x,.int .i64 (p.fac:Int)]).cell j v hj⟩
 have T1:=(t.x (p.fac:Int)).tt ok hi h1 h2 (SP.sS (hs.grown hb).sep) (hg.grown hs hb).c;have kg:=Q4o T1 (s:Int);rw[show(Z.tb i).at' (s:Int)=some e by unfold TB.at';rw[if_pos ⟨by omega,by omega⟩,J4g,he]] at kg;have kc:=Z3m hs hb ok t hi h1 h2 AC he (hg.grown hs hb) DD;have HK:=Q0a kc;have b0:=DD.at 0 _ rfl;unfold getV Q0T at kg;generalize Q0t (some e)=ca at *
 clear hb hs ok t hi h1 h2 he hg T1 kc DD;go_enter func99,ntmps99;go_wp2_with fail;refine kg.mono ?_;rintro r w1⟨rfl,rfl⟩;go_wp2_with fail;refine HK.out.mono ?_;rintro r w2⟨rfl,Ap,AP,hy⟩;have DX:=(hy _ ((Below.refl _ _).drew)).1;have HP:=Q0a (hy _ ((Below.refl _ _).drew)).2;clear hy HK kg;have GU:Z6t Z g p.fac w.heap.size w2.drew:=Ap;generalize e.nd=nd at *
 have Em:(0:Int)<=(nd:Int)/\(nd:Int)<=1073741824:=by omega
 obtain⟨n0,n1⟩:=Em;have QO:IntKind.u64.wrap (nd:Int)=(nd:Int):=by rw[IntKind.wrap_u64];omega
 have MQ:IntKind.i64.wrap (nd:Int)=(nd:Int):=Go.IntWalk.i64_in _ (by omega);unfold Z6t at Ap GU;go_wp2_with fail
 go_region_held3 (fun w'=>w'.cell? ⟨Z.s,0,none⟩=some (.pointer (some ⟨Z.S.c,0,none⟩))/\w'.cell? ⟨w.heap.size,0,none⟩=some (.pointer (some ⟨g,0,none⟩))/\w'.cell? ⟨w.heap.size,2,none⟩=some (.int .i64 (p.fac:Int))) (first|exact Ap|exact GU|exact Fj)
  (first|(go_at_call 27;refine DX.mono ?_;rintro r w'⟨rfl,rfl⟩)|(go_at_call 21;refine HP.out.mono ?_;rintro r w4⟨rfl,Fj,hq⟩;have HQ:=Q0a hq;clear hq HP))
 go_wp2_with fail
 first|exact⟨rfl,HQ.out⟩|(go_end0;exact⟨rfl,HQ.out⟩)
theorem J1v{N:List (En Nd)}(hs:N.Pairwise (fun a b=>(a.q.sp,a.q.sl)≠(b.q.sp,b.q.sl)))(Ai:N.Pairwise (fun a b=>a.id≠b.id)){id:Int}{e:En Nd}(hf:find N id=some e):delS (okv N) (e.q.sp,e.q.sl)=okv (rem N id):=by
 obtain⟨A,B,hN,_,hr⟩:=Q4z Ai hf;rw[hr];rw[hN,J3P,J3H] at hs;obtain⟨_,⟨hB,_⟩,hA⟩:=hs
 conv=>lhs;rw[hN]
 unfold delS okv;rw[J6E,J3k,J4Y,J7j,J6E];have a1:List.filter (fun q=>decide (q.1≠(e.q.sp,e.q.sl))) (A.map fun e=>((e.q.sp,e.q.sl),Value.int .i64 e.id))=A.map fun e=>((e.q.sp,e.q.sl),Value.int .i64 e.id):=by
  rw[J7e];intro x hx;obtain⟨c,hc,rfl⟩:=J3n.1 hx;show decide ((c.q.sp,c.q.sl)≠(e.q.sp,e.q.sl))=true;exact decide_eq_true (hA c hc e (by simp))
 have a2:List.filter (fun q=>decide (q.1≠(e.q.sp,e.q.sl))) (B.map fun e=>((e.q.sp,e.q.sl),Value.int .i64 e.id))=B.map fun e=>((e.q.sp,e.q.sl),Value.int .i64 e.id):=by
  rw[J7e];intro x hx;obtain⟨c,hc,rfl⟩:=J3n.1 hx;show decide ((c.q.sp,c.q.sl)≠(e.q.sp,e.q.sl))=true;exact decide_eq_true (hB c hc).symm
 rw[a1,a2,if_neg (by simp)]
def FO.cut(q:FO)(id:Int):FO:={q with N:=rem q.N id}
theorem FO.cut_perm{q:FO}(Ai:q.N.Pairwise (fun a b=>a.id≠b.id)){id:Int}{e:En Nd}(hf:find q.N id=some e) :
  (q.head::(q.m,isMI (kvs (rem q.N id)))::(q.o,isMS (okv (rem q.N id)))::q.N.flatMap (ndH q.kr)).Perm ((q.cut id).hl++ndH q.kr e):=by
 obtain⟨A,B,hN,_,hr⟩:=Q4z Ai hf;have e1:(q.cut id).hl=q.head::(q.m,isMI (kvs (rem q.N id)))::(q.o,isMS (okv (rem q.N id)))::(A.flatMap (ndH q.kr)++B.flatMap (ndH q.kr)):=by
  show q.head::(q.m,isMI (kvs (rem q.N id)))::(q.o,isMS (okv (rem q.N id)))::(rem q.N id).flatMap (ndH q.kr)=_;rw[hr,J3M]
 have e2:q.N.flatMap (ndH q.kr)=A.flatMap (ndH q.kr)++(ndH q.kr e++B.flatMap (ndH q.kr)):=by
  conv=>lhs;rw[hN]
  rw[J3M,J3E]
 rw[e1,e2];simp only[J5m];refine List.Perm.cons _ (List.Perm.cons _ (List.Perm.cons _ ?_));rw[J4b];exact J5S _ J5P
theorem FO.spots_ok{q:FO}(hn:∀e∈q.N,0<=e.q.sp/\e.q.sp<4294967296/\0<=e.q.sl/\e.q.sl<256):∀p∈okv q.N,Q1D prog 173 p.1:=fun p hp=>by
 obtain⟨c,hc,rfl⟩:=J3n.1 hp;obtain⟨h1,h2,h3,h4⟩:=hn c hc;exact Q6a (p:=(c.q.sp,c.q.sl)) h1 (by show c.q.sp<_;omega) h3 (by show c.q.sl<_;omega)
theorem FO.okv_nd{N:List (En Nd)}(hs:N.Pairwise (fun a b=>(a.q.sp,a.q.sl)≠(b.q.sp,b.q.sl))):(okv N).Pairwise (fun a b=>a.1≠b.1):=by
 unfold okv;exact J3L.2 hs
theorem FO.delSteps{w:World}{q:FO}(h:Sep w q.hl)(Ai:q.N.Pairwise (fun a b=>a.id≠b.id))(hs:q.N.Pairwise (fun a b=>(a.q.sp,a.q.sl)≠(b.q.sp,b.q.sl)))(hn:∀e∈q.N,0<=e.q.sp/\e.q.sp<4294967296/\0<=e.q.sl/\e.q.sl<256)
  {id:Int} {e:En Nd} (hf:find q.N id=some e) (t1 t2 t3 t4:TypeId) :
  ∃w3,(Builtin.delete_ #[280,t1] t2 #[.map (some q.m),.int .i64 id]).run prog w=.ok (.tuple #[]) w3/\Step q.hl (q.head::(q.m,isMI (kvs (rem q.N id)))::(q.o,isMS (okv q.N))::q.N.flatMap (ndH q.kr)) w w3 /\
   ∀w3',Below w3.heap.size w3 w3'->∃w4,(Builtin.delete_ #[281,t3] t4 #[.map (some q.o),.agg #[.int .i64 e.q.sp,.int .i64 e.q.sl]]).run prog w3'=.ok (.tuple #[]) w4/\Step q.hl ((q.cut id).hl++ndH q.kr e) w w4:=by
 obtain⟨BT,Fx⟩:=Q0d hf;obtain⟨w3,r3,m3,g3⟩:=Q3C (FO.map h) id t1 t2 underlying280 underlying3;rw[J0E] at m3;obtain⟨es,Ah,ho,hr⟩:=m3;have s3:=Sep.turn (A:=[q.head]) (B:=(q.o,isMS (okv q.N))::q.N.flatMap (ndH q.kr)) (q':=isMI (kvs (rem q.N id))) h g3 ⟨_,ho,es,Ah,rfl,hr⟩;refine⟨w3,r3,s3,fun w3' hb=>?_⟩;have s3':=s3.trans (s3.sep.grown hb);have m3':Q2X w3' q.o (okv q.N):=s3'.sep.map (by simp[isMS]);have Ii:=hn e BT;obtain⟨w4,r4,m4,g4⟩:=Q5S m3' Z0E (FO.okv_nd hs) (FO.spots_ok hn) (Q6a (p:=(e.q.sp,e.q.sl)) Ii.1 (by show e.q.sp<_;omega) Ii.2.2.1 (by show e.q.sl<_;omega)) t3 t4 underlying281
 rw[J1v hs Ai hf] at m4;obtain⟨es4,Fk,RR,L1⟩:=m4;have s4:=Sep.turn (A:=[q.head,(q.m,isMI (kvs (rem q.N id)))]) (B:=q.N.flatMap (ndH q.kr)) (q':=isMS (okv (rem q.N id))) s3'.sep g4 ⟨_,RR,es4,Fk,rfl,L1⟩;exact⟨w4,r4,(s3'.trans s4).perm (J6v _) (FO.cut_perm Ai hf)⟩
theorem Z1V(f:En Nd->Nd):∀(N:List (En Nd)) (id:Int),rem (mapE f N) id=mapE f (rem N id)
 | [],_=>rfl
 | c::r,id=>by
  show rem ({c with q:=f c}::mapE f r) id=mapE f (rem (c::r) id);unfold rem;show(if id=c.id then mapE f r else {c with q:=f c}::rem (mapE f r) id)=_;rw[Z1V f r id];split <;> rfl
theorem Q9o{N:List (En Nd)}(Ai:N.Pairwise (fun a b=>a.id≠b.id)){c p:En Nd}{id:Int}(hc:c∈N)(hi:c.id=id)(hp:find N id=some p):c=p:=by
 have:=Q0q Ai hc;rw[hi,hp] at this;exact(J3Y this).symm
def cutK(p:Nd)(id:Int):Nd:={p with ks:=p.ks.filter fun k=>decide (k≠id)}
theorem Z9f{N:List (En Nd)}(Ai:N.Pairwise (fun a b=>a.id≠b.id)){e p:En Nd}(hp:find N e.q.par=some p) :
  rem (mapE (fun c=>if c.id=e.q.par then cutK p.q e.id else c.q) N) e.id=Q0F N e 0:=by
 rw[Z1V];unfold Q0F;refine Q4I fun c hc=>?_
 have Wr:=Q7K hc;unfold Q0r;rw[J6C];by_cases h:c.id=e.q.par
 ·have:=Q9o Ai Wr h hp;subst this;simp[h,cutK]
 ·simp[h]
theorem Z6u{N:List (En Nd)}{e:En Nd}(h:∀c∈N,c.id≠e.q.par):rem N e.id=Q0F N e 0:=by
 unfold Q0F;rw[Z0x];intro c hc;have:=h c (Q7K hc);unfold Q0r;simp[this]
theorem Q6e{N:List (En Nd)}(Ai:N.Pairwise (fun a b=>a.id≠b.id))(e:En Nd)(j:Nat):(Q0F N e j).Pairwise (fun a b=>a.id≠b.id):=Q1S (fun _ _ h=>h) (Ai.sublist (Q3L N e.id))
theorem Q6f{N:List (En Nd)}(Ai:N.Pairwise (fun a b=>a.id≠b.id))(e:En Nd)(j:Nat)(id:Int):find (Q0F N e j) id=if id=e.id then none else(find N id).map fun c=>{c with q:=Q0r e j c}:=by
 unfold Q0F;rw[Q1n,Z1m Ai];split <;> rfl
theorem Z6v{N:List (En Nd)}(Ai:N.Pairwise (fun a b=>a.id≠b.id)){e:En Nd}{j:Nat}{k:Int}(hk:e.q.ks[j]?=some k)(AP:e.q.ks.Nodup){c p:En Nd}(hc:find (Q0F N e j) k=some c)(Ek:k≠e.q.par)
  (hp:find (mapE (fun d=>if d.id=k then {c.q with par:=e.q.par} else d.q) (Q0F N e j)) e.q.par=some p) :
  mapE (fun d=>if d.id=e.q.par then {p.q with ks:=p.q.ks++[k]} else d.q) (mapE (fun d=>if d.id=k then {c.q with par:=e.q.par} else d.q) (Q0F N e j))=Q0F N e (j+1):=by
 have C8:=Q6e Ai e j;obtain⟨Cp,Mq⟩:=Q0d hc;rw[Q5T];unfold Q0F at C8 hc hp Cp ⊢;rw[Q5T];refine Q4I fun d hd=>?_
 have AU:e.q.ks.take (j+1)=e.q.ks.take j++[k]:=by
  rw[J4X,hk];rfl
 have FU:({d with q:=Q0r e j d}:En Nd)∈mapE (Q0r e j) (rem N e.id):=J3n.2 ⟨d,hd,rfl⟩;by_cases h1:d.id=e.q.par
 ·have h2:d.id≠k:=fun h=>Ek (by rw[<- h,h1])
  have GH:p={d with q:=Q0r e j d}:=by
   have hx:find (mapE (fun d=>if d.id=k then {c.q with par:=e.q.par} else d.q) (mapE (Q0r e j) (rem N e.id))) d.id=some ({d with q:=Q0r e j d}:En Nd):=by
    rw[Q1n];have:=Q0q C8 FU;simp only at this;rw[this];simp only[J4P,if_neg h2]
   exact(J3Y (hx.symm.trans ((congrArg (find _) h1).trans hp))).symm
  simp only[h1,if_true];rw[GH];have h3:¬e.q.par=k:=fun h=>Ek h.symm
  unfold Q0r;simp only[h1,if_true,AU,J3Q,J5i,h3,or_false,J4b]
 ·simp only[h1,if_false];by_cases h2:d.id=k
  ·simp only[h2,if_true];have Fv:c={d with q:=Q0r e j d}:=Q9o C8 FU h2 hc |>.symm;rw[Fv];have h3:¬k=e.q.par:=Ek;unfold Q0r;simp only[h2,h3,if_false,AU,J3Q,J5i,or_true,if_true]
  ·simp only[h2,if_false];unfold Q0r;simp only[h1,if_false,AU,J3Q,J5i,h2,or_false]
theorem Z3n{N:List (En Nd)}(Ai:N.Pairwise (fun a b=>a.id≠b.id)){e:En Nd}{j:Nat}{k:Int}(hk:e.q.ks[j]?=some k){c:En Nd}(hc:find (Q0F N e j) k=some c)(Aw:∀d∈N,d.id≠e.q.par) :
  mapE (fun d=>if d.id=k then {c.q with par:=e.q.par} else d.q) (Q0F N e j)=Q0F N e (j+1):=by
 have C8:=Q6e Ai e j;unfold Q0F at C8 hc ⊢;rw[Q5T];refine Q4I fun d hd=>?_
 have AU:e.q.ks.take (j+1)=e.q.ks.take j++[k]:=by
  rw[J4X,hk];rfl
 have FU:({d with q:=Q0r e j d}:En Nd)∈mapE (Q0r e j) (rem N e.id):=J3n.2 ⟨d,hd,rfl⟩;have h1:=Aw d (Q7K hd);by_cases h2:d.id=k
 ·simp only[h2,if_true];have Fv:c={d with q:=Q0r e j d}:=Q9o C8 FU h2 hc |>.symm;rw[Fv];have h3:¬k=e.q.par:=h2 ▸ h1;unfold Q0r;simp only[h3,if_false,AU,J3Q,J5i,h2,or_true,if_true]
 ·simp only[h2,if_false];unfold Q0r;simp only[h1,if_false,AU,J3Q,J5i,h2,or_false]
structure Z3o(q:FO)(e:En Nd)(j:Nat)(F:FO):Prop where
 f:F.f=q.f
 m:F.m=q.m
 o:F.o=q.o
 N:F.N=Q0F q.N e j
 next:F.next=q.next
 rv:∀c∈F.N,rvOk (F.kr c.id) c.q.ks.length
theorem Z9g{N:List (En Nd)}{next:Int}(ok:NOk N next){a b:En Nd}(ha:a∈N)(hb:b∈N)(Ac:a.id≠b.id):a.q.ks.length+b.q.ks.length<=N.length:=by
 have AP:(a.q.ks++b.q.ks).Nodup:=by
  rw[J3U];refine⟨ok.nd a ha,ok.nd b hb,fun x hx y hy HU=>?_⟩;subst HU;obtain⟨c,hc,h1⟩:=ok.kids a ha x hx;obtain⟨d,hd,h2⟩:=ok.kids b hb x hy;rw[hc] at hd;cases hd;exact Ac (h1.symm.trans h2)
 have:=J7m AP (l₂:=N.map En.id) (fun k hk=>by
  rcases J3Q.1 hk with hk|hk
  ·obtain⟨c,hc,_⟩:=ok.kids a ha k hk;obtain⟨c1,c2⟩:=Q0d hc;exact J3n.2 ⟨c,c1,c2⟩
  ·obtain⟨c,hc,_⟩:=ok.kids b hb k hk;obtain⟨c1,c2⟩:=Q0d hc;exact J3n.2 ⟨c,c1,c2⟩)
 rwa [J3N,J4K] at this
theorem Z6w{F:FO}{id:Int}{c:En Nd}(Ai:F.N.Pairwise (fun a b=>a.id≠b.id))(hf:find F.N id=some c)(h:∀c∈F.N,rvOk (F.kr c.id) c.q.ks.length){n:Nd}{rv:RV}(hn:rvOk rv n.ks.length):∀d∈(F.setN id n rv).N,rvOk ((F.setN id n rv).kr d.id) d.q.ks.length:=fun d hd=>by
 obtain⟨d0,O8,rfl⟩:=Q1x (show d∈mapE _ F.N from hd);show rvOk (if d0.id=id then rv else F.kr d0.id) (if d0.id=id then n else d0.q).ks.length;split
 ·exact hn
 ·exact h d0 O8
theorem Q7p{wr:World}{q F:FO}{e:En Nd}{j:Nat}{k:Int}(ok:q.Ok)(he:find q.N e.id=some e)(L:Z3o q e j F)(hs:Sep wr (F.hl++ndH q.kr e))(hj:e.q.ks[j]?=some k) :
  ∃c,find F.N k=some c/\(wr.cell? ⟨F.f,0,none⟩=some (.map (some F.m))/\wr.cell? ⟨e.b,2,none⟩=some (.int .i64 e.q.par)/\wr.frozen? ⟨c.b,2,none⟩=false/\∃v,wr.cell? ⟨c.b,2,none⟩=some v) /\
   (Instr.lookup 280 (.map (some F.m)) (.int .i64 k) false).run prog wr=.ok (.pointer (some ⟨c.b,0,none⟩)) wr /\
   ((wr.setCell ⟨c.b,2,none⟩ (.int .i64 e.q.par)).cell? ⟨e.b,2,none⟩=some (.int .i64 e.q.par)) /\
   ∀W1,Below (wr.setCell ⟨c.b,2,none⟩ (.int .i64 e.q.par)).heap.size (wr.setCell ⟨c.b,2,none⟩ (.int .i64 e.q.par)) W1 ->
    (find q.N e.q.par=none->Calls prog 180 #[.pointer (some ⟨F.f,0,none⟩),.int .i64 e.q.par] W1 (fun r w'=>r=.returned (.pointer none)/\W1=w') /\
     ∃F',Z3o q e (j+1) F'/\Step (F.hl++ndH q.kr e) (F'.hl++ndH q.kr e) wr W1) /\
    (find q.N e.q.par≠none->∃(pb:Nat) (V:Value),Calls prog 180 #[.pointer (some ⟨F.f,0,none⟩),.int .i64 e.q.par] W1 (fun r w'=>r=.returned (.pointer (some ⟨pb,0,none⟩))/\W1=w')/\W1.cell? ⟨pb,3,none⟩=some V/\(∃a n c,V=.slice a n c) /\
     ∃(V':Value) (w':World),(Builtin.append_ #[38,38] 38 #[V,.slice (some ⟨W1.heap.size,0,none⟩) 1 1]).run prog (W1.alloc (.cells #[.int .i64 k] 3))=.ok V' w'/\(∃a n c,V'=.slice a n c)/\w'.cell? ⟨pb,3,none⟩=some V/\(∀i,w'.frozen? ⟨pb,i,none⟩=false) /\
      ∃F',Z3o q e (j+1) F'/\Step (F.hl++ndH q.kr e) (F'.hl++ndH q.kr e) wr (w'.setCell ⟨pb,3,none⟩ V')):=by
 obtain⟨BT,_⟩:=Q0d he;have Qm:k∈e.q.ks:=J5p hj;obtain⟨d,hd,EO⟩:=ok.n.kids e BT k Qm;obtain⟨FU,IC⟩:=Q0d hd;have G6:=ok.n.rise d FU;have Ei:=ok.n.rise e BT;have Xf:k≠e.id:=by omega
 have Ek:k≠e.q.par:=by omega
 have Hy:F.N.Pairwise (fun a b=>a.id≠b.id):=by rw[L.N];exact Q6e ok.n.ids e j
 have Gr:find F.N k=some {d with q:=Q0r e j d}:=by rw[L.N,Q6f ok.n.ids,if_neg Xf,hd];rfl
 generalize hc:({d with q:=Q0r e j d}:En Nd)=c at Gr;obtain⟨Cp,Mq⟩:=Q0d Gr;have Oy:=hs.left;have Gp:=hs.right;have AY:Cells wr e.b 285 (e.q.cells (q.kr e.id)):=Gp.cells (by simp[ndH]);obtain⟨R,p1,p2⟩:=FO.split Hy Gr;have A7:=(Oy.perm p1).cells (b:=c.b) (T:=285) (cs:=c.q.cells (F.kr k)) (by simp);have AR:=Sep.set (A:=[]) (B:=rowH (F.kr k) 3 1 (c.q.ks.map encI)++R) (Oy.perm p1) 2 (.int .i64 e.q.par);have Bi:(c.q.cells (F.kr k)).set 2 (.int .i64 e.q.par)=Nd.cells {c.q with par:=e.q.par} (F.kr k):=rfl;rw[Bi] at AR;have stF:Step F.hl (F.setN k {c.q with par:=e.q.par} (F.kr k)).hl wr (wr.setCell ⟨c.b,2,none⟩ (.int .i64 e.q.par)):=AR.perm p1.symm (p2 {c.q with par:=e.q.par} (F.kr k) rfl rfl).symm
 have st1:Step (F.hl++ndH q.kr e) ((F.setN k {c.q with par:=e.q.par} (F.kr k)).hl++ndH q.kr e) wr (wr.setCell ⟨c.b,2,none⟩ (.int .i64 e.q.par)):=by
  have:=Step.frame [] (ndH q.kr e) (by simpa using hs) stF
  simpa using this
 have I2:Cells (wr.setCell ⟨c.b,2,none⟩ (.int .i64 e.q.par)) e.b 285 (e.q.cells (q.kr e.id)):=st1.sep.right.cells (by simp[ndH]);refine⟨c,Gr,⟨FO.c0 Oy,AY.cell 2 _ rfl,A7.free 2,_,A7.cell 2 _ rfl⟩,FO.look_some Oy Gr,I2.cell 2 _ rfl,fun W1 hW=>?_⟩;have st1':=st1.trans (st1.sep.grown hW);have IH:Sep W1 (F.setN k {c.q with par:=e.q.par} (F.kr k)).hl:=st1'.sep.left;have C9:(F.setN k {c.q with par:=e.q.par} (F.kr k)).N.Pairwise (fun a b=>a.id≠b.id):=Q1S (fun _ _ h=>h) Hy;have Mn:=L.rv c Cp;rw[Mq] at Mn;have KM:=Z6w Hy Gr L.rv (n:={c.q with par:=e.q.par}) (rv:=F.kr k) Mn
 have Xh:∀i,(F.setN k {c.q with par:=e.q.par} (F.kr k)).kr i=F.kr i:=fun i=>by
  show(if i=k then F.kr k else F.kr i)=F.kr i;split
  ·rename_i h;rw[h]
  ·rfl
 have find1:∀id,find (F.setN k {c.q with par:=e.q.par} (F.kr k)).N id=(find F.N id).map fun d=>{d with q:=if d.id=k then {c.q with par:=e.q.par} else d.q}:=fun id=>Q1n _ _ _
 refine⟨fun Aw=>?_,fun Gd=>?_⟩
 ·have V9:find (F.setN k {c.q with par:=e.q.par} (F.kr k)).N e.q.par=none:=by
   rw[find1,L.N,Q6f ok.n.ids,Aw];split <;> rfl
  refine⟨Q5q IH V9,F.setN k {c.q with par:=e.q.par} (F.kr k),⟨L.f,L.m,L.o,?_,L.next,KM⟩,st1'⟩;show mapE _ F.N=_;rw[L.N];exact Z3n ok.n.ids hj (by rw[<- L.N];exact Gr) fun d hd h=>by
   have:=Q0q ok.n.ids hd;rw[h,Aw] at this;cases this
 ·obtain⟨p0,EV⟩:=J7n.1 Gd;obtain⟨PH,M3⟩:=Q0d EV;have GH:e.q.par≠e.id:=by omega
  have G9:find (F.setN k {c.q with par:=e.q.par} (F.kr k)).N e.q.par=some {p0 with q:=Q0r e j p0}:=by
   rw[find1,L.N,Q6f ok.n.ids,if_neg GH,EV];simp only[J4P,J3v];rw[M3,if_neg (fun h=>Ek h.symm)]
  generalize hp:({p0 with q:=Q0r e j p0}:En Nd)=p at G9;obtain⟨F7,FQ⟩:=Q0d G9;have MW:=KM p F7;rw[FQ] at MW;have VO:=Z9g ok.n PH BT (by omega);have Cy:=ok.few;have Ab:p.q.ks.length<=65536:=by
   rw[<- hp];show(Q0r e j p0).ks.length<=_;unfold Q0r;simp only;split
   ·rw[J3N,J5u];have:=J5q (fun k=>decide (k≠e.id)) p0.q.ks;omega
   ·omega
  obtain⟨rv',w',r5,Cr,k3,kf,st5⟩:=FO.pushK IH C9 G9 MW Ab k 38;have c3:=(FO.nd IH G9).cell 3 (lvOf ((F.setN k {c.q with par:=e.q.par} (F.kr k)).kr p.id) p.q.ks.length) rfl;rw[FQ] at c3;have lvs:∀(rv:RV) (n:Nat),∃a n' c,lvOf rv n=.slice a n' c:=fun rv n=>by
   cases rv with
   | none=>exact⟨_,_,_,rfl⟩
   | some p=>exact⟨_,_,_,rfl⟩
  refine⟨p.b,_,Q3r IH G9,c3,lvs _ _,_,w',r5,?_,k3,kf,(F.setN k {c.q with par:=e.q.par} (F.kr k)).setN e.q.par {p.q with ks:=p.q.ks++[k]} rv',⟨L.f,L.m,L.o,?_,L.next,?_⟩,?_⟩
  ·cases rv' with
   | none=>exact⟨_,_,_,rfl⟩
   | some p=>exact⟨_,_,_,rfl⟩
  ·show mapE _ (mapE _ F.N)=_;have hx:=Z6v ok.n.ids (e:=e) (j:=j) (k:=k) hj (ok.n.nd e BT) (c:=c) (p:=p) (by rw[<- L.N];exact Gr) Ek (by rw[<- L.N];exact G9);rw[L.N];exact hx
  ·exact Z6w C9 G9 KM (n:={p.q with ks:=p.q.ks++[k]}) (by rw[J3N,J6Z];exact Cr)
  ·have:=Step.frame [] (ndH q.kr e) (by simpa using st1'.sep) st5;exact st1'.trans (by simpa using this)
theorem Q4r(x id:Int)(b:Nat)(w:World)(h:w.cell? ⟨b,0,none⟩=some (.int .i64 id)) :
  Calls prog 241 #[.int .i64 x,.pointer (some ⟨b,0,none⟩)] w fun e w'=>e=.returned (.bool (x==id))/\w=w':=by
 go_enter func241,ntmps241
 go_wp2
 go_ret;exact⟨rfl,rfl⟩
def J2v(xs:List Int)(id:Int)(e:Ending):Prop:=
 (∃k:Nat,k<xs.length/\e=.returned (.int .i64 k)/\xs[k]?.getD 0=id/\∀j,j<k->xs[j]?.getD 0≠id)∨(e=.returned (.int .i64 (-1))/\∀j,j<xs.length->xs[j]?.getD 0≠id)
def Z6x(b:Nat):Value:=.func (.func 241) #[] #[.pointer (some ⟨b,0,none⟩)]
theorem Z0H(xs:List Int)(id:Int)(b g cap:Nat)(w:World)(h:w.cell? ⟨b,0,none⟩=some (.int .i64 id))(hm:xs.length<=4611686018427387904)
  (hc:∀k,k<xs.length->w.cell? ⟨g,k,none⟩=some (.int .i64 (xs[k]?.getD 0))) :
  Calls prog 252 #[.slice (some ⟨g,0,none⟩) xs.length cap,Z6x b] w fun e w'=>J2v xs id e/\w=w':=by
 unfold Z6x;go_enter func252,ntmps252;go_wp2_with fail
 go_loop [5,8] (fun _ i=>∃k:Nat,k<=xs.length/\i=.int .i64 k/\∀j,j<k->xs[j]?.getD 0≠id) (fun _ i=>xs.length-(intOf i).toNat)
 case atStart=>exact⟨0,J5d _,rfl,by intro j hj;omega⟩
 case round =>
  obtain⟨k,hk,rfl,A1⟩:=hrel;have Hp:Hid (∀j,j<k->xs[j]?.getD 0≠id):=A1;clear A1;by_cases Aa:k<xs.length
  ·have Ec:=hc k Aa;have hh:=h;clear hc h;generalize hx:xs[k]?.getD 0=x at Ec;have Hx:Hid (xs[k]?.getD 0=x):=hx;clear hx;by_cases hx:x=id
   ·have hb:(x==id)=true:=by simpa using hx
    have P6:Hid (x=id):=hx;clear hx;go_wp2_with (go_at_call 241;refine(Q4r _ id b _ hh).mono ?_;rintro e w'⟨rfl,rfl⟩);go_ret;exact⟨.inl ⟨k,Aa,rfl,Hx.out.trans P6.out,Hp.out⟩,rfl⟩
   ·have hb:(x==id)=false:=by simpa using hx
    have P6:Hid (x≠id):=hx;clear hx;go_wp2_with (go_at_call 241;refine(Q4r _ id b _ hh).mono ?_;rintro e w'⟨rfl,rfl⟩)
    go_round
    case rel =>
     refine⟨k+1,by omega,by go_num,fun j hj=>?_⟩;by_cases e:j=k
     ·subst e;rw[Hx.out];exact P6.out
     ·exact Hp.out j (by omega)
    case measure=>simp[intOf];omega
  ·clear hc;go_wp2_with fail;go_ret;exact⟨.inr ⟨rfl,fun j hj=>Hp.out j (by omega)⟩,rfl⟩
def fltK(xs:List Int)(id:Int):List Int:=xs.filter fun x=>x != id
theorem Q9p{xs:List Int}{id:Int}(h:∀j,j<xs.length->xs[j]?.getD 0≠id):fltK xs id=xs:=by
 unfold fltK;rw[J7e];intro x hx;obtain⟨j,hj,rfl⟩:=List.getElem_of_mem hx;have:=h j hj
 simpa[hj] using this
theorem Q3J(xs:List Int)(id:Int)(j:Nat)(hj:j<xs.length) :
  fltK (xs.take (j+1)) id=if xs[j]?.getD 0=id then fltK (xs.take j) id else fltK (xs.take j) id++[xs[j]?.getD 0]:=by
 rw[J7o hj];unfold fltK;rw[J4Y];by_cases h:xs[j]=id <;> simp[h,hj]
def Z9h(w:World)(g cap:Nat)(ys:List Int)(e:Ending)(w':World):Prop:=
 e=.returned (.slice (some ⟨g,0,none⟩) ys.length cap)/\(∃cs,Cells w' g 3 cs/\cs.length=cap/\cs.take ys.length=ys.map (Value.int .i64))/\w.grownBy w' (some g)
def Z6y(xs:List Int)(id:Int)(g cap:Nat)(w:World)(k0:Nat)(iv jv:Value)(wr:World):Prop:=
 ∃j cs,jv=.int .i64 (j:Nat)/\iv=.int .i64 ((fltK (xs.take j) id).length:Nat)/\k0<j/\j<=xs.length/\(fltK (xs.take j) id).length<j/\Cells wr g 3 cs/\cs.length=cap /\
  cs.take (fltK (xs.take j) id).length=(fltK (xs.take j) id).map (Value.int .i64)/\(∀m,j<=m->m<xs.length->cs[m]?=some (.int .i64 (xs[m]?.getD 0)))/\w.grownBy wr (some g)
theorem J2w(w:World):(zeroValue 3).run prog w=.ok (.int .i64 0) w:=by kernel_rfl
theorem Q9q(xs:List Int)(id:Int)(b g cap:Nat)(w:World)(cs0:List Value)(h:w.cell? ⟨b,0,none⟩=some (.int .i64 id))(Ac:b≠g)(hc:Cells w g 3 cs0)(AW:xs.length<=cap)(Bi:cs0.length=cap)
  (htake:cs0.take xs.length=xs.map (Value.int .i64)) (hm:xs.length<=1048576) :
  Calls prog 240 #[.slice (some ⟨g,0,none⟩) xs.length cap,Z6x b] w (Z9h w g cap (fltK xs id)):=by
 have Ap:∀k,k<xs.length->cs0[k]?=some (.int .i64 (xs[k]?.getD 0)):=by
  intro k hk;have h1:(cs0.take xs.length)[k]?=(xs.map (Value.int .i64))[k]?:=by rw[htake]
  rw[J5e,if_pos hk] at h1;rw[h1];simp[hk]
 have NU:=Z0H xs id b g cap w h (by omega) (fun k hk=>hc.cell k _ (Ap k hk));unfold Z6x at NU ⊢;go_enter func240,ntmps240;go_wp2_with fail;refine NU.mono ?_;rintro e w'⟨⟨k,hk,rfl,Pp,A1⟩|⟨rfl,A9⟩,rfl⟩
 case inr =>
  have FC:=Q9p A9
  go_wp2
  go_ret;rw[FC];exact⟨rfl,⟨cs0,hc,Bi,htake⟩,⟨rfl,rfl,rfl,J3h _,fun _ _ _=>rfl⟩⟩
 case inl =>
  have Uo:fltK (xs.take k) id=xs.take k:=Q9p (by
   intro j hj;have LA:j<k:=by simp at hj;omega
   have:=A1 j LA
   simpa[J5e,LA] using this)
  have IM:fltK (xs.take (k+1)) id=xs.take k:=by rw[Q3J xs id k hk,if_pos Pp,Uo]
  have J5:Hid (Z6y xs id g cap w k (.int .i64 k) (.int .i64 ((k:Int)+1)) w):=by
   refine⟨k+1,cs0,by go_num,?_,by omega,by omega,?_,hc,Bi,?_,fun m _ hm=>Ap m hm,⟨rfl,rfl,rfl,J3h _,fun _ _ _=>rfl⟩⟩
   ·rw[IM];simp;omega
   ·rw[IM];simp;omega
   ·rw[IM];have h1:=congrArg (List.take k) htake;rw[J5w,<- List.map_take] at h1;have e1:(List.take k xs).length=k:=by simp;omega
    rw[e1,<- h1];congr 1;omega
  have Ka:((k:Int) == -1)=false:=by simp
  clear Ap NU Uo IM Pp A1 hc htake Bi;go_wp2_with fail
  go_loopw [5,6] (fun iv jv wr=>Z6y xs id g cap w k iv jv wr) (fun _ jv _=>xs.length-(intOf jv).toNat)
  case atStart=>exact J5.out
  case round =>
   clear J5;obtain⟨j,cs,rfl,rfl,Pd,hj,D2,hc,Bi,A1,Jz,hg⟩:=hrel;generalize hi:(fltK (List.take j xs) id).length=i at D2 A1;have Hi:Hid ((fltK (List.take j xs) id).length=i):=hi;clear hi;have Bv:wr.cell? ⟨b,0,none⟩=some (.int .i64 id):=hg.cell h (by simpa using Ac);have Kz:Hid (List.take i cs=List.map (Value.int IntKind.i64) (fltK (List.take j xs) id)):=A1;have Hw:Hid (∀(m:Nat),j<=m->m<xs.length->cs[m]?=some (Value.int IntKind.i64 (xs[m]?.getD 0))):=Jz;have LN:Hid (cs.length=cap):=Bi;clear A1 Jz h Bi;by_cases Aa:j<xs.length
   ·have WU:=hc.cell j _ (Hw.out j (J3h _) Aa);have LS:=hc.cell i (cs[i]?.getD undef) (by have:=LN.out;rw[J5s (by omega)];rfl);generalize hu:cs[i]?.getD undef=u at LS;clear hu;have CE:=hc.free i;generalize hx:xs[j]?.getD 0=x at WU;have Hx:Hid (xs[j]?.getD 0=x):=hx;clear hx;have AO:Hid (Cells wr g 3 cs):=hc;clear hc;have Kn:=Q3J xs id j Aa;by_cases hx:x=id
    ·have Hf:Hid (fltK (List.take (j+1) xs) id=fltK (List.take j xs) id):=by rw[Kn,if_pos (Hx.out.trans hx)];exact rfl
     have DD:(x==id)=true:=by simpa using hx
     clear hx Kn;go_wp2_with (go_at_call 241;refine(Q4r _ id b _ Bv).mono ?_;rintro e w'⟨rfl,rfl⟩);go_roundw
     case rel =>
      refine⟨j+1,cs,by go_num,?_,by omega,by omega,?_,AO.out,LN.out,?_,fun m Eb Dw=>Hw.out m (by omega) Dw,hg⟩
      ·rw[Hf.out,Hi.out]
      ·rw[Hf.out,Hi.out];omega
      ·rw[Hf.out,Hi.out];exact Kz.out
     case measure=>simp[intOf];omega
    ·have Hf:Hid (fltK (List.take (j+1) xs) id=fltK (List.take j xs) id++[x]):=by rw[Kn,if_neg (by rw[Hx.out];exact hx),Hx.out];exact rfl
     have DD:(x==id)=false:=by simpa using hx
     clear hx Kn;go_wp2_with (go_at_call 241;refine(Q4r _ id b _ Bv).mono ?_;rintro e w'⟨rfl,rfl⟩);go_roundw
     case rel =>
      refine⟨j+1,cs.set i (.int .i64 x),by go_num,?_,by omega,by omega,?_,AO.out.set _ _,by simpa using LN.out,?_,fun m Eb Dw=>?_,?_⟩
      ·rw[Hf.out];simp[Hi.out]
      ·rw[Hf.out];simp[Hi.out];omega
      ·rw[Hf.out];have e1:(fltK (List.take j xs) id++[x]).length=i+1:=by simp[Hi.out]
       have CC:i<cs.length:=by have:=LN.out;omega
       rw[e1,J7o (by simpa using CC),J4c (J3h _),Kz.out];simp
      ·rw[J6H (by omega)];exact Hw.out m (by omega) Dw
      ·exact⟨hg.os,hg.tape,hg.output,by simpa using hg.size,fun q hq IE=>(Below.heap_setCell _ _ _ _ (fun e=>IE (by simp[e]))).trans (hg.block q hq IE)⟩
     case measure=>simp[intOf];omega
   ·obtain rfl:j=xs.length:=by omega
    have TV:i<cap:=by omega
    have LS:((cap:Int)==i)=false:=by simp;omega
    have Dm:¬(cap=i):=by omega
    have AO:Hid (Cells wr g 3 cs):=hc;clear hc;go_wp2_with (refine Q3V _ rfl (.tmp 38) 38 3 rfl underlying38 (.int .i64 0) J2w rfl rfl g i (xs.length-i) (cap-i) rfl (by omega) 3 cs AO.out (by have:=LN.out;omega) ?_;intro w2 B5 BB);go_ret;have CW:List.take xs.length xs=xs:=J4Z (J3h _);have PU:=Hi.out;have JN:=Kz.out;have WO:=LN.out;rw[CW] at PU JN;refine⟨by rw[PU];rfl,⟨_,B5,?_,?_⟩,?_⟩
    ·simp;omega
    ·rw[PU,J4b,J5v (by simp;omega),J5w,Nat.min_self,JN]
    ·exact⟨BB.os.trans hg.os,BB.tape.trans hg.tape,BB.output.trans hg.output,J3i hg.size BB.size,fun q hq IE=>(BB.block q (J3j hq hg.size) IE).trans (hg.block q hq IE)⟩
end Go.Proofs.YtfidemmgofcnmaaGreatDoor
