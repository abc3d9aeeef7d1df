/- SpaceFails returns true at every input. No condition. Part of its proof. -/
import Derived.Test.YtfidemmgofcnmaaGreatDoorSf17
import Derived.Sort.WalkB12
import Derived.Lib.SlicesMore
import Derived.Laws.OwnMore
import Derived.Shelf.RegionOpenPlain
import Derived.ScopeJumps
set_option maxHeartbeats 4000000
set_option maxRecDepth 1000000
set_option linter.unusedVariables false
namespace Go.Proofs.YtfidemmgofcnmaaGreatDoor
open Go.RowKit Go.Proofs.Tryz
theorem Z3z(a b:Nat)(ha:a<16)(hb:b<16):bits .andNot .i64 (a:Int) (b:Int)=((less a b:Nat):Int):=by
 have:∀a b:Fin 16,bits .andNot .i64 ((a.val:Nat):Int) ((b.val:Nat):Int)=((less a.val b.val:Nat):Int):=by decide +kernel
 exact this ⟨a,ha⟩ ⟨b,hb⟩
theorem Q6E(a b:Nat)(ha:a<16)(hb:b<16):bits .and .i64 (a:Int) (b:Int)=((a&&&b:Nat):Int):=by
 have:∀a b:Fin 16,bits .and .i64 ((a.val:Nat):Int) ((b.val:Nat):Int)=((a.val&&&b.val:Nat):Int):=by decide +kernel
 exact this ⟨a,ha⟩ ⟨b,hb⟩
theorem Q7J{S:CO}{fr:List Nat}{N K:Nat}{tb:Nat->TB}(ok:S.Ok fr N K)(t:TPI S tb){i s:Nat}{p:Pl}(hi:S.l[i]?=some p)(h1:p.st=1)(h2:p.kind=2)(hs:s<256){e e2:Ent}(he:(tb i).en s=some e)(hn:e2.nd=e.nd)(hl:e2.Low){w:World}{g:Nat}(AE:Sep w S.hl)(hg:TblC S p g w) :
  Calls prog 103 #[.pointer (some ⟨g,0,none⟩),.int .i64 s,.int .u64 (e2.a:Nat),.int .u64 (e2.nd:Nat)] w fun r w'=>r=.returned (.int .i64 0)/\J2h S fr N K tb (p.fac:Int) i s (some e2) w w':=by
 have tx:=t.x (p.fac:Int);have Ao:=Q1t ok.inv.len hi;have T:=tx.tt ok hi h1 h2 AE hg;have Fu:(tb i).lf (s/16)≠0:=fun h=>by
  have:=T.tin.hole s hs h;rw[he] at this;cases this
 have NU:e2.nd∈S.P.usedOf 6:=t.nds.mem_iff.1 (J3C.2 ⟨i,J3s.2 Ao,mem_nds.2 ⟨s,e,hs,he,hn.symm⟩⟩);have hm:=Q0m ok.inv.mem.pool NU;have GE:=Q0o ok.inv.mem.pool;obtain⟨l1,l2⟩:=hl;refine(Z2m ok tx hi h1 h2 rfl hs (xn':=[]) (by rw[TB.nds_same hs he hn]) (by show e2.h+1+4294967296*e2.r<_;omega) (by show e2.nd<_;omega) AE hg).mono ?_;rintro r w' (⟨rfl,hp⟩|⟨h0,_⟩)
 ·exact⟨rfl,hp.turn t.full⟩
 ·exact absurd h0 Fu
def Z0S(Z:SP)(fr:List Nat)(N K:Nat)(M:Int)(m:Nat)(id:Int)(w:World)(b:Bool)(w':World):Prop:=∃Z',Z'.Ok fr N K M/\weak1 m Z.av id=(Z'.av,b)/\SameZ Z Z'/\Step Z.hl Z'.hl w w'
theorem FPI.low{l:List Pl}{tb:Nat->TB}{N:List (En Nd)}(f:FPI l tb N)(lok:LOk l){h s:Nat}{e:Ent}(he:Q0f l tb h s=some e):e.Low:=by
 obtain⟨⟨q,hq,_⟩,hr⟩:=f.cap h s e he;have h1:=pget_some.1 hq;have h2:=lok.2 q (Q0z hq);refine⟨?_,by omega⟩;have:nm (e.h%256) q=e.h:=h1.2.1;unfold nm at this;omega
theorem Q9F{w:World}{Z:SP}{fr:List Nat}{N K:Nat}{M:Int}(hs:Sep w Z.hl)(ok:Z.Ok fr N K M){id:Int}(hf:find Z.F.N id=none)(m:Nat) :
  Calls prog 206 #[.pointer (some ⟨Z.s,0,none⟩),.int .i64 id,.int .i64 m] w fun r w'=>r=.returned (.bool false)/\Z0S Z fr N K M m id w false w':=by
 have c1:=SP.c1 hs;have ko:=Q6y (SP.sF hs) hf;obtain⟨p0,EF,Bz,_,DW,Pt,_⟩:=ok.core.inv.que.root;have B6:pget Z.S.l 1 0=some p0:=pget_some.2 ⟨EF,by unfold nm;omega,DW⟩;have ks:=Q0I hs ok.core (x:=0) (by omega) 10 (.inr ⟨p0,B6,by omega,rfl⟩);have HR:Hid (∀w',Below w.heap.size w w'->Z0S Z fr N K M m id w false w'):=fun w' hb=>⟨Z,ok,by unfold weak1;rw[show Z.av.N=Z.F.N from rfl,hf],SameZ.refl Z,hs.grown hb⟩
 clear hs ok hf B6 EF;go_enter func206,ntmps206;go_wp2_with fail;refine ko.mono ?_;rintro r w1⟨rfl,rfl⟩;go_wp2_with fail;refine ks.mono ?_;rintro r w1⟨rfl,hb⟩;have HQ:=Q0a (HR.out _ (hb.alloc hb.size (.cells #[.pointer none,.int .u32 0,.int .i64 0] 191)));clear hb HR ks ko;go_wp2_with fail
 (try go_ret);exact⟨rfl,HQ.out⟩
structure J2R(Z:SP)(fr:List Nat)(N K:Nat)(M:Int)(m:Nat)(id:Int)(h s g:Nat)(p:Pl)(e:Ent)(w w2:World):Prop where
 go:∀w3,Below w2.heap.size w2 w3->w3.cell? ⟨Z.s,1,none⟩=some (.pointer (some ⟨Z.F.f,0,none⟩)) /\
  Calls prog 93 #[.agg #[.pointer (some ⟨g,0,none⟩),.int .u32 h,.int .i64 (p.fac:Int)],.int .i64 s] w3 (Told w3 (.tuple #[.agg #[.int .u32 (e.h:Int),.int .i64 (e.r:Int)],.bool true])) /\
  Calls prog 102 #[.pointer (some ⟨g,0,none⟩),.int .i64 s] w3 (fun r w'=>r=.returned (.tuple #[.int .u64 (e.a:Nat),.int .u64 (e.nd:Nat)])/\w3=w')
 lift:less e.r m=0->∀w3,Below w2.heap.size w2 w3->Calls prog 174 #[.pointer (some ⟨Z.F.f,0,none⟩),.int .i64 id] w3 fun r w4=>(∃v,r=.returned v)/\(∀b,w2.heap.size<=b->b<w3.heap.size->w4.heap[b]?=w3.heap[b]?)/\w3.heap.size<=w4.heap.size /\
  Calls prog 99 #[.pointer (some ⟨Z.s,0,none⟩),.agg #[.pointer (some ⟨g,0,none⟩),.int .u32 h,.int .i64 (p.fac:Int)],.int .i64 s] w4 fun r w5=>r=.returned (.tuple #[])/\Z0S Z fr N K M m id w true w5
 set:less e.r m≠0->∀w3,Below w2.heap.size w2 w3->Calls prog 103 #[.pointer (some ⟨g,0,none⟩),.int .i64 s,.int .u64 ((⟨e.h,less e.r m,0⟩:Ent).a:Nat),.int .u64 (e.nd:Nat)] w3 fun r w4=>r=.returned (.int .i64 0)/\(∀b,w2.heap.size<=b->b<w3.heap.size->w4.heap[b]?=w3.heap[b]?)/\Z0S Z fr N K M m id w false w4
theorem Step.keep{H H':HL}{w w1 w':World}{B:Nat}(st:Step H H' w1 w')(hs:Sep w H)(hB:w.heap.size<=B):∀b,B<=b->b<w1.heap.size->w'.heap[b]?=w1.heap[b]?:=fun b h1 h2=>st.chg.block b h2 fun hk=>by
 have:=hs.lt hk;omega
theorem Z3A{w w1:World}{Z:SP}{fr:List Nat}{N K:Nat}{M:Int}(hs:Sep w Z.hl)(hb:Below w.heap.size w w1)(ok:Z.Ok fr N K M){id:Int}{n:En Nd}(hf:find Z.F.N id=some n){m:Nat}(hm:m<16)(hd:m=15∨Q3O m Z.av [] id)
  {h s:Nat} {p:Pl} {e:Ent} (h1:n.q.sp=(h:Int)) (h2:n.q.sl=(s:Int)) (hh:h<4294967296) (AB:s<256) (hp:pget Z.S.l 1 h=some p) (hk:p.kind=2) (Bf:(Z.tb (h%256)).en s=some e) (he:Q0f Z.S.l Z.tb h s=some e) :
  Calls prog 90 #[.pointer (some ⟨Z.s,0,none⟩),.int .u32 h] w1 fun r w2=>∃g:Nat,r=.returned (.tuple #[.agg #[.pointer (some ⟨g,0,none⟩),.int .u32 h,.int .i64 (p.fac:Int)],.int .i64 0])/\J2R Z fr N K M m id h s g p e w w2:=by
 have s1:=(hs.grown hb).sep;have hi:=(pget_some.1 hp).1;have Ap:=(pget_some.1 hp).2.2;have A8:=ok.fpi.low ok.core.inv.lok he;have hr:=(ok.fpi.cap h s e he).r;refine(Q0N s1 ok.core hh hp hk).mono ?_;rintro r w2⟨g,rfl,Ai,hg⟩;have GP:Below w.heap.size w w2:=hb.trans (Ai.mono hb.size);have grow:∀w3,Below w2.heap.size w2 w3->Below w.heap.size w w3/\Sep w3 Z.hl/\TblZ Z p g w3:=fun w3 Ar=>by
  have Al:Below w.heap.size w w3:=GP.trans (Ar.mono GP.size);exact⟨Al,(hs.grown Al).sep,hg.grown (hs.grown GP).sep Ar⟩
 have AA:(Z.tb (h%256)).at' (s:Int)=some e:=by unfold TB.at';rw[if_pos ⟨by omega,by omega⟩,J4h,Bf]
 refine⟨g,rfl,fun w3 Ar=>?_,fun h0 w3 Ar=>?_,fun h0 w3 Ar=>?_⟩
 ·obtain⟨Al,s3,g3⟩:=grow w3 Ar;have T:=(ok.tpi.x (p.fac:Int)).tt ok.core hi Ap hk (SP.sS s3) g3.c;have kc:=Q1m T (h:Int) (p.fac:Int) (s:Int) (fun e' AT=>by rw[AA] at AT;cases AT;exact A8);have kg:=Q3R T (s:Int);rw[AA] at kc kg;exact⟨SP.c1 s3,kc,kg⟩
 ·obtain⟨Al,s3,g3⟩:=grow w3 Ar;obtain⟨hn,hid⟩:=Q0b hf;have kl:=Q9E (SP.sF s3) ok.fo (e:=n) (by rw[hid];exact hf);rw[hid] at kl;refine kl.mono ?_;rintro r w4⟨hv,F',FZ,Oi,I1,Ea,st⟩;have stz:=SP.stepF s3 F' FZ st;have g4:TblZ (Z.setF F') p g w4:=g3.step stz rfl;refine⟨hv,stz.keep hs GP.size,stz.chg.size,?_⟩;refine(Q4P (Z:=Z.setF F') stz.sep ok.core ok.tpi hi Ap hk AB Bf g4).mono ?_;rintro r w5⟨rfl,S',t',T,stt⟩;obtain⟨a1,a2,a3⟩:=ok.lifted hf h1 h2 hp hk AB he h0 T Oi Ea I1 FZ;exact⟨rfl,_,a1,a2,a3,((hs.grown Al).trans stz).trans stt⟩
 ·obtain⟨Al,s3,g3⟩:=grow w3 Ar;have E6:Q3O m Z.av [] id:=by
   rcases hd with rfl|hd
   ·exact absurd (Q4H e.r (by omega)) h0
   ·exact hd
  refine(Q7J (e2:=⟨e.h,less e.r m,e.nd⟩) ok.core ok.tpi hi Ap hk AB Bf rfl ⟨A8.1,by have:=(Q5J e.r (by omega) m hm).2.2;show less e.r m<16;omega⟩ (SP.sS s3) g3.c).mono ?_;rintro r w4⟨rfl,S',t',T,stt⟩;have stz:=SP.stepS s3 S' (updT Z.tb (h%256) t') T.alt.c stt;obtain⟨a1,a2,a3⟩:=ok.weakened hf h1 h2 hp hk AB he hm h0 E6 T;exact⟨rfl,stz.keep hs GP.size,_,a1,a2,a3,(hs.grown Al).trans stz⟩
theorem Q9G{w:World}{Z:SP}{fr:List Nat}{N K:Nat}{M:Int}(hs:Sep w Z.hl)(ok:Z.Ok fr N K M){id:Int}{n:En Nd}(hf:find Z.F.N id=some n)(m:Nat)(DH:1<=m)(hm:m<16)(hd:m=15∨Q3O m Z.av [] id) :
  Calls prog 206 #[.pointer (some ⟨Z.s,0,none⟩),.int .i64 id,.int .i64 m] w fun r w'=>∃b:Bool,r=.returned (.bool b)/\Z0S Z fr N K M m id w b w':=by
 obtain⟨hn,hid⟩:=Q0b hf;obtain⟨h,s,p,e,h1,h2,hh,AB,hp,hk,Bf,he⟩:=ok.fpi.task ok.fo.n hn;have A8:=ok.fpi.low ok.core.inv.lok he;have hr:=(ok.fpi.cap h s e he).r;have c1:=SP.c1 hs;have ko:=Q6z (SP.sF hs) hf;rw[h1,h2] at ko;have Nz:=Z3z e.r m (by omega) hm;have IX:Hid (∀w,Calls prog 104 #[.agg #[.int .u32 (e.h:Int),.int .i64 ((less e.r m:Nat):Int)]] w (Told w (.int .u64 ((⟨e.h,less e.r m,0⟩:Ent).a:Nat)))):=fun w=>Q6B w e.h (less e.r m) A8.1 (by have:=(Q5J e.r (by omega) m hm).2.2;omega)
 have HC:Hid (∀w1,Below w.heap.size w w1->_):=fun w1 hb=>Z3A hs hb ok hf hm hd h1 h2 hh AB hp hk Bf he
 have PS:(h:Int)<4294967296:=by omega
 have Wd:(0:Int)<=(h:Int):=by omega
 clear hs ok hf hd h1 h2 hh hp hk Bf he hn hid A8 hr DH hm;by_cases h0:less e.r m=0
 ·rw[h0] at Nz;have Lq:=Q0a h0;clear h0 IX;have Tf:bits .andNot .i64 (e.r:Int) (m:Int)=0:=Nz;clear Nz;go_enter func206,ntmps206;go_wp2_with fail;refine ko.mono ?_;rintro r w1⟨rfl,Aw⟩;have HS:=Q0a (HC.out w1 Aw);clear Aw HC ko;go_wp2_with fail;refine HS.out.mono ?_;rintro r w2⟨g,rfl,hc⟩;have GI:=hc.go _ ((Below.refl _ _).alloc (J3b _) (.cells #[.pointer (some ⟨g,0,none⟩),.int .u32 h,.int .i64 (p.fac:Int)] 191));have Fx:=GI.2.1;have Dq:=Q0a hc;clear hc HS GI;have hB:=Cells.new w2 191 [.pointer (some ⟨g,0,none⟩),.int .u32 h,.int .i64 (p.fac:Int)];go_wp2_with fail;refine Fx.mono ?_
  rintro r w3⟨rfl,Ar⟩;have BO:Below w2.heap.size w2 w3:=Q0e Ar;have Me:=hB.same (Ar.block w2.heap.size (by simp));have A9:Below w2.heap.size w2 (w3.alloc (.cells #[.int .u32 (e.h:Int),.int .i64 0] 72)):=BO.alloc BO.size _;have d1:=(Dq.out.go _ A9).1;have Ju:=Dq.out.lift Lq.out _ A9;have Fh:=Me.alloc (.cells #[.int .u32 (e.h:Int),.int .i64 0] 72);have BU:Hid (∀w5:World,(∀b,w2.heap.size<=b->b<(w3.alloc (.cells #[.int .u32 (e.h:Int),.int .i64 0] 72)).heap.size->w5.heap[b]?=(w3.alloc (.cells #[.int .u32 (e.h:Int),.int .i64 0] 72)).heap[b]?)->Cells w5 w2.heap.size 191 [.pointer (some ⟨g,0,none⟩),.int .u32 h,.int .i64 (p.fac:Int)]):=fun w5 hk=>Fh.same (hk _ (J3b _) Fh.lt)
  have Eq:=Q0a Ju;clear Ar BO hB Fx Me Fh A9 Ju Lq Dq;go_wp2_with fail;refine Eq.out.mono ?_;rintro r w5⟨⟨v,rfl⟩,Ev,Be,IW⟩;have JY:=BU.out w5 Ev;have b0:=JY.cell 0 _ rfl;have b1:=JY.cell 1 _ rfl;have b2:=JY.cell 2 _ rfl;have Ek:=Q0a IW;clear Ev Be IW Eq BU JY;go_wp2_with fail;refine Ek.out.mono ?_;rintro r w6⟨rfl,hq⟩;have HQ:=Q0a hq;clear hq Ek;go_wp2_with fail
  (try go_ret);exact⟨true,rfl,HQ.out⟩
 ·have UT:(((less e.r m:Nat):Int)==0)=false:=by simpa using h0
  have Lq:=Q0a h0;have Aa:∃lr,lr=less e.r m:=⟨_,rfl⟩
  obtain⟨lr,hl⟩:=Aa;rw[<- hl] at Nz UT IX;have Rp:=Q0a hl;have PY:(lr:Int)≠0:=by
   rw[hl]
   simpa using h0
  have MJ:((lr:Int) != 0)=true:=by simpa using PY
  generalize (lr:Int)=lz at *
  clear h0 hl;go_enter func206,ntmps206;go_wp2_with fail;refine ko.mono ?_;rintro r w1⟨rfl,Aw⟩;have HS:=Q0a (HC.out w1 Aw);clear Aw HC ko;go_wp2_with fail;refine HS.out.mono ?_;rintro r w2⟨g,rfl,hc⟩;have GI:=hc.go _ ((Below.refl _ _).alloc (J3b _) (.cells #[.pointer (some ⟨g,0,none⟩),.int .u32 h,.int .i64 (p.fac:Int)] 191));have Fx:=GI.2.1;have Dq:=Q0a hc;clear hc HS GI;have hB:=Cells.new w2 191 [.pointer (some ⟨g,0,none⟩),.int .u32 h,.int .i64 (p.fac:Int)];go_wp2_with fail;refine Fx.mono ?_;rintro r w3⟨rfl,Ar⟩;have BO:Below w2.heap.size w2 w3:=Q0e Ar;have Me:=hB.same (Ar.block w2.heap.size (by simp))
  have A9:Below w2.heap.size w2 (w3.alloc (.cells #[.int .u32 (e.h:Int),.int .i64 lz] 72)):=BO.alloc BO.size _;have Da:=(Dq.out.go _ A9).2.2;have Fh:=Me.alloc (.cells #[.int .u32 (e.h:Int),.int .i64 lz] 72);have Ik:=Cells.new w3 72 [.int .u32 (e.h:Int),.int .i64 lz];have s0:=Fh.cell 0 _ rfl;have q0:=Ik.cell 0 _ rfl;have q1:=Ik.cell 1 _ rfl;have Jv:Hid (∀w5,Below (w3.alloc (.cells #[.int .u32 (e.h:Int),.int .i64 lz] 72)).heap.size (w3.alloc (.cells #[.int .u32 (e.h:Int),.int .i64 lz] 72)) w5->Below w2.heap.size w2 w5/\w5.cell? ⟨w2.heap.size,0,none⟩=some (.pointer (some ⟨g,0,none⟩))/\w5.cell? ⟨w3.heap.size,0,none⟩=some (.int .u32 (e.h:Int))/\w5.cell? ⟨w3.heap.size,1,none⟩=some (.int .i64 lz)):=fun w5 AD=>⟨A9.trans (AD.mono A9.size),(Fh.same (AD.block _ Fh.lt)).cell 0 _ rfl,(Ik.same (AD.block _ Ik.lt)).cell 0 _ rfl,(Ik.same (AD.block _ Ik.lt)).cell 1 _ rfl⟩
  have BU:Hid (∀(w5 w6:World),Below (w3.alloc (.cells #[.int .u32 (e.h:Int),.int .i64 lz] 72)).heap.size (w3.alloc (.cells #[.int .u32 (e.h:Int),.int .i64 lz] 72)) w5->(∀b,w2.heap.size<=b->b<w5.heap.size->w6.heap[b]?=w5.heap[b]?)->w6.cell? ⟨w2.heap.size,0,none⟩=some (.pointer (some ⟨g,0,none⟩))/\w6.cell? ⟨w3.heap.size,0,none⟩=some (.int .u32 (e.h:Int))/\w6.cell? ⟨w3.heap.size,1,none⟩=some (.int .i64 lz)):=fun w5 w6 AD hk=>by
   have JY:=Fh.same (AD.block _ Fh.lt);have NC:=Ik.same (AD.block _ Ik.lt);have l3:w2.heap.size<=w3.heap.size:=BO.size;exact⟨(JY.same (hk _ (J3b _) JY.lt)).cell 0 _ rfl,(NC.same (hk _ l3 NC.lt)).cell 0 _ rfl,(NC.same (hk _ l3 NC.lt)).cell 1 _ rfl⟩
  clear Ar BO hB Fx Me Fh Ik A9;generalize e.a=ea at *
  go_wp2_with fail;refine Da.mono ?_;rintro r w4⟨rfl,rfl⟩;have N3:=Jv.out _ ((Below.refl _ _).drew);obtain⟨bb5,x1,x2,x3⟩:=N3;have Wn:=Q0a bb5;have JZ:=Dq.out.set Lq.out;rw[<- Rp.out] at JZ;have CI:=Q0a JZ;clear bb5 JZ Da Dq Lq Rp;go_wp2_with fail
  go_region_held3 (fun w'=>w'.cell? ⟨w2.heap.size,0,none⟩=some (.pointer (some ⟨g,0,none⟩))/\w'.cell? ⟨w3.heap.size,0,none⟩=some (.int .u32 (e.h:Int))/\w'.cell? ⟨w3.heap.size,1,none⟩=some (.int .i64 lz)) (first|exact⟨s0,q0,q1⟩|exact⟨x1,x2,x3⟩|exact N3.2|exact VG)
   (first|(go_at_call 104;refine(IX.out _).mono ?_;rintro r w5⟨rfl,AD⟩;have CP:=((Below.refl (w3.alloc (.cells #[.int .u32 (e.h:Int),.int .i64 lz] 72)).heap.size _).drew).trans AD;have N3:=Jv.out w5 CP;have Ce:=Q0a CP;clear CP AD IX)|(go_at_call 103;refine(CI.out _ N3.1).mono ?_;rintro r w6⟨rfl,Ev,hq⟩;have VG:=BU.out _ w6 Ce.out Ev;have HQ:=Q0a hq;clear hq Ev CI))
  go_wp2_with fail
  (try go_ret);exact⟨false,rfl,HQ.out⟩
theorem Z0T{w:World}{Z:SP}{fr:List Nat}{N K:Nat}{M:Int}(hs:Sep w Z.hl)(ok:Z.Ok fr N K M)(id:Int)(m:Nat)(DH:1<=m)(hm:m<16)(hd:m=15∨Q3O m Z.av [] id) :
  Calls prog 206 #[.pointer (some ⟨Z.s,0,none⟩),.int .i64 id,.int .i64 m] w fun r w'=>∃b:Bool,r=.returned (.bool b)/\Z0S Z fr N K M m id w b w':=by
 cases hf:find Z.F.N id with
 | none=>exact(Q9F hs ok hf m).mono fun r w' ⟨h1,h2⟩=>⟨false,h1,h2⟩
 | some n=>exact Q9G hs ok hf m DH hm hd
def Q8u(Z:SP)(fr:List Nat)(N K:Nat)(M:Int)(m:Nat)(l:List Int)(w w':World):Prop:=∃Z',Z'.Ok fr N K M/\Z'.av=(Q0P m Z.av l).1/\SameZ Z Z'/\Step Z.hl Z'.hl w w'
structure WaI(Z:SP)(fr:List Nat)(N K:Nat)(M:Int)(m:Nat)(l:List Int)(a:Option Addr)(w:World)(k:Nat)(Z1:SP)(wr:World):Prop where
 ok:Z1.Ok fr N K M
 av:Z1.av=(Q0P m Z.av (l.take k)).1
 same:SameZ Z Z1
 st:Step Z.hl Z1.hl w wr
 row:AsideV Z1.hl (l.map encI) a wr
 wk:WeakOk m Z1.av (l.drop k)
theorem WaI.next{Z Z1:SP}{fr:List Nat}{N K:Nat}{M:Int}{m:Nat}{l:List Int}{a:Option Addr}{w wr w':World}{k:Nat}{x:Int}{b:Bool}(I:WaI Z fr N K M m l a w k Z1 wr)(hx:l[k]?=some x)(hm:m<16)(h:Z0S Z1 fr N K M m x wr b w') :
  (Q0P m Z.av (l.take (k+1))).2=(Q0P m Z.av (l.take k)).2+(if b=true then 1 else 0)/\∃Z2,WaI Z fr N K M m l a w (k+1) Z2 w':=by
 obtain⟨Z2,ok2,e2,s2,st2⟩:=h;have AW:l.take (k+1)=l.take k++[x]:=by rw[J4Y,hx];rfl
 have FE:l.drop k=x::l.drop (k+1):=by
  obtain⟨Ab,hg⟩:=J3t.1 hx;rw[<- hg];exact J5V Ab
 have DV:Q0P m Z.av (l.take (k+1))=(Z2.av,(Q0P m Z.av (l.take k)).2+if b=true then 1 else 0):=by
  rw[AW,weakA_snoc,<- I.av,e2]
 have J0:=I.wk;rw[FE] at J0;have Ap:=WeakOk.step (a:=Z1.av) (next:=Z1.F.next) I.ok.fo.n (fun h s y hy=>(I.ok.fpi.rights hy).2) hm J0;rw[e2] at Ap;exact⟨by rw[DV],Z2,⟨ok2,by rw[DV],I.same.trans s2,I.st.trans st2,AsideV.step I.row st2,Ap⟩⟩
theorem Q2y{w:World}{Z:SP}{fr:List Nat}{N K:Nat}{M:Int}(hs:Sep w Z.hl)(ok:Z.Ok fr N K M)(m:Nat)(DH:1<=m)(hm:m<16)(l:List Int)(a:Option Addr)(cap:Nat)(hl:l.length<=70000)(Au:AsideV Z.hl (l.map encI) a w)(hk:WeakOk m Z.av l) :
  Calls prog 158 #[.pointer (some ⟨Z.s,0,none⟩),.int .i64 m,.slice a l.length cap] w fun r w'=>r=.returned (.int .i64 ((Q0P m Z.av l).2:Nat))/\Q8u Z fr N K M m l w w':=by
 have Cs:Hid (WaI Z fr N K M m l a w 0 Z w):=⟨ok,rfl,SameZ.refl Z,Step.refl hs,Au,by simpa using hk⟩
 have HM:Hid (1<=m/\m<16):=⟨DH,hm⟩
 have Fg:=Q0a hl;have T5:Hid (∀k,(Q0P m Z.av (l.take k)).2<=l.length):=fun k=>J3c (Q5K m _ _) (List.length_take_le' k l)
 have Ff:Hid (Q0P m Z.av (l.take l.length)=Q0P m Z.av l):=by rw[J7m];exact rfl
 clear hs ok Au hk DH hm;generalize hn:l.length=n at *
 have HN:=Q0a hn;clear hl hn;go_enter func158,ntmps158;go_wp2_with fail
 go_loopg [7,12] n (fun gk cv iv wr=>∃(k:Nat) (Z1:SP),iv=.int .i64 k/\cv=.int .i64 ((Q0P m Z.av (l.take k)).2:Nat)/\k+gk=n/\WaI Z fr N K M m l a w k Z1 wr)
 case atStart=>exact⟨0,Z,rfl,rfl,by omega,Cs.out⟩
 case round =>
  obtain⟨k,Z1,rfl,rfl,AC,hI⟩:=hrel;have Cg:=Q0a AC;have HI:=Q0a hI;by_cases Ab:k<n
  ·obtain⟨x,hx⟩:∃x,l[k]?=some x:=⟨l[k]'(by rw[HN.out];exact Ab),J5t (by rw[HN.out];exact Ab)⟩
   obtain⟨g,rfl,_,_,EA⟩:=hI.row k (.int .i64 x) (by rw[J4N,hx];rfl);have kw:=Z0T hI.st.sep hI.ok x m HM.out.1 HM.out.2 (by
    rcases hI.wk with h|h
    ·exact .inl h
    ·refine .inr (h [] x (l.drop (k+1)) ?_);obtain⟨Ab,hg⟩:=J3t.1 hx;rw[<- hg];exact J5V Ab)
   rw[hI.same.s] at kw;have HW:=Q0a kw;have HX:=Q0a hx;have EO:=T5.out k;have C3:(k:Int)<(n:Int):=by omega
   have Bz:(0:Int)<=(k:Int):=by omega
   have Fy:(k:Int)<70000:=by have:=Fg.out;omega
   generalize A7:(Q0P m Z.av (l.take k)).2=c at *
   have CM:(c:Int)<=70000:=by have:=Fg.out;omega
   have Ks:(0:Int)<=(c:Int):=by omega
   have Dq:=Q0a A7;clear hI AC kw hx EO A7;go_wp2_with fail;refine HW.out.mono ?_;rintro r w1⟨b,rfl,hz⟩;obtain⟨Cd,Z2,NQ⟩:=HI.out.next HX.out HM.out.2 hz;have RH:=Q0a NQ;rw[Dq.out] at Cd;have Lz:=Q0a Cd;clear Cd NQ hz HW HI;cases b with
   | true =>
    go_wp2_with fail;go_roundg (n-(k+1))
    case measure=>have:=Cg.out;omega
    case rel=>exact⟨k+1,Z2,by go_num,by rw[Lz.out];simp,by have:=Cg.out;omega,RH.out⟩
   | false =>
    go_wp2_with fail;go_roundg (n-(k+1))
    case measure=>have:=Cg.out;omega
    case rel=>exact⟨k+1,Z2,by go_num,by rw[Lz.out];simp,by have:=Cg.out;omega,RH.out⟩
  ·obtain rfl:k=n:=by have:=Cg.out;omega
   have HR:Hid (((Q0P m Z.av (l.take k)).2=(Q0P m Z.av l).2)/\Q8u Z fr N K M m l w wr):=by
    have h1:l.take k=l:=by rw[<- HN.out,J7m]
    have h2:=hI.av;rw[h1] at h2;exact⟨by rw[h1],Z1,hI.ok,h2,hI.same,hI.st⟩
   rw[HR.out.1];clear hI AC;go_wp2_with fail
   (try go_ret);exact⟨rfl,HR.out.2⟩
def Q6F(l:List Pl)(tb:Nat->TB)(x:Nat)(z:Int):Value:=match pget l 1 x with
 | none=>.tuple #[.agg #[.int .u32 0,.int .i64 0],.int .i64 8]
 | some p=>if p.kind=2 then(if 0<=z/\z<256 then(match Q0f l tb x z.toNat with
   | none=>.tuple #[.agg #[.int .u32 0,.int .i64 0],.int .i64 6]
   | some e=>.tuple #[.agg #[.int .u32 (e.h:Int),.int .i64 (e.r:Int)],.int .i64 0]) else .tuple #[.agg #[.int .u32 0,.int .i64 0],.int .i64 2]) else .tuple #[.agg #[.int .u32 0,.int .i64 0],.int .i64 10]
theorem Q9H{w:World}{Z:SP}{fr:List Nat}{N K:Nat}(hs:Sep w Z.hl)(ok:Z.S.Ok fr N K){x:Nat}(hx:x<4294967296)(z e:Int)(he:e≠0)(hw:(pget Z.S.l 1 x=none/\e=8)∨∃p,pget Z.S.l 1 x=some p/\p.kind≠2/\e=10) :
  Calls prog 37 #[.pointer (some ⟨Z.s,0,none⟩),.int .u32 x,.int .i64 z] w (Told w (.tuple #[.agg #[.int .u32 0,.int .i64 0],.int .i64 e])):=by
 have b1:Below w.heap.size w (w.alloc (.cells #[.int .u32 0,.int .i64 0] 72)):=(Below.refl _ _).alloc (J3b _) _;have ks:=Q0I (hs.grown b1).sep ok hx e hw;have HC:Hid (∀w1,Below (w.alloc (.cells #[.int .u32 0,.int .i64 0] 72)).heap.size (w.alloc (.cells #[.int .u32 0,.int .i64 0] 72)) w1->(∀o,Cells (w1.alloc o) w.heap.size 72 [.int .u32 0,.int .i64 0])/\∀o a b,Below w.heap.size w (((w1.alloc o).setCell ⟨w.heap.size,0,none⟩ a).setCell ⟨w.heap.size,1,none⟩ b)):=fun w1 Aw=>by
  have hR:=(Cells.new w 72 [.int .u32 0,.int .i64 0]).same (Aw.block w.heap.size (by simp));exact⟨hR.alloc,fun o a b=>(((Q0e Aw).alloc (Q0e Aw).size o).setCell (J3b _) _).setCell (J3b _) _⟩
 have FV:(e==0)=false:=by simpa using he
 clear hs ok hx hw b1;go_enter func37,ntmps37;go_wp2_with fail;refine ks.mono ?_;rintro r w1⟨rfl,Aw⟩;obtain⟨BW,hz⟩:=HC.out w1 Aw;have Aj:=BW (.cells #[.pointer none,.int .u32 0,.int .i64 0] 191);have HZ:=Q0a hz;have e0:=Aj.cell 0 _ rfl;have e1:=Aj.cell 1 _ rfl;have f0:=Aj.free 0;have f1:=Aj.free 1;have Ab:=Aj.lt;clear Aw hz Aj BW HC ks;go_wp2_with fail;refine bodyPost_ret (v:=.tuple #[.agg #[.int .u32 0,.int .i64 0],.int .i64 e]) (by simp[results,results37,go_sem,e0,e1]) rfl ⟨rfl,HZ.out _ _ _⟩
theorem Z3B{w:World}{Z:SP}{fr:List Nat}{N K:Nat}{M:Int}(hs:Sep w Z.hl)(ok:Z.Ok fr N K M){x:Nat}(hx:x<4294967296){p:Pl}(hp:pget Z.S.l 1 x=some p)(hk:p.kind=2)(z:Int) :
  Calls prog 37 #[.pointer (some ⟨Z.s,0,none⟩),.int .u32 x,.int .i64 z] w (Told w (Q6F Z.S.l Z.tb x z)):=by
 have b1:Below w.heap.size w (w.alloc (.cells #[.int .u32 0,.int .i64 0] 72)):=(Below.refl _ _).alloc (J3b _) _;have s1:=(hs.grown b1).sep;have ks:=Q0N s1 ok.core hx hp hk;have hi:=(pget_some.1 hp).1;have Ap:=(pget_some.1 hp).2.2;have AA:(Z.tb (x%256)).at' z=if 0<=z/\z<256 then Q0f Z.S.l Z.tb x z.toNat else none:=by
  unfold TB.at';split
  ·rename_i h;rw[Q0g hp hk (by omega)]
  ·rfl
 have HC:Hid (∀(w2:World) (g:Nat),Below (w.alloc (.cells #[.int .u32 0,.int .i64 0] 72)).heap.size (w.alloc (.cells #[.int .u32 0,.int .i64 0] 72)) w2->TblZ Z p g w2 ->
   Cells (w2.alloc (.cells #[.pointer (some ⟨g,0,none⟩),.int .u32 x,.int .i64 (p.fac:Int)] 191)) w.heap.size 72 [.int .u32 0,.int .i64 0]/\(∀a b,Below w.heap.size w (((w2.alloc (.cells #[.pointer (some ⟨g,0,none⟩),.int .u32 x,.int .i64 (p.fac:Int)] 191)).setCell ⟨w.heap.size,0,none⟩ a).setCell ⟨w.heap.size,1,none⟩ b)) /\
   Calls prog 93 #[.agg #[.pointer (some ⟨g,0,none⟩),.int .u32 x,.int .i64 (p.fac:Int)],.int .i64 z] (w2.alloc (.cells #[.pointer (some ⟨g,0,none⟩),.int .u32 x,.int .i64 (p.fac:Int)] 191)) (fun r w4=>r=.returned (capV ((Z.tb (x%256)).at' z)) /\
    (∀o,Cells (w4.alloc o) w.heap.size 72 [.int .u32 0,.int .i64 0])/\∀o a b,Below w.heap.size w (((w4.alloc o).setCell ⟨w.heap.size,0,none⟩ a).setCell ⟨w.heap.size,1,none⟩ b))):=fun w2 g Ai hg=>by
  have hR:=(Cells.new w 72 [.int .u32 0,.int .i64 0]).same (Ai.block w.heap.size (by simp));have Dv:Below w.heap.size w w2:=Q0e Ai;have Ar:Below w2.heap.size w2 (w2.alloc (.cells #[.pointer (some ⟨g,0,none⟩),.int .u32 x,.int .i64 (p.fac:Int)] 191)):=(Below.refl _ _).alloc (J3b _) _;have BO:=Dv.alloc Dv.size (.cells #[.pointer (some ⟨g,0,none⟩),.int .u32 x,.int .i64 (p.fac:Int)] 191);have s2:=(hs.grown Dv).sep;have s3:=(s2.grown Ar).sep;have T:=(ok.tpi.x (p.fac:Int)).tt ok.core hi Ap hk (SP.sS s3) (hg.grown s2 Ar).c;refine⟨hR.alloc _,fun a b=>(BO.setCell (J3b _) _).setCell (J3b _) _,(Q1m T (x:Int) (p.fac:Int) z fun e he=>?_).mono ?_⟩
  ·rw[AA] at he;split at he
   ·exact ok.fpi.low ok.core.inv.lok he
   ·cases he
  ·rintro r w4⟨rfl,A9⟩;have T8:=(hR.alloc _).same (A9.block w.heap.size (hR.alloc _).lt);have Ee:Below w.heap.size w w4:=BO.trans (A9.mono BO.size);exact⟨rfl,T8.alloc,fun o a b=>((Ee.alloc Ee.size o).setCell (J3b _) _).setCell (J3b _) _⟩
 have hv:Q6F Z.S.l Z.tb x z=if 0<=z/\z<256 then(match (Z.tb (x%256)).at' z with
   | none=>.tuple #[.agg #[.int .u32 0,.int .i64 0],.int .i64 6]
   | some e=>.tuple #[.agg #[.int .u32 (e.h:Int),.int .i64 (e.r:Int)],.int .i64 0]) else .tuple #[.agg #[.int .u32 0,.int .i64 0],.int .i64 2]:=by
  unfold Q6F;rw[hp];simp only;rw[if_pos hk,AA];by_cases h:0<=z/\z<256
  ·simp only[if_pos h]
  ·simp only[if_neg h]
 rw[hv];have Bd:Hid (∀w,Calls prog 92 #[.int .i64 z] w fun r w'=>r=.returned (.bool (decide (0<=z/\z<256)))/\w=w'):=fun w=>Q2Z w z
 clear hs ok hx hp hk hi Ap AA hv b1 s1;by_cases hz:0<=z/\z<256
 ·rw[if_pos hz];rw[decide_eq_true hz] at Bd;cases ho:(Z.tb (x%256)).at' z with
  | none =>
   rw[ho] at HC;simp only[capV] at HC;simp only;clear ho hz;go_enter func37,ntmps37;go_wp2_with fail;refine ks.mono ?_;rintro r w2⟨g,rfl,Ai,hg⟩;obtain⟨-,-,kc⟩:=HC.out w2 g Ai hg;have hh:=Bd.out (w2.alloc (.cells #[.pointer (some ⟨g,0,none⟩),.int .u32 x,.int .i64 (p.fac:Int)] 191));clear Ai hg HC ks;go_wp2_with fail;refine hh.mono ?_;rintro r w3⟨rfl,rfl⟩;go_wp2_with fail;refine kc.mono ?_;rintro r w4⟨rfl,BW,hz⟩;have Aj:=BW (.cells #[.int .u32 0,.int .i64 0] 72);have HZ:=Q0a hz;have e0:=Aj.cell 0 _ rfl;have e1:=Aj.cell 1 _ rfl;have f0:=Aj.free 0;have f1:=Aj.free 1;have Ab:=Aj.lt
   clear hz Aj BW kc hh Bd;go_wp2_with fail;refine bodyPost_ret (v:=.tuple #[.agg #[.int .u32 0,.int .i64 0],.int .i64 6]) (by simp[results,results37,go_sem,e0,e1]) rfl ⟨rfl,HZ.out _ _ _⟩
  | some e =>
   rw[ho] at HC;simp only[capV] at HC;simp only;clear ho hz;generalize (e.h:Int)=eh at *
   generalize (e.r:Int)=er at *
   go_enter func37,ntmps37;go_wp2_with fail;refine ks.mono ?_;rintro r w2⟨g,rfl,Ai,hg⟩;obtain⟨-,-,kc⟩:=HC.out w2 g Ai hg;have hh:=Bd.out (w2.alloc (.cells #[.pointer (some ⟨g,0,none⟩),.int .u32 x,.int .i64 (p.fac:Int)] 191));clear Ai hg HC ks;go_wp2_with fail;refine hh.mono ?_;rintro r w3⟨rfl,rfl⟩;go_wp2_with fail;refine kc.mono ?_;rintro r w4⟨rfl,BW,hz⟩;have Aj:=BW (.cells #[.int .u32 eh,.int .i64 er] 72);have HZ:=Q0a hz;have e0:=Aj.cell 0 _ rfl;have e1:=Aj.cell 1 _ rfl;have f0:=Aj.free 0;have f1:=Aj.free 1;have Ab:=Aj.lt;clear hz Aj BW kc hh Bd;go_wp2_with fail
   refine bodyPost_ret (v:=.tuple #[.agg #[.int .u32 eh,.int .i64 er],.int .i64 0]) (by simp[results,results37,go_sem,e0,e1]) rfl ⟨rfl,HZ.out _ _ _⟩
 ·rw[if_neg hz];rw[decide_eq_false hz] at Bd;clear hz;go_enter func37,ntmps37;go_wp2_with fail;refine ks.mono ?_;rintro r w2⟨g,rfl,Ai,hg⟩;obtain⟨Aj,hz,-⟩:=HC.out w2 g Ai hg;have hh:=Bd.out (w2.alloc (.cells #[.pointer (some ⟨g,0,none⟩),.int .u32 x,.int .i64 (p.fac:Int)] 191));have HZ:=Q0a hz;have e0:=Aj.cell 0 _ rfl;have e1:=Aj.cell 1 _ rfl;have f0:=Aj.free 0;have f1:=Aj.free 1;have Ab:=Aj.lt;clear Ai hg HC ks hz Aj Bd;go_wp2_with fail;refine hh.mono ?_;rintro r w3⟨rfl,rfl⟩;go_wp2_with fail;refine bodyPost_ret (v:=.tuple #[.agg #[.int .u32 0,.int .i64 0],.int .i64 2]) (by simp[results,results37,go_sem,e0,e1]) rfl ⟨rfl,HZ.out _ _⟩
theorem Q6G{w:World}{Z:SP}{fr:List Nat}{N K:Nat}{M:Int}(hs:Sep w Z.hl)(ok:Z.Ok fr N K M){x:Nat}(hx:x<4294967296)(z:Int) :
  Calls prog 37 #[.pointer (some ⟨Z.s,0,none⟩),.int .u32 x,.int .i64 z] w (Told w (Q6F Z.S.l Z.tb x z)):=by
 cases hp:pget Z.S.l 1 x with
 | none =>
  have:=Q9H hs ok.core hx z 8 (by decide) (.inl ⟨hp,rfl⟩);unfold Q6F;rw[hp];exact this
 | some p =>
  by_cases hk:p.kind=2
  ·exact Z3B hs ok hx hp hk z
  ·have:=Q9H hs ok.core hx z 10 (by decide) (.inr ⟨p,hp,hk,rfl⟩);unfold Q6F;rw[hp];simp only[if_neg hk];exact this
def encH(x:Nat):Value:=.int .u32 x
theorem OutH.shape{w wr:World}{v:Value}{L:List Nat}(h:OutH w wr v L):∃(a:Option Addr) (cap:Nat),v=.slice a L.length cap:=by
 rcases h.1.2 with ⟨rfl,h0⟩|⟨g,cap,Ag,rfl,_⟩
 ·exact⟨none,0,by rw[h0]⟩
 ·exact⟨_,cap,rfl⟩
theorem OutH.shape1{w wr:World}{v:Value}{L:List Nat}(h:OutH w wr v L)(hl:L≠[]):∃(g cap:Nat),v=.slice (some ⟨g,0,none⟩) L.length cap:=by
 rcases h.1.2 with ⟨rfl,h0⟩|⟨g,cap,Ag,rfl,_⟩
 ·exact absurd (J5s h0) hl
 ·exact⟨g,cap,rfl⟩
theorem OutH.parts{w wr:World}{g n cap:Nat}{L:List Nat}(h:OutH w wr (.slice (some ⟨g,0,none⟩) n cap) L):∃Ag,n=L.length/\w.heap.size<=g/\wr.heap[g]?=some (.cells Ag 58 (0,0))/\L.length<=cap/\cap<=maxLen/\Ag.size=cap/\Ag.toList.take L.length=Q1i L:=by
 rcases h.1.2 with ⟨h',_⟩|⟨g',BG,Ag,h',a1,a2,a3,a4,a5,a6⟩
 ·simp at h'
 ·simp only[Value.slice.injEq,J3q,Addr.mk.injEq,and_true] at h';obtain⟨rfl,rfl,rfl⟩:=h';exact⟨Ag,rfl,a1,a2,a3,a4,by simpa using a5,by simpa using a6⟩
theorem OutH.cellAt{w wr:World}{g n cap:Nat}{L:List Nat}(h:OutH w wr (.slice (some ⟨g,0,none⟩) n cap) L){j x:Nat}(hj:L[j]?=some x):wr.cell? ⟨g,j,none⟩=some (.int .u32 x)/\w.heap.size<=g/\g<wr.heap.size:=by
 obtain⟨Ag,_,a1,a2,_,_,_,a6⟩:=h.parts;refine⟨?_,a1,lt_of_block a2⟩;have hv:=Q8o hj;rw[<- a6,J5f] at hv;split at hv
 ·simp only[World.cell?,a2,J6f,J6V,if_false];rw[<- J5C];exact hv
 ·cases hv
theorem OutH.cut{w wr:World}{g n cap x:Nat}{L:List Nat}(h:OutH w wr (.slice (some ⟨g,0,none⟩) n cap) (L++[x])):OutH w wr (.slice (some ⟨g,0,none⟩) L.length cap) L:=by
 obtain⟨Ag,_,a1,a2,a3,a4,a5,a6⟩:=h.parts;have hl:L.length+1<=cap:=by simpa using a3
 refine⟨⟨by simp[Q3o],.inr ⟨g,cap,Ag,rfl,a1,a2,by omega,a4,by simpa using a5,?_⟩⟩,h.2⟩;have:=congrArg (List.take L.length) a6;rw[J5x,J3M,hands_app,show min L.length (L.length+[x].length)=L.length by simp] at this;rw[J4i,this];have e:=Q3o L;rw[<- e,J5A]
def Two(w wr:World)(v:Value)(L:List Nat)(u:Value)(M:List Nat):Prop:=OutH w wr v L/\OutH w wr u M/\∀b,v.ownBlock=some b->u.ownBlock≠some b
theorem Two.swap{w wr:World}{v u:Value}{L M:List Nat}(h:Two w wr v L u M):Two w wr u M v L:=⟨h.2.1,h.1,fun b h1 h2=>h.2.2 b h2 h1⟩
theorem Two.below{w wr w1:World}{v u:Value}{L M:List Nat}(h:Two w wr v L u M)(hb:Below wr.heap.size wr w1):Two w w1 v L u M:=⟨h.1.below hb,h.2.1.below hb,h.2.2⟩
theorem Two.alloc{w wr:World}{v u:Value}{L M:List Nat}(h:Two w wr v L u M)(o:Obj):Two w (wr.alloc o) v L u M:=⟨h.1.alloc o,h.2.1.alloc o,h.2.2⟩
theorem Two.cut{w wr:World}{g n cap x:Nat}{u:Value}{L M:List Nat}(h:Two w wr (.slice (some ⟨g,0,none⟩) n cap) (L++[x]) u M):Two w wr (.slice (some ⟨g,0,none⟩) L.length cap) L u M:=⟨h.1.cut,h.2.1,h.2.2⟩
theorem Two.app{w wr w1:World}{v v' u:Value}{L M X:List Nat}(h:Two w wr v L u M)(Af:w1.ownsRow w.heap.size 58 1 v' (L.length+X.length) (Q1i L++Q1i X))(hg:wr.grownBy w1 v.ownBlock)(AA:v'.ownBlock=v.ownBlock∨v'.ownBlock=some wr.heap.size):Two w w1 v' (L++X) u M:=by
 obtain⟨h1,h2,h3⟩:=h;have hb:Below w.heap.size w w1:=h1.2.trans ((Below.refl _ wr).mono h1.2.size |>.grown hg h1.2.size (fun b hb=>(h1.1.lt b hb).1));refine⟨h1.app0 Af hg,⟨h2.1.kept hg ?_,hb⟩,fun b e1 e2=>?_⟩
 ·cases hv:v.ownBlock with
  | none=>cases hu:u.ownBlock with
   | none=>exact .inl rfl
   | some c=>exact .inr (by simp)
  | some b=>exact .inr (fun e=>h3 b hv e)
 ·rcases AA with e|e
  ·exact h3 b (e ▸ e1) e2
  ·rw[e] at e1;cases e1;exact absurd (h2.1.lt _ e2).2 (by omega)
theorem Z6Q{w:World}{B B':Nat}{v:Value}{L M:List Nat}{a:Option Addr}{cap:Nat}{ty:TypeId}(h:w.ownsRow B 58 1 v L.length (Q1i L))(hM:IsHs B' M a w)(hn:L.length+M.length<=65536)(hB:B<=w.heap.size) :
  ∃v' w',(Builtin.append_ #[51,51] ty #[v,.slice a M.length (match a with|none=>0|some _=>cap)]).run prog w=.ok v' w'/\w'.ownsRow B 58 1 v' (L.length+M.length) (Q1i L++Q1i M)/\w.grownBy w' v.ownBlock/\(v'.ownBlock=v.ownBlock∨v'.ownBlock=some w.heap.size):=by
 obtain⟨i0,CU,Bx,AX,AU⟩:=info_parts Q3K;cases a with
 | none =>
  have P4:M=[]:=by
   cases M with
   | nil=>rfl
   | cons x r=>obtain⟨g,h1,_⟩:=hM.at' 0 x rfl;cases h1
  subst P4;exact⟨v,w,run_append_owned_none w B 51 ty 58 i0 1 underlying51 CU v _ _ h,by simpa[Q1i] using h,⟨rfl,rfl,rfl,J3b _,fun _ _ _=>rfl⟩,.inl rfl⟩
 | some ad =>
  obtain⟨v',w',e1,e2,e3,_,e5⟩:=run_append_own_at (P:=prog) w B 51 ty 58 i0 (.int .u32 0) 1 4 underlying51 CU Bx AX AU rfl (by decide) v _ _ h ad M.length cap (Q1i M) (by simp[Q3o]) (fun j u hj=>by
   have AY:j<M.length:=by have:=(J3t.1 hj).1;simpa[Q3o] using this
   obtain⟨g,g1,_,_,g4⟩:=hM.at' j M[j] (J5t AY);cases g1;rw[Q8o (J5t AY)] at hj;cases hj;have e:(⟨g,0,none⟩:Addr).add j=⟨g,j,none⟩:=by unfold Addr.add;split <;> simp_all
   rw[e];exact g4) (fun u hu=>by
    obtain⟨x,_,rfl⟩:=J3h.1 hu;rfl) (by unfold maxLen;omega) (by omega) hB
  exact⟨v',w',e1,e2,e3,e5⟩
theorem Z0U{w wr:World}{g n cap:Nat}{L:List Nat}(h:OutH w wr (.slice (some ⟨g,0,none⟩) n cap) L):Go.Sort.Holds encH wr g 0 L.toArray:=by
 obtain⟨Ag,_,a1,a2,_,_,_,a6⟩:=h.parts;intro j hj;have AY:j<L.length:=by simpa using hj
 have hx:=J5t AY;refine⟨?_,by simp[World.frozen?,a2]⟩;have:=(h.cellAt hx).1;rw[J5G,this,getElem!_pos _ j hj];simp[encH]
theorem Q7c(Ag:Array Value)(F:Array Nat)(h:F.size<=Ag.size):(Go.Sort.putCells encH 0 F Ag).toList.take F.size=F.toList.map encH:=by
 apply J4K
 intro j;by_cases hj:j<F.size
 ·rw[J7x hj,J5C];simp[Go.Sort.putCells,hj,show j<Ag.size by omega]
 ·rw[J7y (by omega),J4R (by simp;omega)]
theorem Z6R{w:World}{g n:Nat}{Ag:Array Value}{e:TypeId}(d:Array Nat)(hb:w.heap[g]?=some (.cells Ag e (0,0))) :
  (Go.Sort.putRow encH (Go.Sort.ahead w n) g 0 d).heap[g]?=some (.cells (Go.Sort.putCells encH 0 d Ag) e (0,0)):=by
 have hg:g<w.heap.size:=(J7z.1 hb).1;simp[Go.Sort.putRow,Go.Sort.mapBlock,Go.Sort.ahead,Array.getElem?_modify,hb,Go.Sort.onCells]
theorem Z3C{w:World}{g n:Nat}(d:Array Nat):w.grownBy (Go.Sort.putRow encH (Go.Sort.ahead w n) g 0 d) (some g):=by
 refine⟨rfl,rfl,rfl,by simp[Go.Sort.putRow,Go.Sort.mapBlock,Go.Sort.ahead],fun k hk Aa=>?_⟩;have:g≠k:=fun e=>Aa (by rw[e])
 simp[Go.Sort.putRow,Go.Sort.mapBlock,Go.Sort.ahead,Array.getElem?_modify,this]
theorem OutH.reversed{w wr:World}{g n cap k:Nat}{L:List Nat}(h:OutH w wr (.slice (some ⟨g,0,none⟩) n cap) L):OutH w (Go.Sort.putRow encH (Go.Sort.ahead wr k) g 0 L.toArray.reverse) (.slice (some ⟨g,0,none⟩) n cap) L.reverse:=by
 obtain⟨Ag,rfl,a1,a2,a3,a4,a5,a6⟩:=h.parts;have C6:=Z3C (w:=wr) (g:=g) (n:=k) L.toArray.reverse;have Be:L.toArray.reverse.size=L.length:=by simp
 refine⟨⟨by simp[Q3o],.inr ⟨g,cap,_,by rw[J7A],a1,Z6R _ a2,by simpa using a3,a4,by simp[Go.Sort.putCells,a5],?_⟩⟩,h.2.trans ((Below.refl _ wr).mono h.2.size |>.grown C6 h.2.size (fun b hb=>by cases hb;exact a1))⟩;have e:L.reverse.length*1=L.toArray.reverse.size:=by simp
 rw[e,Q7c _ _ (by rw[Be,a5];exact a3)];simp[Q1i,encH]
theorem NewHs.shape0{w:World}{L:List Nat}{r:Ending}{w':World}(h:NewHs w L r w'):∃(a:Option Addr) (cap:Nat),r=.returned (.slice a L.length cap)/\Below w.heap.size w w'/\IsHs w.heap.size L a w'/\(a=none->cap=0):=by
 obtain⟨v,rfl,⟨h1,h2⟩,hb⟩:=h;have h:=NewHs.shape (w:=w) (L:=L) (w':=w') (r:=.returned v) ⟨v,rfl,⟨h1,h2⟩,hb⟩;obtain⟨a,cap,e,Al,hi⟩:=h;refine⟨a,cap,e,Al,hi,fun ha=>?_⟩;subst ha;rcases h2 with ⟨rfl,h0⟩|⟨g,BG,Ag,rfl,_⟩
 ·simp only[Ending.returned.injEq,Value.slice.injEq] at e;omega
 ·simp at e
theorem J1n{w:World}{B B':Nat}{v:Value}{L M:List Nat}{a:Option Addr}{cap:Nat}{ty:TypeId}(h:w.ownsRow B 58 1 v L.length (Q1i L))(hM:IsHs B' M a w)(ha:a=none->cap=0)(hn:L.length+M.length<=65536)(hB:B<=w.heap.size) :
  ∃v' w',(Builtin.append_ #[51,51] ty #[v,.slice a M.length cap]).run prog w=.ok v' w'/\w'.ownsRow B 58 1 v' (L.length+M.length) (Q1i L++Q1i M)/\w.grownBy w' v.ownBlock/\(v'.ownBlock=v.ownBlock∨v'.ownBlock=some w.heap.size):=by
 have:=Z6Q (ty:=ty) (cap:=cap) h hM hn hB;cases a with
 | none=>rw[ha rfl];exact this
 | some ad=>exact this
open Go.Sort (Holds putRow holds_putRow holds_ahead putRow_self reverseLoop swp size_swp)
theorem Q9I(blk cap:Nat)(d:Array Int)(w:World)(hH:Holds encI w blk 0 d)(Be:d.size<=65536) :
  Calls prog 205 #[.slice (some ⟨blk,0,none⟩) d.size cap] w fun e w'=>e=.returned (.tuple #[])/\∃n,w'=putRow encI (Go.Sort.ahead w n) blk 0 d.reverse:=by
 go_enter func205,ntmps205;go_wp2_with fail
 go_loopg [2,3] d.size (fun k s2 s3 wr=>∃(i jn:Nat) (jz:Int) (dk:Array Int) (n:Nat),s2=.int .i64 i/\s3=.int .i64 jz/\((i:Int)<jz->jz=jn/\jn<d.size)/\(¬(i:Int)<jz->¬i<jn)/\jn-i<=k /\
  dk.size=d.size/\wr=putRow encI (Go.Sort.ahead w n) blk 0 dk/\reverseLoop i jn dk=reverseLoop 0 (d.size-1) d)
 case atStart=>exact⟨0,d.size-1,(d.size:Int)-1,d,0,rfl,rfl,fun h=>⟨by omega,by omega⟩,fun h=>by omega,by omega,rfl,(putRow_self encI w blk 0 d hH).symm,rfl⟩
 case round =>
  obtain⟨i,jn,jz,dk,n,rfl,rfl,h1,h2,hk,FP,GT,GK⟩:=hrel;by_cases Ab:(i:Int)<jz
  ·obtain⟨rfl,NM⟩:=h1 Ab;have Fj:i<jn:=by omega
   have JP:Holds encI wr blk 0 dk:=by rw[GT];exact holds_putRow encI _ blk 0 d dk (holds_ahead encI w n blk 0 d hH) FP
   obtain⟨ci,fi⟩:=JP i (by omega);obtain⟨cj,fj⟩:=JP jn (by omega);have A:Go.Aside (wr=putRow encI (Go.Sort.ahead w n) blk 0 dk):=GT;have SW:Hid (((wr.setCell ⟨blk,i,none⟩ (.int .i64 dk[jn]!)).setCell ⟨blk,jn,none⟩ (.int .i64 dk[i]!)).drew=putRow encI (Go.Sort.ahead w (n+1)) blk 0 (swp dk i jn)):=by
    have:=swap_world encI (off:=0) (i:=i) (j:=jn) (by omega) (by omega) GT rfl rfl;rw[J5G,J5G] at this;exact this
   clear GT JP hH h1 h2;go_wp2_with fail;rw[J5G] at ci fi cj fj;unfold encI at ci cj;go_region
   all_goals
    go_wp2_with fail;go_roundg (jn-1-(i+1))
    case measure=>omega
    case rel =>
     rw[reverseLoop,if_pos Fj] at GK;exact⟨i+1,jn-1,(jn:Int)-1,swp dk i jn,n+1,by go_num,by go_num,fun h=>⟨by omega,by omega⟩,fun h=>by omega,J3b _,by rw[size_swp];exact FP,
      (by have Kr:=SW.out;first|exact Kr|(simp only[getElem!_pos dk jn (by omega)] at Kr;exact Kr)),GK⟩
  ·have DA:=h2 Ab;go_wp2_with fail
   first|go_end0|skip
   refine⟨rfl,n,?_⟩;rw[reverseLoop,if_neg DA] at GK;rw[<- Go.Lib.reverseLoop_reverse,<- GK]
end Go.Proofs.YtfidemmgofcnmaaGreatDoor
namespace Go.Proofs.YtfidemmgofcnmaaGreatDoor
open Go.RowKit Go.Proofs.Tryz
theorem OutI.parts{w wr:World}{g n cap:Nat}{L:List Int}(h:OutI w wr (.slice (some ⟨g,0,none⟩) n cap) L):∃Ag,n=L.length/\w.heap.size<=g/\wr.heap[g]?=some (.cells Ag 3 (0,0))/\L.length<=cap/\cap<=maxLen/\Ag.size=cap/\Ag.toList.take L.length=(L.map encI):=by
 rcases h.1.2 with ⟨h',_⟩|⟨g',BG,Ag,h',a1,a2,a3,a4,a5,a6⟩
 ·simp at h'
 ·simp only[Value.slice.injEq,J3q,Addr.mk.injEq,and_true] at h';obtain⟨rfl,rfl,rfl⟩:=h';exact⟨Ag,rfl,a1,a2,a3,a4,by simpa using a5,by simpa using a6⟩
theorem OutI.cellAt{w wr:World}{g n cap:Nat}{L:List Int}(h:OutI w wr (.slice (some ⟨g,0,none⟩) n cap) L){j:Nat}{x:Int}(hj:L[j]?=some x):wr.cell? ⟨g,j,none⟩=some (.int .i64 x)/\w.heap.size<=g/\g<wr.heap.size:=by
 obtain⟨Ag,_,a1,a2,_,_,_,a6⟩:=h.parts;refine⟨?_,a1,lt_of_block a2⟩;have hv:(L.map encI)[j]?=some (.int .i64 x):=by rw[J4N,hj];rfl
 rw[<- a6,J5f] at hv;split at hv
 ·simp only[World.cell?,a2,J6f,J6V,if_false];rw[<- J5C];exact hv
 ·cases hv
theorem OutI.cut{w wr:World}{g n cap:Nat}{x:Int}{L:List Int}(h:OutI w wr (.slice (some ⟨g,0,none⟩) n cap) (L++[x])):OutI w wr (.slice (some ⟨g,0,none⟩) L.length cap) L:=by
 obtain⟨Ag,_,a1,a2,a3,a4,a5,a6⟩:=h.parts;have hl:L.length+1<=cap:=by simpa using a3
 refine⟨⟨by simp[List.length_map],.inr ⟨g,cap,Ag,rfl,a1,a2,by omega,a4,by simpa using a5,?_⟩⟩,h.2⟩;have:=congrArg (List.take L.length) a6;rw[J5x,J3M,J6G,show min L.length (L.length+[x].length)=L.length by simp] at this;rw[J4i,this];have e:(L.map encI).length=L.length:=J4L _;rw[<- e,J5A]
theorem Z3D{w wr:World}{g n cap:Nat}{L:List Int}(h:OutI w wr (.slice (some ⟨g,0,none⟩) n cap) L):Go.Sort.Holds encI wr g 0 L.toArray:=by
 obtain⟨Ag,_,a1,a2,_,_,_,a6⟩:=h.parts;intro j hj;have AY:j<L.length:=by simpa using hj
 have hx:=J5t AY;refine⟨?_,by simp[World.frozen?,a2]⟩;have:=(h.cellAt hx).1;rw[J5G,this,getElem!_pos _ j hj];simp[encI]
theorem Q7d(Ag:Array Value)(F:Array Int)(h:F.size<=Ag.size):(Go.Sort.putCells encI 0 F Ag).toList.take F.size=F.toList.map encI:=by
 apply J4K
 intro j;by_cases hj:j<F.size
 ·rw[J7x hj,J5C];simp[Go.Sort.putCells,hj,show j<Ag.size by omega]
 ·rw[J7y (by omega),J4R (by simp;omega)]
theorem Z6S{w:World}{g n:Nat}{Ag:Array Value}{e:TypeId}(d:Array Int)(hb:w.heap[g]?=some (.cells Ag e (0,0))) :
  (Go.Sort.putRow encI (Go.Sort.ahead w n) g 0 d).heap[g]?=some (.cells (Go.Sort.putCells encI 0 d Ag) e (0,0)):=by
 have hg:g<w.heap.size:=(J7z.1 hb).1;simp[Go.Sort.putRow,Go.Sort.mapBlock,Go.Sort.ahead,Array.getElem?_modify,hb,Go.Sort.onCells]
theorem Z3E{w:World}{g n:Nat}(d:Array Int):w.grownBy (Go.Sort.putRow encI (Go.Sort.ahead w n) g 0 d) (some g):=by
 refine⟨rfl,rfl,rfl,by simp[Go.Sort.putRow,Go.Sort.mapBlock,Go.Sort.ahead],fun k hk Aa=>?_⟩;have:g≠k:=fun e=>Aa (by rw[e])
 simp[Go.Sort.putRow,Go.Sort.mapBlock,Go.Sort.ahead,Array.getElem?_modify,this]
theorem OutI.reversed{w wr:World}{g n cap k:Nat}{L:List Int}(h:OutI w wr (.slice (some ⟨g,0,none⟩) n cap) L):OutI w (Go.Sort.putRow encI (Go.Sort.ahead wr k) g 0 L.toArray.reverse) (.slice (some ⟨g,0,none⟩) n cap) L.reverse:=by
 obtain⟨Ag,rfl,a1,a2,a3,a4,a5,a6⟩:=h.parts;have C6:=Z3E (w:=wr) (g:=g) (n:=k) L.toArray.reverse;have Be:L.toArray.reverse.size=L.length:=by simp
 refine⟨⟨by simp[List.length_map],.inr ⟨g,cap,_,by rw[J7A],a1,Z6S _ a2,by simpa using a3,a4,by simp[Go.Sort.putCells,a5],?_⟩⟩,h.2.trans ((Below.refl _ wr).mono h.2.size |>.grown C6 h.2.size (fun b hb=>by cases hb;exact a1))⟩;have e:L.reverse.length*1=L.toArray.reverse.size:=by simp
 rw[e,Q7d _ _ (by rw[Be,a5];exact a3)];simp
theorem OutI.alloc{w wr:World}{v:Value}{L:List Int}(h:OutI w wr v L)(o:Obj):OutI w (wr.alloc o) v L:=⟨h.1.alloc _,h.2.alloc h.2.size _⟩
theorem OutI.app0{w wr w1:World}{v v':Value}{L M:List Int}(h:OutI w wr v L)(Af:w1.ownsRow w.heap.size 3 1 v' (L.length+M.length) (L.map encI++M.map encI))(hg:wr.grownBy w1 v.ownBlock):OutI w w1 v' (L++M):=
 ⟨by rw[J3M,J6G];exact Af,h.2.trans ((Below.refl _ wr).mono h.2.size |>.grown hg h.2.size (fun b hb=>(h.1.lt b hb).1))⟩
def TwoI(w wr:World)(v:Value)(L:List Int)(u:Value)(M:List Int):Prop:=OutI w wr v L/\OutI w wr u M/\∀b,v.ownBlock=some b->u.ownBlock≠some b
theorem TwoI.swap{w wr:World}{v u:Value}{L M:List Int}(h:TwoI w wr v L u M):TwoI w wr u M v L:=⟨h.2.1,h.1,fun b h1 h2=>h.2.2 b h2 h1⟩
theorem TwoI.below{w wr w1:World}{v u:Value}{L M:List Int}(h:TwoI w wr v L u M)(hb:Below wr.heap.size wr w1):TwoI w w1 v L u M:=⟨h.1.below hb,h.2.1.below hb,h.2.2⟩
theorem TwoI.alloc{w wr:World}{v u:Value}{L M:List Int}(h:TwoI w wr v L u M)(o:Obj):TwoI w (wr.alloc o) v L u M:=⟨h.1.alloc o,h.2.1.alloc o,h.2.2⟩
theorem TwoI.cut{w wr:World}{g n cap:Nat}{x:Int}{u:Value}{L M:List Int}(h:TwoI w wr (.slice (some ⟨g,0,none⟩) n cap) (L++[x]) u M):TwoI w wr (.slice (some ⟨g,0,none⟩) L.length cap) L u M:=⟨h.1.cut,h.2.1,h.2.2⟩
theorem TwoI.app{w wr w1:World}{v v' u:Value}{L M X:List Int}(h:TwoI w wr v L u M)(Af:w1.ownsRow w.heap.size 3 1 v' (L.length+X.length) (L.map encI++X.map encI))(hg:wr.grownBy w1 v.ownBlock)(AA:v'.ownBlock=v.ownBlock∨v'.ownBlock=some wr.heap.size):TwoI w w1 v' (L++X) u M:=by
 obtain⟨h1,h2,h3⟩:=h;have hb:Below w.heap.size w w1:=h1.2.trans ((Below.refl _ wr).mono h1.2.size |>.grown hg h1.2.size (fun b hb=>(h1.1.lt b hb).1));refine⟨h1.app0 Af hg,⟨h2.1.kept hg ?_,hb⟩,fun b e1 e2=>?_⟩
 ·cases hv:v.ownBlock with
  | none=>cases hu:u.ownBlock with
   | none=>exact .inl rfl
   | some c=>exact .inr (by simp)
  | some b=>exact .inr (fun e=>h3 b hv e)
 ·rcases AA with e|e
  ·exact h3 b (e ▸ e1) e2
  ·rw[e] at e1;cases e1;exact absurd (h2.1.lt _ e2).2 (by omega)
theorem Z2o{w:World}{B:Nat}{v:Value}{L M:List Int}{rv:RV}{ty:TypeId}(h:w.ownsRow B 3 1 v L.length (L.map encI))(hM:∀g cap,rv=some (g,cap)->∀(j:Nat) (x:Int),M[j]?=some x->w.cell? ⟨g,j,none⟩=some (.int .i64 x))(A6:rvOk rv M.length)(hn:L.length+M.length<=16777216)(hB:B<=w.heap.size) :
  ∃v' w',(Builtin.append_ #[38,38] ty #[v,lvOf rv M.length]).run prog w=.ok v' w'/\w'.ownsRow B 3 1 v' (L.length+M.length) (L.map encI++M.map encI)/\w.grownBy w' v.ownBlock/\(v'.ownBlock=v.ownBlock∨v'.ownBlock=some w.heap.size):=by
 obtain⟨i0,CU,Bx,AX,AU⟩:=info_parts Q8q;cases rv with
 | none =>
  have P4:M=[]:=J5s A6;subst P4;exact⟨v,w,run_append_owned_none w B 38 ty 3 i0 1 underlying38 CU v _ _ h,by simpa using h,⟨rfl,rfl,rfl,J3b _,fun _ _ _=>rfl⟩,.inl rfl⟩
 | some p =>
  obtain⟨g,cap⟩:=p;obtain⟨v',w',e1,e2,e3,_,e5⟩:=run_append_own_at (P:=prog) w B 38 ty 3 i0 (.int .i64 0) 1 8 underlying38 CU Bx AX AU rfl (by decide) v _ _ h ⟨g,0,none⟩ M.length cap (M.map encI) (by simp) (fun j u hj=>by
   rw[J4N] at hj;obtain⟨x,hx,rfl⟩:=J7a.1 hj;have:=hM g cap rfl j x hx;have e:(⟨g,0,none⟩:Addr).add j=⟨g,j,none⟩:=by unfold Addr.add;split <;> simp_all
   rw[e];exact this) (fun u hu=>by
    obtain⟨x,_,rfl⟩:=J3h.1 hu;rfl) (by unfold maxLen;omega) (by omega) hB
  exact⟨v',w',e1,e2,e3,e5⟩
theorem Z0V{w wr:World}{q:FO}(h:Sep w q.hl)(ok:q.Ok){x:Int}{e:En Nd}(hf:find q.N x=some e){g n cap:Nat}{u:Value}{ws M:List Int}(T:TwoI w wr (.slice (some ⟨g,0,none⟩) n cap) (ws++[x]) u M)(hws:ws.length<=65536)(hM:M.length<=65536) :
  ∃v1 w1 v2 w2,(Builtin.append_ #[38,38] 38 #[.slice (some ⟨g,0,none⟩) ws.length cap,lvOf (q.kr x) e.q.ks.length]).run prog wr.drew=.ok v1 w1 /\
   (Builtin.append_ #[38,38] 38 #[u,.slice (some ⟨w1.heap.size,0,none⟩) 1 1]).run prog (w1.alloc (.cells #[.int .i64 x] 3))=.ok v2 w2/\TwoI w w2 v1 (ws++e.q.ks) v2 (M++[x]):=by
 obtain⟨Ca,Fd⟩:=Q0b hf;have C7:=ok.n.kids_few Ca;have G0:=ok.few;have A6:=ok.rv e Ca;rw[Fd] at A6;have T1:TwoI w wr.drew (.slice (some ⟨g,0,none⟩) ws.length cap) ws u M:=T.cut.below ((Below.refl _ _).drew);have hs:Sep wr.drew q.hl:=(h.grown T1.1.2).sep;obtain⟨R,p1,_⟩:=FO.split ok.n.ids hf;have Au:Sep wr.drew (rowH (q.kr x) 3 1 (e.q.ks.map encI)):=(hs.perm p1).left.tail;obtain⟨v1,w1,r1,o1,g1,b1⟩:=Z2o (rv:=q.kr x) (M:=e.q.ks) (ty:=38) T1.1.1 (fun g' BG hr j y hj=>by
  rw[hr] at Au;exact Q0G Au j _ (by rw[J4N,hj];rfl)) A6 (by omega) T1.1.2.size
 have T2:=T1.app o1 g1 b1;have T3:=T2.swap.alloc (.cells #[.int .i64 x] 3);have cn:=Cells.new w1 3 [.int .i64 x];obtain⟨v2,w2,r2,o2,g2,b2⟩:=Z2o (rv:=some (w1.heap.size,1)) (M:=[x]) (ty:=38) T3.1.1 (fun g' BG hr j y hj=>by
  cases hr
  exact cn.cell j _ (by
   cases j with
   | zero=>simp at hj;subst hj;rfl
   | succ j=>simp at hj)) ⟨J3b _,by unfold maxLen;omega⟩ (by simp;omega) T3.1.2.size
 exact⟨v1,w1,v2,w2,r1,r2,(T3.app o2 g2 b2).swap⟩
theorem OutI.shape{w wr:World}{v:Value}{L:List Int}(h:OutI w wr v L):∃(a:Option Addr) (cap:Nat),v=.slice a L.length cap:=by
 rcases h.1.2 with ⟨rfl,h0⟩|⟨g,cap,Ag,rfl,_⟩
 ·exact⟨none,0,by rw[h0]⟩
 ·exact⟨_,cap,rfl⟩
theorem OutI.shape1{w wr:World}{v:Value}{L:List Int}(h:OutI w wr v L)(hl:L≠[]):∃(g cap:Nat),v=.slice (some ⟨g,0,none⟩) L.length cap:=by
 rcases h.1.2 with ⟨rfl,h0⟩|⟨g,cap,Ag,rfl,_⟩
 ·exact absurd (J5s h0) hl
 ·exact⟨g,cap,rfl⟩
theorem TwoI.startI(w:World)(x:Int):TwoI w (w.alloc (.cells #[.int .i64 x] 3)) (.slice (some ⟨w.heap.size,0,none⟩) 1 1) [x] (.slice none 0 0) []:=by
 have hb:Below w.heap.size w (w.alloc (.cells #[.int .i64 x] 3)):=(Below.refl _ _).alloc (J3b _) _;refine⟨⟨?_,hb⟩,(OutI.nil w).below hb,fun b _=>by simp[Value.ownBlock]⟩;refine⟨by simp,.inr ⟨w.heap.size,1,#[.int .i64 x],rfl,J3b _,Cells.new w 3 [.int .i64 x],J3b _,by unfold maxLen;omega,by simp,by simp⟩⟩
structure BelI(q:FO)(id:Int)(ws M:List Int):Prop where
 eq:M++Q9g (kdF q.N) (rkF q.next) ws=preT (kdF q.N) (rkF q.next) id
 nodes:∀y∈ws,∃e,find q.N y=some e
theorem Z3F{q:FO}(ok:q.Ok){id y:Int}{e:En Nd}(hf:find q.N id=some e)(hy:y∈preT (kdF q.N) (rkF q.next) id):∃e',find q.N y=some e':=by
 have hd:=(Z2e ok.n.tree).1 hy;rcases hd.last with rfl|⟨z,_,hz⟩
 ·exact⟨e,hf⟩
 ·unfold kdF at hz;cases KR:find q.N z with
  | none=>rw[KR] at hz;cases hz
  | some p =>
   rw[KR] at hz;obtain⟨p1,_⟩:=Q0b KR;obtain⟨k,hk,_⟩:=ok.n.kids p p1 y hz;exact⟨k,hk⟩
theorem Z2p{q:FO}(ok:q.Ok){id:Int}{e:En Nd}(hf:find q.N id=some e):(preT (kdF q.N) (rkF q.next) id).length<=65536:=by
 have AO:(preT (kdF q.N) (rkF q.next) id).Nodup:=(Q6j ok.n.tree id).imp fun h=>h.1
 have:=J7s AO (l₂:=q.N.map En.id) (fun y hy=>by
  obtain⟨k,hk⟩:=Z3F ok hf hy;obtain⟨k1,k2⟩:=Q0b hk;exact J3h.2 ⟨k,k1,k2⟩)
 rw[J4L] at this;have:=ok.few;omega
theorem BelI.start{q:FO}{id:Int}{e:En Nd}(hf:find q.N id=some e):BelI q id [id] []:=⟨by simp[Q9g],fun y hy=>by
 rw[J5j] at hy;subst hy;exact⟨e,hf⟩⟩
theorem BelI.step{q:FO}(ok:q.Ok){id x:Int}{e:En Nd}{ws M:List Int}(b:BelI q id (ws++[x]) M)(hf:find q.N x=some e):BelI q id (ws++e.q.ks) (M++[x]):=by
 have hk:kdF q.N x=e.q.ks:=by unfold kdF;rw[hf]
 refine⟨?_,fun y hy=>?_⟩
 ·rw[<- b.eq,Z3d ok.n.tree,hk];simp
 ·rcases J3Q.1 hy with hy|hy
  ·exact b.nodes y (by simp[hy])
  ·obtain⟨e1,_⟩:=Q0b hf;obtain⟨k,hk,_⟩:=ok.n.kids e e1 y hy;exact⟨k,hk⟩
theorem BelI.len{q:FO}(ok:q.Ok){id:Int}{e:En Nd}(hf:find q.N id=some e){ws M:List Int}(b:BelI q id ws M):ws.length<=65536/\M.length<=65536/\M.length<=(preT (kdF q.N) (rkF q.next) id).length:=by
 have h1:=Z2p ok hf;have h2:=Z6c (kdF q.N) (rkF q.next) ok.n.tree ws;rw[<- b.eq,J3M] at h1 ⊢;omega
theorem BelI.done{q:FO}(ok:q.Ok){id:Int}{M:List Int}(b:BelI q id [] M):M.reverse=Q0H (kdF q.N) (rkF q.next) id++[id]:=by
 have h:=b.eq;have h0:Q9g (kdF q.N) (rkF q.next) []=[]:=rfl;rw[h0,J5i,Q3L ok.n.tree] at h;rw[h];simp
def slen:Value->Nat
 | .slice _ n _=>n
 | _=>0
end Go.Proofs.YtfidemmgofcnmaaGreatDoor
