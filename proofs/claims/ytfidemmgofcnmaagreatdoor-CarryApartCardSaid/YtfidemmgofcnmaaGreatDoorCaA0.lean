/- CarryApart returns true at every input. No condition. Part of a proof. -/
import Derived.Test.YtfidemmgofcnmaaGreatDoorAt30
set_option maxHeartbeats 16000000
set_option maxRecDepth 100000
set_option linter.unusedVariables false
namespace Go.Proofs.YtfidemmgofcnmaaGreatDoor
open Go.RowKit Go.Proofs.Tryz
def AsideN(H:HL)(m:List Nat)(a:Option Addr)(w:World):Prop:=AsideV H (bcells m) a w
theorem AsideN.at'{H:HL}{m:List Nat}{g:Nat}{w:World}(h:AsideN H m (some ⟨g,0,none⟩) w){i x:Nat}(hi:m[i]?=some x):w.cell? ⟨g,i,none⟩=some (.int .u8 x):=by
 obtain⟨g',e,_,_,z⟩:=h i (.int .u8 x) (by show(bcells m)[i]?=_;unfold bcells;rw[J3i,hi];rfl);cases e;exact z
theorem AsideN.step{H H':HL}{m:List Nat}{a:Option Addr}{w w':World}(h:AsideN H m a w)(st:Step H H' w w'):AsideN H' m a w':=AsideV.step h st
section
variable {w:World} {Z:SP} {fr:List Nat} {N K:Nat} {M:Int}
theorem Z1s(ok:Z.Ok fr N K M)(h:Sep w Z.hl)(hm:Z.S.P.a.mem.length=65536) :
  Calls prog 51 #[.pointer (some ⟨Z.S.P.a.a,0,none⟩),.int .i64 0,.int .i64 65536] w fun r w'=>∃g cap:Nat,r=.returned (.tuple #[.slice (some ⟨g,0,none⟩) 65536 cap,.int .i64 0])/\Below w.heap.size w w'/\AsideN Z.hl Z.S.P.a.mem (some ⟨g,0,none⟩) w':=by
 refine(Z3R (SP.sA h) 0 65536 (by omega) (by omega) (by omega)).mono ?_;rintro r w'⟨v,rfl,ho,hg⟩;have e:(Z.S.P.a.mem.drop 0).take 65536=Z.S.P.a.mem:=by rw[J5o,J3v (by omega)]
 rw[e] at ho;obtain⟨a,cap,rfl,ha⟩:=Q6T h ho;obtain⟨g,rfl,_,_,_⟩:=ha 0 (.int .u8 ((Z.S.P.a.mem[0]'(by omega):Nat):Int)) (by unfold bcells;rw[J3i,J3O (by omega)];rfl);rw[hm];exact⟨g,cap,rfl,(Below.refl _ _).grown hg (J1E _) (fun k hk=>by cases hk),ha⟩
theorem Z6g(h:Sep w Z.hl){c k:Nat}(hc:CarC Z c k w) :
  (Calls prog 44 #[.pointer (some ⟨c,0,none⟩)] w fun r w'=>r=.returned (.pointer (some ⟨Z.s,0,none⟩))/\w=w') /\
  (Calls prog 26 #[.pointer (some ⟨Z.s,0,none⟩)] w fun r w'=>r=.returned (.pointer (some ⟨Z.S.c,0,none⟩))/\w=w') /\
  (Calls prog 27 #[.pointer (some ⟨Z.S.c,0,none⟩)] w fun r w'=>r=.returned (.pointer (some ⟨Z.S.P.p,0,none⟩))/\w=w') /\
  (Calls prog 50 #[.pointer (some ⟨Z.S.P.p,0,none⟩)] w fun r w'=>r=.returned (.pointer (some ⟨Z.S.P.a.a,0,none⟩))/\w=w'):=
 ⟨Q2T hc,Q1y h,Q0S (SP.sS h),Q0v (CO.sP (SP.sS h))⟩
end
def Z6h(l:List Pl)(x:Nat):Value:=match pget l 1 x with
 | none=>.tuple #[zobj,.int .i64 8]
 | some p=>if p.kind=8 then .tuple #[p.obj,.int .i64 0] else .tuple #[zobj,.int .i64 10]
section
variable {w:World} {Z:SP} {fr:List Nat} {N K:Nat} {M:Int}
theorem J0y(h:Sep w Z.hl)(ok:Z.Ok fr N K M){x:Nat}(hx:x<4294967296):Calls prog 49 #[.pointer (some ⟨Z.S.c,0,none⟩),.int .u32 x,.int .i64 8] w (Told w (Z6h Z.S.l x)):=by
 unfold Z6h;cases hp:pget Z.S.l 1 x with
 | none=>exact Q3b (SP.sS h) ok.core.inv.lok hx 8 hp
 | some p =>
  dsimp only;by_cases hk:p.kind=8
  ·rw[if_pos hk];exact Q2p (SP.sS h) ok.core.inv.lok hx 8 hp (.inr (by rw[hk];rfl))
  ·rw[if_neg hk];exact Q2J (SP.sS h) ok.core.inv.lok hx 8 hp (by decide) (by omega)
theorem J0z(ok:Z.Ok fr N K M){f:Nat->Nat×Nat}(j:CaJ Z f):∃(hh:Nat) (rr el a0 a1 a2 eo:Int),hh<4294967296/\Q5R Z.S.l Z.tb 1 128=.tuple #[.agg #[.int .u32 hh,.int .i64 rr],.int .i64 el]/\Z6h Z.S.l hh=.tuple #[.agg #[.int .i64 a0,.int .i64 a1,.int .i64 a2],.int .i64 eo] /\
  ∀(off n:Int) (p:Pl) (g:Nat),FrmAt Z 1 128 2 off n p g->el=0/\a1=(p.at_:Int):=by
 have hp:=j.at' (i:=0) (by omega);have hk:(plB f 0).kind=2:=rfl;have ho:∀x:Nat,∃a0 a1 a2 eo:Int,Z6h Z.S.l x=.tuple #[.agg #[.int .i64 a0,.int .i64 a1,.int .i64 a2],.int .i64 eo]/\∀p,pget Z.S.l 1 x=some p->p.kind=8->a1=(p.at_:Int):=fun x=>by
  unfold Z6h;cases hq:pget Z.S.l 1 x with
  | none=>exact⟨0,0,0,8,rfl,fun p h=>by cases h⟩
  | some q =>
   dsimp only;by_cases h8:q.kind=8
   ·rw[if_pos h8];exact⟨_,(q.at_:Int),_,0,rfl,fun p h _=>by cases h;rfl⟩
   ·rw[if_neg h8];exact⟨0,0,0,10,rfl,fun p h h8'=>by cases h;exact absurd h8' h8⟩
 unfold Q5R;rw[hp];dsimp only;rw[if_pos hk,if_pos (by decide)];cases he:Q0g Z.S.l Z.tb 1 (128:Int).toNat with
 | none =>
  obtain⟨a0,a1,a2,eo,h1,_⟩:=ho 0;refine⟨0,0,6,a0,a1,a2,eo,by omega,rfl,h1,fun off n p g hf=>?_⟩;obtain⟨e,h2,_⟩:=hf.ent;rw[he] at h2;cases h2
 | some e =>
  obtain⟨a0,a1,a2,eo,h1,h3⟩:=ho e.h;have As:=ok.fpi.low ok.core.inv.lok (h:=1) (s:=(128:Int).toNat) he;refine⟨e.h,e.r,0,a0,a1,a2,eo,by have:=As.1;omega,rfl,h1,fun off n p g hf=>?_⟩;obtain⟨e',h2,h4,_⟩:=hf.ent;rw[he] at h2;cases h2;exact⟨rfl,h3 p h4 hf.kind⟩
def ApR(el a1 off:Int)(len:Nat)(m m':List Nat)(er:Int):Prop:=
 (er≠0/\m'=m)∨(er=0/\el=0/\∃a o:Nat,a1=(a:Int)/\off=(o:Int)/\o<=1024/\a+o+8*len<=65536/\∀i,¬(a+o<=i/\i<a+o+8*len)->m'[i]?=m[i]?)
theorem Z8B(ok:Z.Ok fr N K M)(h:Sep w Z.hl){c k:Nat}(hc:CarC Z c k w)(hm:Z.S.P.a.mem.length=65536){off:Int}(hoff:I64 off){ws:List Nat}{wa:Option Addr}(cap:Nat)(hu:AsideU Z.hl ws wa w)(Gg:∀y∈ws,y<18446744073709551616)(hl:ws.length<=200){el a1:Int}(NQ:∀(off n:Int) (p:Pl) (g:Nat),FrmAt Z 1 128 2 off n p g->el=0/\a1=(p.at_:Int)) :
  Calls prog 45 #[.pointer (some ⟨c,0,none⟩),.int .u32 1,.int .i64 128,.int .i64 off,.slice wa ws.length cap] w fun r w'=>∃(er:Int) (Z':SP),r=.returned (.int .i64 er)/\ApR el a1 off ws.length Z.S.P.a.mem Z'.S.P.a.mem er/\Z'.Ok fr N K M/\Z'.S.P.a.mem.length=65536/\Z'.S.P.a.a=Z.S.P.a.a/\Step Z.hl Z'.hl w w':=by
 refine(Q3K ok h hc (t:=1) (by omega) 128 off hoff cap hu Gg (by omega)).mono ?_;rintro r w' (⟨h1,rfl,hb⟩|⟨h0,p,g,hf,rfl,ok2,st⟩)
 ·exact⟨_,Z,rfl,.inl ⟨h1,rfl⟩,ok,hm,rfl,h.grown hb⟩
 ·obtain⟨he,ha⟩:=NQ _ _ _ _ hf;have hr:=hf.room;have KC:=(Q0R ok.core (hf.obj ok).1 (hf.obj ok).2 (.inr hf.kind)).1;have ek:costK p.kind=1024:=by rw[hf.kind];rfl
  rw[ek,hm] at KC;have Ev:(ws.flatMap Q0c).length=8*ws.length:=by rw[Q2g]
  have Ab:p.at_+g+(ws.flatMap Q0c).length<=Z.S.P.a.mem.length:=by rw[Ev,hm];omega
  refine⟨0,Z.stored p g ws,rfl,.inr ⟨rfl,he,p.at_,g,ha,hf.off,by omega,by omega,fun i hi=>?_⟩,ok2,?_,rfl,st⟩
  ·show(put_ Z.S.P.a.mem (p.at_+g) (ws.flatMap Q0c))[i]?=_;rw[Q3B _ _ _ Ab,Ev];split
   ·rfl
   ·split
    ·exact absurd (by omega) hi
    ·rfl
  ·show(put_ Z.S.P.a.mem (p.at_+g) (ws.flatMap Q0c)).length=_;rw[Q1h _ _ _ Ab,hm]
end
theorem Q6v{w:World}(AM:Env w)(a0:Option Addr)(n cap:Nat)(A:Nat->A19)(hA:IsA19 w a0 n A)(la:Option Addr)(nl cl:Nat)(LA:Nat->Nat)(hL:IsW8 w la nl LA)(off:Int)(hoff:I64 off) :
  Calls prog 7 #[.slice a0 n cap,.slice la nl cl,.int .i64 off] w (Told w (.bool true)):=by
 have ka:=Q6m AM;have G8:Hid (∀W,Below w.heap.size w W->Calls prog 47 #[.slice a0 n cap] W fun r w'=>r=.returned (.bool (Q4o A n))/\W=w'):=fun W hb=>Q9p W a0 n cap A (hA.below hb)
 have GO:Hid (∀W,Below w.heap.size w W->Calls prog 43 #[.int .i64 65536] W fun r w'=>∃c k ge cap f,r=.returned (.tuple #[.pointer (some ⟨c,0,none⟩),.slice (some ⟨ge,0,none⟩) 5 cap,.bool true])/\CarB 65536 c k ge f W w'):=fun W hb=>Q3J (AM.below hb) 65536 (by omega)
 have HA:=Q0a hA;have HL:=Q0a hL;have HO:=Q0a hoff;have HF:Hid (Q4o A n=true->n<=40/\∀j,j<n->few1 (A j)):=Q9q;clear hA hL AM hoff;go_enter func7,ntmps7;go_wp2_with fail;refine ka.mono ?_;rintro r w0⟨rfl,Bq⟩;have Di:=Q0a Bq;have kf:=G8.out w0 Bq;have HN:=Q0a (GO.out w0 Bq);clear Bq ka GO G8;go_wp2_with fail;refine kf.mono ?_;rintro r w0'⟨rfl,rfl⟩;clear kf;generalize Q4o A n=fv at *
 cases fv with
 | false =>
  clear HN HF;go_wp2_with fail
  (try go_ret);exact⟨rfl,Di.out⟩
 | true =>
 obtain⟨GS,DI⟩:=HF.out rfl;have Mj:=Q0a DI;clear HF DI;by_cases Jl:nl<=200
 case neg =>
  have DL:(200:Int)<(nl:Int):=by omega
  clear HN;go_wp2_with fail
  (try go_ret);exact⟨rfl,Di.out⟩
 case pos =>
 have DL:(nl:Int)<=200:=by omega
 have Q6:(0:Int)<=(nl:Int):=by omega
 have E6:(0:Int)<=(n:Int):=by omega
 have Ge:(n:Int)<=40:=by omega
 have Ig:=Q0a GS;have Mi:=Q0a Jl;clear GS Jl;go_wp2_with fail;refine HN.out.mono ?_;rintro r w1⟨c,k,ge,cp,f,rfl,hB⟩;have HQ:=Q0a (CaT.begin hB);clear HN hB;go_wp2_with fail
 go_loopg [10] n (fun gk iv wr=>∃i:Nat,iv=.int .i64 i/\i+gk=n/\CaT c k ge f (8+i) 0 (2+256*(i:Int)) w0 wr)
 case atStart=>exact⟨0,rfl,by omega,HQ.out⟩
 case round =>
 clear HQ;obtain⟨i,rfl,E5,hq⟩:=hrel;have DT:=Q0a E5;clear E5;by_cases Aa:i<n
 case pos =>
  have OC:=Ig.out;obtain⟨g,o,cs,rfl,M3,Be,kp⟩:=Z1r (cap:=cp) HA.out Di.out hq (by omega) (by omega) Aa (Mj.out i Aa);have Fd:(i:Int)<(n:Int):=by omega
  have BB:(0:Int)<=(i:Int):=by omega
  have KP:=Q0a kp;clear hq kp OC;go_upto_region 11 with fail
  iterate 16 go_step
  refine wpList_load_mid (by rfl) 102 _ (by rfl) g (o+i*29) (by rfl) cs _ M3 underlying102 (by rfl) Be ?_;clear M3 Be;go_wp2_with fail;refine KP.out.mono ?_;rintro rr w3⟨rfl,hq⟩;have HQ:=Q0a hq;clear hq KP;go_wp2_with fail;go_roundg (n-(i+1))
  case measure=>have:=DT.out;omega
  case rel=>exact⟨i+1,by go_num,by have:=DT.out;omega,HQ.out.mono (by omega) (by omega) (by omega)⟩
 case neg =>
  have JT:¬(i:Int)<(n:Int):=by omega
  obtain⟨Z,fr,ok,j,hc,he,st⟩:=hq;obtain⟨hh,lr,el,a0',a1,a2,eo,Ni,eL,eO,NQ⟩:=J0z ok j;have hm:Z.S.P.a.mem.length=65536:=by rw[ok.core.inv.mem.pool.mem,j.top]
  have Dp:Hid (∀V,Below wr.heap.size wr V->(Calls prog 44 #[.pointer (some ⟨c,0,none⟩)] V fun r w'=>r=.returned (.pointer (some ⟨Z.s,0,none⟩))/\V=w')/\(Calls prog 26 #[.pointer (some ⟨Z.s,0,none⟩)] V fun r w'=>r=.returned (.pointer (some ⟨Z.S.c,0,none⟩))/\V=w')/\(Calls prog 27 #[.pointer (some ⟨Z.S.c,0,none⟩)] V fun r w'=>r=.returned (.pointer (some ⟨Z.S.P.p,0,none⟩))/\V=w')/\(Calls prog 50 #[.pointer (some ⟨Z.S.P.p,0,none⟩)] V fun r w'=>r=.returned (.pointer (some ⟨Z.S.P.a.a,0,none⟩))/\V=w')):=fun V hV=>Z6g (st.sep.grown hV).sep (hc.step rfl (st.sep.grown hV))
  have RR:Hid (∀V,Below wr.heap.size wr V->Calls prog 37 #[.pointer (some ⟨Z.s,0,none⟩),.int .u32 1,.int .i64 128] V (Told V (.tuple #[.agg #[.int .u32 hh,.int .i64 lr],.int .i64 el]))):=fun V hV=>by
   have:=Q5S (st.sep.grown hV).sep ok (x:=1) (by omega) 128;rw[eL] at this;exact this
  have Le:Hid (∀V,Below wr.heap.size wr V->Calls prog 49 #[.pointer (some ⟨Z.S.c,0,none⟩),.int .u32 hh,.int .i64 8] V (Told V (.tuple #[.agg #[.int .i64 a0',.int .i64 a1,.int .i64 a2],.int .i64 eo]))):=fun V hV=>by
   have:=J0y (st.sep.grown hV).sep ok Ni;rw[eO] at this;exact this
  have K9:Hid (∀V,Below wr.heap.size wr V->Calls prog 51 #[.pointer (some ⟨Z.S.P.a.a,0,none⟩),.int .i64 0,.int .i64 65536] V fun r w'=>∃g cap:Nat,r=.returned (.tuple #[.slice (some ⟨g,0,none⟩) 65536 cap,.int .i64 0])/\Below V.heap.size V w'/\g<w'.heap.size /\
    (∀W,Below w'.heap.size w' W->∀i x:Nat,Z.S.P.a.mem[i]?=some x->W.cell? ⟨g,i,none⟩=some (.int .u8 x)) /\
    ∀W,Below w'.heap.size w' W->Calls prog 45 #[.pointer (some ⟨c,0,none⟩),.int .u32 1,.int .i64 128,.int .i64 off,.slice la nl cl] W fun r w2=>∃(er:Int) (m':List Nat),r=.returned (.int .i64 er)/\ApR el a1 off nl Z.S.P.a.mem m' er/\m'.length=65536/\Below w0.heap.size w0 w2/\(∀b,w.heap.size<=b->True)/\(∀b,wr.heap.size<=b->b<W.heap.size->w2.heap[b]?=W.heap[b]?) /\
     (∀W2,Below w2.heap.size w2 W2->∀i x:Nat,Z.S.P.a.mem[i]?=some x->W2.cell? ⟨g,i,none⟩=some (.int .u8 x)) /\
     ∀W2,Below w2.heap.size w2 W2->Calls prog 51 #[.pointer (some ⟨Z.S.P.a.a,0,none⟩),.int .i64 0,.int .i64 65536] W2 fun r w3=>∃g2 cap2:Nat,r=.returned (.tuple #[.slice (some ⟨g2,0,none⟩) 65536 cap2,.int .i64 0])/\Below W2.heap.size W2 w3 /\
      ∀W3,Below w3.heap.size w3 W3->∀i x:Nat,m'[i]?=some x->W3.cell? ⟨g2,i,none⟩=some (.int .u8 x)):=fun V hV=>by
   have sV:=st.sep.grown hV;refine(Z1s ok sV.sep hm).mono ?_;rintro r w'⟨g,VG,rfl,Aj,hg⟩;have s1:=sV.trans (sV.sep.grown Aj);refine⟨g,VG,rfl,Aj,?_,fun W hW i x hx=>(hg.step (s1.sep.grown hW)).at' hx,fun W hW=>?_⟩
   ·obtain⟨g',e,_,Aa,_⟩:=hg 0 (.int .u8 ((Z.S.P.a.mem[0]'(by omega):Nat):Int)) (by unfold bcells;rw[J3i,J3O (by omega)];rfl);cases e;exact Aa
   have s2:=s1.trans (s1.sep.grown hW);have hu:=Z8x HL.out Di.out (st.trans s2);have k:=Z8B ok s2.sep (hc.step rfl s2) hm HO.out cl (ws:=(List.range nl).map LA) hu (Z8y HL.out) (by rw[Z8U];exact Mi.out) NQ;rw[Z8U] at k;refine k.mono ?_;rintro r w2⟨er,Z',rfl,R,ok',B8,ea,s3⟩;refine⟨er,Z'.S.P.a.mem,rfl,R,B8,((st.trans s2).trans s3).fresh,fun _ _=>trivial,s3.keep st.sep (J1E _),fun W2 IX i x hx=>((hg.step (s1.sep.grown hW)).step (s3.trans (s3.sep.grown IX))).at' hx,fun W2 IX=>?_⟩;have s4:=s3.trans (s3.sep.grown IX);have k2:=Z1s ok' s4.sep B8;rw[ea] at k2;refine k2.mono ?_;rintro r w3⟨g2,Qn,rfl,Ae,Bw⟩
   exact⟨g2,Qn,rfl,Ae,fun W3 Km i x hx=>(Bw.step ((s4.trans (s4.sep.grown Ae)).sep.grown Km)).at' hx⟩
  have BK:Hid (Below w.heap.size w wr):=Di.out.trans (st.fresh.mono Di.out.size);have O8:Hid (∀i,i<65536->∃x,Z.S.P.a.mem[i]?=some x):=fun i hi=>⟨_,J3O (by omega)⟩
  generalize Z.S.P.a.mem=mem at *
  generalize Z.S.P.a.a=aa at *
  generalize Z.S.P.p=pp at *
  generalize Z.S.c=cc at *
  generalize Z.s=ss at *
  clear ok j hc he st NQ eL eO hm Ni Mj HA DT;go_wp2_with fail;refine(Dp.out _ (Below.refl _ _)).1.mono ?_;rintro rv w2⟨rfl,rfl⟩;go_wp2_with fail;refine(RR.out _ (Below.refl _ _)).mono ?_;rintro rv w2⟨rfl,Ae⟩;have B7:Hid (Below wr.heap.size wr (w2.alloc (.cells #[.int .u32 hh,.int .i64 lr] 72))):=Ae.alloc Ae.size _;have C9:Hid (Cells (w2.alloc (.cells #[.int .u32 hh,.int .i64 lr] 72)) w2.heap.size 72 [.int .u32 hh,.int .i64 lr]):=Cells.new w2 72 [.int .u32 hh,.int .i64 lr];clear Ae;go_upto_region 13 with fail;generalize RO:w2.alloc (.cells #[.int .u32 hh,.int .i64 lr] 72)=wd at *
  generalize J7:w2.heap.size=B1 at *
  clear RO J7;have DZ:Hid (∀V,Below wd.heap.size wd V->V.cell? ⟨B1,0,none⟩=some (.int .u32 hh)):=fun V hb=>(C9.out.same (hb.block B1 C9.out.lt)).cell 0 _ rfl
  have JJ:Hid (∀V,Below wd.heap.size wd V->Calls prog 49 #[.pointer (some ⟨cc,0,none⟩),.int .u32 hh,.int .i64 8] V (Told V (.tuple #[.agg #[.int .i64 a0',.int .i64 a1,.int .i64 a2],.int .i64 eo]))):=fun V hb=>Le.out V (B7.out.trans (hb.mono B7.out.size))
  have Mw:Hid (∀V,Below wd.heap.size wd V->Calls prog 44 #[.pointer (some ⟨c,0,none⟩)] V fun r w'=>r=.returned (.pointer (some ⟨ss,0,none⟩))/\V=w'):=fun V hb=>(Dp.out V (B7.out.trans (hb.mono B7.out.size))).1
  have Mc:Hid (∀V,Below wd.heap.size wd V->Calls prog 26 #[.pointer (some ⟨ss,0,none⟩)] V fun r w'=>r=.returned (.pointer (some ⟨cc,0,none⟩))/\V=w'):=fun V hb=>(Dp.out V (B7.out.trans (hb.mono B7.out.size))).2.1
  clear Le RR
  go_cut [13,14] from 59 to 67 (fun oo ee wc=>∃B:Nat,oo=.pointer (some ⟨B,0,none⟩)/\ee=.int .i64 eo/\Below wd.heap.size wd wc/\wd.heap.size<=B/\Cells wc B 54 [.int .i64 a0',.int .i64 a1,.int .i64 a2])
  case first =>
   have Cf:Hid (∀V,Below wd.heap.size wd V->∀o,Below wd.heap.size wd (V.alloc o)):=fun V hb o=>hb.alloc hb.size o
   have HD:Hid (Below wd.heap.size wd wd.drew):=(Below.refl _ _).drew;have FU:Hid (Below wd.heap.size wd wd):=Below.refl _ _;have MM:Hid (Calls prog 49 #[.pointer (some ⟨cc,0,none⟩),.int .u32 hh,.int .i64 8] (wd.alloc (.cells #[.int .i64 0,.int .i64 0,.int .i64 0] 54)).drew fun r w4=>r=.returned (.tuple #[.agg #[.int .i64 a0',.int .i64 a1,.int .i64 a2],.int .i64 eo])/\Below wd.heap.size wd w4/\Cells w4 wd.heap.size 54 [.int .i64 0,.int .i64 0,.int .i64 0]):=
    (JJ.out _ (Cf.out _ (Below.refl _ _).drew _)).mono fun r w4 h=>⟨h.1,((Cf.out _ (Below.refl _ _).drew _)).trans (h.2.mono (by simp)),(Cells.new wd 54 [.int .i64 0,.int .i64 0,.int .i64 0]).same (h.2.block _ (by simp))⟩
   clear K9 O8 BK Dp
   go_region_held3 (fun V=>V.cell? ⟨B1,0,none⟩=some (.int .u32 hh))
    (first|exact DZ.out _ FU.out|exact DZ.out _ HD.out|exact DZ.out _ (Cf.out _ HD.out _)|exact DZ.out _ Ak.out|exact DZ.out _ (Cf.out _ Ak.out _)|exact DZ.out _ (Ak.out.setCell (by simp) _)|exact DZ.out _ ((Ak.out.setCell (by simp) _).setCell (by simp) _)|exact DZ.out _ (((Ak.out.setCell (by simp) _).setCell (by simp) _).setCell (by simp) _))
    (first|(go_at_call 44;refine(Mw.out _ (by first|exact HD.out|exact Cf.out _ HD.out _)).mono ?_;rintro rv w'⟨rfl,rfl⟩)|(go_at_call 26;refine(Mc.out _ (by first|exact HD.out|exact Cf.out _ HD.out _)).mono ?_;rintro rv w'⟨rfl,rfl⟩)|(go_at_call 49;refine MM.out.mono ?_;rintro rv w4⟨rfl,A2,BC⟩;have Ak:=Q0a A2;have z0:=BC.cell 0 _ rfl;have y0:=BC.free 0;have z1:=BC.cell 1 _ rfl;have y1:=BC.free 1;have z2:=BC.cell 2 _ rfl;have y2:=BC.free 2;have Hc:=Q0a BC;clear A2 BC)|(go_at_call 49;refine(JJ.out _ (by first|exact HD.out|exact Cf.out _ HD.out _)).mono ?_;rintro rv w4⟨rfl,A2⟩;have Ak:=Q0a (HD.out.trans (A2.mono HD.out.size));clear A2))
   all_goals (go_wp2_with fail;go_meet;first|exact⟨_,rfl,rfl,Cf.out _ Ak.out _,Ak.out.size,Cells.new _ 54 [.int .i64 a0',.int .i64 a1,.int .i64 a2]⟩|exact⟨_,rfl,rfl,(((Ak.out.setCell (by simp) _).setCell (by simp) _).setCell (by simp) _),J1E _,(((Hc.out.set 0 (.int .i64 a0')).set 1 (.int .i64 a1)).set 2 (.int .i64 a2))⟩)
  obtain⟨B2,rfl,rfl,A2,Fq,BC⟩:=hcut;have Cb:=B7.out.trans (A2.mono B7.out.size);have IH:=Q0a Cb;have Hc:=Q0a BC;have CX:Hid (wr.heap.size<=B2):=J1F B7.out.size Fq;clear A2 Fq BC Cb C9 DZ JJ Mw Mc B7;have k4:=Dp.out wc IH.out;have LU:=Q0a k4;have kr:=Q0a (K9.out wc IH.out);clear k4 Dp K9;go_wp2_with fail;refine LU.out.1.mono ?_;rintro rv w5⟨rfl,rfl⟩;go_wp2_with fail;refine LU.out.2.1.mono ?_;rintro rv w5⟨rfl,rfl⟩;go_wp2_with fail;refine LU.out.2.2.1.mono ?_;rintro rv w5⟨rfl,rfl⟩;go_wp2_with fail;refine LU.out.2.2.2.mono ?_;rintro rv w5⟨rfl,rfl⟩;go_wp2_with fail
  refine kr.out.mono ?_;rintro rv w5⟨g,VO,rfl,Au,FT,Am,RH⟩;have EL:=Q0a (Hc.out.same (Au.block B2 Hc.out.lt));have KS:=Q0a (RH w5 (Below.refl _ _));clear Au FT Am RH kr LU Hc;go_wp2_with fail;refine KS.out.mono ?_;rintro rv w6⟨er,m',rfl,R,B8,MH,-,Cu,Cj,Rm⟩;have KK:=Q0a (EL.out.same (Cu B2 CX.out EL.out.lt));have KR:=Q0a (Rm w6 (Below.refl _ _));have QE:=Q0a Cj;have Sf:=Q0a R;have Rh:Hid (∀i,i<65536->∃y,m'[i]?=some y):=fun i hi=>⟨_,J3O (by omega)⟩
  have JH:=Q0a MH;clear R B8 MH Cu Cj Rm KS EL;go_wp2_with fail;refine KR.out.mono ?_;rintro rv w7⟨g2,Qn,rfl,Cl,GC⟩;have HE:Hid (∀V,Below w7.heap.size w7 V->Told w (.bool true) (.returned (.bool true)) V):=fun V hV=>⟨rfl,Di.out.trans ((JH.out.trans ((Cl.trans (hV.mono Cl.size)).mono JH.out.size)).mono Di.out.size)⟩
  have HX:Hid (∀V,Below w7.heap.size w7 V->∀i x:Nat,mem[i]?=some x->V.cell? ⟨g,i,none⟩=some (.int .u8 x)):=fun V hV=>QE.out V (Cl.trans (hV.mono Cl.size))
  have HY:=Q0a GC;have Uo:Hid (∀V,Below w7.heap.size w7 V->V.cell? ⟨B2,1,none⟩=some (.int .i64 a1)):=fun V hV=>(KK.out.same ((Cl.trans (hV.mono Cl.size)).block B2 KK.out.lt)).cell 1 _ rfl
  clear Cl GC KR QE JH KK BK;have hR:=Sf.out;clear Sf;rcases hR with ⟨h0,rfl⟩|⟨rfl,rfl,a,o,rfl,rfl,ho,Rx,Du⟩
  ·have he:(er==0)=false:=by simp[h0]
   have Ac:(er != 0)=true:=by simp[h0]
   clear Rh h0;go_upto_region 18 with fail
   go_cut [102] from 87 to 102 (fun b wc=>b=.bool false/\wc=w7)
   case first =>
    by_cases Pd:el=0
    ·subst Pd;go_wp2_with fail;go_meet;exact⟨rfl,rfl⟩
    ·have Bz:(el != 0)=true:=by simp[Pd]
     clear Pd;go_wp2_with fail;go_meet;exact⟨rfl,rfl⟩
   obtain⟨rfl,RE⟩:=hcut;subst wc;go_wp2_with fail
   go_loopg [21] 65536 (fun gk iv wr=>∃i:Nat,iv=.int .i64 i/\i+gk=65536/\Below w7.heap.size w7 wr)
   case atStart=>exact⟨0,rfl,by omega,Below.refl _ _⟩
   case round =>
    obtain⟨i,rfl,E5,hb⟩:=hrel;have DT:=Q0a E5;have BZ:=Q0a hb;by_cases Aa:i<65536
    ·obtain⟨x,hx⟩:=O8.out i Aa;have x1:=HX.out wr hb i x hx;have y1:=HY.out wr hb i x hx;have FX:(i:Int)<65536:=by omega
     have BB:(0:Int)<=(i:Int):=by omega
     clear hx E5 hb;go_wp2_with fail
     go_quiet (fail)
     go_wp2_with fail;go_roundg (65536-(i+1))
     case measure=>have:=DT.out;omega
     case rel=>exact⟨i+1,by go_num,by have:=DT.out;omega,Q0q BZ.out _⟩
    ·have V7:¬(i:Int)<65536:=by omega
     have HR:=Q0a (HE.out wr hb);clear E5 hb Aa;go_wp2_with fail
     (try go_ret);exact HR.out
  ·have Wj:(o:Int)<=1024:=by omega
   have UE:(0:Int)<=(o:Int):=by omega
   have Vd:(a:Int)+(o:Int)+8*(nl:Int)<=65536:=by omega
   have Qu:(0:Int)<=(a:Int):=by omega
   have HS:=Q0a Du;have VR:=Q0a Rx;clear Du ho Rx;go_upto_region 18 with fail
   go_cut [102] from 87 to 102 (fun b wc=>b=.bool false/\wc=w7)
   case first =>
    go_wp2_with fail;go_meet;exact⟨rfl,rfl⟩
   obtain⟨rfl,RE⟩:=hcut;subst wc;go_wp2_with fail
   go_loopg [21] 65536 (fun gk iv wr=>∃i:Nat,iv=.int .i64 i/\i+gk=65536/\Below w7.heap.size w7 wr)
   case atStart=>exact⟨0,rfl,by omega,Below.refl _ _⟩
   case round =>
    obtain⟨i,rfl,E5,hb⟩:=hrel;have DT:=Q0a E5;have BZ:=Q0a hb;by_cases Aa:i<65536
    ·obtain⟨x,hx⟩:=O8.out i Aa;obtain⟨y,hy⟩:=Rh.out i Aa;have x1:=HX.out wr hb i x hx;have y1:=HY.out wr hb i y hy;have z1:=Uo.out wr hb;have FX:(i:Int)<65536:=by omega
     have BB:(0:Int)<=(i:Int):=by omega
     have Ng:Hid (¬(a+o<=i/\i<a+o+8*nl)->y=x):=fun h=>by
      have:=HS.out i h;rw[hx,hy] at this;exact J2u this
     clear hx hy E5 hb;by_cases h1:a+o<=i
     ·by_cases h2:i<a+o+8*nl
      ·have j1:(a:Int)+(o:Int)<=(i:Int):=by omega
       have j2:(i:Int)<(a:Int)+(o:Int)+8*(nl:Int):=by omega
       clear Ng h1 h2;go_wp2_with fail
       go_quiet (fail)
       go_wp2_with fail;go_roundg (65536-(i+1))
       case measure=>have:=DT.out;omega
       case rel=>exact⟨i+1,by go_num,by have:=DT.out;omega,Q0q BZ.out _⟩
      ·obtain rfl:=Ng.out (fun h=>h2 h.2);have j1:(a:Int)+(o:Int)<=(i:Int):=by omega
       have j2:(a:Int)+(o:Int)+8*(nl:Int)<=(i:Int):=by omega
       clear Ng h1 h2;go_wp2_with fail
       go_quiet (fail)
       go_wp2_with fail;go_roundg (65536-(i+1))
       case measure=>have:=DT.out;omega
       case rel=>exact⟨i+1,by go_num,by have:=DT.out;omega,Q0q BZ.out _⟩
     ·obtain rfl:=Ng.out (fun h=>h1 h.1);have j1:decide ((a:Int)+(o:Int)<=(i:Int))=false:=decide_eq_false (by omega);clear Ng h1;go_wp2_with fail
      go_quiet (fail)
      go_wp2_with fail;go_roundg (65536-(i+1))
      case measure=>have:=DT.out;omega
      case rel=>exact⟨i+1,by go_num,by have:=DT.out;omega,Q0q BZ.out _⟩
    ·have V7:¬(i:Int)<65536:=by omega
     have HR:=Q0a (HE.out wr hb);clear E5 hb Aa;go_wp2_with fail
     (try go_ret);exact HR.out
end Go.Proofs.YtfidemmgofcnmaaGreatDoor
