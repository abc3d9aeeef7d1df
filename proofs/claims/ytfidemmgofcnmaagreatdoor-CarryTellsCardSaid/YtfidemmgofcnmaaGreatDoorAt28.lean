/- What the laws of spaces share is proved. No condition. Part of a proof. -/
import Derived.Test.YtfidemmgofcnmaaGreatDoorAt27
set_option maxHeartbeats 2000000
set_option maxRecDepth 100000
set_option linter.unusedVariables false
namespace Go.Proofs.YtfidemmgofcnmaaGreatDoor
open Go.RowKit Go.Proofs.Tryz
def frmE(Z:SP)(t:Nat)(z:Int)(right:Nat)(off n:Int):Int:=match pget Z.S.l 1 t with
 | none=>8
 | some q=>if q.kind=2 then(if 0<=z/\z<256 then(match Q0g Z.S.l Z.tb t z.toNat with
   | none=>6
   | some e=>match pget Z.S.l 1 e.h with
    | none=>8
    | some p=>frE (if p.kind=8 then 0 else 10) ((e.r&&&right:Nat):Int) off n) else 2) else 10
structure FrmAt(Z:SP)(t:Nat)(z:Int)(right:Nat)(off n:Int)(p:Pl)(f:Nat):Prop where
 rg:0<=z/\z<256
 ent:∃e,Q0g Z.S.l Z.tb t z.toNat=some e/\pget Z.S.l 1 e.h=some p/\e.r&&&right≠0
 kind:p.kind=8
 off:off=(f:Int)
 al:f%8=0
 room:(f:Int)+n<=1024
theorem Z0n{er:Int}(h:er≠0)(q off n:Int):frE er q off n=er:=by unfold frE;rw[if_pos h]
theorem Z8s{er q off n:Int}(h:frE er q off n=0):er=0/\q≠0/\0<=off/\off<=1024/\n<=1024-off/\off%8=0:=by
 unfold frE at h;by_cases h1:er=0
 ·rw[if_neg (by omega)] at h;by_cases h2:q=0
  ·rw[if_pos h2] at h;cases h
  ·rw[if_neg h2] at h;by_cases h3:off<0∨1024<off∨1024-off<n
   ·rw[if_pos h3] at h;cases h
   ·rw[if_neg h3] at h;by_cases h4:off%8=0
    ·exact⟨h1,h2,by omega,by omega,by omega,h4⟩
    ·rw[if_pos h4] at h;cases h
 ·rw[if_pos h1] at h;exact(h1 h).elim
def FrmR(Z:SP)(t:Nat)(z:Int)(right:Nat)(off n:Int)(w:World)(r:Ending)(w':World):Prop:=Below w.heap.size w w' /\
 ((frmE Z t z right off n≠0/\r=.returned (.tuple #[.int .i64 0,.int .i64 (frmE Z t z right off n)])) ∨
  (frmE Z t z right off n=0/\∃(p:Pl) (f:Nat),FrmAt Z t z right off n p f/\r=.returned (.tuple #[.int .i64 ((p.at_+f:Nat):Int),.int .i64 0])))
theorem Q6k{w:World}{Z:SP}{fr:List Nat}{N K:Nat}{M:Int}(ok:Z.Ok fr N K M)(h:Sep w Z.hl){c k:Nat}(hc:CarC Z c k w){t:Nat}(ht:t<4294967296)(z:Int){right:Nat}(hr:right<16){off n:Int}(hoff:-9223372036854775808<=off/\off<=9223372036854775807)(hn:0<=n/\n<=16777216) :
  Calls prog 111 #[.pointer (some ⟨c,0,none⟩),.int .u32 t,.int .i64 z,.int .i64 right,.int .i64 off,.int .i64 n] w (FrmR Z t z right off n w):=by
 have kL:=Q5S h ok ht z;obtain⟨c0,k0⟩:=hc.cells;unfold Q5R at kL;have bad:∀e:Int,e≠0->frmE Z t z right off n=e->Calls prog 37 #[.pointer (some ⟨Z.s,0,none⟩),.int .u32 t,.int .i64 z] w (Told w (.tuple #[.agg #[.int .u32 0,.int .i64 0],.int .i64 e]))->Calls prog 111 #[.pointer (some ⟨c,0,none⟩),.int .u32 t,.int .i64 z,.int .i64 right,.int .i64 off,.int .i64 n] w (FrmR Z t z right off n w):=fun e he hE kl=>by
  refine(J1k c0 k0 he kl).mono ?_;rintro r w'⟨rfl,hb⟩;exact⟨hb,.inl ⟨by rw[hE];exact he,by rw[hE]⟩⟩
 cases hq:pget Z.S.l 1 t with
 | none =>
  rw[hq] at kL;exact bad 8 (by decide) (by unfold frmE;rw[hq]) kL
 | some q =>
  rw[hq] at kL;by_cases hk:q.kind=2
  case neg =>
   simp only[if_neg hk] at kL;exact bad 10 (by decide) (by unfold frmE;rw[hq];simp only;rw[if_neg hk]) kL
  case pos =>
   simp only[if_pos hk] at kL;by_cases hz:0<=z/\z<256
   case neg =>
    simp only[if_neg hz] at kL;exact bad 2 (by decide) (by unfold frmE;rw[hq];simp only;rw[if_pos hk,if_neg hz]) kL
   case pos =>
    simp only[if_pos hz] at kL;cases he:Q0g Z.S.l Z.tb t z.toNat with
    | none =>
     rw[he] at kL;exact bad 6 (by decide) (by unfold frmE;rw[hq];simp only;rw[if_pos hk,if_pos hz,he]) kL
    | some e =>
     rw[he] at kL;have As:=ok.fpi.low ok.core.inv.lok he;have Ht:e.r<16:=(As.2)
     have Mo:=Q4h e.r right Ht hr;have fin:∀(er a0 a1 a2:Int),(0<=a1/\a1<=1073741824)->(∀V,Below w.heap.size w V->Calls prog 49 #[.pointer (some ⟨Z.S.c,0,none⟩),.int .u32 (e.h:Int),.int .i64 8] V (Told V (.tuple #[.agg #[.int .i64 a0,.int .i64 a1,.int .i64 a2],.int .i64 er]))) ->
       frmE Z t z right off n=frE er ((e.r&&&right:Nat):Int) off n->(frE er ((e.r&&&right:Nat):Int) off n=0->∃p,pget Z.S.l 1 e.h=some p/\p.kind=8/\a1=(p.at_:Int)) ->
       Calls prog 111 #[.pointer (some ⟨c,0,none⟩),.int .u32 t,.int .i64 z,.int .i64 right,.int .i64 off,.int .i64 n] w (FrmR Z t z right off n w):=fun er a0 a1 a2 ha kf hE hP=>by
      refine(J0r (k:=k) (o:=Z.S.c) (er:=er) (a0:=a0) (a2:=a2) hoff hn ha kL fun V hV=>?_).mono ?_
      ·have s1:=h.grown hV;exact⟨(hc.step rfl s1).cells,Q1y s1.sep,kf V hV⟩
      ·rintro r w'⟨rfl,hb⟩;rw[Mo];refine⟨hb,?_⟩;by_cases h0:frE er ((e.r&&&right:Nat):Int) off n=0
       ·obtain⟨p,hp,EW,rfl⟩:=hP h0;obtain⟨-,Et,o1,o2,o3,o4⟩:=Z8s h0;obtain⟨f,rfl⟩:=J3b o1;refine .inr ⟨by rw[hE];exact h0,p,f,⟨hz,⟨e,he,hp,by omega⟩,EW,rfl,by omega,by omega⟩,?_⟩;rw[if_pos h0,h0,Int.natCast_add]
       ·rw[if_neg h0];exact .inl ⟨by rw[hE];exact h0,by rw[hE]⟩
     cases hp:pget Z.S.l 1 e.h with
     | none =>
      refine fin 8 0 0 0 (by omega) (fun V hV=>Q3b (SP.sS (h.grown hV).sep) ok.core.inv.lok (J4n As.1 (by decide)) 8 hp) ?_ (fun h0=>?_)
      ·unfold frmE;rw[hq];simp only;rw[if_pos hk,if_pos hz,he];simp only;rw[hp];exact(Z0n (er:=8) (by decide) _ _ _).symm
      ·rw[Z0n (er:=8) (by decide)] at h0;cases h0
     | some p =>
      have C8:frmE Z t z right off n=frE (if p.kind=8 then 0 else 10) ((e.r&&&right:Nat):Int) off n:=by
       unfold frmE;rw[hq];simp only;rw[if_pos hk,if_pos hz,he];simp only;rw[hp]
      by_cases EW:p.kind=8
      ·rw[if_pos EW] at C8;have hr:=Q0R ok.core (Q1i hp) (Pl.is_iff.2 (.inl (pget_some.1 hp).2.2)) (.inr EW);have CV:=Q0f ok.core.inv.mem.pool;exact fin 0 p.kind p.at_ p.fac (by omega) (fun V hV=>Q2p (SP.sS (h.grown hV).sep) ok.core.inv.lok (J4n As.1 (by decide)) 8 hp (.inr (by omega))) C8 (fun _=>⟨p,hp,EW,rfl⟩)
      ·rw[if_neg EW] at C8;refine fin 10 0 0 0 (by omega) (fun V hV=>Q2J (SP.sS (h.grown hV).sep) ok.core.inv.lok (J4n As.1 (by decide)) 8 hp (by decide) (by omega)) C8 (fun h0=>?_);rw[Z0n (er:=10) (by decide)] at h0;cases h0
def LodR(Z:SP)(t:Nat)(z off:Int)(w:World)(r:Ending)(w':World):Prop:=Below w.heap.size w w' /\
 ((frmE Z t z 1 off 8≠0/\r=.returned (.tuple #[.int .u64 0,.int .i64 (frmE Z t z 1 off 8)])) ∨
  (frmE Z t z 1 off 8=0/\∃(p:Pl) (f:Nat),FrmAt Z t z 1 off 8 p f/\r=.returned (.tuple #[.int .u64 (Q0m Z.S.P.a.mem (p.at_+f):Nat),.int .i64 0])))
theorem FrmAt.obj{Z:SP}{fr:List Nat}{N K:Nat}{M:Int}(_ok:Z.Ok fr N K M){t right f:Nat}{z off n:Int}{p:Pl}(h:FrmAt Z t z right off n p f):p∈Z.S.l/\p.is=true:=by
 obtain⟨e,_,hp,_⟩:=h.ent;exact⟨Q1i hp,Pl.is_iff.2 (.inl (pget_some.1 hp).2.2)⟩
theorem Z2W{w:World}{Z:SP}{fr:List Nat}{N K:Nat}{M:Int}(ok:Z.Ok fr N K M)(h:Sep w Z.hl){c k:Nat}(hc:CarC Z c k w){t:Nat}(ht:t<4294967296)(z off:Int)(hoff:-9223372036854775808<=off/\off<=9223372036854775807) :
  Calls prog 46 #[.pointer (some ⟨c,0,none⟩),.int .u32 t,.int .i64 z,.int .i64 off] w (LodR Z t z off w):=by
 have kf:=Q6k ok h hc ht z (right:=1) (by decide) (n:=8) hoff (by decide);have HV:Hid (∀V,Below w.heap.size w V->(V.cell? ⟨c,0,none⟩=some (.pointer (some ⟨k,0,none⟩))/\V.cell? ⟨k,0,none⟩=some (.pointer (some ⟨Z.s,0,none⟩))) /\
   (Calls prog 26 #[.pointer (some ⟨Z.s,0,none⟩)] V fun r w'=>r=.returned (.pointer (some ⟨Z.S.c,0,none⟩))/\V=w') /\
   (Calls prog 27 #[.pointer (some ⟨Z.S.c,0,none⟩)] V fun r w'=>r=.returned (.pointer (some ⟨Z.S.P.p,0,none⟩))/\V=w') /\
   (Calls prog 50 #[.pointer (some ⟨Z.S.P.p,0,none⟩)] V fun r w'=>r=.returned (.pointer (some ⟨Z.S.P.a.a,0,none⟩))/\V=w') /\
   (∀p f,FrmAt Z t z 1 off 8 p f->Calls prog 58 #[.pointer (some ⟨Z.S.P.a.a,0,none⟩),.int .i64 ((p.at_+f:Nat):Int)] V fun r w'=>r=.returned (.tuple #[.int .u64 (Q0m Z.S.P.a.mem (p.at_+f):Nat),.int .i64 0])/\V=w')):=fun V hV=>by
  have s1:=h.grown hV;refine⟨(hc.step rfl s1).cells,Q1y s1.sep,Q0S (SP.sS s1.sep),Q0v (CO.sP (SP.sS s1.sep)),fun p f ha=>?_⟩;exact Z1m ok s1.sep (ha.obj ok).1 (ha.obj ok).2 (.inr ha.kind) ha.al (by rw[ha.kind];show f+8<=1024;have:=ha.room;omega)
 have CB:Hid (∀V,Below w.heap.size w V->frmE Z t z 1 off 8≠0->LodR Z t z off w (.returned (.tuple #[.int .u64 0,.int .i64 (frmE Z t z 1 off 8)])) V):=fun V hV he=>⟨hV,.inl ⟨he,rfl⟩⟩
 have EK:Hid (∀V p f,Below w.heap.size w V->frmE Z t z 1 off 8=0->FrmAt Z t z 1 off 8 p f->LodR Z t z off w (.returned (.tuple #[.int .u64 (Q0m Z.S.P.a.mem (p.at_+f):Nat),.int .i64 0])) V):=fun V p f hV he ha=>⟨hV,.inr ⟨he,p,f,ha,rfl⟩⟩
 unfold FrmR at kf;generalize LodR Z t z off w=Q at *
 generalize frmE Z t z 1 off 8=E at *
 clear ok h hc ht hoff;go_enter func46,ntmps46;go_wp2_with fail;refine kf.mono ?_;rintro r w2⟨Ae,hr⟩;rcases hr with ⟨he,rfl⟩|⟨he,p,f,ha,rfl⟩
 ·have Ac:(E != 0)=true:=by simp[he]
  have HR:=Q0a (CB.out w2 Ae he);clear Ae kf HV he CB EK;go_wp2_with fail
  (try go_ret2);exact HR.out
 ·obtain⟨⟨c0,k0⟩,ko,km,ka,kl⟩:=HV.out w2 Ae;have HR:=Q0a (EK.out w2 p f Ae he ha);have HL:=Q0a (kl p f ha);subst he;generalize Q0m Z.S.P.a.mem (p.at_+f)=x at *
  generalize (p.at_+f:Nat)=y at *
  clear Ae kf HV CB EK kl ha;go_wp2_with fail;refine ko.mono ?_;rintro r w'⟨rfl,rfl⟩;go_wp2_with fail;refine km.mono ?_;rintro r w'⟨rfl,rfl⟩;go_wp2_with fail;refine ka.mono ?_;rintro r w'⟨rfl,rfl⟩;go_wp2_with fail;refine HL.out.mono ?_;rintro r w'⟨rfl,rfl⟩;clear ko km ka HL;go_wp2_with fail
  (try go_ret2);exact HR.out
def AsideU(H:HL)(ws:List Nat)(a:Option Addr)(w:World):Prop:=∀(j y:Nat),ws[j]?=some y->∃g o,a=some ⟨g,o,none⟩/\g∉keys H/\g<w.heap.size/\w.cell? ⟨g,o+j,none⟩=some (.int .u64 y)
theorem AsideU.step{H H':HL}{ws:List Nat}{a:Option Addr}{w w':World}(h:AsideU H ws a w)(st:Step H H' w w'):AsideU H' ws a w':=fun j y hj=>by
 obtain⟨g,o,e,hk,hg,hc⟩:=h j y hj;refine⟨g,o,e,fun BE=>?_,J1G hg st.chg.size,(World.cell?_of_block (w:=w) (st.chg.block g hg hk)).trans hc⟩;rcases st.new g BE with h1|h1
 ·exact hk h1
 ·omega
def StoR(Z:SP)(fr:List Nat)(N K:Nat)(M:Int)(t:Nat)(z off:Int)(ws:List Nat)(w:World)(r:Ending)(w':World):Prop:=
 (frmE Z t z 2 off (8*(ws.length:Int))≠0/\r=.returned (.int .i64 (frmE Z t z 2 off (8*(ws.length:Int))))/\Below w.heap.size w w') ∨
 (frmE Z t z 2 off (8*(ws.length:Int))=0/\∃(p:Pl) (f:Nat),FrmAt Z t z 2 off (8*(ws.length:Int)) p f/\r=.returned (.int .i64 0)/\(Z.stored p f ws).Ok fr N K M/\Step Z.hl (Z.stored p f ws).hl w w')
theorem Q3K{w:World}{Z:SP}{fr:List Nat}{N K:Nat}{M:Int}(ok:Z.Ok fr N K M)(h:Sep w Z.hl){c k:Nat}(hc:CarC Z c k w){t:Nat}(ht:t<4294967296)(z off:Int)(hoff:-9223372036854775808<=off/\off<=9223372036854775807){ws:List Nat}{wa:Option Addr}(cap:Nat)(hu:AsideU Z.hl ws wa w)(Gg:∀y∈ws,y<18446744073709551616)(hl:ws.length<=1048576) :
  Calls prog 45 #[.pointer (some ⟨c,0,none⟩),.int .u32 t,.int .i64 z,.int .i64 off,.slice wa ws.length cap] w (StoR Z fr N K M t z off ws w):=by
 have kf:=Q6k ok h hc ht z (right:=2) (by decide) (n:=8*(ws.length:Int)) hoff (by omega);have HV:Hid (∀V,Below w.heap.size w V->(V.cell? ⟨c,0,none⟩=some (.pointer (some ⟨k,0,none⟩))/\V.cell? ⟨k,0,none⟩=some (.pointer (some ⟨Z.s,0,none⟩))) /\
   (Calls prog 26 #[.pointer (some ⟨Z.s,0,none⟩)] V fun r w'=>r=.returned (.pointer (some ⟨Z.S.c,0,none⟩))/\V=w') /\
   (Calls prog 27 #[.pointer (some ⟨Z.S.c,0,none⟩)] V fun r w'=>r=.returned (.pointer (some ⟨Z.S.P.p,0,none⟩))/\V=w') /\
   (Calls prog 50 #[.pointer (some ⟨Z.S.P.p,0,none⟩)] V fun r w'=>r=.returned (.pointer (some ⟨Z.S.P.a.a,0,none⟩))/\V=w') /\
   (∀p f,frmE Z t z 2 off (8*(ws.length:Int))=0->FrmAt Z t z 2 off (8*(ws.length:Int)) p f->Calls prog 57 #[.pointer (some ⟨Z.S.P.a.a,0,none⟩),.int .i64 ((p.at_+f:Nat):Int),.slice wa ws.length cap] V fun r w'=>r=.returned (.int .i64 0)/\StoR Z fr N K M t z off ws w (.returned (.int .i64 0)) w')):=fun V hV=>by
  have s1:=h.grown hV;refine⟨(hc.step rfl s1).cells,Q1y s1.sep,Q0S (SP.sS s1.sep),Q0v (CO.sP (SP.sS s1.sep)),fun p f he ha=>?_⟩;have hA:∀b∈keys Z.S.P.a.hl,b∈keys Z.hl:=fun b hk=>by
   obtain⟨q,hq,rfl⟩:=J1K.1 hk;exact J1K.2 ⟨q,by simp only[SP.hl,CO.hl,PL.hl,J1J,J2m];simp[hq],rfl⟩
  refine(Q4j ok s1.sep (ha.obj ok).1 (ha.obj ok).2 (.inr ha.kind) ha.al (ws:=ws) (by rw[ha.kind];show f+8*ws.length<=1024;have:=ha.room;omega) Gg wa cap (fun wq hcq j y hj=>by
   obtain⟨g,o,e,hk,hg,Am⟩:=hu.step s1 j y hj;subst e;refine⟨_,rfl,?_⟩;have e2:(⟨g,o,none⟩:Addr).add j=⟨g,o+j,none⟩:=by unfold Addr.add;split <;> simp_all
   rw[e2];exact(World.cell?_of_block (w:=V) (hcq.block g hg fun Av=>hk (hA _ Av))).trans Am)).mono ?_
  rintro r w'⟨rfl,ok2,st2⟩;exact⟨rfl,.inr ⟨he,p,f,ha,rfl,ok2,s1.trans st2⟩⟩
 have CB:Hid (∀V,Below w.heap.size w V->frmE Z t z 2 off (8*(ws.length:Int))≠0->StoR Z fr N K M t z off ws w (.returned (.int .i64 (frmE Z t z 2 off (8*(ws.length:Int))))) V):=fun V hV he=>.inl ⟨he,rfl,hV⟩
 unfold FrmR at kf;generalize StoR Z fr N K M t z off ws w=Q at *
 have Cy:(8*(ws.length:Int))=(ws.length:Int)*8:=by omega
 generalize FrmAt Z t z 2 off (8*(ws.length:Int))=FA at *
 generalize frmE Z t z 2 off (8*(ws.length:Int))=E at *
 rw[Cy] at kf;have SE:IntKind.i64.wrap ((ws.length:Int)*8)=(ws.length:Int)*8:=Go.IntWalk.i64_in _ (by omega);generalize ws.length=n at *
 clear ok h hc ht hoff hu Gg Cy;go_enter func45,ntmps45;go_wp2_with fail;refine kf.mono ?_;rintro r w2⟨Ae,hr⟩;rcases hr with ⟨he,rfl⟩|⟨he,p,f,ha,rfl⟩
 ·have Ac:(E != 0)=true:=by simp[he]
  have HR:=Q0a (CB.out w2 Ae he);clear Ae kf HV he CB;go_wp2_with fail
  (try go_ret2);exact HR.out
 ·obtain⟨⟨c0,k0⟩,ko,km,ka,kl⟩:=HV.out w2 Ae;have HL:=Q0a (kl p f he ha);subst he;generalize (p.at_+f:Nat)=y at *
  clear Ae kf HV CB kl ha;go_wp2_with fail;refine ko.mono ?_;rintro r w'⟨rfl,rfl⟩;go_wp2_with fail;refine km.mono ?_;rintro r w'⟨rfl,rfl⟩;go_wp2_with fail;refine ka.mono ?_;rintro r w'⟨rfl,rfl⟩;go_wp2_with fail;refine HL.out.mono ?_;rintro r w3⟨rfl,hq⟩;have HR:=Q0a hq;clear ko km ka HL hq;go_wp2_with fail
  (try go_ret2);exact HR.out
def plB(f:Nat->Nat×Nat)(i:Nat):Pl:=⟨Q0z i,(f i).1,0,1,0,(f i).2⟩
structure CaI(Z:SP)(L M:Int)(f:Nat->Nat×Nat)(fr:List Nat):Prop where
 m:MkY Z 2 L 8 M (lB f 7) fr
 nx:Z.F.next=M
section
variable {Z Z':SP} {L M M':Int} {f:Nat->Nat×Nat} {fr:List Nat}
theorem CaI.at'(h:CaI Z L M f fr){i:Nat}(hi:i<7):pget Z.S.l 1 (i+1)=some (plB f i):=by
 rw[h.m.l];exact Q6d f (by omega) hi
theorem CaI.root(h:CaI Z L M f fr):pget Z.S.l 1 0=some ⟨1,64,0,1,0,0⟩:=by
 rw[h.m.l];exact pget_some.2 ⟨(J1f f (by omega)).1,rfl,rfl⟩
theorem CaI.idx(h:CaI Z L M f fr){i:Nat}(hi:i<7):Z.S.l[i+1]?=some (plB f i):=by
 have:=(pget_some.1 (h.at' hi)).1
 rwa [J2S (by omega)] at this
theorem CaI.mem(h:CaI Z L M f fr){i:Nat}(hi:i<7):plB f i∈Z.S.l/\(plB f i).is=true:=⟨J3L (h.idx hi),Pl.is_iff.2 (.inl rfl)⟩
theorem CaI.room(h:CaI Z L M f fr){i:Nat}(hi:i<7)(hk:Q0z i=3):(f i).1+256<=Z.S.P.a.mem.length/\(f i).1%8=0:=by
 have:=Q0R h.m.ok.core (h.mem hi).1 (h.mem hi).2 (.inl hk);have e:costK (plB f i).kind=256:=by show costK (Q0z i)=256;rw[hk];rfl
 rw[e] at this;exact this
theorem CaI.two(h:CaI Z L M f fr){i j:Nat}(hi:i<7)(hj:j<7)(DE:i≠j):(f i).1+costK (Q0z i)<=(f j).1∨(f j).1+costK (Q0z j)<=(f i).1:=
 Q1L h.m.ok.core (h.idx hi) (h.idx hj) (by omega) rfl rfl
theorem CaI.poke(h:CaI Z L M f fr){m:List Nat}(ok:(Z.poke m).Ok fr 8 0 M):CaI (Z.poke m) L M f fr:=⟨⟨ok,h.m.ts,h.m.now,h.m.per,h.m.q,h.m.l⟩,h.nx⟩
theorem CaI.same(h:CaI Z L M f fr)(s:SameN Z Z')(ok:Z'.Ok fr 8 0 M')(hx:Z'.F.next=M'):CaI Z' L M' f fr:=⟨h.m.same ok s,hx⟩
theorem Z8R{N K:Nat}(ok:Z.Ok fr N K M){p:Pl}(hp:p∈Z.S.l)(hi:p.is=true)(hk:p.kind=3):Z.S.P.has 3 (p.at_:Int)=true:=by
 unfold PL.has PL.usedI;rw[decide_eq_true_eq,if_pos (by decide)];refine⟨by omega,?_⟩;rw[J2C];refine(ok.core.inv.mem.ats 3 (by omega) (by omega)).mem_iff.1 (J1T.2 ⟨p,hp,?_⟩);unfold atsF;rw[hi,hk];rfl
theorem CaI.blk(h:CaI Z L M f fr){t i:Nat}(ht:t=1∨t=2)(hi:i<7)(hk:Q0z i=3):blkE Z t ((f i).1:Int)=0:=by
 have hh:=Z8R h.m.ok (h.mem hi).1 (h.mem hi).2 hk;have hp:pget Z.S.l 1 t=some (plB f (t-1)):=by
  have:=h.at' (i:=t-1) (by omega)
  rwa [show t-1+1=t by omega] at this
 have Av:(plB f (t-1)).kind=2:=by rcases ht with rfl|rfl <;> rfl
 unfold blkE;rw[hp];simp only;rw[if_pos Av];have e:Z.S.P.has 3 ((f i).1:Int)=true:=hh;rw[if_pos e]
theorem CaI.blk0(h:CaI Z L M f fr)(a:Int):blkE Z 0 a=10:=by
 unfold blkE;rw[h.root];simp only;rw[if_neg (by decide)]
theorem CaI.blk8(h:CaI Z L M f fr):blkE Z 1 (((f 2).1+8:Nat):Int)=1:=by
 unfold blkE;rw[h.at' (i:=0) (by omega)];simp only;have hk:(plB f 0).kind=2:=rfl;rw[if_pos hk,if_neg];intro hh;obtain⟨p,hp,hi,Eu,ha⟩:=Q7i h.m.ok hh;obtain⟨j,hj⟩:=J4m.1 hp;have h3:=h.idx (i:=2) (by omega);by_cases e:j=3
 ·subst e;rw[h3] at hj;cases hj;have:(((f 2).1+8:Nat):Int)=((f 2).1:Int):=ha;omega
 ·have Aq:p.st=1:=by
   rcases Pl.is_iff.1 hi with h1|h2
   ·exact h1
   ·exfalso;have hm:=h.m.l;have Dz:(lB f 7)[j]?=some p:=by rw[<- hm];exact hj
    have Dw:j<256:=by
     have:=(J1V.1 Dz).1
     rwa [Z5H] at this
    rw[Q7f f 7 (by omega) j Dw] at Dz;have Gy:=J2u Dz;rw[<- Gy] at h2
    revert h2
    split
    ·intro h2;cases h2
    ·split
     ·intro h2;cases h2
     ·intro h2;cases h2
  have:=Q1L h.m.ok.core h3 hj (by omega) rfl Aq;rw[Eu] at this;have e1:(plB f 2).at_=(f 2).1:=rfl;have e2:costK (plB f 2).kind=256:=rfl;have e3:costK 3=256:=rfl;rw[e1,e2,e3] at this;omega
theorem BlkAt.at_{t:Nat}{a:Nat}{p:Pl}(h:BlkAt Z t (a:Int) p):p.at_=a:=by
 have:=h.2.2.2.2;omega
theorem CaI.kept(h:CaI Z L M f fr)(s:SameN Z Z'){i:Nat}(hi:i<7)(hk:Q0z i=3):msgV Z'.S.P.a.mem (f i).1=msgV Z.S.P.a.mem (f i).1/\winV Z'.S.P.a.mem (f i).1=winV Z.S.P.a.mem (f i).1:=by
 have Dl:=s.alt.kept (plB f i) (h.mem hi).1 (h.mem hi).2 (by show Q0z i≠2;omega);have e:costK (plB f i).kind=256:=by show costK (Q0z i)=256;rw[hk];rfl
 rw[e] at Dl;exact Q4G Dl
end
theorem J0s{x y:Nat}{A:Nat->Mv}{a0:AV}{nx:Int}(Im:x≠y){k:Nat}{a:AV}(h:AddsM x y A a0 nx k a):(∀u s:Nat,(u=y->∀j,j<k->s≠(A j).dst.toNat)->a.en u s=a0.en u s)/\∀j,j<k->∃c,a0.en x (A j).src.toNat=some c/\a.en y (A j).dst.toNat=some (c.1,c.2&&&(A j).r.toNat):=by
 induction h with
 | zero=>exact⟨fun _ _ _=>rfl,fun j hj=>by omega⟩
 | succ k a c b _ F3 hdst ih =>
  obtain⟨i1,i2⟩:=ih;refine⟨fun u s hu=>?_,fun j hj=>?_⟩
  ·show setA a.en y (A k).dst.toNat _ u s=_;unfold setA;rw[if_neg]
   ·exact i1 u s fun e j hj=>hu e j (by omega)
   ·rintro⟨e1,e2⟩;exact hu e1 k (by omega) e2
  ·by_cases e:j=k
   ·subst e;refine⟨c,?_,?_⟩
    ·rw[<- i1 x (A j).src.toNat fun e=>absurd e Im];exact F3
    ·show setA a.en y (A j).dst.toNat _ y (A j).dst.toNat=_;unfold setA;rw[if_pos ⟨rfl,rfl⟩]
   ·obtain⟨c',q1,q2⟩:=i2 j (by omega);refine⟨c',q1,?_⟩;show setA a.en y (A k).dst.toNat _ y (A j).dst.toNat=_;unfold setA;rw[if_neg]
    ·exact q2
    ·rintro⟨_,e2⟩;rw[e2,hdst] at q2;cases q2
section
variable {Z:SP} {L M:Int} {f:Nat->Nat×Nat} {fr:List Nat} {w w':World} {r:Ending}
def CaN(Z:SP)(L M:Int)(f:Nat->Nat×Nat)(fr:List Nat)(C:SP->Prop)(w w':World):Prop:=∃Z',CaI Z' L M f fr/\Z'.s=Z.s/\Step Z.hl Z'.hl w w'/\C Z'
theorem Z0o(h:CaI Z L M f fr){t i:Nat}(ht:t=1∨t=2)(hi:i<7)(hk:Q0z i=3){x:Msg}(hx:¬PutE x.ws x.its)(R:CPutR Z fr 8 0 M t ((f i).1:Int) x w r w') :
  r=.returned (.int .i64 0)/\x.May/\CaN Z L M f fr (fun Z'=>Z'.av=Z.av/\Z'.S.P.a.mem=putM Z.S.P.a.mem (f i).1 x) w w':=by
 have hb:=h.blk ht hi hk;rcases R with ⟨h0,_⟩|⟨p,hp,⟨h1,_⟩|⟨hm,rfl,ok,st⟩⟩
 ·exact(h0 hb).elim
 ·exact(hx h1).elim
 ·have ha:=hp.at_;rw[ha] at ok st;exact⟨rfl,hm,_,h.poke ok,rfl,st,rfl,rfl⟩
theorem Q9m(h:CaI Z L M f fr){t i:Nat}(ht:t=1∨t=2)(hi:i<7)(hk:Q0z i=3){v:Wi}(hv:Q0w v.base v.order=true)(R:COpnR Z fr 8 0 M t ((f i).1:Int) v w r w') :
  r=.returned (.int .i64 0)/\CaN Z L M f fr (fun Z'=>Z'.av=Z.av/\Z'.S.P.a.mem=Q4X Z.S.P.a.mem (f i).1 v) w w':=by
 have hb:=h.blk ht hi hk;rcases R with ⟨h0,_⟩|⟨p,hp,⟨h1,_⟩|⟨hm,rfl,ok,st⟩⟩
 ·exact(h0 hb).elim
 ·rw[hv] at h1;cases h1
 ·have ha:=hp.at_;rw[ha] at ok st;exact⟨rfl,_,h.poke ok,rfl,st,rfl,rfl⟩
def it0:It:=⟨0,0,3,0,false⟩
def wi0:Wi:=⟨8,1⟩
def mv0:Mv:=⟨0,8,3,false⟩
theorem Z1o(h:CaI Z L M f fr){c:Nat×Nat}(he:Z.av.en 1 0=some c):Q2x Z 1 wi0 [it0]=[mv0]:=by
 have hf:Q1O Z 1 it0 0=true:=by
  have AH:(Q0g Z.S.l Z.tb 1 0).map Ent.c=some c:=he;unfold Q1O;cases hx:Q0g Z.S.l Z.tb 1 0 with
  | none=>rw[hx] at AH;cases AH
  | some e =>
   show(Q0g Z.S.l Z.tb 1 (0+0)).isSome=true;rw[J4b,hx];rfl
 have e:Q2x Z 1 wi0 [it0]=movV (Q1O Z 1 it0) it0 wi0 1:=by
  show movV (Q1O Z 1 it0) it0 wi0 (2 ^ (0:Int).toNat)++[]=_;rw[J3D];rfl
 rw[e,movV_succ,hf,if_pos rfl];rfl
theorem Q7V(h:CaI Z L M f fr)(hL:4500<=L){ws:List Nat}{lb0 lb:Nat}(Dr:lb<18446744073709551616)(hm:msgV Z.S.P.a.mem (f 2).1=⟨lb0,ws,[it0]⟩)(hw:winV Z.S.P.a.mem (f 3).1=wi0)(hE:∀h t,Z.av.en h t=enR 2 h t)(R:CCarR Z fr 8 0 M 1 ((f 2).1:Int) 2 ((f 3).1:Int) lb w r w') :
  r=.returned (.int .i64 0)/\CaN Z L (M+1) f fr (fun Z'=>(∀h t,Z'.av.en h t=setA (enR 2) 2 8 (some (6,3)) h t)/\msgV Z'.S.P.a.mem (f 3).1=⟨lb,ws,[]⟩/\msgV Z'.S.P.a.mem (f 2).1=⟨lb0,ws,[it0]⟩/\winV Z'.S.P.a.mem (f 3).1=wi0) w w':=by
 have Ar:=h.blk (t:=1) (.inl rfl) (i:=2) (by omega) rfl;have Ae:=h.blk (t:=2) (.inr rfl) (i:=3) (by omega) rfl;have DO:Z.av.en 1 0=some (6,15):=by rw[hE];rfl
 have A7:Z.av.en 2 8=none:=by rw[hE];rfl
 have BF:=Z1o h DO;rcases R with ⟨er,h0,rfl,_,hc⟩|⟨p,p',hp,AL,Fm,hR⟩
 ·exfalso;rcases hc with e|⟨_,e⟩|⟨p,p',hp,AL,i,hi,he⟩
  ·rw[Ar] at e;exact h0 e.symm
  ·rw[Ae] at e;exact h0 e.symm
  ·rw[hp.at_,hm] at hi;rw[AL.at_,hw] at he;rw[J3E.1 hi] at he;rcases he with ⟨h1,_⟩|⟨q,h1,h2⟩
   ·rw[h.at' (i:=0) (by omega)] at h1;cases h1
   ·rw[h.at' (i:=0) (by omega)] at h1;cases h1;rcases h2 with ⟨h3,_⟩|⟨_,⟨h3,_⟩|⟨_,h3,_⟩⟩
    ·exact h3 rfl
    ·revert h3;decide
    ·exact h3 (by decide)
 ·have Ba:carL Z 1 p p'=[mv0]:=by unfold carL;rw[hp.at_,AL.at_,hm,hw];exact BF
  have Gd:carA Z 1 p p' 0=mv0:=by unfold carA;rw[Ba];rfl
  have Da:(carL Z 1 p p').length=1:=by rw[Ba];rfl
  have Ah:AllFit Z.av.en 1 2 1 (carA Z 1 p p'):=fun i hi=>by
   obtain rfl:i=0:=by omega
   rw[Gd];exact⟨⟨by decide,by decide,by decide,by decide,⟨_,DO,by decide,by decide⟩,A7⟩,rfl⟩
  have A9:=h.at' (i:=0) (by omega);have Ax:=h.at' (i:=1) (by omega);have room:∀er,¬WhyM Z fr 8 0 1 2 1 (plB f 1).fac (carA Z 1 p p') er:=fun er hw=>by
   obtain⟨k,S',t',hk,_,h0,hw⟩:=hw;obtain rfl:k=0:=by omega
   obtain⟨rfl,rfl⟩:=h0 rfl;rw[Q0Z] at hw;refine h.m.room [(1,0),(1,128)] [(1,0),(1,8)] (fun x s c hc=>?_) (fun x s hx=>?_) (o:=8) (by rw[J1i];omega) (by simp) (Z5I f) (by simp;omega) hw
   ·rw[hE] at hc;unfold enR at hc;by_cases h1:x=1/\s=0
    ·obtain⟨rfl,rfl⟩:=h1;simp
    ·by_cases h2:x=1/\s=128
     ·obtain⟨rfl,rfl⟩:=h2;simp
     ·rw[if_neg (by omega),if_neg (by omega)] at hc;cases hc
   ·simp at hx ⊢;omega
  rw[Da] at hR;rcases hR with ⟨er,w5,h0,rfl,_,OB⟩|⟨rfl,a,Z1,_,Bp,DF,sm,Bm,ok1,ok2,st⟩
  ·exact(h0 (OB.fine A9 rfl Ax rfl Ah room).1).elim
  ·have h1:CaI Z1 L (M+1) f fr:=h.same sm ok1 (by rw[Bm,h.nx];rfl);have Av:=h.kept sm (i:=2) (by omega) rfl;have Eu:=h.kept sm (i:=3) (by omega) rfl;rw[hp.at_,AL.at_,Av.1,hm] at ok2 st;have IW:=h1.room (i:=3) (by omega) rfl;have DN:=h1.room (i:=2) (by omega) rfl;have OY:=Q7T h.m.ok.core.inv.mem.pool.bytes (f 2).1;rw[hm] at OY;have Fc:(⟨lb,ws,[]⟩:Msg).May:=⟨Dr,OY.2,by simp,OY.1,by simp⟩
   have B9:=h.two (i:=2) (j:=3) (by omega) (by omega) (by omega);have ek2:costK (Q0z 2)=256:=rfl;have ek3:costK (Q0z 3)=256:=rfl;rw[ek2,ek3] at B9;refine⟨rfl,_,h1.poke ok2,sm.s,st,fun u s=>?_,Z0h Fc IW.1 IW.2,?_,?_⟩
   ·show Z1.av.en u s=_;have e0:=(J0s (by decide:(1:Nat)≠2) Bp)
    have ea:a=Z1.av:=by
     generalize Z1.av=az at DF;cases DF with
     | skip k a' h2 hg=>cases h2;rfl
     | lift k a' a'' h2 hg _=>rw[Gd] at hg;cases hg
    rw[<- ea];unfold setA;by_cases Oz:u=2/\s=8
    ·obtain⟨rfl,rfl⟩:=Oz;obtain⟨c,q1,q2⟩:=e0.2 0 (by omega);rw[Gd] at q1 q2;have Rt:Z.av.en 1 0=some c:=q1;rw[DO] at Rt;cases Rt;rw[if_pos ⟨rfl,rfl⟩];exact q2
    ·rw[if_neg Oz,e0.1 u s fun e j hj=>?_,hE];obtain rfl:j=0:=by omega
     rw[Gd];intro hs;exact Oz ⟨e,hs⟩
   ·show msgV (putM Z1.S.P.a.mem (f 3).1 ⟨lb,ws,[]⟩) (f 2).1=_;rw[(Q9i Fc IW.1 IW.2 DN.1 DN.2 (by omega)).1,Av.1,hm]
   ·show winV (putM Z1.S.P.a.mem (f 3).1 ⟨lb,ws,[]⟩) (f 3).1=_;rw[Z5G Fc IW.1 IW.2,Eu.2,hw]
theorem Q6u(h:CaI Z L M f fr){ws:List Nat}{lb0 lb:Nat}{c1 c2:Nat×Nat}(hm:msgV Z.S.P.a.mem (f 2).1=⟨lb0,ws,[it0]⟩)(hw:winV Z.S.P.a.mem (f 3).1=wi0)(DO:Z.av.en 1 0=some c1)(Dj:c1.2&&&4≠0/\c1.2&&&3≠0)(DX:Z.av.en 2 8=some c2)(hs:Sep w Z.hl)(R:CCarR Z fr 8 0 M 1 ((f 2).1:Int) 2 ((f 3).1:Int) lb w r w') :
  r=.returned (.int .i64 7)/\CaN Z L M f fr (fun _=>True) w w':=by
 have Ar:=h.blk (t:=1) (.inl rfl) (i:=2) (by omega) rfl;have Ae:=h.blk (t:=2) (.inr rfl) (i:=3) (by omega) rfl;have BF:=Z1o h DO;have A9:=h.at' (i:=0) (by omega);have Ax:=h.at' (i:=1) (by omega);rcases R with ⟨er,h0,rfl,_,hc⟩|⟨p,p',hp,AL,Fm,hR⟩
 ·exfalso;rcases hc with e|⟨_,e⟩|⟨p,p',hp,AL,i,hi,he⟩
  ·rw[Ar] at e;exact h0 e.symm
  ·rw[Ae] at e;exact h0 e.symm
  ·rw[hp.at_,hm] at hi;rw[AL.at_,hw] at he;rw[J3E.1 hi] at he;rcases he with ⟨h1,_⟩|⟨q,h1,h2⟩
   ·rw[A9] at h1;cases h1
   ·rw[A9] at h1;cases h1;rcases h2 with ⟨h3,_⟩|⟨_,⟨h3,_⟩|⟨_,h3,_⟩⟩
    ·exact h3 rfl
    ·revert h3;decide
    ·exact h3 (by decide)
 ·have Ba:carL Z 1 p p'=[mv0]:=by unfold carL;rw[hp.at_,AL.at_,hm,hw];exact BF
  have Gd:carA Z 1 p p' 0=mv0:=by unfold carA;rw[Ba];rfl
  have Da:(carL Z 1 p p').length=1:=by rw[Ba];rfl
  have Aw:¬AllFit Z.av.en 1 2 1 (carA Z 1 p p'):=fun hf=>by
   have h1:=(hf 0 (by omega)).1;rw[Gd] at h1;have h2:Z.av.en 2 8=none:=h1.free;rw[DX] at h2;cases h2
  rw[Da] at hR;rcases hR with ⟨er,w5,h0,rfl,Au,OB⟩|⟨_,a,Z1,Ah,_⟩
  ·rcases OB with ⟨_,hE,own,hB⟩|⟨_,_,_,_,_,_,Ah,_⟩
   ·have Ci:er=7:=by
     rcases hE with ⟨h1,_⟩|⟨q1,h1,h2⟩
     ·rw[A9] at h1;cases h1
     ·rw[A9] at h1;cases h1;rcases h2 with ⟨h3,_⟩|⟨_,⟨h3,_⟩|⟨q2,h3,h4⟩⟩
      ·exact(h3 rfl).elim
      ·rw[Ax] at h3;cases h3
      ·rw[Ax] at h3;cases h3;rcases h4 with ⟨h5,_⟩|⟨_,i,hi,_,hv⟩
       ·exact(h5 rfl).elim
       ·obtain rfl:i=0:=by omega
        have a1:=Z7U (N:=Z.F.N) (tb:=Z.tb) A9 rfl (z:=0) (by decide);have a2:=Z7U (N:=Z.F.N) (tb:=Z.tb) Ax rfl (z:=8) (by decide);have a1':((Z.tb (1%256)).at' 0).map Ent.c=some c1:=a1.trans DO;have a2':((Z.tb (2%256)).at' 8).map Ent.c=some c2:=a2.trans DX;unfold fitV at hv;rw[Gd] at hv;unfold Z0d at hv;rw[if_neg (by decide),if_neg (by decide)] at hv;have LK:(match (Z.tb (1%256)).at' 0 with
         | none=>(6:Int)
         | some e=>if e.r&&&4=0∨e.r&&&3=0 then 9 else if ((Z.tb (2%256)).at' 8).isSome=true∨Q1c (carA Z 1 p p') 0 mv0=true then 7 else 0)=er:=hv
        cases hx:(Z.tb (1%256)).at' 0 with
        | none=>rw[hx] at a1';cases a1'
        | some e =>
         cases hy:(Z.tb (2%256)).at' 8 with
         | none=>rw[hy] at a2';cases a2'
         | some e2 =>
          rw[hx] at a1' LK;rw[hy] at LK;have Of:e.c=c1:=J2u a1';have hr:e.r=c1.2:=by rw[<- Of];rfl
          simp only at LK;rw[hr,if_neg (by omega),if_pos (.inl rfl)] at LK;exact LK.symm
    subst Ci;obtain⟨Z',ok,Dh,sz,st⟩:=hB.ok h.m.ok;exact⟨rfl,Z',h.same sz.toSameN ok (by rw[sz.nx];exact h.nx),sz.s,(hs.grown Au).trans st,trivial⟩
   ·exact(Aw Ah).elim
  ·exact(Aw Ah).elim
end
def CaS(L:Int)(c k ge:Nat)(M:Int)(f:Nat->Nat×Nat)(C:SP->Prop)(B:List (Nat×List Value))(w0 wr:World):Prop:=∃(Z:SP) (fr:List Nat),CaI Z L M f fr/\C Z/\CarC Z c k wr/\AsideV Z.hl (endC (endL f)) (some ⟨ge,0,none⟩) wr/\Step [] Z.hl w0 wr/\∀q∈B,AsideV Z.hl q.2 (some ⟨q.1,0,none⟩) wr
def C0(Z:SP):Prop:=∀h t,Z.av.en h t=enR 2 h t
section
variable {L:Int} {c k ge:Nat} {M M':Int} {f:Nat->Nat×Nat} {C C':SP->Prop} {B:List (Nat×List Value)} {w0 wr w':World}
theorem CaS.begin(h:CarB L c k ge f w0 wr):CaS L c k ge 2 f C0 [] w0 wr:=by
 obtain⟨Z,fr,m,hE,Bm,hc,he,st⟩:=h;exact⟨Z,fr,⟨m,Bm.1⟩,hE,hc,he,st,fun q hq=>by cases hq⟩
theorem CaS.grown(h:CaS L c k ge M f C B w0 wr)(hb:Below wr.heap.size wr w'):CaS L c k ge M f C B w0 w':=by
 obtain⟨Z,fr,i,hC,hc,he,st,hB⟩:=h;have s1:=st.sep.grown hb;exact⟨Z,fr,i,hC,hc.step rfl s1,AsideV.step he s1,st.trans s1,fun q hq=>AsideV.step (hB q hq) s1⟩
theorem CaS.below(h:CaS L c k ge M f C B w0 wr):Below w0.heap.size w0 wr:=by
 obtain⟨Z,fr,i,hC,hc,he,st,hB⟩:=h;exact st.fresh
theorem CaS.sub{B':List (Nat×List Value)}(h:CaS L c k ge M f C B w0 wr)(hs:∀q∈B',q∈B):CaS L c k ge M f C B' w0 wr:=by
 obtain⟨Z,fr,i,hC,hc,he,st,hB⟩:=h;exact⟨Z,fr,i,hC,hc,he,st,fun q hq=>hB q (hs q hq)⟩
theorem CaS.box(h:CaS L c k ge M f C B w0 wr)(T:TypeId)(cs:List Value):CaS L c k ge M f C ((wr.heap.size,cs)::B) w0 (wr.alloc (.cells cs.toArray T)):=by
 obtain⟨Z,fr,i,hC,hc,he,st,hB⟩:=h;have hb:Below wr.heap.size wr (wr.alloc (.cells cs.toArray T)):=(Below.refl _ _).alloc (J1E _) _;have s1:=st.sep.grown hb;refine⟨Z,fr,i,hC,hc.step rfl s1,AsideV.step he s1,st.trans s1,fun q hq=>?_⟩;rcases J1J.1 hq with rfl|hq
 ·exact fun j v hj=>⟨_,rfl,fun hk=>by have:=st.sep.lt hk;dsimp only at this;omega,by simp,(Cells.new wr T cs).cell j v hj⟩
 ·exact AsideV.step (hB q hq) s1
theorem CaS.cells(h:CaS L c k ge M f C B w0 wr)(j:Nat)(v:Value)(hj:(endC (endL f))[j]?=some v):wr.cell? ⟨ge,j,none⟩=some v:=by
 obtain⟨Z,fr,i,hC,hc,he,st,hB⟩:=h;obtain⟨g,e,_,_,z⟩:=he j v hj;cases e;exact z
theorem CaS.bx(h:CaS L c k ge M f C B w0 wr){q:Nat×List Value}(hq:q∈B)(j:Nat)(v:Value)(hj:q.2[j]?=some v):wr.cell? ⟨q.1,j,none⟩=some v:=by
 obtain⟨Z,fr,i,hC,hc,he,st,hB⟩:=h;obtain⟨g,e,_,_,z⟩:=hB q hq j v hj;cases e;exact z
theorem CaS.ends(h:CaS L c k ge M f C B w0 wr):(wr.cell? ⟨ge,0,none⟩=some (.int .u32 1)/\wr.cell? ⟨ge,1,none⟩=some (.int .i64 ((f 2).1:Int)))/\(wr.cell? ⟨ge,2,none⟩=some (.int .u32 2)/\wr.cell? ⟨ge,3,none⟩=some (.int .i64 ((f 3).1:Int))) /\
  (wr.cell? ⟨ge,6,none⟩=some (.int .u32 0)/\wr.cell? ⟨ge,7,none⟩=some (.int .i64 ((f 2).1:Int)))/\wr.cell? ⟨ge,8,none⟩=some (.int .u32 1)/\wr.cell? ⟨ge,9,none⟩=some (.int .i64 (((f 2).1+8:Nat):Int)):=
 ⟨⟨h.cells 0 _ rfl,h.cells 1 _ rfl⟩,⟨h.cells 2 _ rfl,h.cells 3 _ rfl⟩,⟨h.cells 6 _ rfl,h.cells 7 _ rfl⟩,h.cells 8 _ rfl,h.cells 9 _ rfl⟩
theorem CaS.go{Z:SP}{fr:List Nat}(i:CaI Z L M f fr)(hc:CarC Z c k wr)(he:AsideV Z.hl (endC (endL f)) (some ⟨ge,0,none⟩) wr)(st:Step [] Z.hl w0 wr)(hB:∀q∈B,AsideV Z.hl q.2 (some ⟨q.1,0,none⟩) wr)(n:CaN Z L M' f fr C' wr w'):CaS L c k ge M' f C' B w0 w':=by
 obtain⟨Z',i',hs,s1,U2⟩:=n;exact⟨Z',fr,i',U2,hc.step hs s1,AsideV.step he s1,st.trans s1,fun q hq=>AsideV.step (hB q hq) s1⟩
def ms0:Msg:=⟨0,[5,6],[it0]⟩
def C1(f:Nat->Nat×Nat)(Z:SP):Prop:=C0 Z/\msgV Z.S.P.a.mem (f 2).1=ms0
def C2(f:Nat->Nat×Nat)(Z:SP):Prop:=C0 Z/\msgV Z.S.P.a.mem (f 2).1=ms0/\winV Z.S.P.a.mem (f 3).1=wi0
def C3(f:Nat->Nat×Nat)(Z:SP):Prop:=(∀h t,Z.av.en h t=setA (enR 2) 2 8 (some (6,3)) h t)/\msgV Z.S.P.a.mem (f 3).1=⟨9,[5,6],[]⟩/\msgV Z.S.P.a.mem (f 2).1=ms0/\winV Z.S.P.a.mem (f 3).1=wi0
def C4(f:Nat->Nat×Nat)(Z:SP):Prop:=(∀h t,Z.av.en h t=setA (enR 2) 2 8 (some (6,3)) h t)/\msgV Z.S.P.a.mem (f 2).1=ms0/\winV Z.S.P.a.mem (f 3).1=wi0/\Q0m Z.S.P.a.mem ((f 6).1+1016)=7
theorem J0t(h:CaS L c k ge M f C0 B w0 wr){wa ia:Option Addr}(hu:IsU wr wa [5,6])(hi:IsI wr ia [it0])(wc ic:Nat) :
  Calls prog 107 #[.pointer (some ⟨c,0,none⟩),.agg #[.int .u32 1,.int .i64 ((f 2).1:Int)],.agg #[.int .u64 0,.slice wa 2 wc,.slice ia 1 ic]] wr fun r w'=>r=.returned (.int .i64 0)/\CaS L c k ge M f (C1 f) B w0 w':=by
 obtain⟨Z,fr,i,hC,hc,he,st,hB⟩:=h;have hr:=i.room (i:=2) (by omega) rfl;have CV:=Q0f i.m.ok.core.inv.mem.pool;refine(Q6f i.m.ok st.sep hc (t:=1) (by omega) ((f 2).1:Int) (by omega) ms0 (by decide) (by decide) wc ic hu hi (by decide) (by decide)).mono ?_;intro r w' R;obtain⟨rfl,hm,n⟩:=Z0o i (.inl rfl) (by omega) rfl (by unfold PutE;decide) R;refine⟨rfl,CaS.go i hc he st hB ?_⟩;obtain⟨Z',i',hs,s1,Dh,A8⟩:=n;refine⟨Z',i',hs,s1,fun h t=>by rw[Dh];exact hC h t,?_⟩;rw[A8];exact Z0h hm hr.1 hr.2
theorem Z8t(h:CaS L c k ge M f (C1 f) B w0 wr) :
  Calls prog 108 #[.pointer (some ⟨c,0,none⟩),.agg #[.int .u32 2,.int .i64 ((f 3).1:Int)],.agg #[.int .i64 8,.int .i64 1]] wr fun r w'=>r=.returned (.int .i64 0)/\CaS L c k ge M f (C2 f) B w0 w':=by
 obtain⟨Z,fr,i,hC,hc,he,st,hB⟩:=h;have hr:=i.room (i:=3) (by omega) rfl;have DN:=i.room (i:=2) (by omega) rfl;have CV:=Q0f i.m.ok.core.inv.mem.pool;have B9:=i.two (i:=2) (j:=3) (by omega) (by omega) (by omega);have ek2:costK (Q0z 2)=256:=rfl;have ek3:costK (Q0z 3)=256:=rfl;rw[ek2,ek3] at B9;refine(Q7k i.m.ok st.sep hc (t:=2) (by omega) ((f 3).1:Int) (by omega) wi0).mono ?_;intro r w' R;obtain⟨rfl,n⟩:=Q9m i (.inr rfl) (by omega) rfl (by decide) R;refine⟨rfl,CaS.go i hc he st hB ?_⟩;obtain⟨Z',i',hs,s1,Dh,A8⟩:=n;refine⟨Z',i',hs,s1,fun h t=>by rw[Dh];exact hC.1 h t,?_,?_⟩
 ·rw[A8,(Z2P (by decide) hr.1 hr.2 DN.1 DN.2 (by omega)).1];exact hC.2
 ·rw[A8];exact Z8f (by decide) hr.1 hr.2
theorem Z6a(h:CaS L c k ge M f (C2 f) B w0 wr)(hL:4500<=L)(hM:M+256<1099511627776) :
  Calls prog 54 #[.pointer (some ⟨c,0,none⟩),.agg #[.int .u32 1,.int .i64 ((f 2).1:Int)],.agg #[.int .u32 2,.int .i64 ((f 3).1:Int)],.int .u64 9] wr fun r w'=>r=.returned (.int .i64 0)/\CaS L c k ge (M+1) f (C3 f) B w0 w':=by
 obtain⟨Z,fr,i,hC,hc,he,st,hB⟩:=h;have hr:=i.room (i:=3) (by omega) rfl;have DN:=i.room (i:=2) (by omega) rfl;have CV:=Q0f i.m.ok.core.inv.mem.pool;refine(Q2y i.m.ok st.sep hM hc (tf:=1) (tt:=2) (by omega) (by omega) ((f 2).1:Int) ((f 3).1:Int) (by omega) (by omega) (lb:=9) (by omega)).mono ?_;intro r w' R;obtain⟨rfl,n⟩:=Q7V i hL (by decide) hC.2.1 hC.2.2 hC.1 R;refine⟨rfl,CaS.go i hc he st hB ?_⟩;obtain⟨Z',i',hs,s1,q1,q2,q3,q4⟩:=n;exact⟨Z',i',hs,s1,q1,q2,q3,q4⟩
theorem Z2X(h:CaS L c k ge M f (C4 f) B w0 wr)(hM:M+256<1099511627776) :
  Calls prog 54 #[.pointer (some ⟨c,0,none⟩),.agg #[.int .u32 1,.int .i64 ((f 2).1:Int)],.agg #[.int .u32 2,.int .i64 ((f 3).1:Int)],.int .u64 9] wr fun r w'=>r=.returned (.int .i64 7)/\CaS L c k ge M f (fun _=>True) B w0 w':=by
 obtain⟨Z,fr,i,hC,hc,he,st,hB⟩:=h;have hr:=i.room (i:=3) (by omega) rfl;have DN:=i.room (i:=2) (by omega) rfl;have CV:=Q0f i.m.ok.core.inv.mem.pool;refine(Q2y i.m.ok st.sep hM hc (tf:=1) (tt:=2) (by omega) (by omega) ((f 2).1:Int) ((f 3).1:Int) (by omega) (by omega) (lb:=9) (by omega)).mono ?_;intro r w' R;obtain⟨rfl,n⟩:=Q6u i hC.2.1 hC.2.2.1 (c1:=(6,15)) (c2:=(6,3)) (by rw[hC.1];rfl) (by decide) (by rw[hC.1];rfl) st.sep R;exact⟨rfl,CaS.go i hc he st hB n⟩
theorem Z1p{t:Nat}{a:Nat}{e:Int}(CN:e≠0)(ht:t<2)(ha:a<=4294967296)(h:CaS L c k ge M f C B w0 wr)(hb:∀Z fr,CaI Z L M f fr->blkE Z t (a:Int)=e) :
  Calls prog 107 #[.pointer (some ⟨c,0,none⟩),.agg #[.int .u32 t,.int .i64 a],.agg #[.int .u64 0,.slice none 0 0,.slice none 0 0]] wr fun r w'=>r=.returned (.int .i64 e)/\CaS L c k ge M f C B w0 w':=by
 obtain⟨Z,fr,i,hC,hc,he,st,hB⟩:=h;refine(Q6f i.m.ok st.sep hc (t:=t) (by omega) (a:Int) (by omega) Msg.none (by decide) (by decide) 0 0 (fun j y hj=>by simp[Msg.none] at hj) (fun j y hj=>by simp[Msg.none] at hj) (by decide) (by decide)).mono ?_;intro r w' R;have RC:=hb Z fr i;rcases R with ⟨_,rfl,Ha⟩|⟨p,hp,_⟩
 ·rw[RC];exact⟨rfl,CaS.grown ⟨Z,fr,i,hC,hc,he,st,hB⟩ Ha⟩
 ·exact absurd (RC.symm.trans hp.1) CN
theorem J0u(h:CaS L c k ge M f (C3 f) B w0 wr) :
  Calls prog 52 #[.pointer (some ⟨c,0,none⟩),.agg #[.int .u32 2,.int .i64 ((f 3).1:Int)]] wr fun r w'=>∃(g cap:Nat) (xa:Option Addr) (xc:Nat),r=.returned (.tuple #[.agg #[.int .u64 9,.slice (some ⟨g,0,none⟩) 2 cap,.slice xa 0 xc],.int .i64 0])/\CaS L c k ge M f (C3 f) ((g,[.int .u64 5,.int .u64 6])::B) w0 w':=by
 obtain⟨Z,fr,i,hC,hc,he,st,hB⟩:=h;have hr:=i.room (i:=3) (by omega) rfl;have CV:=Q0f i.m.ok.core.inv.mem.pool;refine(Q9l i.m.ok st.sep hc (t:=2) (by omega) ((f 3).1:Int) (by omega)).mono ?_;intro r w' R;have hb:=i.blk (t:=2) (.inr rfl) (i:=3) (by omega) rfl;rcases R with ⟨h0,_⟩|⟨p,v,hp,rfl,hm⟩
 ·exact(h0 hb).elim
 ·rw[hp.at_,hC.2.1] at hm;obtain⟨rw_,ri,hv,o1,o2,s1⟩:=hm;cases rw_ with
  | none=>cases o1
  | some q =>
   obtain⟨g,cap⟩:=q;obtain⟨xa,xc,ex⟩:∃xa xc,lvOf ri (⟨9,[5,6],[]⟩:Msg).its.length=.slice xa 0 xc:=by
    cases ri with
    | none=>exact⟨_,_,rfl⟩
    | some q=>exact⟨_,_,rfl⟩
   have ev:=Ending.returned.inj hv;rw[ex] at ev;subst ev;have s2:=CaS.grown ⟨Z,fr,i,hC,hc,he,st,hB⟩ s1.fresh;obtain⟨Z2,fr2,i2,Lr,Bx,DX,st2,Fq⟩:=CaS.grown (B:=B) ⟨Z,fr,i,hC,hc,he,st,hB⟩ s1.fresh;have sg:=st.sep.grown s1.fresh;refine⟨g,cap,xa,xc,rfl,Z,fr,i,hC,hc.step rfl sg,AsideV.step he sg,st.trans sg,fun q hq=>?_⟩;rcases J1J.1 hq with rfl|hq
   ·intro j v hj;have hg:g∈keys (rowH (some (g,cap)) 83 1 ((⟨9,[5,6],[]⟩:Msg).ws.map encU)++rowH ri 63 5 ((⟨9,[5,6],[]⟩:Msg).its.flatMap It.cells)):=by simp[rowH]
    refine⟨g,rfl,fun hk=>?_,s1.sep.lt hg,Q0x s1.sep.left j v hj⟩;rcases s1.new g hg with h1|h1
    ·cases h1
    ·have:=st.sep.lt hk;omega
   ·exact AsideV.step (hB q hq) sg
theorem Z8u(h:CaS L c k ge M f (C3 f) B w0 wr):Calls prog 44 #[.pointer (some ⟨c,0,none⟩)] wr fun r w1=>∃s,r=.returned (.pointer (some ⟨s,0,none⟩)) /\
  Calls prog 37 #[.pointer (some ⟨s,0,none⟩),.int .u32 2,.int .i64 8] w1 fun r w'=>r=.returned (.tuple #[.agg #[.int .u32 6,.int .i64 3],.int .i64 0])/\CaS L c k ge M f (C3 f) B w0 w':=by
 obtain⟨Z,fr,i,hC,hc,he,st,hB⟩:=h;refine(Q2T hc).mono ?_;rintro r w1⟨rfl,rfl⟩;refine⟨Z.s,rfl,(Q5S st.sep i.m.ok (x:=2) (by omega) 8).mono ?_⟩;rintro r w'⟨rfl,hb⟩;rw[Z8a (i.at' (i:=1) (by omega)) rfl (by decide),hC.1];exact⟨rfl,CaS.grown ⟨Z,fr,i,hC,hc,he,st,hB⟩ hb⟩
end
theorem CaI.frm{Z:SP}{L M:Int}{f:Nat->Nat×Nat}{fr:List Nat}(h:CaI Z L M f fr){t:Nat}(ht:t=1∨t=2){z i rr:Nat}(hz:z<256)(hi:i<7)(he:Z.av.en t z=some (i+1,rr))(right:Nat)(off n:Int) :
  frmE Z t (z:Int) right off n=frE (if Q0z i=8 then 0 else 10) ((rr&&&right:Nat):Int) off n/\∀p g,FrmAt Z t (z:Int) right off n p g->p=plB f i:=by
 have AH:(Q0g Z.S.l Z.tb t z).map Ent.c=some (i+1,rr):=he;cases hx:Q0g Z.S.l Z.tb t z with
 | none=>rw[hx] at AH;cases AH
 | some e =>
  rw[hx] at AH;have Of:e.c=(i+1,rr):=J2u AH;have eh:e.h=i+1:=congrArg Prod.fst Of;have er:e.r=rr:=congrArg Prod.snd Of;have hp:pget Z.S.l 1 t=some (plB f (t-1)):=by
   have:=h.at' (i:=t-1) (by omega)
   rwa [show t-1+1=t by omega] at this
  have Av:(plB f (t-1)).kind=2:=by rcases ht with rfl|rfl <;> rfl
  constructor
  ·unfold frmE;rw[hp];simp only;rw[if_pos Av,if_pos (by omega),J2C,hx];simp only;rw[eh,h.at' hi,er];rfl
  ·intro p g ha;obtain⟨e2,h1,h2,_⟩:=ha.ent;rw[J2C,hx] at h1;cases h1;rw[eh,h.at' hi] at h2;exact(J2u h2).symm
theorem Z8S{q off n:Int}(hq:q≠0)(h:0<=off/\off<=1024/\n<=1024-off/\off%8=0):frE 0 q off n=0:=by
 unfold frE;rw[if_neg (by decide),if_neg hq,if_neg (by omega),if_neg (by omega)]
section
variable {Z:SP} {L:Int} {c k ge:Nat} {M:Int} {f:Nat->Nat×Nat} {fr:List Nat} {w w':World} {r:Ending}
theorem Q7W(h:CaI Z L M f fr){t:Nat}(ht:t=1∨t=2){z rr:Nat}(hz:z<256)(he:Z.av.en t z=some (7,rr))(hr:rr&&&2≠0){o:Nat}{ws:List Nat}(ho:o%8=0)(hl:o+8*ws.length<=1024)(R:StoR Z fr 8 0 M t (z:Int) (o:Int) ws w r w') :
  r=.returned (.int .i64 0)/\CaN Z L M f fr (fun Z'=>Z'=Z.stored (plB f 6) o ws) w w':=by
 obtain⟨q1,q2⟩:=h.frm ht hz (i:=6) (by omega) he 2 (o:Int) (8*(ws.length:Int));have h0:frmE Z t (z:Int) 2 (o:Int) (8*(ws.length:Int))=0:=by
  rw[q1,if_pos (show Q0z 6=8 from rfl)];exact Z8S (by omega) ⟨by omega,by omega,by omega,by omega⟩
 rcases R with ⟨h1,_⟩|⟨_,p,g,ha,rfl,ok,st⟩
 ·exact(h1 h0).elim
 ·have hp:=q2 p g ha;have hg:g=o:=by have:=ha.off;omega
  subst hp;subst hg;exact⟨rfl,_,h.poke ok,rfl,st,rfl⟩
theorem Q9n(h:CaI Z L M f fr){t:Nat}(ht:t=1∨t=2){z rr:Nat}(hz:z<256)(he:Z.av.en t z=some (7,rr))(hr:rr&&&1≠0){o:Nat}(ho:o%8=0)(hl:o+8<=1024)(R:LodR Z t (z:Int) (o:Int) w r w') :
  r=.returned (.tuple #[.int .u64 (Q0m Z.S.P.a.mem ((f 6).1+o):Nat),.int .i64 0])/\Below w.heap.size w w':=by
 obtain⟨q1,q2⟩:=h.frm ht hz (i:=6) (by omega) he 1 (o:Int) 8;have h0:frmE Z t (z:Int) 1 (o:Int) 8=0:=by
  rw[q1,if_pos (show Q0z 6=8 from rfl)];exact Z8S (by omega) ⟨by omega,by omega,by omega,by omega⟩
 obtain⟨hb,hc⟩:=R;rcases hc with ⟨h1,_⟩|⟨_,p,g,ha,rfl⟩
 ·exact(h1 h0).elim
 ·have hp:=q2 p g ha;have hg:g=o:=by have:=ha.off;omega
  subst hp;subst hg;exact⟨rfl,hb⟩
theorem Q4Q{E:Int}(hE:E≠0){t:Nat}{z off:Int}(h0:frmE Z t z 1 off 8=E)(R:LodR Z t z off w r w') :
  r=.returned (.tuple #[.int .u64 0,.int .i64 E])/\Below w.heap.size w w':=by
 obtain⟨hb,hc⟩:=R;rcases hc with ⟨_,rfl⟩|⟨h1,_⟩
 ·rw[h0];exact⟨rfl,hb⟩
 ·rw[h0] at h1;exact(hE h1).elim
theorem CaI.keptS(h:CaI Z L M f fr){o:Nat}{ws:List Nat}(hl:o+8*ws.length<=1024){i:Nat}(hi:i<6)(hk:Q0z i=3):msgV (Z.stored (plB f 6) o ws).S.P.a.mem (f i).1=msgV Z.S.P.a.mem (f i).1/\winV (Z.stored (plB f 6) o ws).S.P.a.mem (f i).1=winV Z.S.P.a.mem (f i).1:=by
 have Dl:=Z0i h.m.ok (h.idx (i:=6) (by omega)) (h.idx (i:=i) (by omega)) (by omega) rfl rfl (.inr rfl) (o:=o) (ws:=ws) hl;have e:costK (plB f i).kind=256:=by show costK (Q0z i)=256;rw[hk];rfl
 rw[e] at Dl;exact Q4G Dl
theorem CaI.frame(h:CaI Z L M f fr):(f 6).1+1024<=Z.S.P.a.mem.length/\(f 6).1%8=0:=Q0R h.m.ok.core (h.mem (i:=6) (by omega)).1 (h.mem (i:=6) (by omega)).2 (.inr rfl)
end
section
variable {L:Int} {c k ge:Nat} {M M':Int} {f:Nat->Nat×Nat} {C C':SP->Prop} {B:List (Nat×List Value)} {w0 wr w':World}
theorem Z8T(h:CaS L c k ge M f C B w0 wr):(f 2).1<=1073741824:=by
 obtain⟨Z,fr,i,_⟩:=h;have h1:=i.room (i:=2) (by omega) rfl;have h2:=Q0f i.m.ok.core.inv.mem.pool;omega
theorem Z6b(h:CaS L c k ge M f (C3 f) B w0 wr){wa:Option Addr}(cap:Nat)(hA:∀H:HL,Step [] H w0 wr->(∀q∈B,AsideV H q.2 (some ⟨q.1,0,none⟩) wr)->AsideU H [7] wa wr) :
  Calls prog 45 #[.pointer (some ⟨c,0,none⟩),.int .u32 1,.int .i64 128,.int .i64 1016,.slice wa 1 cap] wr fun r w'=>r=.returned (.int .i64 0)/\CaS L c k ge M f (C4 f) B w0 w':=by
 obtain⟨Z,fr,i,hC,hc,he,st,hB⟩:=h;refine(Q3K i.m.ok st.sep hc (t:=1) (by omega) 128 1016 (by decide) cap (hA _ st hB) (by decide) (by decide)).mono ?_;intro r w' R;obtain⟨rfl,n⟩:=Q7W i (.inl rfl) (z:=128) (by omega) (rr:=15) (by rw[hC.1];rfl) (by decide) (o:=1016) (by decide) (by decide) R;refine⟨rfl,CaS.go i hc he st hB ?_⟩;obtain⟨Z',i',hs,s1,rfl⟩:=n;refine⟨_,i',hs,s1,hC.1,?_,?_,?_⟩
 ·rw[(i.keptS (o:=1016) (ws:=[7]) (by decide) (i:=2) (by omega) rfl).1];exact hC.2.2.1
 ·rw[(i.keptS (o:=1016) (ws:=[7]) (by decide) (i:=3) (by omega) rfl).2];exact hC.2.2.2
 ·have hf:=i.frame;show Q0m (put_ Z.S.P.a.mem ((f 6).1+1016) ([7].flatMap Q0c)) ((f 6).1+1016)=7;rw[Q4i _ _ _ (by simp;omega) (by decide) _ (by omega) (by omega) (by omega),if_pos (by simp)];rw[J4O];rfl
theorem Q7X(h:CaS L c k ge M f (C4 f) B w0 wr)(z off:Int)(x e:Nat)(hx:(z=128/\off=1016/\x=7/\e=0)∨(z=128/\off=1017/\x=0/\e=2)∨(z=0/\off=0/\x=0/\e=10)) :
  Calls prog 46 #[.pointer (some ⟨c,0,none⟩),.int .u32 1,.int .i64 z,.int .i64 off] wr fun r w'=>r=.returned (.tuple #[.int .u64 x,.int .i64 e])/\CaS L c k ge M f (C4 f) B w0 w':=by
 obtain⟨Z,fr,i,hC,hc,he,st,hB⟩:=h;refine(Z2W i.m.ok st.sep hc (t:=1) (by omega) z off (by rcases hx with ⟨_,rfl,_⟩|⟨_,rfl,_⟩|⟨_,rfl,_⟩ <;> decide)).mono ?_;intro r w' R;rcases hx with ⟨rfl,rfl,rfl,rfl⟩|⟨rfl,rfl,rfl,rfl⟩|⟨rfl,rfl,rfl,rfl⟩
 ·obtain⟨rfl,hb⟩:=Q9n i (.inl rfl) (z:=128) (by omega) (rr:=15) (by rw[hC.1];rfl) (by decide) (o:=1016) (by decide) (by decide) R;rw[hC.2.2.2];exact⟨rfl,CaS.grown ⟨Z,fr,i,hC,hc,he,st,hB⟩ hb⟩
 ·have q:=(i.frm (t:=1) (.inl rfl) (z:=128) (by omega) (i:=6) (by omega) (rr:=15) (by rw[hC.1];rfl) 1 1017 8).1;obtain⟨rfl,hb⟩:=Q4Q (E:=2) (by decide) (q.trans (by decide)) R;exact⟨rfl,CaS.grown ⟨Z,fr,i,hC,hc,he,st,hB⟩ hb⟩
 ·have q:=(i.frm (t:=1) (.inl rfl) (z:=0) (by omega) (i:=5) (by omega) (rr:=15) (by rw[hC.1];rfl) 1 0 8).1;obtain⟨rfl,hb⟩:=Q4Q (E:=10) (by decide) (q.trans (by decide)) R;exact⟨rfl,CaS.grown ⟨Z,fr,i,hC,hc,he,st,hB⟩ hb⟩
theorem Z8v(h:CaS L c k ge M f C B w0 wr):Calls prog 107 #[.pointer (some ⟨c,0,none⟩),.agg #[.int .u32 0,.int .i64 ((f 2).1:Int)],.agg #[.int .u64 0,.slice none 0 0,.slice none 0 0]] wr fun r w'=>r=.returned (.int .i64 10)/\CaS L c k ge M f C B w0 w':=
 Z1p (t:=0) (a:=(f 2).1) (e:=10) (by decide) (by decide) (by have:=Z8T h;omega) h (fun Z fr i=>i.blk0 _)
theorem Z8w(h:CaS L c k ge M f C B w0 wr):Calls prog 107 #[.pointer (some ⟨c,0,none⟩),.agg #[.int .u32 1,.int .i64 (((f 2).1+8:Nat):Int)],.agg #[.int .u64 0,.slice none 0 0,.slice none 0 0]] wr fun r w'=>r=.returned (.int .i64 1)/\CaS L c k ge M f C B w0 w':=
 Z1p (t:=1) (a:=(f 2).1+8) (e:=1) (by decide) (by decide) (by have:=Z8T h;omega) h (fun Z fr i=>i.blk8)
end
theorem Q6l(w:World)(a b:Option Addr)(ca cb:Nat)(xs ys:List Nat)(ha:IsU w a xs)(hb:IsU w b ys)(hl:xs.length<=65536)(DL:ys.length<=65536) :
  Calls prog 120 #[.slice a xs.length ca,.slice b ys.length cb] w (Told w (.bool (decide (xs=ys)))):=by
 by_cases Ab:xs.length=ys.length
 ·have HX:=Q0a ha;have HY:=Q0a hb;have HL:Hid (xs.length=ys.length):=Ab;rw[<- Ab];clear ha hb Ab DL;generalize hn:xs.length=n at hl;have HN:Hid (xs.length=n):=hn;clear hn;go_enter func120,ntmps120;go_wp2_with fail
  go_loopg [5] n (fun gk i wr=>∃k:Nat,k+gk=n/\i=.int .i64 k/\(∀j,j<k->xs[j]?=ys[j]?)/\Below w.heap.size w wr)
  case atStart=>exact⟨0,J4b _,rfl,by intro j hj;omega,Below.refl _ _⟩
  case round =>
   obtain⟨k,hk,rfl,Ay,Cw⟩:=hrel;have Hp:Hid (∀j,j<k->xs[j]?=ys[j]?):=Ay;clear Ay;by_cases Aa:k<n
   ·have ex:xs[k]?=some (xs[k]'(by rw[HN.out];exact Aa)):=J3O _;have ey:ys[k]?=some (ys[k]'(by rw[<- HL.out,HN.out];exact Aa)):=J3O _;generalize xs[k]'(by rw[HN.out];exact Aa)=x at ex;generalize ys[k]'(by rw[<- HL.out,HN.out];exact Aa)=y at ey;obtain⟨g1,o1,rfl,BX,Rq⟩:=HX.out k x ex;obtain⟨g2,o2,rfl,Bw,R8⟩:=HY.out k y ey;have cx:=(World.cell?_of_block (w:=w) (Cw.block g1 BX)).trans Rq;have cy:=(World.cell?_of_block (w:=w) (Cw.block g2 Bw)).trans R8;have QY:=Q0a ex;have R0:=Q0a ey;have Cq:(k:Int)<(n:Int):=by omega
    have TE:(n:Int)<=65536:=by omega
    clear ex ey Rq R8 BX Bw;by_cases Im:x=y
    ·subst Im;have Ar:(((x:Nat):Int) != ((x:Nat):Int))=false:=by simp
     go_wp2
     go_region
     all_goals go_wp2
     all_goals go_roundg (n-(k+1))
     all_goals first
      | omega
      | (refine⟨k+1,by omega,by go_num,fun j hj=>?_,Cw.drew⟩;rcases J4g j k with e|e;exact Hp.out j e;(obtain rfl:j=k:=by omega);rw[QY.out,R0.out])
    ·have Ar:(((x:Nat):Int) != ((y:Nat):Int))=true:=by simp;omega
     have TU:=Q0a Im;clear Im
     go_wp2
     go_region
     all_goals go_wp2
     all_goals go_ret
     all_goals
      have Ac:¬(xs=ys):=by
       rintro rfl;have:=QY.out.symm.trans R0.out;exact TU.out (J2u this)
      exact⟨by simp[Ac],Cw.drew⟩
   ·have IZ:Hid (xs=ys):=by
     refine J3f fun j=>?_
     by_cases hj:j<k
     ·exact Hp.out j hj
     ·rw[J3m (by have:=HN.out;omega),J3m (by have:=HN.out;have:=HL.out;omega)]
    go_wp2
    go_ret;exact⟨by simp[IZ.out],Cw⟩
 ·have Ac:¬(xs=ys):=fun e=>Ab (by rw[e])
  have Ar:((xs.length:Int) != ys.length)=true:=by simp;omega
  clear ha hb;have HR:Hid (Told w (.bool (decide (xs=ys))) (.returned (.bool false)) w):=⟨by simp[Ac],Below.refl _ _⟩
  clear Ab Ac;generalize xs.length=n1 at *
  generalize ys.length=n2 at *
  go_enter func120,ntmps120;go_wp2_with fail;go_ret;exact HR.out
theorem Z0p(w:World)(l:Nat)(a b xa xb:Option Addr)(ca cb xc yc:Nat)(xs:List Nat)(ha:IsU w a xs)(hb:IsU w b xs)(hl:xs.length<=65536) :
  Calls prog 55 #[.agg #[.int .u64 l,.slice a xs.length ca,.slice xa 0 xc],.agg #[.int .u64 l,.slice b xs.length cb,.slice xb 0 yc]] w (Told w (.bool true)):=by
 have b1:Below w.heap.size w ((w.alloc (.cells #[.int .u64 l,.slice a xs.length ca,.slice xa 0 xc] 100)).alloc (.cells #[.int .u64 l,.slice b xs.length cb,.slice xb 0 yc] 100)):=((Below.refl _ _).alloc (J1E _) _).alloc (by simp) _;have kw:=Q6l _ a b ca cb xs xs (ha.below b1) (hb.below b1) hl hl;rw[decide_eq_true rfl] at kw;have HB:=Q0a b1;have Ac:(((l:Nat):Int) != ((l:Nat):Int))=false:=by simp
 have c1:=(Cells.new w 100 [.int .u64 l,.slice a xs.length ca,.slice xa 0 xc]).alloc (.cells #[.int .u64 l,.slice b xs.length cb,.slice xb 0 yc] 100);have c2:=Cells.new (w.alloc (.cells #[.int .u64 l,.slice a xs.length ca,.slice xa 0 xc] 100)) 100 [.int .u64 l,.slice b xs.length cb,.slice xb 0 yc];have hz:(w.alloc (.cells #[.int .u64 l,.slice a xs.length ca,.slice xa 0 xc] 100)).heap.size=w.heap.size+1:=by simp
 rw[hz] at c2;have HC:Hid (∀V,Below ((w.alloc (.cells #[.int .u64 l,.slice a xs.length ca,.slice xa 0 xc] 100)).alloc (.cells #[.int .u64 l,.slice b xs.length cb,.slice xb 0 yc] 100)).heap.size ((w.alloc (.cells #[.int .u64 l,.slice a xs.length ca,.slice xa 0 xc] 100)).alloc (.cells #[.int .u64 l,.slice b xs.length cb,.slice xb 0 yc] 100)) V->V.cell? ⟨w.heap.size,2,none⟩=some (.slice xa 0 xc)/\V.cell? ⟨w.heap.size+1,2,none⟩=some (.slice xb 0 yc)/\Told w (.bool true) (.returned (.bool true)) V):=fun V hV=>⟨(c1.same (hV.block _ c1.lt)).cell 2 _ rfl,(c2.same (hV.block _ c2.lt)).cell 2 _ rfl,rfl,Q0b (Q0b hV)⟩
 generalize xs.length=n at *
 clear ha hb b1 c1 c2 hz;go_enter func55,ntmps55;go_wp2_with fail;refine kw.mono ?_;rintro r w2⟨rfl,Ae⟩;obtain⟨x2,y2,hq⟩:=HC.out w2 Ae;have HQ:=Q0a hq;clear Ae HC kw hq;go_wp2_with fail;obtain⟨wq,rfl⟩:∃wq:World,wq=w2:=⟨_,rfl⟩
 go_loopg [5] 0 (fun gk i wr=>gk=0/\i=.int .i64 0/\wr=wq)
 case atStart=>exact⟨rfl,rfl,rfl⟩
 case round =>
  obtain⟨rfl,rfl,rfl⟩:=hrel;go_wp2_with fail
  (try go_ret);exact HQ.out
end Go.Proofs.YtfidemmgofcnmaaGreatDoor
