/- SpaceCharge returns true at every input. No condition. Part of its proof. -/
import Derived.Test.YtfidemmgofcnmaaGreatDoorSc28
set_option maxHeartbeats 8000000
set_option maxRecDepth 100000
set_option linter.unusedVariables false
namespace Go.Proofs.YtfidemmgofcnmaaGreatDoor
open Go.RowKit Go.Proofs.Tryz
theorem Z1b {s c x:Nat} {M z:Int} {C:AV->Prop} {B:List (Nat×List Value)} {w0 wr:World} (h:AlQ s c M C B w0 wr) (hx:x=1∨x=3) (hz:0<=z/\z<256) {o:Option (Nat×Nat)} (ho:∀a,C a->a.en x z.toNat=o) :
  Calls prog 37 #[.pointer (some ⟨s,0,none⟩),.int .u32 x,.int .i64 z] wr fun r w'=>r=.returned (Z3V o)/\AlQ s c M C B w0 w':=by
 have h':=h;obtain⟨Z,a,u,b,y,d,v,rfl,rfl,m,hC,Bq,st,hB⟩:=h;obtain⟨g1,g2,g3⟩:=Q5h 2 a u 4 b y 2 d v;rw [<- m.l] at g1 g3;obtain⟨p,hp,hk⟩:∃p,pget Z.S.l 1 x=some p/\p.kind=2:=by
  rcases hx with rfl|rfl
  ·exact⟨_,g1,rfl⟩
  ·exact⟨_,g3,rfl⟩
 have kl:=Z6m st.sep m.ok (x:=x) (by omega) z;rw [Z9h hp hk hz,ho _ hC] at kl;refine kl.mono ?_;rintro r w' ⟨rfl,hb⟩;exact⟨rfl,h'.grown hb⟩
theorem Q9X {s c:Nat} {r0 mk:Nat} {B:List (Nat×List Value)} {w0 wr:World} (h:AlQ s c 2 (E2 r0) B w0 wr) (hm:1<=mk/\mk<=15) {C:AV->Prop} {n:Nat} (ET:∀a,E2 r0 a->(Q0N mk a [2]).2=n/\C (Q0N mk a [2]).1) :
  Calls prog 81 #[.pointer (some ⟨s,0,none⟩),.int .u32 1,.int .i64 5,.int .i64 mk,.bool false] wr fun r w'=>r=.returned (.tuple #[.int .i64 n,.int .i64 0])/\AlQ s c 2 C B w0 w':=by
 obtain⟨Z,a,u,b,y,d,v,rfl,rfl,m,hC,Bq,st,hB⟩:=h;obtain⟨g1,g2,g3⟩:=Q5h 2 a u 4 b y 2 d v;rw [<- m.l] at g1;obtain⟨q1,q2⟩:=ET _ hC;obtain⟨b1,b2,hC⟩:=hC;have hN:Z.F.N=[⟨1,b1,⟨1,5,0,[2]⟩⟩,⟨2,b2,⟨3,7,1,[]⟩⟩]:=by show Z.av.N=_;rw [hC]
 refine (Q6w st.sep m.ok (x:=1) (by omega) 5 (mk:Int) false).mono ?_;intro r w' R;obtain⟨n',Dj,e1,e2,rfl,Z',k1,k2,k3,k4⟩:=R.fine g1 rfl (by omega) (by omega) (c:=(2,15)) (by rw [hC];rfl);have hid:n'.id=1:=by
  rw [hN] at Dj;rcases J2D.1 Dj with rfl|Dj
  ·rfl
  ·rw [J4H] at Dj;subst Dj;cases e2
 have hL:revL Z.F n'.id false=[2]:=by
  unfold revL;rw [hN,Bq,hid];rfl
 rw [hL,J3F] at k2 ⊢;rw [q1];refine⟨rfl,Z',a,u,b,y,d,v,k3.s,k3.alt.c,m.same k1 k3.toSameN,by rw [k2];exact q2,by rw [k3.nx,Bq],st.trans k4,fun q hq=>(hB q hq).step k4⟩
theorem J0Z {a:AV} (h:E2 5 a):(Q0N 4 a [2]).2=0/\E2 1 (Q0N 4 a [2]).1:=by
 obtain⟨b1,b2,rfl⟩:=h;refine⟨rfl,b1,b2,?_⟩;show (⟨setA (setA (setA en0 1 5 (some (2,15))) 3 7 (some (2,5))) 3 7 (some (2,1)),_⟩:AV)=_;congr 1;funext h s;unfold setA;split <;> rfl
theorem J1a {a:AV} (h:E2 1 a):(Q0N 1 a [2]).2=1/\E4 (Q0N 1 a [2]).1:=by
 obtain⟨b1,b2,rfl⟩:=h;refine⟨rfl,fun h s c hc=>?_,rfl,b1,rfl⟩;have Bd:setA (setA (setA en0 1 5 (some (2,15))) 3 7 (some (2,1))) 3 7 none h s=some c:=hc;rcases Q1X Bd with ⟨_,_,h0⟩|⟨Aa,h1⟩
 ·cases h0
 ·rcases Q1X h1 with ⟨e1,e2,_⟩|⟨_,h2⟩
  ·exact absurd ⟨e1,e2⟩ Aa
  ·rcases Q1X h2 with ⟨e1,e2,e3⟩|⟨_,h3⟩
   ·exact⟨e1,e2,(J3x e3).symm⟩
   ·cases h3
theorem J1b {s c r0:Nat} {B:List (Nat×List Value)} {w0 wr:World} (h:AlQ s c 2 (E2 r0) B w0 wr) :
  Calls prog 82 #[.pointer (some ⟨s,0,none⟩),.int .u32 3,.int .i64 7] wr fun r w'=>r=.returned (.tuple #[.agg #[.int .i64 1,.int .i64 5],.bool true])/\AlQ s c 2 (E2 r0) B w0 w':=by
 have h':=h;obtain⟨Z,a,u,b,y,d,v,rfl,rfl,m,⟨b1,b2,hC⟩,Bq,st,hB⟩:=h;have hN:Z.F.N=[⟨1,b1,⟨1,5,0,[2]⟩⟩,⟨2,b2,⟨3,7,1,[]⟩⟩]:=by show Z.av.N=_;rw [hC]
 have kf:=Z6S st.sep m.ok.fo (x:=3) (z:=7) (by omega) (by omega);have e:Z9g Z.F.N ((3:Nat):Int) ((7:Nat):Int)=.tuple #[.agg #[.int .i64 1,.int .i64 5],.bool true]:=by
  rw [hN];rfl
 rw [e] at kf;refine kf.mono ?_;rintro r w' ⟨rfl,hb⟩;exact⟨rfl,h'.grown hb⟩
theorem Z9m {s c:Nat} {B:List (Nat×List Value)} {w0 wr:World} (h:AlQ s c 2 E4 B w0 wr) :
  Calls prog 39 #[.pointer (some ⟨s,0,none⟩),.int .u32 1,.int .u32 3,.slice (some ⟨wr.heap.size,0,none⟩) 1 1] (wr.alloc (.cells #[.int .i64 5,.int .i64 9,.int .i64 15,.bool true] 90)) fun r w'=>r=.returned (.int .i64 0)/\AlQ s c 3 E5 B w0 w':=by
 obtain⟨Z,a,x,b,y,d,z,rfl,rfl,m,⟨ET,FQ,b1,Ou⟩,Bq,st,hB⟩:=h;have hb:=(Below.refl wr.heap.size wr).alloc (J2y _) (.cells #[.int .i64 5,.int .i64 9,.int .i64 15,.bool true] 90);have st2:=st.sep.grown hb;have BR:=Q7E st.sep ⟨5,9,15,true⟩ ⟨⟨by decide,by decide⟩,⟨by decide,by decide⟩,⟨by decide,by decide⟩⟩;obtain⟨g1,g2,g3⟩:=Q5h 2 a x 4 b y 2 d z;rw [<- m.l] at g1 g3;have Aw:Z.av.en 3 9=none:=by
  cases hh:Z.av.en 3 9 with
  | none=>rfl
  | some c=>have:=(ET _ _ _ hh).1;omega
 have An:FitM Z.av.en 1 3 ⟨5,9,15,true⟩:=
  ⟨by decide,by decide,by decide,rfl,⟨(2,15),FQ,by decide,by decide⟩,Aw⟩
 have K2:AsideM Z.hl 1 (fun _=>⟨5,9,15,true⟩) (some ⟨wr.heap.size,0,none⟩) (wr.alloc (.cells #[.int .i64 5,.int .i64 9,.int .i64 15,.bool true] 90)):=BR;have km:=Q3n (n:=1) (cap:=1) (A:=fun _=>⟨5,9,15,true⟩) st2.sep m.ok (by omega) (x:=1) (y:=3) (by omega) (by omega) (by omega) (by omega) K2;refine km.mono ?_;rintro r w' ⟨er,rfl,R⟩;obtain⟨rfl,hz⟩:=R.fine g1 rfl g3 rfl (Q7D An) fun er hw=>Z1a m [(1,5)] (fun h s c hc=>by
  obtain⟨rfl,rfl,_⟩:=ET _ _ _ hc;simp) (by simp) (Z2f hw)
 obtain⟨Z',c,b2,av,k1,_,rfl,k2,k3,k4,k5,k6⟩:=hz.grant rfl;obtain rfl:(2,15)=c:=by
  have RS:Z.av.en 1 5=some c:=k1;rw [FQ] at RS;exact J3x RS
 have hid:ownN Z.av.N (1:Int) 5=1:=by rw [Ou];rfl
 have DP:(Z'.av).en=setA (setA Z.av.en 3 9 (some (2,15))) 1 5 none:=by
  have ha:setA Z.av.en 3 9 (some (2,15)) 1 5=some (2,15):=by rw [Q5c (by omega)];exact FQ
  have hf:find (addN Z.av.N (ownN Z.av.N (1:Int) 5) (Z.F.next+1) b2 3 9) 1=some ⟨1,b1,⟨1,5,0,[3]⟩⟩:=by rw [Ou,Bq];rfl
  have hw:=Q2D (m:=15) (a:=⟨setA Z.av.en 3 9 (some (2,15)),addN Z.av.N (ownN Z.av.N (1:Int) 5) (Z.F.next+1) b2 3 9⟩) hf (h:=1) (s:=5) rfl rfl ha;have ho:ownN (addN Z.av.N (ownN Z.av.N (1:Int) 5) (Z.F.next+1) b2 3 9) (1:Int) 5=1:=by rw [Ou,Bq];rfl
  have QO:weak1 15 ⟨setA Z.av.en 3 9 (some (2,15)),addN Z.av.N (ownN Z.av.N (1:Int) 5) (Z.F.next+1) b2 3 9⟩ (ownN (addN Z.av.N (ownN Z.av.N (1:Int) 5) (Z.F.next+1) b2 3 9) (1:Int) 5)=(Z'.av,true):=k2;rw [ho,hw,if_pos (Q4D 15 (by omega))] at QO;rw [<- (Prod.mk.inj QO).1]
 refine⟨rfl,Z',a,x,b,y,d,z,k4.s,k4.alt.c,m.same k3 k4,⟨fun h s c hc=>?_,by rw [DP];rfl⟩,by rw [k5,Bq];rfl,(st.trans st2).trans k6,fun q hq=>((hB q hq).step st2).step k6⟩;rw [DP] at hc;rcases Q1X hc with ⟨_,_,h0⟩|⟨Aa,h1⟩
 ·cases h0
 ·rcases Q1X h1 with ⟨e1,e2,e3⟩|⟨_,h2⟩
  ·exact⟨e1,e2,(J3x e3).symm⟩
  ·obtain⟨e1,e2,_⟩:=ET _ _ _ h2;exact absurd ⟨e1,e2⟩ Aa
theorem Z6U (l:List Pl) (tb:Nat->TB) (x:Nat):(Q0j l tb x).Nodup:=by
 unfold Q0j;split
 ·exact J6D
 ·split
  ·unfold Q0w;refine J3e.2 ((J6u.filter _).imp fun Aa he=>Aa ?_);omega
  ·exact J6D
theorem Z9n (l:List Pl) (tb:Nat->TB) (h x:Nat):(Q5u l tb h x).Nodup/\∀p∈Q5u l tb h x,p.1=(x:Int):=by
 unfold Q5u Q3q;refine⟨J3e.2 (((Z6U l tb x).filter _).imp fun Aa he=>Aa (Prod.mk.inj he).2),fun p hp=>?_⟩;obtain⟨z,_,rfl⟩:=J2E.1 hp;rfl
theorem Z2g (l:List Pl) (tb:Nat->TB) (h:Nat):∀T:List Nat,T.Nodup->(Q1S l tb h T).Nodup
 | [],_=>J6D
 | x::r,hT=>by
  obtain⟨h1,h2⟩:=J3w.1 hT;have ih:=Z2g l tb h r h2;obtain⟨a1,a2⟩:=Z9n l tb h x;show ((x::r).flatMap (Q5u l tb h)).Nodup;rw [J2W];refine J3t.2 ⟨a1,ih,fun p hp q hq e=>?_⟩;obtain⟨y,hy,s,e2,_⟩:=mem_holdL.1 (show q∈Q1S l tb h r from hq);have e3:=a2 p hp;rw [e,e2] at e3;have:y=x:=by
   have e4:(y:Int)=(x:Int):=e3;omega
  exact h1 (this ▸ hy)
theorem Z6V {Z:SP} {fr:List Nat} {N K:Nat} {M:Int} (ok:Z.Ok fr N K M) {h:Nat} {p:Int×Int}:p∈Q2S Z.S.l Z.tb h↔∃x s r:Nat,p=((x:Int),(s:Int))/\Z.av.en x s=some (h,r):=by
 unfold Q2S;rw [mem_holdL]
 constructor
 ·rintro⟨x,_,s,rfl,_,e,he,rfl⟩;exact⟨x,s,e.r,rfl,Q9l he⟩
 ·rintro⟨x,s,r,rfl,hc⟩;obtain⟨e,he,h2⟩:=Q3k hc;obtain⟨q,q1,_,q3,_⟩:=Q3D he;exact⟨x,(Q2H (by rw [ok.core.inv.len];omega)).2 ⟨q,q1⟩,s,rfl,q3,e,he,(Prod.mk.inj h2).1.symm⟩
theorem Z9o {Z:SP} {fr:List Nat} {N K:Nat} {M:Int} (ok:Z.Ok fr N K M) (h:Nat):(Q2S Z.S.l Z.tb h).Nodup:=Z2g _ _ _ _ (Z4f (by rw [ok.core.inv.len];omega) 1)
theorem Z3W {α:Type} {A B:List α} (ha:A.Nodup) (hb:B.Nodup) (h:∀x,x∈A↔x∈B):A.length=B.length:=
 Nat.le_antisymm (ha.length_le_of_subset fun x hx=>(h x).1 hx) (hb.length_le_of_subset fun x hx=>(h x).2 hx)
theorem Z9p {S:CO} {fr:List Nat} {N K:Nat} (ok:S.Ok fr N K) (hE:S.P.q.E.map En.id=[0]):∃e,find S.P.q.E 0=some e/\e.q.given=0/\e.q.charged=Q0v S.l 0+S.xc 0:=by
 obtain⟨e,Oc⟩:∃e,S.P.q.E=[e]:=by
  cases hq:S.P.q.E with
  | nil=>rw [hq] at hE;simp at hE
  | cons e r=>rw [hq] at hE;simp at hE;exact⟨e,by rw [hE.2]⟩
 have hid:e.id=0:=by rw [Oc] at hE;simpa using hE
 have hf:find S.P.q.E 0=some e:=by rw [Oc];unfold find;rw [if_pos hid.symm]
 refine⟨e,hf,?_,ok.inv.tre.charged 0 e hf⟩;obtain⟨p0,E3,Bs,_,DJ,_,Qw⟩:=ok.inv.que.root;have Bg:=(ok.inv.tre.par p0 (J4O E3) (Pl.is_iff.2 (.inl DJ)) Bs e (by rw [Qw];exact hf)).1 Qw;rw [(ok.inv.tre.given 0 e hf).1];refine (Q2N fun x hx=>?_).1;rw [Oc,J4H] at hx;rw [hx,Bg]
 decide
theorem J1c {Z:SP} {fr:List Nat} {N K:Nat} {M:Int} (ok:Z.Ok fr N K M) (h:∀x s,Z.av.en x s=none) (id:Int):Z.S.xc id=0:=by
 have CN:=Z6R Z.S.l Z.tb id;have El:=Z0s Z.S.l Z.tb id;have h0:∀i s,i<256->s<256->(Z.tb i).en s≠none->False:=fun i s hi hs he=>by
  obtain⟨x,c,_,hc⟩:=ok.entries hi hs he;rw [h] at hc;cases hc
 have h1:=Q9U (tb:=Z.tb) [] fun i s hi hs he=>(h0 i s hi hs he).elim
 have h2:=Q9V ok.tpi.full [] fun i s hi hs he=>(h0 i s hi hs he).elim
 rw [ok.tpi.xc];simp at h1 h2;rw [h1,h2] at CN;simp at CN;omega
def HldQ (s c:Nat) (a:Option Addr) (B:List (Nat×List Value)) (w0 wr:World):Prop:=∃(Z:SP) (u v b y d z:Nat),Z.s=s/\Z.S.c=c/\MkZ Z 1 20000 4 3 (lt3 2 u v 4 b y 2 d z)/\E5 Z.av/\Step [] Z.hl w0 wr/\AsideS Z.hl [(3,9)] a wr/\∀q∈B,AsideV Z.hl q.2 (some ⟨q.1,0,none⟩) wr
theorem Z3X {s c:Nat} {B:List (Nat×List Value)} {w0 wr:World} (h:AlQ s c 3 E5 B w0 wr) :
  Calls prog 83 #[.pointer (some ⟨s,0,none⟩),.int .u32 2] wr fun r w'=>∃(a:Option Addr) (cap:Nat),r=.returned (.slice a 1 cap)/\HldQ s c a B w0 w':=by
 obtain⟨Z,a,x,b,y,d,z,rfl,rfl,m,⟨ET,FQ⟩,Bq,st,hB⟩:=h;have e:Q2S Z.S.l Z.tb 2=[(3,9)]:=by
  have Az:∀p,p∈Q2S Z.S.l Z.tb 2↔p=(3,9):=fun p=>by
   rw [Z6V m.ok]
   constructor
   ·rintro⟨u,v,r,rfl,hc⟩;obtain⟨rfl,rfl,_⟩:=ET _ _ _ hc;rfl
   ·rintro rfl;exact⟨3,9,15,rfl,FQ⟩
  have hl:=Z3W (B:=[((3:Int),(9:Int))]) (Z9o m.ok 2) (by simp) fun p=>by rw [Az];simp
  have N4:=(Az (3,9)).2 rfl;cases hh:Q2S Z.S.l Z.tb 2 with
  | nil=>rw [hh] at N4;cases N4
  | cons q r =>
   rw [hh] at hl N4;have hr:r=[]:=J4z.1 (by simpa using hl);subst hr;rw [J4H.1 N4]
 refine (Q5q st.sep m.ok 2).mono ?_;intro r w' hr;rw [e] at hr;obtain⟨ad,cap,rfl,hb,has⟩:=hr.aside st.sep;exact⟨ad,cap,rfl,Z,a,x,b,y,d,z,rfl,rfl,m,⟨ET,FQ⟩,st.trans (st.sep.grown hb),has,fun q hq=>(hB q hq).step (st.sep.grown hb)⟩
structure EndQ (s c:Nat) (a:Option Addr) (B:List (Nat×List Value)) (w0 wr:World):Prop where
 bx:∀q∈B,∀(j:Nat) (v:Value),q.2[j]?=some v->wr.cell? ⟨q.1,j,none⟩=some v
 hl:∃g,a=some ⟨g,0,none⟩/\wr.cell? ⟨g,0,none⟩=some (.int .i64 3)/\wr.cell? ⟨g,1,none⟩=some (.int .i64 9)
 z:∃Z:SP,Z.s=s/\Z.S.c=c/\Z.Ok [] 4 0 3/\(∀x s,Z.av.en x s=none)/\(∃e:En Fa,find Z.S.P.q.E 0=some e/\e.q.charged+e.q.given=352)/\Step [] Z.hl w0 wr
theorem EndQ.grown {s c:Nat} {a:Option Addr} {B:List (Nat×List Value)} {w0 wr w':World} (h:EndQ s c a B w0 wr) (hb:Below wr.heap.size wr w'):EndQ s c a B w0 w':=by
 obtain⟨hB,⟨g,rfl,h1,h2⟩,Z,q1,q2,q3,q4,q5,st⟩:=h;have hg:=World.block_lt_of_cell? wr ⟨g,0,none⟩ h1;exact⟨fun q hq j v hv=>(World.cell?_of_block (w:=wr) (hb.block q.1 (World.block_lt_of_cell? wr ⟨q.1,j,none⟩ (hB q hq j v hv)))).trans (hB q hq j v hv),⟨g,rfl,(World.cell?_of_block (w:=wr) (hb.block g hg)).trans h1,(World.cell?_of_block (w:=wr) (hb.block g hg)).trans h2⟩,Z,q1,q2,q3,q4,q5,st.trans (st.sep.grown hb)⟩
theorem J1d {s c:Nat} {a:Option Addr} {B:List (Nat×List Value)} {w0 wr:World} (h:HldQ s c a B w0 wr) :
  Calls prog 84 #[.pointer (some ⟨s,0,none⟩),.int .u32 2] wr fun r w'=>∃(ad:Option Addr) (cap:Nat),r=.returned (.tuple #[.slice ad 1 cap,.int .i64 0])/\EndQ s c a B w0 w':=by
 obtain⟨Z,u,v,b,y,d,z,rfl,rfl,m,⟨ET,FQ⟩,st,has,hB⟩:=h;obtain⟨g1,g2,g3⟩:=Q5h 2 u v 4 b y 2 d z;have Fs:Z3P Z.S 2=[2]:=by
  have t:=m.ok.core.inv.tree;unfold Z3P;rw [(Q8P t).2 (by rw [m.l];exact Z9j u v b y d z)];rfl
 refine (Q9S st.sep m.ok (by omega) (h:=2) (by omega)).mono ?_;rintro r w' (⟨h1,_⟩|⟨h1,_⟩|⟨_,_,ad,cap,rfl,Z',I,st2,_⟩)
 ·rw [m.l,g2] at h1;cases h1
 ·cases h1
 ·rw [Fs] at I ⊢;have AS:∀x s,Z'.av.en x s=none:=fun x s=>by
   rcases I.less.en x s with h1|h1
   ·exact h1
   ·cases hh:Z'.av.en x s with
    | none=>rfl
    | some c =>
     exfalso;have:=(I.out 2 (by simp)).2 x s c hh;rw [h1] at hh;obtain⟨_,_,rfl⟩:=ET _ _ _ hh;exact this rfl
  have hl:Z'.S.l=(lt3 2 u v 4 b y 2 d z).set 2 ⟨4,b,0,2,0,y⟩:=by
   rw [I.l,m.l];exact Q7C (l:=lt3 2 u v 4 b y 2 d z) (A:=[]) (x:=2) (p:=⟨4,b,0,1,0,y⟩) g2
  have Ac:Z'.S.P.q.E.map En.id=[0]:=by
   obtain⟨b0,ch,hq⟩:=m.q;rw [I.acc,hq];rfl
  obtain⟨e,he,e1,e2⟩:=Z9p I.ok.core Ac;have Bt:Q0v Z'.S.l 0=352:=by
   rw [hl]
   kernel_rfl
  refine⟨ad,cap,rfl,fun q hq j v hv=>?_,?_,Z',I.s,I.c,I.ok,AS,⟨e,he,?_⟩,st.trans st2⟩
  ·obtain⟨g,e,_,_,k4⟩:=((hB q hq).step st2) j v hv;cases e;exact k4
  ·obtain⟨g,rfl,k1,k2,k3,k4⟩:=(has.step st2) 0 (3,9) rfl;exact⟨g,rfl,k3,k4⟩
  ·rw [e2,e1,Bt,J1c I.ok AS];rfl
theorem Z2h {s c x:Nat} {a:Option Addr} {B:List (Nat×List Value)} {w0 wr:World} (h:EndQ s c a B w0 wr) (hx:x<4294967296) :
  Calls prog 32 #[.pointer (some ⟨s,0,none⟩),.int .u32 x] wr fun r w'=>∃(ad:Option Addr) (cap:Nat),r=.returned (.slice ad 0 cap)/\EndQ s c a B w0 w':=by
 have h':=h;obtain⟨_,_,Z,rfl,rfl,ok,hn,_,st⟩:=h;refine (Q5f st.sep ok hx).mono ?_;intro r w' hr;have e:Q0j Z.S.l Z.tb x=[]:=by
  refine J6A.2 fun z hz=>?_
  obtain⟨s,rfl,_,e,he⟩:=mem_slotsL.1 hz;have h0:=av_none.1 (hn x s);rw [he] at h0;cases h0
 rw [e] at hr;obtain⟨ad,cap,rfl,hb,_⟩:=hr.from'
 exact⟨ad,cap,rfl,h'.grown hb⟩
theorem J1Y {s c:Nat} {a:Option Addr} {B:List (Nat×List Value)} {w0 wr:World} (h:EndQ s c a B w0 wr) :
  Calls prog 27 #[.pointer (some ⟨c,0,none⟩)] wr fun r w1=>∃p,r=.returned (.pointer (some ⟨p,0,none⟩))/\wr=w1/\Calls prog 13 #[.pointer (some ⟨p,0,none⟩)] w1 fun r w2=>∃q,r=.returned (.pointer (some ⟨q,0,none⟩))/\w1=w2 /\
   Calls prog 19 #[.pointer (some ⟨q,0,none⟩),.int .i64 0] w2 fun r w3=>r=.returned (.int .i64 352)/\Below w0.heap.size w0 w3:=by
 obtain⟨_,_,Z,rfl,rfl,ok,hn,⟨e,he,hu⟩,st⟩:=h;refine (Q1A (SP.sS st.sep)).mono ?_;rintro r w1 ⟨rfl,rfl⟩;refine⟨_,rfl,rfl,(Q7b (CO.sP (SP.sS st.sep))).mono ?_⟩;rintro r w2 ⟨rfl,rfl⟩;refine⟨_,rfl,rfl,(Q8D (PL.sQ (CO.sP (SP.sS st.sep))) ok.core.inv.mem.pool.q he).mono ?_⟩;rintro r w3 ⟨rfl,hb⟩;rw [hu];exact⟨rfl,(st.trans (st.sep.grown hb)).fresh⟩
theorem Z1c {w:World} (h:Env w):Calls prog 23 #[] w (Told w (.bool true)):=by
 have Ks:((2 ^ (6+10):Nat):Int)=65536:=by decide
 have k1:=Z2c (Sep.nil h) 6 (by omega) (by omega) 20000 (by omega) (by rw [Ks];omega) 1 (by omega) (by omega);rw [Ks] at k1;have HQ:Hid (∀r w1,Z6O 6 20000 1 [] w r w1->∃c,r=.returned (.pointer (some ⟨c,0,none⟩))/\Calls prog 79 #[.pointer (some ⟨c,0,none⟩),.int .u32 0,.int .i64 2,.int .i64 0] w1 fun r w2=>r=.returned (.tuple #[.int .u32 1,.int .i64 0]) /\
   Calls prog 79 #[.pointer (some ⟨c,0,none⟩),.int .u32 0,.int .i64 4,.int .i64 0] w2 fun r w3=>r=.returned (.tuple #[.int .u32 2,.int .i64 0]) /\
    Calls prog 79 #[.pointer (some ⟨c,0,none⟩),.int .u32 0,.int .i64 2,.int .i64 0] w3 fun r w4=>r=.returned (.tuple #[.int .u32 3,.int .i64 0]) /\
     Calls prog 80 #[.pointer (some ⟨c,0,none⟩)] w4 fun r w5=>∃s,r=.returned (.pointer (some ⟨s,0,none⟩))/\AlQ s c 0 E0 [] w w5):=by
  rintro r w1 ⟨S,rfl,hf,st⟩;exact⟨S.c,rfl,Z9k hf st⟩
 clear h Ks;go_enter func23,ntmps23;go_wp2_with fail;refine k1.mono ?_;intro r w1 hx;obtain⟨c,rfl,hm⟩:=HQ.out _ _ hx;have HM:=Q0a hm;clear hx hm HQ k1;go_wp2_with fail;refine HM.out.mono ?_;rintro r w2 ⟨rfl,hm⟩;have Mz:=Q0a hm;clear hm HM;go_wp2_with fail;refine Mz.out.mono ?_;rintro r w3 ⟨rfl,hm⟩;have M0:=Q0a hm;clear hm Mz;go_wp2_with fail;refine M0.out.mono ?_;rintro r w4 ⟨rfl,hm⟩;have L6:=Q0a hm;clear hm M0;go_wp2_with fail;refine L6.out.mono ?_;rintro r w5 ⟨s,rfl,hq⟩;have H5:=Q0a (J0Y hq);clear hq L6;go_wp2_with fail;refine H5.out.mono ?_;rintro r w6 ⟨rfl,hq⟩;have H6:=Q0a (Z9l hq)
 clear hq H5;go_wp2_with fail;refine H6.out.mono ?_;rintro r w7 ⟨rfl,hq⟩;have H7:=Q0a (Z1b (x:=3) (z:=7) hq (.inr rfl) (by omega) (o:=some (2,5)) fun a ⟨b1,b2,e⟩=>by rw [e];rfl);clear hq H6;go_wp2_with fail;refine H7.out.mono ?_;rintro r w8 ⟨rfl,hq⟩;have Co:=hq.box 72 [.int .u32 2,.int .i64 5];have H8:=Q0a (Q9X (mk:=4) Co (by omega) fun a ha=>J0Z ha);clear hq Co H7;unfold Z3V;go_wp2_with fail;refine H8.out.mono ?_;rintro r w9 ⟨rfl,hq⟩;have H9:=Q0a (Z1b (x:=3) (z:=7) hq (.inr rfl) (by omega) (o:=some (2,1)) fun a ⟨b1,b2,e⟩=>by rw [e];rfl);clear hq H8;go_wp2_with fail;refine H9.out.mono ?_;rintro r w10 ⟨rfl,hq⟩
 have Co:=hq.box 72 [.int .u32 2,.int .i64 1];have Qj:=Q0a (J1b Co);clear hq Co H9;unfold Z3V;go_wp2_with fail;refine Qj.out.mono ?_;rintro r w11 ⟨rfl,hq⟩;have Co:=hq.box 173 [.int .i64 1,.int .i64 5];have QI:=Q0a (Q9X (mk:=1) Co (by omega) fun a ha=>J1a ha);clear hq Co Qj;go_wp2_with fail;refine QI.out.mono ?_;rintro r w12 ⟨rfl,hq⟩;have Sh:=Q0a (Z1b (x:=3) (z:=7) hq (.inr rfl) (by omega) (o:=none) fun a ⟨e,_⟩=>by
  cases hh:a.en 3 (7:Int).toNat with
  | none=>rfl
  | some c=>have:=(e _ _ _ hh).1;omega)
 clear hq QI;go_wp2_with fail;refine Sh.out.mono ?_;rintro r w13 ⟨rfl,hq⟩;have Co:=hq.box 72 [.int .u32 0,.int .i64 0];have L7:(w13.alloc (.cells #[.int .u32 0,.int .i64 0] 72)).heap.size=w13.heap.size+1:=by simp
 have CT:=Z9m Co;rw [L7] at CT;have QA:=Q0a CT;clear hq Co Sh CT L7;unfold Z3V;go_wp2_with fail;refine QA.out.mono ?_;rintro r w14 ⟨rfl,hq⟩;have Qv:=Q0a (Z3X hq);clear hq QA;go_wp2_with fail;refine Qv.out.mono ?_;rintro r w15 ⟨ha,AE,rfl,hq⟩;have R9:=Q0a (J1d hq);clear hq Qv;go_wp2_with fail;refine R9.out.mono ?_;rintro r w16 ⟨ka,F6,rfl,hq⟩;have BT:=hq.bx;have x0:=BT (w8.heap.size,[.int .u32 2,.int .i64 5]) (by simp) 0 _ rfl;have x1:=BT (w8.heap.size,[.int .u32 2,.int .i64 5]) (by simp) 1 _ rfl;have y0:=BT (w10.heap.size,[.int .u32 2,.int .i64 1]) (by simp) 0 _ rfl;have y1:=BT (w10.heap.size,[.int .u32 2,.int .i64 1]) (by simp) 1 _ rfl
 have z0:=BT (w11.heap.size,[.int .i64 1,.int .i64 5]) (by simp) 0 _ rfl;have z1:=BT (w11.heap.size,[.int .i64 1,.int .i64 5]) (by simp) 1 _ rfl;obtain⟨g,rfl,q0,q1⟩:=hq.hl;simp only at x0 x1 y0 y1 z0 z1;have Rx:=Q0a (Z2h (x:=3) hq (by omega));clear hq BT R9;go_wp2_with fail;refine Rx.out.mono ?_;rintro r w17 ⟨sa,scap,rfl,hq⟩;have RU:=Q0a (Z2h (x:=1) hq (by omega));clear hq Rx x0 x1 y0 y1 z0 z1 q0 q1;go_wp2_with fail;refine RU.out.mono ?_;rintro r w18 ⟨sa2,scap2,rfl,hq⟩;have RI:=Q0a (J1Y hq);clear hq RU;go_wp2_with fail;refine RI.out.mono ?_;rintro r w19 ⟨pp,rfl,rfl,hq⟩;have Rh:=Q0a hq
 clear hq RI;go_wp2_with fail;refine Rh.out.mono ?_;rintro r w20 ⟨qq,rfl,rfl,hq⟩;have R3:=Q0a hq;clear hq Rh;go_wp2_with fail;refine R3.out.mono ?_;rintro r w21 ⟨rfl,hb⟩;have HR:Hid (Told w (.bool true) (.returned (.bool true)) w21):=⟨rfl,hb⟩
 clear hb R3;go_wp2_with fail
 first|exact HR.out|(go_ret;exact HR.out)
end Go.Proofs.YtfidemmgofcnmaaGreatDoor
namespace Go.Proofs.YtfidemmgofcnmaaGreatDoor
open Go.ChangeShapes Go.WideShapes Go.ChangeAt Go.RowKit Go.Deep Go.Proofs.Tryz
end Go.Proofs.YtfidemmgofcnmaaGreatDoor
namespace Go.Proofs.YtfidemmgofcnmaaGreatDoor
open Go.RowKit Go.Proofs.Tryz
def Q2g (b o:Int):Bool:=decide (0<=b/\b<256/\0<=o/\o<=7/\b.toNat%2 ^ o.toNat=0)
theorem J1e (n k:Nat) (hn:n<256) (hk:k<=7):bits .and .i64 (n:Int) (((2 ^ k-1:Nat):Int))=((n%2 ^ k:Nat):Int):=by
 have hp:2 ^ k-1<2 ^ 63:=by
  have:2 ^ k<=2 ^ 7:=J3O (by omega) hk;omega
 rw [Z2o n (2 ^ k-1) (by omega) hp,J4f]
theorem Q6F (w:World) (b o:Int):Calls prog 170 #[.int .i64 b,.int .i64 o] w fun r w'=>r=.returned (.bool (Q2g b o))/\w=w':=by
 unfold Q2g;by_cases h1:0<=b
 ·by_cases h2:b<256
  ·by_cases h3:0<=o
   ·by_cases h4:o<=7
    ·obtain⟨n,rfl⟩:=J4e h1;obtain⟨k,rfl⟩:=J4e h3;have hb:=J1e n k (by omega) (by omega);rw [show (decide (0<=(n:Int)/\(n:Int)<256/\0<=(k:Int)/\(k:Int)<=7/\(n:Int).toNat%2 ^ (k:Int).toNat=0))=(((n%2 ^ k:Nat):Int)==0) by
      rw [J3F,J3F];by_cases h:n%2 ^ k=0
      ·rw [h];simp;omega
      ·rw [decide_eq_false (by rintro⟨_,_,_,_,e⟩;exact h e)];exact (beq_false_of_ne (by omega)).symm]
     rw [<- hb];clear hb;have hk:k=0∨k=1∨k=2∨k=3∨k=4∨k=5∨k=6∨k=7:=by omega
     clear h3 h4;go_enter func170,ntmps170;rcases hk with rfl|rfl|rfl|rfl|rfl|rfl|rfl|rfl <;> (go_wp2_with fail;go_ret;exact⟨rfl,rfl⟩)
    ·rw [decide_eq_false (by omega)];go_enter func170,ntmps170;go_wp2_with fail;go_ret;exact⟨rfl,rfl⟩
   ·rw [decide_eq_false (by omega)];go_enter func170,ntmps170;go_wp2_with fail;go_ret;exact⟨rfl,rfl⟩
  ·rw [decide_eq_false (by omega)];go_enter func170,ntmps170;go_wp2_with fail;go_ret;exact⟨rfl,rfl⟩
 ·rw [decide_eq_false (by omega)];go_enter func170,ntmps170;go_wp2_with fail;go_ret;exact⟨rfl,rfl⟩
theorem J1f (w:World) (v:Wi):Calls prog 95 #[.agg #[.int .i64 v.base,.int .i64 v.order]] w (Told w (.bool (Q2g v.base v.order))):=by
 obtain⟨b,o⟩:=v;dsimp only at *
 have ka:=Q6F (w.alloc (.cells #[.int .i64 b,.int .i64 o] 65)) b o;have HB:Hid (Below w.heap.size w (w.alloc (.cells #[.int .i64 b,.int .i64 o] 65))):=(Below.refl w.heap.size w).alloc (J2y _) _;go_enter func95,ntmps95;go_wp2_with fail;refine ka.mono ?_;rintro r w' ⟨rfl,rfl⟩;clear ka;go_wp2_with fail;go_ret;exact⟨rfl,HB.out⟩
def Q8o (i:It):Bool:=Q2g i.base i.order&&decide (1<=i.r/\i.r<=15/\0<=i.off/\i.off<256)
theorem Z9q (w:World) (i:It):Calls prog 94 #[.agg #[.int .i64 i.base,.int .i64 i.order,.int .i64 i.r,.int .i64 i.off,.bool i.g]] w fun r w'=>∃x:Int,r=.returned (.tuple #[.int .u64 x,.bool (Q8o i)])/\Below w.heap.size w w':=by
 obtain⟨b,o,ri,f,g⟩:=i;unfold Q8o;dsimp only;have ka:=Q6F (w.alloc (.cells #[.int .i64 b,.int .i64 o,.int .i64 ri,.int .i64 f,.bool g] 63)) b o;have HB:Hid (Below w.heap.size w (w.alloc (.cells #[.int .i64 b,.int .i64 o,.int .i64 ri,.int .i64 f,.bool g] 63))):=(Below.refl w.heap.size w).alloc (J2y _) _;generalize Q2g b o=al at *
 obtain⟨cv,Ca⟩:∃cv,cv=(al&&decide (1<=ri/\ri<=15/\0<=f/\f<256)):=⟨_,rfl⟩
 rw [<- Ca];go_enter func94,ntmps94;go_wp2_with fail;refine ka.mono ?_;rintro r w' ⟨rfl,rfl⟩;clear ka;cases al with
 | false =>
  obtain rfl:cv=false:=Ca;go_wp2_with fail;go_ret2;exact⟨_,rfl,HB.out⟩
 | true =>
  rw [J3Q] at Ca;by_cases h1:ri<1
  ·obtain rfl:cv=false:=by rw [Ca,decide_eq_false (by omega)]
   clear Ca;go_wp2_with fail;go_ret2;exact⟨_,rfl,HB.out⟩
  ·by_cases h2:ri>15
   ·obtain rfl:cv=false:=by rw [Ca,decide_eq_false (by omega)]
    clear Ca;go_wp2_with fail;go_ret2;exact⟨_,rfl,HB.out⟩
   ·by_cases h3:f<0
    ·obtain rfl:cv=false:=by rw [Ca,decide_eq_false (by omega)]
     clear Ca;go_wp2_with fail;go_ret2;exact⟨_,rfl,HB.out⟩
    ·by_cases h4:f≥256
     ·obtain rfl:cv=false:=by rw [Ca,decide_eq_false (by omega)]
      clear Ca;go_wp2_with fail;go_ret2;exact⟨_,rfl,HB.out⟩
     ·obtain rfl:cv=true:=by rw [Ca,decide_eq_true (by omega)]
      clear Ca;cases g with
      | false =>
       go_wp2_with fail;go_ret2;exact⟨_,rfl,HB.out⟩
      | true =>
       go_wp2_with fail;go_ret2;exact⟨_,rfl,HB.out⟩
theorem J1Z:(prog.info? 90).map (fun i=>(i.zero,i.size,i.bytes))=some (some (.agg #[.int .i64 0,.int .i64 0,.int .i64 0,.bool false]),4,32):=by kernel_rfl
theorem Q6G:∀L:List Mv,(L.flatMap Mv.cells).length=L.length*4
 | []=>rfl
 | p::r=>by rw [J2W,J3j,Q6G r];simp [Mv.cells];omega
theorem Q3N:∀(L:List Mv) (k i:Nat) (m:Mv) (v:Value),L[k]?=some m->m.cells[i]?=some v->(L.flatMap Mv.cells)[k*4+i]?=some v
 | [],k,i,m,v,h,_=>by simp at h
 | p::r,k,i,m,v,h,hv=>by
  rw [J2W];have hi:i<4:=by have:=(J2Q.1 hv).1;simpa [Mv.cells] using this
  have hp:p.cells.length=4:=rfl;cases k with
  | zero =>
   simp at h;subst h;rw [J5N (by rw [hp];omega),show 0*4+i=i by omega];exact hv
  | succ k =>
   rw [J5O (by rw [hp];omega),hp,show (k+1)*4+i-4=k*4+i by omega];exact Q3N r k i m v (by simpa using h) hv
def OutM (w wr:World) (v:Value) (L:List Mv):Prop:=wr.ownsRow w.heap.size 90 4 v L.length (L.flatMap Mv.cells)/\Below w.heap.size w wr
theorem OutM.nil (w:World):OutM w w (.slice none 0 0) []:=⟨World.ownsRow_nil _ _ _ _,Below.refl _ _⟩
theorem OutM.below {w wr w1:World} {v:Value} {L:List Mv} (h:OutM w wr v L) (hb:Below wr.heap.size wr w1):OutM w w1 v L:=
 ⟨Q5r h.1 (fun b Ak=>hb.block b (h.1.lt b Ak).2),h.2.trans (hb.mono h.2.size)⟩
theorem OutM.app {w wr:World} {v:Value} {L:List Mv} (h:OutM w wr v L) (hl:L.length<=16777216) (m:Mv) (ty:TypeId):∃v' w',(Builtin.append_ #[61,61] ty #[v,.slice (some ⟨wr.heap.size,0,none⟩) 1 1]).run prog (wr.alloc (.cells #[.int .i64 m.src,.int .i64 m.dst,.int .i64 m.r,.bool m.g] 90))=.ok v' w'/\OutM w w' v' (L++[m]):=by
 obtain⟨i0,hi,BH,Bi,Be⟩:=info_parts J1Z;have h2:=h.below ((Below.refl wr.heap.size wr).alloc (J2y _) (.cells #[.int .i64 m.src,.int .i64 m.dst,.int .i64 m.r,.bool m.g] 90));have hc:=Q6G L;obtain⟨v',w',hr,q1,q2,_,q4⟩:=run_append_own_at (P:=prog) (wr.alloc (.cells #[.int .i64 m.src,.int .i64 m.dst,.int .i64 m.r,.bool m.g] 90)) w.heap.size 61 ty 90 i0 (.agg #[.int .i64 0,.int .i64 0,.int .i64 0,.bool false]) 4 32 underlying61 hi BH Bi Be rfl (by decide) v L.length (L.flatMap Mv.cells) h2.1 ⟨wr.heap.size,0,none⟩ 1 1 m.cells (by simp [Mv.cells]) (by
  intro j u hj;have:=(Cells.new wr 90 m.cells).cell j u hj;have e:(⟨wr.heap.size,0,none⟩:Addr).add j=⟨wr.heap.size,j,none⟩:=by unfold Addr.add;split <;> simp_all
  rw [e];exact this) (fun u hu=>by
   have h4:u=.int .i64 m.src∨u=.int .i64 m.dst∨u=.int .i64 m.r∨u=.bool m.g:=by simpa [Mv.cells] using hu
   rcases h4 with rfl|rfl|rfl|rfl <;> rfl) (by unfold maxLen;omega) (by omega) h2.2.size
 refine⟨v',w',hr,?_,?_⟩
 ·rw [J3j,J3h];have e:[m].flatMap Mv.cells=m.cells:=by simp
  rw [e];exact q1
 ·exact h2.2.trans ((Below.refl _ _).mono h2.2.size |>.grown q2 h2.2.size (fun b hb=>(h2.1.lt b hb).1))
def itMv (i:It) (v:Wi) (k:Nat):Mv:=⟨i.base+k,v.base+i.off+k,i.r,i.g⟩
def movV (f:Nat->Bool) (i:It) (v:Wi) (k:Nat):List Mv:=((List.range k).filter f).map (itMv i v)
theorem Z6W (f:Nat->Bool) (i:It) (v:Wi) (k:Nat):movV f i v (k+1)=movV f i v k++if f k=true then [itMv i v k] else []:=by
 unfold movV;rw [J2J,J4x,J6d];cases h:f k <;> simp [h]
theorem Z2i (f:Nat->Bool) (i:It) (v:Wi) (k:Nat):(movV f i v k).length<=k:=by
 unfold movV;rw [J4j];refine J2z (J4P _ _) ?_;rw [J4k];exact J2y _
def Q4k (i:It) (v:Wi):Bool:=Q8o i&&(Q2g v.base v.order&&(decide (i.base<128)==decide (v.base<128)))
theorem Q2G {b o:Int} (h:Q2g b o=true):0<=b/\0<=o/\o<=7/\b.toNat+2 ^ o.toNat<=256/\2 ^ o.toNat<=128:=by
 unfold Q2g at h;obtain⟨h1,h2,h3,h4,h5⟩:=of_decide_eq_true h;obtain⟨n,rfl⟩:=J4e h1;obtain⟨k,rfl⟩:=J4e h3;rw [J3F,J3F] at *
 have hk:k=0∨k=1∨k=2∨k=3∨k=4∨k=5∨k=6∨k=7:=by omega
 refine⟨h1,h3,h4,?_,?_⟩
 ·rcases hk with rfl|rfl|rfl|rfl|rfl|rfl|rfl|rfl <;> simp at h5 ⊢ <;> omega
 ·rcases hk with rfl|rfl|rfl|rfl|rfl|rfl|rfl|rfl <;> simp
def Q5i (Z:SP) (x:Nat) (i:It) (k:Nat):Bool:=(Q0f Z.S.l Z.tb x (i.base.toNat+k)).isSome
def MvsE (Z:SP) (x:Nat) (i:It) (v:Wi) (er:Int):Prop:=(pget Z.S.l 1 x=none/\er=8)∨∃p,pget Z.S.l 1 x=some p/\((p.kind≠2/\er=10)∨(p.kind=2/\((Q4k i v=false/\er=1)∨(Q4k i v=true/\¬(i.off+((2 ^ i.order.toNat:Nat):Int)<=((2 ^ v.order.toNat:Nat):Int))/\er=2))))
def noMv:Mv:=⟨0,0,0,false⟩
def MvsR (Z:SP) (x:Nat) (i:It) (v:Wi) (w:World) (r:Ending) (w':World):Prop:=Below w.heap.size w w' /\
 ((∃er,er≠0/\r=.returned (.tuple #[.slice none 0 0,.int .i64 er])/\MvsE Z x i v er) ∨
  ∃(p:Pl) (a:Option Addr) (cap:Nat) (L:List Mv),pget Z.S.l 1 x=some p/\p.kind=2/\Q4k i v=true/\i.off+((2 ^ i.order.toNat:Nat):Int)<=((2 ^ v.order.toNat:Nat):Int)/\L=movV (Q5i Z x i) i v (2 ^ i.order.toNat)/\r=.returned (.tuple #[.slice a L.length cap,.int .i64 0])/\L.length<=cap/\AsideM Z.hl L.length (fun j=>L.getD j noMv) a w')
theorem Q6H {w:World} {Z:SP} {fr:List Nat} {N K:Nat} (hs:Sep w Z.hl) (ok:Z.S.Ok fr N K) {x:Nat} (hx:x<4294967296) (i:It) (v:Wi) (er:Int) (he:er≠0) (hw:(pget Z.S.l 1 x=none/\er=8)∨∃p,pget Z.S.l 1 x=some p/\p.kind≠2/\er=10) :
  Calls prog 38 #[.pointer (some ⟨Z.s,0,none⟩),.int .u32 x,.agg #[.int .i64 i.base,.int .i64 i.order,.int .i64 i.r,.int .i64 i.off,.bool i.g],.agg #[.int .i64 v.base,.int .i64 v.order]] w fun r w'=>r=.returned (.tuple #[.slice none 0 0,.int .i64 er])/\Below w.heap.size w w':=by
 have BI:Below w.heap.size w ((w.alloc (.cells #[.int .i64 i.base,.int .i64 i.order,.int .i64 i.r,.int .i64 i.off,.bool i.g] 63)).alloc (.cells #[.int .i64 v.base,.int .i64 v.order] 65)):=((Below.refl w.heap.size w).alloc (J2y _) _).alloc (by simp) _;have ks:=Q0I (hs.grown BI).sep ok hx er hw;have FI:(er==0)=false:=by simpa using he
 have HR:Hid (∀w' o,Below ((w.alloc (.cells #[.int .i64 i.base,.int .i64 i.order,.int .i64 i.r,.int .i64 i.off,.bool i.g] 63)).alloc (.cells #[.int .i64 v.base,.int .i64 v.order] 65)).heap.size ((w.alloc (.cells #[.int .i64 i.base,.int .i64 i.order,.int .i64 i.r,.int .i64 i.off,.bool i.g] 63)).alloc (.cells #[.int .i64 v.base,.int .i64 v.order] 65)) w'->Below w.heap.size w (w'.alloc o)):=fun w' o hb=>Q0e (Q0e (hb.alloc hb.size o))
 obtain⟨ib,io,ir,iff,ig⟩:=i;obtain⟨vb,vo⟩:=v;dsimp only at *
 clear hs ok hx hw BI;go_enter func38,ntmps38;go_wp2_with fail;refine ks.mono ?_;rintro r w1 ⟨rfl,hb⟩;have HQ:Hid (∀o,Below w.heap.size w (w1.alloc o)):=fun o=>HR.out w1 o hb
 clear hb HR ks;go_wp2_with fail
 first|exact⟨rfl,HQ.out _⟩|(go_ret2;exact⟨rfl,HQ.out _⟩)
theorem Z6X {n:Nat} (h:n<=128):wrap64 (n:Int)=(n:Int):=Go.IntWalk.wrap64_in _ (by omega)
theorem Z9r {n:Nat} {x:Int} (h:n<=128) (h0:0<=x) (h1:x<256):wrap64 (x+(n:Int))=x+(n:Int):=Go.IntWalk.wrap64_in _ (by omega)
def Box2 (b:Nat) (i:It) (v:Wi) (W:World):Prop:=(W.cell? ⟨b,0,none⟩=some (.int .i64 i.base)/\W.cell? ⟨b,1,none⟩=some (.int .i64 i.order)/\W.cell? ⟨b,2,none⟩=some (.int .i64 i.r)/\W.cell? ⟨b,3,none⟩=some (.int .i64 i.off)/\W.cell? ⟨b,4,none⟩=some (.bool i.g))/\W.cell? ⟨b+1,0,none⟩=some (.int .i64 v.base)/\W.cell? ⟨b+1,1,none⟩=some (.int .i64 v.order)
theorem box2 {w:World} (i:It) (v:Wi) {W:World} (hb:Below ((w.alloc (.cells #[.int .i64 i.base,.int .i64 i.order,.int .i64 i.r,.int .i64 i.off,.bool i.g] 63)).alloc (.cells #[.int .i64 v.base,.int .i64 v.order] 65)).heap.size ((w.alloc (.cells #[.int .i64 i.base,.int .i64 i.order,.int .i64 i.r,.int .i64 i.off,.bool i.g] 63)).alloc (.cells #[.int .i64 v.base,.int .i64 v.order] 65)) W):Box2 w.heap.size i v W:=by
 have h1:=((Cells.new w 63 i.cells).alloc (.cells #[.int .i64 v.base,.int .i64 v.order] 65)).same (hb.block _ (by simp;omega));have h2:=(Cells.new (w.alloc (.cells #[.int .i64 i.base,.int .i64 i.order,.int .i64 i.r,.int .i64 i.off,.bool i.g] 63)) 65 v.cells).same (hb.block _ (by simp));have e1:(w.alloc (.cells #[.int .i64 i.base,.int .i64 i.order,.int .i64 i.r,.int .i64 i.off,.bool i.g] 63)).heap.size=w.heap.size+1:=by simp
 rw [e1] at h2;exact⟨⟨h1.cell 0 _ rfl,h1.cell 1 _ rfl,h1.cell 2 _ rfl,h1.cell 3 _ rfl,h1.cell 4 _ rfl⟩,h2.cell 0 _ rfl,h2.cell 1 _ rfl⟩
theorem Z1d {w:World} {s x fac:Nat} {i:It} {v:Wi} {T:Nat->World->Prop} {f:Nat->Bool} {Q:Ending->World->Prop}
  (ks:Calls prog 90 #[.pointer (some ⟨s,0,none⟩),.int .u32 x] ((w.alloc (.cells #[.int .i64 i.base,.int .i64 i.order,.int .i64 i.r,.int .i64 i.off,.bool i.g] 63)).alloc (.cells #[.int .i64 v.base,.int .i64 v.order] 65)) fun r w'=>∃g:Nat,r=.returned (.tuple #[.agg #[.pointer (some ⟨g,0,none⟩),.int .u32 x,.int .i64 fac],.int .i64 0])/\Below ((w.alloc (.cells #[.int .i64 i.base,.int .i64 i.order,.int .i64 i.r,.int .i64 i.off,.bool i.g] 63)).alloc (.cells #[.int .i64 v.base,.int .i64 v.order] 65)).heap.size ((w.alloc (.cells #[.int .i64 i.base,.int .i64 i.order,.int .i64 i.r,.int .i64 i.off,.bool i.g] 63)).alloc (.cells #[.int .i64 v.base,.int .i64 v.order] 65)) w'/\T g w')
  (hT:∀g W W',T g W->Below W.heap.size W W'->T g W')
  (hC:∀(g:Nat) (W:World) (k:Nat),Below ((w.alloc (.cells #[.int .i64 i.base,.int .i64 i.order,.int .i64 i.r,.int .i64 i.off,.bool i.g] 63)).alloc (.cells #[.int .i64 v.base,.int .i64 v.order] 65)).heap.size ((w.alloc (.cells #[.int .i64 i.base,.int .i64 i.order,.int .i64 i.r,.int .i64 i.off,.bool i.g] 63)).alloc (.cells #[.int .i64 v.base,.int .i64 v.order] 65)) W->T g W->k<2 ^ i.order.toNat->Q4k i v=true->Calls prog 93 #[.agg #[.pointer (some ⟨g,0,none⟩),.int .u32 x,.int .i64 fac],.int .i64 (i.base+(k:Int))] W fun r w'=>∃a b:Int,r=.returned (.tuple #[.agg #[.int .u32 a,.int .i64 b],.bool (f k)])/\Below W.heap.size W w')
  (hE:∀(er:Int) (w':World),((Q4k i v=false/\er=1)∨(Q4k i v=true/\¬(i.off+((2 ^ i.order.toNat:Nat):Int)<=((2 ^ v.order.toNat:Nat):Int))/\er=2))->Below w.heap.size w w'->Q (.returned (.tuple #[.slice none 0 0,.int .i64 er])) w')
  (hR:Q4k i v=true->i.off+((2 ^ i.order.toNat:Nat):Int)<=((2 ^ v.order.toNat:Nat):Int)->∀(a:Value) (w':World),OutM w w' a (movV f i v (2 ^ i.order.toNat))->Q (.returned (.tuple #[a,.int .i64 0])) w') :
  Calls prog 38 #[.pointer (some ⟨s,0,none⟩),.int .u32 x,.agg #[.int .i64 i.base,.int .i64 i.order,.int .i64 i.r,.int .i64 i.off,.bool i.g],.agg #[.int .i64 v.base,.int .i64 v.order]] w Q:=by
 have HW:Hid (∀W,Below ((w.alloc (.cells #[.int .i64 i.base,.int .i64 i.order,.int .i64 i.r,.int .i64 i.off,.bool i.g] 63)).alloc (.cells #[.int .i64 v.base,.int .i64 v.order] 65)).heap.size ((w.alloc (.cells #[.int .i64 i.base,.int .i64 i.order,.int .i64 i.r,.int .i64 i.off,.bool i.g] 63)).alloc (.cells #[.int .i64 v.base,.int .i64 v.order] 65)) W->Below w.heap.size w W/\Box2 w.heap.size i v W):=fun W hb=>⟨Q0e (Q0e hb),box2 i v hb⟩
 have HC:=Q0a hC;have Fg:=Q0a hT;have K3:=Q0a hE;have KA:=Q0a hR;have IG:Hid (∀W,_):=fun W=>J1f W v
 have Ji:Hid (∀W,_):=fun W=>Z9q W i
 have GI:Hid (∀W,_):=fun W=>Q2E W i.base
 have KV:Hid (∀W,_):=fun W=>Q2E W v.base
 have Ie:Hid (Q4k i v=(Q8o i&&(Q2g v.base v.order&&(decide (i.base<128)==decide (v.base<128))))):=rfl;have HP:Hid (Q4k i v=true->Q2g i.base i.order=true/\Q2g v.base v.order=true/\1<=i.r/\i.r<=15/\0<=i.off/\i.off<256):=fun h=>by
  unfold Q4k Q8o at h;simp only [J2U,decide_eq_true_eq] at h;exact⟨h.1.1,h.2.1,h.1.2⟩
 generalize hW0:((w.alloc (.cells #[.int .i64 i.base,.int .i64 i.order,.int .i64 i.r,.int .i64 i.off,.bool i.g] 63)).alloc (.cells #[.int .i64 v.base,.int .i64 v.order] 65))=W0 at *
 obtain⟨ib,io,ir,iff,ig⟩:=i;obtain⟨vb,vo⟩:=v;dsimp only at *
 clear hC hT hE hR;generalize Q4k ⟨ib,io,ir,iff,ig⟩ ⟨vb,vo⟩=ia at *
 go_enter func38,ntmps38;go_wp2_with fail;refine ks.mono ?_;rintro r w1 ⟨g,rfl,Av,C3⟩;clear hW0 ks;have NH:=Av.alloc Av.size (.cells #[.pointer (some ⟨g,0,none⟩),.int .u32 x,.int .i64 fac] 191);have No:=Cells.new w1 191 [.pointer (some ⟨g,0,none⟩),.int .u32 x,.int .i64 fac];obtain⟨⟨c0,c1,c2,c3,c4⟩,v0,v1⟩:=(HW.out _ NH).2;go_wp2_with fail;refine (Ji.out _).mono ?_;rintro r w2 ⟨xx,rfl,Ag⟩;have HS:Hid (∀W,Below w2.heap.size w2 W->(Below w.heap.size w W/\Below W0.heap.size W0 W/\T g W)/\Box2 w.heap.size ⟨ib,io,ir,iff,ig⟩ ⟨vb,vo⟩ W/\W.cell? ⟨w1.heap.size,0,none⟩=some (.pointer (some ⟨g,0,none⟩))/\W.cell? ⟨w1.heap.size,1,none⟩=some (.int .u32 x)/\W.cell? ⟨w1.heap.size,2,none⟩=some (.int .i64 fac)):=fun W hb=>by
  have h2:=NH.trans (Ag.mono NH.size);have h3:=h2.trans (hb.mono h2.size);have hc:=(No.same (Ag.block _ No.lt)).same (hb.block _ (J2A No.lt Ag.size));exact⟨⟨(HW.out _ h3).1,h3,Fg.out _ _ _ (Fg.out _ _ _ (Fg.out _ _ _ C3 ((Below.refl _ _).alloc (J2y _) _)) Ag) hb⟩,(HW.out _ h3).2,hc.cell 0 _ rfl,hc.cell 1 _ rfl,hc.cell 2 _ rfl⟩
 generalize w1.heap.size=B at *
 clear NH No Av C3 Ag c0 c1 c2 c3 c4 v0 v1 HW Fg Ji;obtain⟨-,⟨⟨c0,c1,c2,c3,c4⟩,v0,v1⟩,s0,s1,s2⟩:=HS.out _ (Below.refl _ _);obtain⟨-,⟨⟨d0,d1,d2,d3,d4⟩,e0,e1⟩,-,-,-⟩:=HS.out _ (Below.refl w2.heap.size w2).drew;go_upto_region 5 with fail
 go_cut [32] from 33 to 48 (fun bb wc=>bb=.bool (!ia)/\Below w2.heap.size w2 wc)
 case first =>
  clear HC HP K3 KA;generalize Q8o ⟨ib,io,ir,iff,ig⟩=cd at *
  generalize Q2g vb vo=av at *
  generalize decide (ib<128)=k1 at *
  generalize decide (vb<128)=k2 at *
  cases cd with
  | false =>
   have HE:Hid (∀n,Below w2.heap.size w2 (w2.drewN n)):=fun n=>Q0Q (Below.refl w2.heap.size w2) n
   obtain rfl:ia=false:=by
    have:=Ie.out;rw [J7a] at this;exact this
   clear Ie HS
   go_quiet (first|(go_at_call 96;exact (GI.out _)))
   go_wp2_with fail;go_meet;exact⟨rfl,HE.out _⟩
  | true =>
   cases av with
   | false =>
    obtain rfl:ia=false:=by
     have:=Ie.out;rw [J7a,Bool.and_false] at this;exact this
    clear Ie
    first|go_region_with (first|(go_at_call 95;refine (IG.out _).mono ?_;rintro r w5 ⟨rfl,AL⟩;have Ey:=Q0a ((Below.refl w2.heap.size w2).drew.trans (AL.mono (J2y _)));clear AL))|fail
    all_goals (go_wp2_with fail;go_meet;exact⟨rfl,Ey.out⟩)
   | true =>
    by_cases hk:k1=k2
    ·subst hk;obtain rfl:ia=true:=by
      have:=Ie.out;rw [J3Q,J3Q,beq_self_eq_true] at this;exact this
     clear Ie
     go_region_held3 (fun W=>W.cell? ⟨w.heap.size,0,none⟩=some (.int .i64 ib)/\W.cell? ⟨w.heap.size+1,0,none⟩=some (.int .i64 vb)/\W.cell? ⟨w.heap.size+1,1,none⟩=some (.int .i64 vo)) (first|exact⟨c0,v0,v1⟩|exact⟨d0,e0,e1⟩|exact OQ)
     (first|(go_at_call 95;refine (IG.out _).mono ?_;rintro r w5 ⟨rfl,AL⟩;have Iu:=HS.out w5 ((Below.refl w2.heap.size w2).drew.trans (AL.mono (J2y _)));have OQ:=(⟨Iu.2.1.1.1,Iu.2.1.2.1,Iu.2.1.2.2⟩:_/\_/\_);have Ey:=Q0a ((Below.refl w2.heap.size w2).drew.trans (AL.mono (J2y _)));clear Iu AL)|(go_at_call_of 96 ib;refine (GI.out _).mono ?_;rintro r w' ⟨rfl,rfl⟩)|(go_at_call_of 96 vb;refine (KV.out _).mono ?_;rintro r w' ⟨rfl,rfl⟩))
     all_goals (go_wp2_with fail;go_meet;exact⟨rfl,Ey.out⟩)
    ·obtain rfl:ia=false:=by
      have:=Ie.out;rw [J3Q,J3Q,beq_false_of_ne hk] at this;exact this
     clear Ie;have Bu:(k1 != k2)=true:=bne_iff_ne.2 hk
     go_region_held3 (fun W=>W.cell? ⟨w.heap.size,0,none⟩=some (.int .i64 ib)/\W.cell? ⟨w.heap.size+1,0,none⟩=some (.int .i64 vb)/\W.cell? ⟨w.heap.size+1,1,none⟩=some (.int .i64 vo)) (first|exact⟨c0,v0,v1⟩|exact⟨d0,e0,e1⟩|exact OQ)
     (first|(go_at_call 95;refine (IG.out _).mono ?_;rintro r w5 ⟨rfl,AL⟩;have Iu:=HS.out w5 ((Below.refl w2.heap.size w2).drew.trans (AL.mono (J2y _)));have OQ:=(⟨Iu.2.1.1.1,Iu.2.1.2.1,Iu.2.1.2.2⟩:_/\_/\_);have Ey:=Q0a ((Below.refl w2.heap.size w2).drew.trans (AL.mono (J2y _)));clear Iu AL)|(go_at_call_of 96 ib;refine (GI.out _).mono ?_;rintro r w' ⟨rfl,rfl⟩)|(go_at_call_of 96 vb;refine (KV.out _).mono ?_;rintro r w' ⟨rfl,rfl⟩))
     all_goals (go_wp2_with fail;go_meet;exact⟨by simp [beq_false_of_ne hk],Ey.out⟩)
 obtain⟨rfl,AL⟩:=hcut;clear c0 c1 c2 c3 c4 v0 v1 s0 s1 s2 d0 d1 d2 d3 d4 e0 e1 Ie IG GI KV;cases ia with
 | false =>
  have HE:=Q0a (K3.out 1 wc (.inl ⟨rfl,rfl⟩) (HS.out wc AL).1.1);clear HS HC HP AL K3 KA;go_wp2_with fail
  first|exact HE.out|(go_ret2;exact HE.out)
 | true =>
  obtain⟨pa,pv,Iz,KY,P0,Fj⟩:=HP.out rfl;obtain⟨pa1,pa2,pa3,pa4,pa5⟩:=Q2G pa;obtain⟨pv1,pv2,pv3,pv4,pv5⟩:=Q2G pv;have Ey:=Q0a AL;obtain⟨-,⟨⟨c0,c1,c2,c3,c4⟩,v0,v1⟩,s0,s1,s2⟩:=HS.out wc AL;obtain⟨-,⟨⟨d0,d1,d2,d3,d4⟩,e0,e1⟩,-,-,-⟩:=HS.out wc.drew AL.drew;clear HP pa pv AL;obtain⟨ko,rfl⟩:=J4e pa2;obtain⟨kv,rfl⟩:=J4e pv2;rw [J3F] at *
  rw [J3F] at KA K3;have E3:0<2 ^ ko:=Nat.pow_pos (by omega);go_upto_region 7 with fail;go_region;obtain⟨po,Hj⟩:∃po:Nat,po=2 ^ ko:=⟨_,rfl⟩
  obtain⟨pv,IQ⟩:∃pv:Nat,pv=2 ^ kv:=⟨_,rfl⟩
  have epo:(2:Int) ^ ko=(po:Int):=by rw [Hj];simp
  have epv:(2:Int) ^ kv=(pv:Int):=by rw [IQ];simp
  rw [<- Hj] at E3 pa4 pa5;rw [<- IQ] at pv4 pv5;have De:wrap64 (po:Int)=(po:Int):=Z6X pa5;have EP:wrap64 (pv:Int)=(pv:Int):=Z6X pv5;have Hq:wrap64 (iff+(po:Int))=iff+(po:Int):=Z9r pa5 P0 Fj;simp only [epo,epv,De,EP,Hq];have Dk:Hid ((((2 ^ ko:Nat):Int))=(po:Int)/\(((2 ^ kv:Nat):Int))=(pv:Int)/\(2:Int) ^ ko=(po:Int)/\(2:Int) ^ kv=(pv:Int)/\po=2 ^ ko):=⟨by rw [Hj],by rw [IQ],epo,epv,Hj⟩
  have NX:=Q0a epo;have N8:=Q0a De;clear epo epv Hj IQ De EP Hq;have HD:=Q0a (Below.drew Ey.out);by_cases An:iff+(po:Int)<=(pv:Int)
  ·have K8:¬((pv:Int)<iff+(po:Int)):=by omega
   clear d0 d1 d2 d3 d4 e0 e1 c0 c1 c2 c3 c4 v0 v1 s0 s1 s2;obtain⟨-,⟨⟨d0,d1,d2,d3,d4⟩,e0,e1⟩,-,-,-⟩:=HS.out wc.drew HD.out;go_wp2_with fail;simp only [NX.out,N8.out];clear d0 d1 d2 d3 d4 e0 e1;generalize wc.drew=w3 at *
   have HI:Hid (0<=ib/\ib.toNat+po<=256/\0<=vb/\vb.toNat+pv<=256/\po<=128/\0<=iff/\iff<256):=⟨pa1,pa4,pv1,pv4,pa5,P0,Fj⟩
   clear pa1 pa3 pa4 pa5 pv1 pv3 pv4 pv5 pa2 pv2 Iz KY P0 Fj E3 K8 Ey
   go_loopg [14,63] po (fun gk ov kk wr=>∃k:Nat,kk=.int .i64 k/\k+gk=po/\OutM w3 wr ov (movV f ⟨ib,(ko:Int),ir,iff,ig⟩ ⟨vb,(kv:Int)⟩ k))
   case atStart=>exact⟨0,rfl,by omega,OutM.nil w3⟩
   case round =>
    obtain⟨k,rfl,AH,Au⟩:=hrel;have HO:=Q0a Au;have B6:=Q0a AH;clear AH;have C6:Below w2.heap.size w2 wr:=HD.out.trans (Au.2.mono HD.out.size);by_cases Ab:k<po
    ·obtain⟨⟨-,FH,QM⟩,⟨⟨c0,c1,c2,c3,c4⟩,v0,v1⟩,s0,s1,s2⟩:=HS.out wr C6;have kc:=HC.out g wr k FH QM (by have:=Dk.out.2.2.2.2;omega) (by trivial);have BP:=Q0a (Z6W f ⟨ib,(ko:Int),ir,iff,ig⟩ ⟨vb,(kv:Int)⟩ k);have Fd:=Q0a C6;have C2:(k:Int)<(po:Int):=by omega
     have Ri:=Q0a Ab;have QZ:(k:Int)<128:=by have:=HI.out;omega
     have Bs:(0:Int)<=(k:Int):=by omega
     have K9:IntKind.i64.wrap (ib+(k:Int))=ib+(k:Int):=Go.IntWalk.i64_in _ (by have:=HI.out;omega);have V4:IntKind.i64.wrap (vb+iff)=vb+iff:=Go.IntWalk.i64_in _ (by have:=HI.out;omega);have OR:IntKind.i64.wrap (vb+iff+(k:Int))=vb+iff+(k:Int):=Go.IntWalk.i64_in _ (by have:=HI.out;omega);have ME:(movV f ⟨ib,(ko:Int),ir,iff,ig⟩ ⟨vb,(kv:Int)⟩ k).length<=16777216:=by
      have h1:=Z2i f ⟨ib,(ko:Int),ir,iff,ig⟩ ⟨vb,(kv:Int)⟩ k;have h2:=HI.out;omega
     have EE:=Q0a ME;obtain⟨fk,Dd⟩:∃b,b=f k:=⟨_,rfl⟩
     rw [<- Dd] at kc BP;clear Au C6 FH QM Dd ME;go_wp2_with fail;refine kc.mono ?_;rintro r w4 ⟨a,b,rfl,AC⟩;have Jl:=Q0a (AC.alloc AC.size (.cells #[.int .u32 a,.int .i64 b] 72));have NC:=Q0a (HO.out.below Jl.out);obtain⟨-,⟨⟨d0,d1,d2,d3,d4⟩,e0,e1⟩,-,-,-⟩:=HS.out _ (Fd.out.trans (Jl.out.mono Fd.out.size));clear AC kc c0 c1 c2 c3 c4 v0 v1 s0 s1 s2 HO Fd Jl;cases fk with
     | true =>
      obtain⟨v',w',Ba,M2⟩:=NC.out.app EE.out (itMv ⟨ib,(ko:Int),ir,iff,ig⟩ ⟨vb,(kv:Int)⟩ k) 61;have HR:Hid (OutM w3 w' v' (movV f ⟨ib,(ko:Int),ir,iff,ig⟩ ⟨vb,(kv:Int)⟩ (k+1))):=by
       rw [BP.out,if_pos rfl];exact M2
      have MD:(w4.alloc (.cells #[.int .u32 a,.int .i64 b] 72)).heap.size=w4.heap.size+1:=by simp
      rw [MD] at Ba;unfold itMv at Ba;dsimp only at Ba;clear MD M2 BP NC EE;go_wp2_with (at_builtin;refine Lib.wpList_append_run _ rfl _ _ _ _ rfl _ _ rfl rfl _ _ Ba ?_);go_roundg (po-(k+1))
      case measure=>have:=B6.out;omega
      case rel=>exact⟨k+1,by go_num,by have:=Ri.out;omega,HR.out⟩
     | false =>
      have HR:Hid (OutM w3 (w4.alloc (.cells #[.int .u32 a,.int .i64 b] 72)) u14 (movV f ⟨ib,(ko:Int),ir,iff,ig⟩ ⟨vb,(kv:Int)⟩ (k+1))):=by
       rw [BP.out,if_neg (by decide),J4G];exact NC.out
      clear BP NC EE;go_wp2_with fail;go_roundg (po-(k+1))
      case measure=>have:=B6.out;omega
      case rel=>exact⟨k+1,by go_num,by have:=Ri.out;omega,HR.out⟩
    ·obtain rfl:k=po:=by have:=B6.out;omega
     have HX:Hid (Q (.returned (.tuple #[u14,.int .i64 0])) wr):=by
      refine KA.out (by trivial) ?_ _ _ ?_
      ·rw [Dk.out.1,Dk.out.2.1];exact An
      ·rw [<- Dk.out.2.2.2.2];have h1:=(HS.out w3 HD.out).1.1;exact⟨Q2p Au.1 h1.size,h1.trans (Au.2.mono h1.size)⟩
     clear Au C6 HO HS HC K3 KA;go_wp2_with fail
     first|exact HX.out|(go_ret2;exact HX.out)
  ·have K8:(pv:Int)<iff+(po:Int):=by omega
   have HE:=Q0a (K3.out 2 wc.drew (.inr ⟨by trivial,by rw [Dk.out.1,Dk.out.2.1];first|exact An|omega,rfl⟩) (HS.out wc.drew HD.out).1.1);clear HS HC Ey K3 KA;go_wp2_with fail
   first|exact HE.out|(go_ret2;exact HE.out)
theorem Z3Y {w:World} {Z:SP} {fr:List Nat} {N K:Nat} {M:Int} (hs:Sep w Z.hl) (ok:Z.Ok fr N K M) {x:Nat} (hx:x<4294967296) (i:It) (v:Wi) (hi:i.Wf) (hv:v.Wf) :
  Calls prog 38 #[.pointer (some ⟨Z.s,0,none⟩),.int .u32 x,.agg #[.int .i64 i.base,.int .i64 i.order,.int .i64 i.r,.int .i64 i.off,.bool i.g],.agg #[.int .i64 v.base,.int .i64 v.order]] w (MvsR Z x i v w):=by
 cases hp:pget Z.S.l 1 x with
 | none =>
  refine (Q6H hs ok.core hx i v 8 (by decide) (.inl ⟨hp,rfl⟩)).mono ?_;rintro r w' ⟨rfl,hb⟩;exact⟨hb,.inl ⟨8,by decide,rfl,.inl ⟨hp,rfl⟩⟩⟩
 | some p =>
  by_cases hk:p.kind=2
  case neg =>
   refine (Q6H hs ok.core hx i v 10 (by decide) (.inr ⟨p,hp,hk,rfl⟩)).mono ?_;rintro r w' ⟨rfl,hb⟩;exact⟨hb,.inl ⟨10,by decide,rfl,.inr ⟨p,hp,.inl ⟨hk,rfl⟩⟩⟩⟩
  have BI:Below w.heap.size w ((w.alloc (.cells #[.int .i64 i.base,.int .i64 i.order,.int .i64 i.r,.int .i64 i.off,.bool i.g] 63)).alloc (.cells #[.int .i64 v.base,.int .i64 v.order] 65)):=((Below.refl w.heap.size w).alloc (J2y _) _).alloc (by simp) _;have s0:=(hs.grown BI).sep;have UG:=(pget_some.1 hp).1;have Ao:=(pget_some.1 hp).2.2;refine Z1d (fac:=p.fac) (f:=Q5i Z x i) (T:=fun g W=>Sep W Z.hl/\TblZ Z p g W) ?_ ?_ ?_ ?_ ?_
  ·refine (Q0V s0 ok.core hx hp hk).mono ?_;rintro r w' ⟨g,rfl,hb,hg⟩;exact⟨g,rfl,hb,(s0.grown hb).sep,hg⟩
  ·rintro g W W' ⟨h1,h2⟩ hb;exact⟨(h1.grown hb).sep,h2.grown h1 hb⟩
  ·rintro g W k-⟨h1,h2⟩ Ab Gq;have DG:Q2g i.base i.order=true:=by
    unfold Q4k Q8o at Gq;simp only [J2U,decide_eq_true_eq] at Gq;exact Gq.1.1
   obtain⟨q1,q2,q3,q4,q5⟩:=Q2G DG;have T:=(ok.tpi.x (p.fac:Int)).tt ok.core UG Ao hk (SP.sS h1) h2.c;have Vf:0<=i.base+(k:Int)/\i.base+(k:Int)<256:=by omega
   have Ol:(i.base+(k:Int)).toNat=i.base.toNat+k:=by omega
   have AA:(Z.tb (x%256)).at' (i.base+(k:Int))=Q0f Z.S.l Z.tb x (i.base.toNat+k):=by
    unfold TB.at';rw [if_pos Vf,Ol,Q0g hp hk (by omega)]
   have kc:=Q1t T (x:Int) (p.fac:Int) (i.base+(k:Int)) fun e he=>by
    rw [AA] at he;exact ok.fpi.low ok.core.inv.lok he
   rw [AA] at kc;obtain⟨a,b,CI⟩:=Q3K (Q0f Z.S.l Z.tb x (i.base.toNat+k));rw [CI] at kc;refine kc.mono ?_;rintro r w' ⟨rfl,hb⟩;exact⟨a,b,rfl,hb⟩
  ·intro er w' he hb;refine⟨hb,.inl ⟨er,?_,rfl,.inr ⟨p,hp,.inr ⟨hk,he⟩⟩⟩⟩;rcases he with ⟨_,rfl⟩|⟨_,_,rfl⟩ <;> decide
  ·intro ha hf a w' ho;obtain⟨a0,cap,rfl,Ax⟩:=Q8l ho.1;have AE:(movV (Q5i Z x i) i v (2 ^ i.order.toNat)).length<=cap:=by
    rcases ho.1.2 with ⟨e,h0⟩|⟨g,c,Aj,e,_,_,hn,_⟩
    ·rw [h0];exact J4C _
    ·cases e;exact hn
   refine⟨ho.2,.inr ⟨p,a0,cap,_,hp,hk,ha,hf,rfl,rfl,AE,?_⟩⟩;have DG:Q2g i.base i.order=true/\Q2g v.base v.order=true/\1<=i.r/\i.r<=15/\0<=i.off/\i.off<256:=by
    unfold Q4k Q8o at ha;simp only [J2U,decide_eq_true_eq] at ha;exact⟨ha.1.1,ha.2.1,ha.1.2⟩
   obtain⟨q1,q2,q3,q4,q5⟩:=Q2G DG.1;obtain⟨r1,r2,r3,r4,r5⟩:=Q2G DG.2.1;refine⟨fun j hj=>?_,fun ad h0 Nq E9=>?_⟩
   ·have PW:(movV (Q5i Z x i) i v (2 ^ i.order.toNat))[j]?=some ((movV (Q5i Z x i) i v (2 ^ i.order.toNat))[j]):=J4R hj;have KO:(movV (Q5i Z x i) i v (2 ^ i.order.toNat)).getD j noMv=(movV (Q5i Z x i) i v (2 ^ i.order.toNat))[j]:=by rw [J7d,PW];rfl
    have Az:(movV (Q5i Z x i) i v (2 ^ i.order.toNat))[j]∈movV (Q5i Z x i) i v (2 ^ i.order.toNat):=J5W hj;obtain⟨g,hg,_,Ab,_⟩:=Ax (j*4) _ (Q3N _ j 0 _ _ PW rfl);refine⟨g,0,hg,Ab,fun t u hu=>?_,?_⟩
    ·have hu:((movV (Q5i Z x i) i v (2 ^ i.order.toNat))[j]).cells[t]?=some u:=by rw [<- KO];exact hu
     obtain⟨g',FZ,_,_,hc⟩:=Ax (j*4+t) u (Q3N _ j t _ _ PW hu);rw [hg] at FZ;cases FZ;rw [J5e];exact hc
    ·show Mv.Wf ((movV (Q5i Z x i) i v (2 ^ i.order.toNat)).getD j noMv);rw [KO];unfold movV at Az;obtain⟨k,Bu,e⟩:=J2E.1 Az;have A2:=J2P.1 (J2T.1 Bu).1;unfold movV;rw [<- e];unfold itMv;exact⟨⟨by dsimp only;omega,by dsimp only;omega⟩,⟨by dsimp only;omega,by dsimp only;omega⟩,⟨by dsimp only;omega,by dsimp only;omega⟩⟩
   ·subst Nq;have hL:(movV (Q5i Z x i) i v (2 ^ i.order.toNat)).length≠0:=h0;have G3:0<(movV (Q5i Z x i) i v (2 ^ i.order.toNat)).length:=by omega
    obtain⟨g,hg,Kr,_⟩:=Ax (0*4) _ (Q3N _ 0 0 _ _ (J4R G3) rfl);cases hg;exact absurd (hs.lt E9) (by dsimp only;omega)
end Go.Proofs.YtfidemmgofcnmaaGreatDoor
