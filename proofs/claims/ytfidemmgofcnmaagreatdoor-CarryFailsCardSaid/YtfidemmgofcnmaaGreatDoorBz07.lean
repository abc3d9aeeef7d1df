/- What the laws of spaces share is proved. No condition. Part of a proof. -/
import Derived.Test.YtfidemmgofcnmaaGreatDoorBz06
set_option maxHeartbeats 4000000
set_option maxRecDepth 100000
set_option linter.unusedVariables false
namespace Go.Proofs.YtfidemmgofcnmaaGreatDoor
open Go.RowKit Go.Proofs.Tryz
theorem Q7R(P:PL)(k:Nat)(c:CA)(h:P.cs[k]?=some c):P.pages.Perm (c.pgs++((P.cs.take k).flatMap CA.pgs++(P.cs.drop (k+1)).flatMap CA.pgs)):=by
 have:P.pages=P.cs.flatMap CA.pgs:=rfl;rw[this,Z2z CA.pgs P.cs k c h,<- J4b,<- J4b];exact J5O _ J5P
theorem Q7a(P:PL)(k:Nat)(c c':CA)(d:BD)(h:P.cs[k]?=some c):(P.setC k c' d).pages.Perm (c'.pgs++((P.cs.take k).flatMap CA.pgs++(P.cs.drop (k+1)).flatMap CA.pgs)):=by
 have hk:=(J3y.1 h).1;have:=Q7R (P.setC k c' d) k c' (by simp[PL.setC,hk])
 simpa only[PL.setC,J4c (J3h k),J4d (Nat.lt_succ_self k)] using this
theorem Q5F{P:PL}{fr:List Nat}(ok:P.Ok fr){k:Nat}{c:CA}(hc:P.cs[k]?=some c):∀x∈c.pg,x.2∈P.d.ps:=by
 intro x hx;refine ok.pages.mem_iff.1 (J3V _ ?_);exact J3G.2 ⟨c,J5p hc,J3T hx⟩
theorem PL.ok_setC{P:PL}{fr fr':List Nat}(ok:P.Ok fr){k:Nat}{c c':CA}{d:BD}(hc:P.cs[k]?=some c)(h1:c'.Ok)(h2:c'.size=c.size)(h3:c'.bb=c.bb)(h4:d.b=P.d.b)(h5:d.top=P.d.top)(h6:d.At)(h7:∀x∈c'.pg,cntB x.1.bits≠0)
  (hp:(fr'++(P.setC k c' d).pages).Perm d.ps):(P.setC k c' d).Ok fr':=by
 have hk:=(J3y.1 hc).1;refine⟨ok.q,h6,?_,?_,ok.bytes,by simp[PL.setC,ok.len],?_,hp,?_⟩
 ·show P.a.mem.length=2 ^ (d.top+10);rw[h5];exact ok.mem
 ·show 6<=d.top;rw[h5];exact ok.top
 ·intro j x hx;simp only[PL.setC] at hx;rw[J4I] at hx;split at hx
  ·rename_i e;subst e;simp at hx;subst hx;obtain⟨a,b,e⟩:=ok.c k c hc;exact⟨h1,h2.trans b,by rw[h3,e];exact h4.symm⟩
  ·obtain⟨a,b,e⟩:=ok.c j x hx;exact⟨a,b,by rw[e];exact h4.symm⟩
 ·intro x hx;rcases Q4C hx with rfl|hx
  ·exact h7
  ·exact ok.busy x hx
theorem PL.busyC{P:PL}{fr:List Nat}(ok:P.Ok fr){k:Nat}{c:CA}(hc:P.cs[k]?=some c):∀x∈c.pg,cntB x.1.bits≠0:=ok.busy c (J5p hc)
theorem PL.ok_take{P:PL}{fr:List Nat}(ok:P.Ok fr){k a:Nat}{c c':CA}{d:BD}(hc:P.cs[k]?=some c)(h:Z4Y c P.d a c' d):(P.setC k c' d).Ok fr:=by
 refine PL.ok_setC ok hc h.ok h.size h.bb h.b h.top h.at' (h.busy (PL.busyC ok hc)) ?_;have e1:=Q7R P k c hc;have e2:=Q7a P k c c' d hc;rcases h.pages with ⟨p1,p2⟩|⟨p,_,p1,p2⟩
 ·rw[p2];refine(J5S _ ?_).trans ok.pages;rw[p1] at e2;exact e2.trans e1.symm
 ·rw[p2];have e3:(P.setC k c' d).pages.Perm (p::P.pages):=e2.trans ((J5O _ p1).trans (List.Perm.cons _ e1.symm));exact(J5S _ e3).trans (J6F.trans ((List.Perm.cons _ ok.pages).trans (J6G _ _).symm))
theorem PL.ok_give{P:PL}{fr:List Nat}(ok:P.Ok fr){k a:Nat}{c c':CA}{d:BD}(hc:P.cs[k]?=some c)(h:Z5b c P.d a c' d):(P.setC k c' d).Ok fr:=by
 refine PL.ok_setC ok hc h.ok h.size h.bb h.b h.top h.at' (h.busy (PL.busyC ok hc)) ?_;have e1:=Q7R P k c hc;have e2:=Q7a P k c c' d hc;rcases h.pages with ⟨p1,p2⟩|⟨p,p1,p2⟩
 ·rw[p2];refine(J5S _ ?_).trans ok.pages;rw[p1] at e2;exact e2.trans e1.symm
 ·rw[p2];have e3:P.pages.Perm (p::(P.setC k c' d).pages):=e1.trans ((J5O _ p1).trans (List.Perm.cons _ e2.symm));have e4:(p::(fr++(P.setC k c' d).pages)).Perm P.d.ps:=(J6F.symm.trans (J5S _ e3.symm)).trans ok.pages;have:=List.Perm.erase p e4
  rwa [List.erase_cons_head] at this
theorem Q3k(P:PL)(k:Nat)(c c':CA)(d:BD)(hc:P.Cls k c)(j:Nat):(P.setC (k-1) c' d).usedOf j=if j=k then c'.used else P.usedOf j:=by
 have hk:=(J3y.1 hc.2).1;have h1:=hc.1;unfold PL.usedOf PL.setC;by_cases e:j=k
 ·subst e;simp[h1,hk]
 ·simp only[e,if_false];split
  ·rename_i hj;rw[J6H (by omega)]
  ·rfl
theorem PL.ok_setQ{P:PL}{fr:List Nat}(ok:P.Ok fr){q:QT}(hq:q.Ok):(P.setQ q).Ok fr:=⟨hq,ok.d,ok.mem,ok.top,ok.bytes,ok.len,ok.c,ok.pages,ok.busy⟩
theorem PL.ok_setA{P:PL}{fr:List Nat}(ok:P.Ok fr){m:List Nat}(hm:m.length=P.a.mem.length)(hb:∀b∈m,b<256):(P.setA m).Ok fr:=⟨ok.q,ok.d,by show m.length=_;rw[hm];exact ok.mem,ok.top,hb,ok.len,ok.c,ok.pages,ok.busy⟩
theorem Q2T{q:QT}(ok:q.Ok){id:Int}{e:En Fa}(hf:find q.E id=some e)(f:Fa)(h:0<=f.charged/\0<=f.given/\f.charged+f.given<=f.limit/\f.limit=e.q.limit/\f.kids=e.q.kids):({q with E:=upd q.E id f}:QT).Ok:=by
 refine⟨Q2P id f (fun a b a' b' _ h1 _ h2 h=>by rw[<- h1,<- h2];exact h) ok.ids,ok.next0,ok.next1,fun j x hx=>?_⟩;obtain⟨a1,a2,a3,a4,a5,a6,a7,a8⟩:=ok.fa id e hf;by_cases hj:j=id
 ·subst hj;have:=Q0n hf f;rw[this] at hx;cases hx;exact⟨h.1,h.2.1,h.2.2.1,by rw[h.2.2.2.1];exact a4,by rw[h.2.2.2.2];exact a5,by rw[h.2.2.2.2];exact a6,a7,a8⟩
 ·have:find (upd q.E id f) j=find q.E j:=Q0M hj f;rw[this] at hx;exact ok.fa j x hx
theorem Q5G{w:World}{v:Value}{r:Ending}{w':World}(h:Told w.drew v r w'):Told w v r w':=⟨h.1,((Below.refl _ _).drew).trans h.2⟩
theorem Z8o{w:World}{P:PL}(h:Sep w P.hl)(f k:Int)(hk:Q1a k=0):Calls prog 15 #[.pointer (some ⟨P.p,0,none⟩),.int .i64 f,.int .i64 k] w fun r w'=>r=.returned (.tuple #[.int .i64 0,.int .i64 1])/\w=w':=by
 have AH:=Q2A h.env k;rw[hk] at AH;clear h hk;go_enter func15,ntmps15;go_wp2_with (go_at_call 20;refine AH.mono ?_;rintro e w'⟨rfl,rfl⟩);go_ret2;exact⟨rfl,rfl⟩
theorem Z1D{w:World}{P:PL}(h:Sep w P.hl)(f k:Int)(hk:Q1a k≠0)(e0:Int)(he:e0=5∨e0=6)
  (BY:Calls prog 68 #[ptr P.q.t,.int .i64 f,.int .i64 ((Q1a k:Nat):Int)] w.drew (Told w.drew (.int .i64 e0))) :
  Calls prog 15 #[.pointer (some ⟨P.p,0,none⟩),.int .i64 f,.int .i64 k] w (Told w (.tuple #[.int .i64 0,.int .i64 e0])):=by
 have AH:=Q2A h.env k;have DK:=Q2A h.drew.env k;have c0:=PL.c0 h;have d0:=PL.c0 h.drew;have HT:Hid (∀r w',Told w.drew (.int .i64 e0) r w'->r=.returned (.int .i64 e0)/\w'.cell? ⟨P.p,0,none⟩=some (ptr P.q.t)/\Told w (.tuple #[.int .i64 0,.int .i64 e0]) (.returned (.tuple #[.int .i64 0,.int .i64 e0])) w'):=fun r w' hx=>⟨(Q5G hx).1,PL.c0 (h.grown (Q5G hx).2).sep,rfl,(Q5G hx).2⟩
 have Ac:(((Q1a k:Nat):Int)==0)=false:=by simpa using hk
 clear h hk;unfold ptr at *
 generalize ((Q1a k:Nat):Int)=cst at *
 rcases he with rfl|rfl
 all_goals
  go_enter func15,ntmps15;go_wp2_with (go_at_call 20;refine AH.mono ?_;rintro e w'⟨rfl,rfl⟩)
  go_region_held3 (fun w'=>w'.cell? ⟨P.p,0,none⟩=some (.pointer (some ⟨P.q.t,0,none⟩))) (first|exact c0|exact d0|exact e1)
   (first|(go_at_call 20;refine DK.mono ?_;rintro e w'⟨rfl,rfl⟩)|(go_at_call 68;refine BY.mono ?_;intro r w' hx;obtain⟨rfl,e1,hy⟩:=HT.out _ _ hx;have HY:=Q0a hy;clear hx hy))
  go_wp2_with fail
  (try go_ret2);exact HY.out
structure GetOk(P:PL)(fr:List Nat)(f:Int)(n a:Nat)(P':PL):Prop where
 ok:P'.Ok fr
 p:P'.p=P.p
 qt:P'.q.t=P.q.t
 db:P'.d.b=P.d.b
 aa:P'.a.a=P.a.a
 amb:P'.a.mb=P.a.mb
 top:P'.d.top=P.d.top
 q:∃e,find P.q.E f=some e/\((Q0e n:Nat):Int)<=e.q.limit-(e.q.charged+e.q.given)/\P'.q={P.q with E:=upd P.q.E f {e.q with charged:=e.q.charged+((Q0e n:Nat):Int)}}
 mem:P'.a.mem=put_ P.a.mem a (List.replicate (Q0e n) 0)
 used:∃A B,P.usedOf n=A++B/\P'.usedOf n=A++a::B
 other:∀j,j≠n->P'.usedOf j=P.usedOf j
 which:∃c c',P.Cls n c/\P'.cs=P.cs.set (n-1) c'/\Z4Y c P.d a c' P'.d
def NoRoom(P:PL)(n:Nat):Prop:=∃c,P.Cls n c/\Z4Z c P.d
def GetR(P:PL)(fr:List Nat)(f:Int)(n:Nat)(w:World)(r:Ending)(w':World):Prop:=
 (∃a P',r=.returned (.tuple #[.int .i64 ((a:Nat):Int),.int .i64 0])/\GetOk P fr f n a P'/\Step P.hl P'.hl w w')∨(NoRoom P n/\r=.returned (.tuple #[.int .i64 0,.int .i64 4])/\Step P.hl P.hl w w')
theorem Q0k{P:PL}{fr:List Nat}(ok:P.Ok fr){n a:Nat}(ha:a∈P.usedOf n):a+Q0e n<=P.a.mem.length/\64<=a/\1<=n/\n<=7:=by
 unfold PL.usedOf at ha;split at ha
 ·rename_i h1;split at ha
  ·rename_i c hc;obtain⟨k1,k2,k3,k4⟩:=PL.Cls.facts ok ⟨h1,hc⟩;obtain⟨x,hx,l1,l2⟩:=Q7O k1 ha;have hp:=ok.d.lt _ (Q5F ok hc x hx);rw[k2] at l2;rw[ok.mem,J4C,show(2:Nat) ^ 10=1024 from rfl];omega
  ·cases ha
 ·cases ha
theorem Q8L{m:List Nat}{a n:Nat}(h:∀b∈m,b<256)(v:Nat)(hv:v<256):∀b∈put_ m a (List.replicate n v),b<256:=by
 intro b hb;unfold put_ at hb;simp only[J3Q] at hb;rcases hb with (hb|hb)|hb
 ·exact h b (J6y hb)
 ·rw[J3p hb];exact hv
 ·exact h b (J5E hb)
theorem Q0g{P:PL}{fr:List Nat}(ok:P.Ok fr):P.a.mem.length<=1073741824:=by
 rw[ok.mem];exact J3i (J4p (by omega) (by have:=ok.d.is.top;omega:P.d.top+10<=30)) (by decide)
theorem Z5d{w:World}{P:PL}{fr:List Nat}(h:Sep w P.hl)(ok:P.Ok fr)(f:Int){e:En Fa}(hf:find P.q.E f=some e)(n:Nat)(hq:((Q0e n:Nat):Int)<=e.q.limit-(e.q.charged+e.q.given))(c:CA)(hc:P.Cls n c) :
  Calls prog 68 #[ptr P.q.t,.int .i64 f,.int .i64 ((Q0e n:Nat):Int)] w.drew fun r w1=>r=.returned (.int .i64 0)/\w1.cell? ⟨P.p,0,none⟩=some (ptr P.q.t)/\w1.cell? ⟨P.p,3+n,none⟩=some (ptr c.c) /\
   Calls prog 69 #[ptr c.c] w1 fun r w2 =>
    (∃a:Nat,r=.returned (.tuple #[.int .i64 a,.int .i64 0])/\Env w2/\w2.cell? ⟨P.p,2,none⟩=some (ptr P.a.a) /\
     Calls prog 71 #[ptr P.a.a,.int .i64 a,.int .i64 ((Q0e n:Nat):Int),.int .u8 0] w2.drew fun r w3=>r=.returned (.int .i64 0)/\w3.cell? ⟨P.p,2,none⟩=some (ptr P.a.a)/\GetR P fr f n w (.returned (.tuple #[.int .i64 a,.int .i64 0])) w3)
    ∨ (r=.returned (.tuple #[.int .i64 0,.int .i64 4])/\Env w2/\w2.cell? ⟨P.p,0,none⟩=some (ptr P.q.t) /\
     Calls prog 70 #[ptr P.q.t,.int .i64 f,.int .i64 ((Q0e n:Nat):Int)] w2.drew fun r w3=>r=.returned (.int .i64 0)/\w3.cell? ⟨P.p,0,none⟩=some (ptr P.q.t)/\GetR P fr f n w (.returned (.tuple #[.int .i64 0,.int .i64 4])) w3):=by
 obtain⟨k1,k2,k3,k4⟩:=PL.Cls.facts ok hc;obtain⟨f1,f2,f3,f4,f5,f6,f7,f8⟩:=ok.q.fa f e hf;have E5:0<Q0e n:=costN_pos.2 ⟨hc.1,k4⟩;have Em:(0:Int)<=((Q0e n:Nat):Int):=by omega
 refine(Q6V (PL.sQ h.drew) ok.q hf _ Em hq).mono ?_;rintro r w1⟨rfl,st1⟩;have s1:Step P.hl (P.setQ {P.q with E:=upd P.q.E f {e.q with charged:=e.q.charged+((Q0e n:Nat):Int)}}).hl w w1:=(PL.stepQ h.drew {P.q with E:=upd P.q.E f {e.q with charged:=e.q.charged+((Q0e n:Nat):Int)}} rfl st1).from_drew;have ok1:=PL.ok_setQ ok (Q2T ok.q hf {e.q with charged:=e.q.charged+((Q0e n:Nat):Int)} ⟨by show 0<=e.q.charged+_;omega,f2,by show e.q.charged+_+e.q.given<=e.q.limit;omega,rfl,rfl⟩);have Fs:find (upd P.q.E f {e.q with charged:=e.q.charged+((Q0e n:Nat):Int)}) f=some {e with q:={e.q with charged:=e.q.charged+((Q0e n:Nat):Int)}}:=Q0n hf _
 have Ai:=ok.q.ids;obtain⟨q1,D9⟩:∃q1:QT,q1={P.q with E:=upd P.q.E f {e.q with charged:=e.q.charged+((Q0e n:Nat):Int)}}:=⟨_,rfl⟩
 rw[<- D9] at s1 ok1;have A7:=PL.cc s1.sep (n-1) c hc.2;rw[show 3+(n-1+1)=3+n by have:=hc.1;omega] at A7;have EV:=PL.c0 s1.sep;have eqt:(P.setQ q1).q.t=P.q.t:=by subst D9;rfl
 rw[eqt] at EV;refine⟨rfl,EV,A7,?_⟩;refine(Z5a (PL.sC s1.sep (n-1) c hc.2) k1 ok1.d k3 (Q5F ok1 hc.2)).mono ?_;rintro r w2 (⟨a,c',d',rfl,ht,st2⟩|⟨Aw,rfl,hb⟩)
 ·left;have s2:Step (P.setQ q1).hl ((P.setQ q1).setC (n-1) c' d').hl w1 w2:=PL.stepC s1.sep (n-1) c c' d' hc.2 ht.ec ht.b st2;have ok2:=PL.ok_take ok1 hc.2 ht;have hu:=Q3k (P.setQ q1) n c c' d' hc n;rw[if_pos rfl] at hu;obtain⟨A,B,u1,u2⟩:=ht.used;have Xj:a∈((P.setQ q1).setC (n-1) c' d').usedOf n:=by rw[hu,u2];simp
  have Bj:=Q0k ok2 Xj;have s12:=s1.trans s2;have Az:=PL.c2 s2.sep;refine⟨a,rfl,s2.sep.env,Az,?_⟩;have Dt:=Q0g ok2;refine(Z4V (PL.sA s2.sep.drew) a (Q0e n) 0 E5 Bj.1 Dt).mono ?_;rintro r w3⟨rfl,st3⟩;have s3:=PL.stepA s2.sep.drew _ st3;have Ab:(put_ P.a.mem a (List.replicate (Q0e n) 0)).length=P.a.mem.length:=Q1t _ _ _ (by rw[J3r];exact Bj.1);have ok3:=PL.ok_setA ok2 (m:=put_ P.a.mem a (List.replicate (Q0e n) 0)) Ab (Q8L ok.bytes 0 (by omega));have QY:=PL.c2 s3.sep;refine⟨rfl,QY,.inl ⟨a,_,rfl,⟨ok3,rfl,eqt,ht.b,rfl,rfl,ht.top,⟨e,hf,hq,D9⟩,rfl,⟨A,B,?_,?_⟩,?_,⟨c,c',hc,rfl,ht⟩⟩,s12.trans s3.from_drew⟩⟩
  ·rw[Q0P hc];exact u1
  ·show((P.setQ q1).setC (n-1) c' d').usedOf n=_;rw[hu];exact u2
  ·intro j hj;have:=Q3k (P.setQ q1) n c c' d' hc j;rw[if_neg hj] at this;exact this
 ·right;have s2:=s1.sep.grown hb;have NX:=PL.c0 s2.sep;rw[eqt] at NX;refine⟨rfl,s2.sep.env,NX,?_⟩;have Lx:=Q3i (PL.sQ s2.sep.drew) ok1.q (id:=f) (e:={e with q:={e.q with charged:=e.q.charged+((Q0e n:Nat):Int)}}) (by subst D9;exact Fs) _ Em (by show _<=e.q.charged+_;omega);rw[eqt] at Lx;refine Lx.mono ?_;rintro r w3⟨rfl,st3⟩;have eback:({(P.setQ q1).q with E:=upd (P.setQ q1).q.E f {(({e with q:={e.q with charged:=e.q.charged+((Q0e n:Nat):Int)}}:En Fa)).q with charged:=e.q.charged+((Q0e n:Nat):Int)-((Q0e n:Nat):Int)}}:QT)=P.q:=by
   subst D9;simp only[PL.setQ,upd_upd,J6I];rw[Z4v Ai hf]
  rw[eback] at st3;have s3:=PL.stepQ s2.sep.drew P.q eqt.symm st3;have eP:(P.setQ q1).setQ P.q=P:=rfl;rw[eP] at s3;exact⟨rfl,PL.c0 s3.sep,.inr ⟨⟨c,hc,Aw⟩,rfl,(s1.trans s2).trans s3.from_drew⟩⟩
theorem Z5e{w:World}{P:PL}{fr:List Nat}(h:Sep w P.hl)(ok:P.Ok fr)(f:Int){e:En Fa}(hf:find P.q.E f=some e)(n:Nat)(hq:((Q0e n:Nat):Int)<=e.q.limit-(e.q.charged+e.q.given))(c:CA)(hc:P.Cls n c) :
  Calls prog 15 #[.pointer (some ⟨P.p,0,none⟩),.int .i64 f,.int .i64 n] w (GetR P fr f n w):=by
 have BY:=Z5d h ok f hf n hq c hc;obtain⟨k1,k2,k3,k4⟩:=PL.Cls.facts ok hc;have E5:0<Q0e n:=costN_pos.2 ⟨hc.1,k4⟩;have LJ:Q1a (n:Int)=Q0e n:=by unfold Q1a;rw[if_pos (by omega),J4g]
 have F5:Hid (∀w1,Env w1->Calls prog 20 #[.int .i64 n] w1 fun r w'=>r=.returned (.int .i64 ((Q0e n:Nat):Int))/\w1=w'):=fun w1 he=>by
  have:=Q2A he (n:Int);rw[LJ] at this;exact this
 have AH:=F5.out w h.env;have DK:=F5.out w.drew h.drew.env;have c0:=PL.c0 h;have d0:=PL.c0 h.drew;have Ac:(((Q0e n:Nat):Int)==0)=false:=by simp;omega
 have Ll:(n:Int)<8:=by omega
 have D8:(1:Int)<=n:=by have:=hc.1;omega
 have HE:Hid (∀w:World,Env w->Env w.drew):=fun w he=>he.same (fun _ _=>rfl) he.gb
 obtain⟨GR,Sy⟩:∃GR:Ending->World->Prop,GR=GetR P fr f n w:=⟨_,rfl⟩
 rw[<- Sy] at BY ⊢;have Ls:=Q0a BY;clear h ok hf hq hc Sy BY LJ k1 k2 k3 k4 E5;unfold ptr at *
 generalize ((Q0e n:Nat):Int)=cst at *
 generalize P.p=pp at *
 generalize P.q.t=qt at *
 generalize P.a.a=aa at *
 generalize c.c=cc at *
 go_enter func15,ntmps15;go_wp2_with (go_at_call 20;refine AH.mono ?_;rintro e w'⟨rfl,rfl⟩)
 go_region_held3 (fun w'=>w'.cell? ⟨pp,0,none⟩=some (.pointer (some ⟨qt,0,none⟩))) (first|exact c0|exact d0|exact e1)
  (first|(go_at_call 20;refine DK.mono ?_;rintro e w'⟨rfl,rfl⟩)|(go_at_call 68;refine Ls.out.mono ?_;rintro r w1⟨rfl,e1,e2,hx⟩;have HT:=Q0a hx;clear hx))
 clear c0 d0 AH DK;go_wp2_with fail;refine HT.out.mono ?_;rintro r w2 (⟨a,rfl,he,e3,hx⟩|⟨rfl,he,e3,hx⟩)
 ·have HX:=Q0a hx;have EU:=F5.out w2.drew (HE.out _ he);have d3:w2.drew.cell? ⟨pp,2,none⟩=some (.pointer (some ⟨aa,0,none⟩)):=e3;clear hx he e1 e2;go_wp2_with fail
  go_region_held3 (fun w'=>w'.cell? ⟨pp,2,none⟩=some (.pointer (some ⟨aa,0,none⟩))) (first|exact e3|exact d3|exact e4)
   (first|(go_at_call 20;refine EU.mono ?_;rintro e w'⟨rfl,rfl⟩)|(go_at_call 71;refine HX.out.mono ?_;rintro r w3⟨rfl,e4,hy⟩;have HY:=Q0a hy;clear hy))
  go_wp2_with fail
  (try go_ret2);exact HY.out
 ·have HX:=Q0a hx;have EU:=F5.out w2.drew (HE.out _ he);have d3:w2.drew.cell? ⟨pp,0,none⟩=some (.pointer (some ⟨qt,0,none⟩)):=e3;clear hx he e1 e2;go_wp2_with fail
  go_region_held3 (fun w'=>w'.cell? ⟨pp,0,none⟩=some (.pointer (some ⟨qt,0,none⟩))) (first|exact e3|exact d3|exact e4)
   (first|(go_at_call 20;refine EU.mono ?_;rintro e w'⟨rfl,rfl⟩)|(go_at_call 70;refine HX.out.mono ?_;rintro r w3⟨rfl,e4,hy⟩;have HY:=Q0a hy;clear hy))
  go_wp2_with fail
  (try go_ret2);exact HY.out
def GetP(P:PL)(fr:List Nat)(f k:Int)(w:World)(r:Ending)(w':World):Prop:=
 (Q1a k=0/\r=.returned (.tuple #[.int .i64 0,.int .i64 1])/\Step P.hl P.hl w w') ∨
 (Q1a k≠0/\find P.q.E f=none/\r=.returned (.tuple #[.int .i64 0,.int .i64 6])/\Step P.hl P.hl w w') ∨
 (Q1a k≠0/\(∃e,find P.q.E f=some e/\e.q.limit-(e.q.charged+e.q.given)<((Q1a k:Nat):Int))/\r=.returned (.tuple #[.int .i64 0,.int .i64 5])/\Step P.hl P.hl w w') ∨
 (∃n e,k=((n:Nat):Int)/\1<=n/\n<=7/\find P.q.E f=some e/\((Q0e n:Nat):Int)<=e.q.limit-(e.q.charged+e.q.given)/\GetR P fr f n w r w')
theorem Q8M{k:Int}(h:Q1a k≠0):∃n:Nat,k=n/\1<=n/\n<=7/\Q1a k=Q0e n:=by
 have h0:0<=k:=by unfold Q1a at h;split at h <;> omega
 obtain⟨n,rfl⟩:=J4F h0;have e:Q1a (n:Int)=Q0e n:=by unfold Q1a;rw[if_pos h0,J4g]
 rw[e] at h;obtain⟨h1,h7⟩:=costN_pos.1 (Nat.pos_of_ne_zero h);exact⟨n,rfl,h1,h7,e⟩
theorem Q5k{w:World}{P:PL}{fr:List Nat}(h:Sep w P.hl)(ok:P.Ok fr)(f k:Int) :
  Calls prog 15 #[.pointer (some ⟨P.p,0,none⟩),.int .i64 f,.int .i64 k] w (GetP P fr f k w):=by
 by_cases hk:Q1a k=0
 ·refine(Z8o h f k hk).mono ?_;rintro r w'⟨rfl,rfl⟩;exact .inl ⟨hk,rfl,Step.refl h⟩
 ·cases hf:find P.q.E f with
  | none =>
   refine(Z1D h f k hk 6 (.inr rfl) ((Q8J (PL.sQ h.drew) hf _).mono fun r w' ⟨e,e'⟩=>⟨e,by rw[<- e'];exact Below.refl _ _⟩)).mono ?_;rintro r w'⟨rfl,hb⟩;exact .inr (.inl ⟨hk,hf,rfl,h.grown hb⟩)
  | some e =>
   by_cases hq:((Q1a k:Nat):Int)<=e.q.limit-(e.q.charged+e.q.given)
   ·obtain⟨n,rfl,h1,h7,hn⟩:=Q8M hk;rw[hn] at hq;obtain⟨c,hc⟩:=PL.cls ok h1 h7;refine(Z5e h ok f hf n hq c hc).mono ?_;intro r w' hr;exact .inr (.inr (.inr ⟨n,e,rfl,h1,h7,hf,hq,hr⟩))
   ·refine(Z1D h f k hk 5 (.inl rfl) (Q4c (PL.sQ h.drew) ok.q hf _ (by omega) (by omega))).mono ?_;rintro r w'⟨rfl,hb⟩;exact .inr (.inr (.inl ⟨hk,⟨e,hf,by omega⟩,rfl,h.grown hb⟩))
theorem Z8p{w:World}(c:CA)(a:Int)(ha:a<0):Calls prog 122 #[.pointer (some ⟨c.c,0,none⟩),.int .i64 a] w (Told w (.bool false)):=by
 have k1:=Z7Q (w:=w) c a ha;unfold Q4A at k1;have HB:Hid (Told w (.bool false) (.returned (.bool false)) w):=⟨rfl,Below.refl _ _⟩
 go_enter func122,ntmps122;go_wp2_with (go_at_call 143;refine k1.mono ?_;rintro e w'⟨rfl,rfl⟩);go_ret;exact HB.out
def Z5f(a:Int):Prop:=a<9223372036854775808
theorem Z8q{w:World}{c:CA}(h:Sep w c.hl)(ok:c.Ok)(a:Int)(ha:Z5f a):Calls prog 122 #[.pointer (some ⟨c.c,0,none⟩),.int .i64 a] w (Told w (.bool (decide (0<=a/\a.toNat∈c.used)))):=by
 unfold Z5f at ha;by_cases h0:a<0
 ·have:decide (0<=a/\a.toNat∈c.used)=false:=by rw[decide_eq_false_iff_not];omega
  rw[this];exact Z8p c a h0
 ·obtain⟨n,rfl⟩:=J4F (by omega:0<=a);have:=J0I h ok n (by omega);rw[Z1p ok n] at this;have e:decide (n∈c.used)=decide (0<=(n:Int)/\(n:Int).toNat∈c.used):=by
   rw[J4g];congr 1;apply propext;exact⟨fun h=>⟨by omega,h⟩,fun h=>h.2⟩
  rw[<- e];exact this
def PL.has(P:PL)(k a:Int):Bool:=decide (0<=a/\a.toNat∈P.usedI k)
theorem Q7S{w:World}{P:PL}{fr:List Nat}(h:Sep w P.hl)(ok:P.Ok fr)(k a:Int)(ha:Z5f a):Calls prog 59 #[.pointer (some ⟨P.p,0,none⟩),.int .i64 k,.int .i64 a] w (Told w (.bool (P.has k a))):=by
 have AH:=Q2A h.env k;by_cases hz:Q1a k=0
 ·have e:P.has k a=false:=by
   unfold PL.has PL.usedI;rw[decide_eq_false_iff_not];rintro⟨_,hm⟩;split at hm
   ·rename_i h0;unfold Q1a at hz;rw[if_pos h0] at hz;rw[Q1K ok hz] at hm;cases hm
   ·cases hm
  rw[e,];have HB:Hid (Told w (.bool false) (.returned (.bool false)) w):=⟨rfl,Below.refl _ _⟩
  rw[hz] at AH;clear h ok hz e;go_enter func59,ntmps59;go_wp2_with (go_at_call 20;refine AH.mono ?_;rintro e w'⟨rfl,rfl⟩);go_ret;exact HB.out
 ·obtain⟨n,rfl,h1,h7,hn⟩:=Q8M hz;obtain⟨c,hc⟩:=PL.cls ok h1 h7;have Ap:=PL.cc h (n-1) c hc.2;rw[show 3+(n-1+1)=3+n by omega] at Ap;have hu:=Z8q (PL.sC h (n-1) c hc.2).left (hc.facts ok).1 a ha;have e:P.has (n:Int) a=decide (0<=a/\a.toNat∈c.used):=by
   unfold PL.has PL.usedI;rw[if_pos (by omega:(0:Int)<=(n:Int)),J4g,Q0P hc]
  rw[e];have E5:(0:Int)<((Q1a (n:Int):Nat):Int):=by omega
  have Ll:(n:Int)<8:=by omega
  have Em:(0:Int)<=n:=by omega
  generalize decide (0<=a/\a.toNat∈c.used)=b at *
  clear h ok hz e hc ha hn;have HQ:Hid (∀r w',Told w (.bool b) r w'->r=.returned (.bool b)/\Told w (.bool b) (.returned (.bool b)) w'):=fun r w' hx=>⟨hx.1,rfl,hx.2⟩
  unfold ptr at *
  generalize ((Q1a (n:Int):Nat):Int)=cst at *
  go_enter func59,ntmps59;go_wp2_with (first|(go_at_call 20;refine AH.mono ?_;rintro e w'⟨rfl,rfl⟩)|(go_at_call 122;refine hu.mono ?_;intro r w' hx;obtain⟨rfl,hy⟩:=HQ.out _ _ hx;have HY:=Q0a hy;clear hx hy))
  (try go_ret);exact HY.out
structure PutOk(P:PL)(fr:List Nat)(f:Int)(n a:Nat)(P':PL):Prop where
 ok:P'.Ok fr
 p:P'.p=P.p
 qt:P'.q.t=P.q.t
 db:P'.d.b=P.d.b
 aa:P'.a=P.a
 top:P'.d.top=P.d.top
 q:∃e,find P.q.E f=some e/\((Q0e n:Nat):Int)<=e.q.charged/\P'.q={P.q with E:=upd P.q.E f {e.q with charged:=e.q.charged-((Q0e n:Nat):Int)}}
 used:∃A B,P.usedOf n=A++a::B/\P'.usedOf n=A++B
 other:∀j,j≠n->P'.usedOf j=P.usedOf j
 which:∃c c',P.Cls n c/\P'.cs=P.cs.set (n-1) c'/\Z5b c P.d a c' P'.d
def PutR(P:PL)(fr:List Nat)(f:Int)(n a:Nat)(w:World)(r:Ending)(w':World):Prop:=r=.returned (.int .i64 0)/\∃P',PutOk P fr f n a P'/\Step P.hl P'.hl w w'
theorem Z5g{w w1:World}{P:PL}{fr:List Nat}(h:Sep w P.hl)(hb:Below w.heap.size w w1)(ok:P.Ok fr)(f:Int){e:En Fa}(hf:find P.q.E f=some e)(n:Nat)(hq:((Q0e n:Nat):Int)<=e.q.charged)(c:CA)(hc:P.Cls n c)(a:Nat)(hm:a∈c.used)(AQ:a<9223372036854775808) :
  Calls prog 70 #[ptr P.q.t,.int .i64 f,.int .i64 ((Q0e n:Nat):Int)] w1.drew fun r w2=>r=.returned (.int .i64 0)/\w2.cell? ⟨P.p,0,none⟩=some (ptr P.q.t)/\w2.cell? ⟨P.p,3+n,none⟩=some (ptr c.c) /\
   Calls prog 77 #[ptr c.c,.int .i64 a] w2 (PutR P fr f n a w):=by
 have s0:=h.grown hb;obtain⟨k1,k2,k3,k4⟩:=PL.Cls.facts ok hc;obtain⟨f1,f2,f3,f4,f5,f6,f7,f8⟩:=ok.q.fa f e hf;have Em:(0:Int)<=((Q0e n:Nat):Int):=by omega
 refine(Q3i (PL.sQ s0.sep.drew) ok.q hf _ Em hq).mono ?_;rintro r w2⟨rfl,st1⟩;have s1:Step P.hl (P.setQ {P.q with E:=upd P.q.E f {e.q with charged:=e.q.charged-((Q0e n:Nat):Int)}}).hl w w2:=s0.trans (PL.stepQ s0.sep.drew {P.q with E:=upd P.q.E f {e.q with charged:=e.q.charged-((Q0e n:Nat):Int)}} rfl st1).from_drew;have ok1:=PL.ok_setQ ok (Q2T ok.q hf {e.q with charged:=e.q.charged-((Q0e n:Nat):Int)} ⟨by show 0<=e.q.charged-_;omega,f2,by show e.q.charged-_+e.q.given<=e.q.limit;omega,rfl,rfl⟩);obtain⟨q1,D9⟩:∃q1:QT,q1={P.q with E:=upd P.q.E f {e.q with charged:=e.q.charged-((Q0e n:Nat):Int)}}:=⟨_,rfl⟩
 rw[<- D9] at s1 ok1;have A7:=PL.cc s1.sep (n-1) c hc.2;rw[show 3+(n-1+1)=3+n by have:=hc.1;omega] at A7;have EV:=PL.c0 s1.sep;have eqt:(P.setQ q1).q.t=P.q.t:=by subst D9;rfl
 rw[eqt] at EV;refine⟨rfl,EV,A7,?_⟩;refine(Z5c (PL.sC s1.sep (n-1) c hc.2) k1 ok1.d k3 (Q5F ok1 hc.2) a hm AQ).mono ?_;rintro r w3⟨rfl,c',d',hg,st2⟩;have s2:Step (P.setQ q1).hl ((P.setQ q1).setC (n-1) c' d').hl w2 w3:=PL.stepC s1.sep (n-1) c c' d' hc.2 hg.ec hg.b st2;have ok2:=PL.ok_give ok1 hc.2 hg;have hu:=Q3k (P.setQ q1) n c c' d' hc n;rw[if_pos rfl] at hu;obtain⟨A,B,u1,u2⟩:=hg.used;refine⟨rfl,_,⟨ok2,rfl,eqt,hg.b,rfl,hg.top,⟨e,hf,hq,D9⟩,⟨A,B,?_,?_⟩,?_,⟨c,c',hc,rfl,hg⟩⟩,s1.trans s2⟩
 ·rw[Q0P hc];exact u1
 ·rw[hu];exact u2
 ·intro j hj;have:=Q3k (P.setQ q1) n c c' d' hc j;rw[if_neg hj] at this;exact this
theorem Q4d{w:World}{P:PL}{fr:List Nat}(h:Sep w P.hl)(ok:P.Ok fr)(f:Int){e:En Fa}(hf:find P.q.E f=some e)(n:Nat)(hq:((Q0e n:Nat):Int)<=e.q.charged)(c:CA)(hc:P.Cls n c)(a:Nat)(hm:a∈c.used)(AQ:a<9223372036854775808) :
  Calls prog 21 #[.pointer (some ⟨P.p,0,none⟩),.int .i64 f,.int .i64 n,.int .i64 a] w (PutR P fr f n a w):=by
 obtain⟨k1,k2,k3,k4⟩:=PL.Cls.facts ok hc;have E5:0<Q0e n:=costN_pos.2 ⟨hc.1,k4⟩;have LJ:Q1a (n:Int)=Q0e n:=by unfold Q1a;rw[if_pos (by omega),J4g]
 have Gd:P.has (n:Int) (a:Int)=true:=by
  unfold PL.has PL.usedI;rw[if_pos (by omega:(0:Int)<=(n:Int)),J4g,J4g,Q0P hc,decide_eq_true_eq];exact⟨by omega,hm⟩
 have AH:=Q2A h.env (n:Int);rw[LJ] at AH;have hh:=Q7S h ok (n:Int) (a:Int) (by unfold Z5f;omega);rw[Gd] at hh;have Ac:(((Q0e n:Nat):Int)==0)=false:=by simp;omega
 have Ll:(n:Int)<8:=by omega
 have D8:(1:Int)<=n:=by have:=hc.1;omega
 obtain⟨PR,O6⟩:∃PR:Ending->World->Prop,PR=PutR P fr f n a w:=⟨_,rfl⟩
 have HQ:Hid (∀r w1,Told w (.bool true) r w1->r=.returned (.bool true)/\w1.cell? ⟨P.p,0,none⟩=some (ptr P.q.t) /\
   (Calls prog 20 #[.int .i64 n] w1.drew fun r w'=>r=.returned (.int .i64 ((Q0e n:Nat):Int))/\w1.drew=w') /\
   Calls prog 70 #[ptr P.q.t,.int .i64 f,.int .i64 ((Q0e n:Nat):Int)] w1.drew fun r w2=>r=.returned (.int .i64 0)/\w2.cell? ⟨P.p,0,none⟩=some (ptr P.q.t)/\w2.cell? ⟨P.p,3+n,none⟩=some (ptr c.c) /\
    Calls prog 77 #[ptr c.c,.int .i64 a] w2 PR):=fun r w1 hx=>by
  subst O6;have A7:=Q2A (h.grown hx.2).sep.drew.env (n:Int);rw[LJ] at A7;exact⟨hx.1,PL.c0 (h.grown hx.2).sep,A7,Z5g h hx.2 ok f hf n hq c hc a hm AQ⟩
 have HZ:Hid (∀r w',PR r w'->∃w'',r=.returned (.int .i64 0)/\w'=w''/\PR (.returned (.int .i64 0)) w''):=fun r w' hx=>by subst O6;obtain⟨rfl,hy⟩:=hx;exact⟨w',rfl,rfl,rfl,hy⟩
 rw[<- O6];clear h ok hf hq hc O6 LJ k1 k2 k3 k4 E5 Gd hm AQ;unfold ptr at *
 generalize ((Q0e n:Nat):Int)=cst at *
 generalize P.p=pp at *
 generalize P.q.t=qt at *
 generalize c.c=cc at *
 go_enter func21,ntmps21;go_wp2_with (go_at_call 20;refine AH.mono ?_;rintro e w'⟨rfl,rfl⟩);refine hh.mono ?_;intro r w1 hx;obtain⟨rfl,c0,B5,Ei⟩:=HQ.out _ _ hx;have DA:=Q0a B5;have Eg:=Q0a Ei;have d0:w1.drew.cell? ⟨pp,0,none⟩=some (.pointer (some ⟨qt,0,none⟩)):=c0;clear hx B5 Ei;go_wp2_with fail
 go_region_held3 (fun w'=>w'.cell? ⟨pp,0,none⟩=some (.pointer (some ⟨qt,0,none⟩))) (first|exact c0|exact d0|exact e1)
  (first|(go_at_call 20;refine DA.out.mono ?_;rintro e w'⟨rfl,rfl⟩)|(go_at_call 70;refine Eg.out.mono ?_;rintro r w2⟨rfl,e1,e2,hx⟩;have HT:=Q0a hx;clear hx))
 clear c0 d0;go_wp2_with fail;refine HT.out.mono ?_;intro r w3 hx;obtain⟨w3',rfl,rfl,hy⟩:=HZ.out _ _ hx;have HY:=Q0a hy;clear hx hy;go_wp2_with fail
 (try go_ret);exact HY.out
theorem Step.fresh{w w':World}{H':HL}(h:Step [] H' w w'):Below w.heap.size w w':=h.below (J3h _) (by simp)
theorem Q7T{c:CA}(ok:c.Ok):c.used.Pairwise (·<·):=by
 unfold CA.used;rw[J3I];have FX:=ok.s0
 constructor
 ·intro x hx;unfold Q1i;rw[J3L];refine(Q4S x.1.bits).imp fun {i j} h=>?_
  unfold addr;have:i*c.size+c.size<=j*c.size:=by
   have:=J5Y c.size h;rw[Nat.succ_mul] at this;exact this
  omega
 ·refine J6J (fun {x y} hx hy h=>?_) ok.sorted;intro a ha b hb;have Gu:a∈c.used:=J3G.2 ⟨x,hx,ha⟩;unfold Q1i at ha hb;obtain⟨i,hi,rfl⟩:=J3n.1 ha;obtain⟨j,hj,rfl⟩:=J3n.1 hb;have CC:i<x.1.bits.length:=by
   have:=mem_trues.1 hi;rcases J5K i x.1.bits.length with e|e
   ·exact e
   ·rw[J4Q e] at this;cases this
  have hp:=Q3Z (s:=c.size) (by omega) CC (ok.many x hx);unfold addr;have HU:x.2<y.2:=h;omega
theorem Q1P{P:PL}{fr:List Nat}(ok:P.Ok fr)(n:Nat):(P.usedOf n).Pairwise (·<·):=by
 unfold PL.usedOf;split
 ·rename_i h1;split
  ·rename_i c hc;exact Q7T (PL.Cls.facts ok ⟨h1,hc⟩).1
  ·exact List.Pairwise.nil
 ·exact List.Pairwise.nil
theorem Z2G{c:CA}(ok:c.Ok):c.used.Pairwise (fun a b=>a+c.size<=b):=by
 unfold CA.used;rw[J3I];have FX:=ok.s0
 constructor
 ·intro x hx;unfold Q1i;rw[J3L];refine(Q4S x.1.bits).imp fun {i j} h=>?_
  unfold addr;have:i*c.size+c.size<=j*c.size:=by
   have:=J5Y c.size h;rw[Nat.succ_mul] at this;exact this
  omega
 ·refine J6J (fun {x y} hx hy h=>?_) ok.sorted;intro a ha b hb;unfold Q1i at ha hb;obtain⟨i,hi,rfl⟩:=J3n.1 ha;obtain⟨j,hj,rfl⟩:=J3n.1 hb;have CC:i<x.1.bits.length:=by
   have:=mem_trues.1 hi;rcases J5K i x.1.bits.length with e|e
   ·exact e
   ·rw[J4Q e] at this;cases this
  have hp:=Q3Z (s:=c.size) (by omega) CC (ok.many x hx);unfold addr at *
  have HU:x.2<y.2:=h;omega
theorem Q8N{R:Nat->Nat->Prop}{l:List Nat}(h:l.Pairwise R){a b:Nat}(ha:a∈l)(hb:b∈l)(Ac:a≠b):R a b∨R b a:=by
 induction l with
 | nil=>cases ha
 | cons x r ih =>
  have hp:=J3H.1 h;rcases J3m.1 ha with ea|Gu
  ·rcases J3m.1 hb with eb|Al
   ·exact absurd (ea.trans eb.symm) Ac
   ·rw[ea];exact .inl (hp.1 b Al)
  ·rcases J3m.1 hb with eb|Al
   ·rw[eb];exact .inr (hp.1 a Gu)
   ·exact ih hp.2 Gu Al
theorem Q2o{P:PL}{k a:Nat}(h:a∈P.usedOf k):∃c,P.Cls k c/\a∈c.used:=by
 unfold PL.usedOf at h;split at h
 ·rename_i h1;split at h
  ·rename_i c hc;exact⟨c,⟨h1,hc⟩,h⟩
  ·cases h
 ·cases h
theorem Q8O{P:PL}{fr:List Nat}(ok:P.Ok fr){j k:Nat}{c d:CA}(LA:j<k)(hc:P.cs[j]?=some c)(hd:P.cs[k]?=some d){x y:BM×Nat}(hx:x∈c.pg)(hy:y∈d.pg):x.2≠y.2:=by
 have AP:P.pages.Nodup:=by
  have h:=(ok.pages.nodup_iff).2 ok.d.nd;exact(J3U.1 h).2.1
 have:(P.cs.flatMap fun c=>c.pg.map Prod.snd).Nodup:=AP;unfold List.Nodup at this;rw[J3I] at this;obtain⟨hj,ej⟩:=J3y.1 hc;obtain⟨hk,ek⟩:=J3y.1 hd;have h2:=J6d.1 this.2 j k hj hk LA;exact h2 x.2 (by rw[ej];exact J3T hx) y.2 (by rw[ek];exact J3T hy)
theorem Q3l{P:PL}{fr:List Nat}(ok:P.Ok fr){j k a b:Nat}(ha:a∈P.usedOf j)(hb:b∈P.usedOf k)(Ac:¬(j=k/\a=b)):a+Q0e j<=b∨b+Q0e k<=a:=by
 obtain⟨c,hc,ha⟩:=Q2o ha;obtain⟨d,hd,hb⟩:=Q2o hb;obtain⟨k1,k2,_,_⟩:=PL.Cls.facts ok hc;obtain⟨l1,l2,_,_⟩:=PL.Cls.facts ok hd;by_cases e:j=k
 ·subst e;obtain rfl:c=d:=by
   have:=hc.2.symm.trans hd.2;exact J3Y this
  have:=Q8N (Z2G k1) ha hb (fun e=>Ac ⟨rfl,e⟩);rw[k2] at this;exact this
 ·obtain⟨x,hx,x1,x2⟩:=Q7O k1 ha;obtain⟨y,hy,y1,y2⟩:=Q7O l1 hb;rw[k2] at x2;rw[l2] at y2;have hp:x.2≠y.2:=by
   have g1:=hc.1;have g2:=hd.1;rcases J5K j k with h|h
   ·exact Q8O ok (by omega:j-1<k-1) hc.2 hd.2 hx hy
   ·exact(Q8O ok (by omega:k-1<j-1) hd.2 hc.2 hy hx).symm
  omega
theorem Q8P{ps:List Nat}{top:Nat}(h:∀k,k<=top->fstG (fre (uOf ps) top) top k 0=none){p:Nat}(hp:p<2 ^ top):p∈ps:=by
 by_cases hu:uOf ps p=true
 ·simpa[uOf] using hu
 ·exfalso;obtain⟨k,hk,hf⟩:=Z4I (uOf ps) top p (by simpa using hu);have Aa:p/2 ^ k<2 ^ (top-k):=by
   rw[J6u (J4q k),<- J4C,show top-k+k=top by omega];exact hp
  have:=Q8A (h k hk) (p/2 ^ k) (J5d _) (by simpa using Aa);rw[J4M,J4O Aa] at this;simp[hf] at this
def Pl.is(p:Pl):Bool:=p.st==1||p.st==2
theorem Pl.is_iff{p:Pl}:p.is=true↔p.st=1∨p.st=2:=by simp[Pl.is]
theorem Pl.not_is{p:Pl}:p.is=false↔p.st≠1/\p.st≠2:=by simp[Pl.is]
def costK(k:Nat):Nat:=if k=8 then 1024 else Q0e k
def atsF(k:Nat)(p:Pl):Option Nat:=if p.is&&p.kind==k then some p.at_ else none
def ownF(p:Pl):Option Int:=if p.is&&p.kind==1 then some (p.own:Int) else none
def Q1Y(l:List Pl)(k:Nat):List Nat:=l.filterMap (atsF k)
def Z5h(l:List Pl):List Int:=l.filterMap ownF
def Q4e(a:Int)(p:Pl):Int:=if p.is&&decide ((p.fac:Int)=a) then(costK p.kind:Int) else 0
def Q0Q(l:List Pl)(a:Int):Int:=(l.map (Q4e a)).sum
def givF(a:Int)(e:En Fa):Int:=if e.q.parent=a then e.q.limit else 0
def kidF(a:Int)(e:En Fa):Int:=if e.q.parent=a then 1 else 0
def Q3G(E:List (En Fa))(a:Int):Int:=(E.map (givF a)).sum
def Q3H(E:List (En Fa))(a:Int):Int:=(E.map (kidF a)).sum
theorem Z1E{α:Type}(f:α->Int){l m:List α}(h:l.Perm m):(l.map f).sum=(m.map f).sum:=by
 induction h with
 | nil=>rfl
 | cons x _ ih=>simp[ih]
 | swap x y l=>simp;omega
 | trans _ _ h1 h2=>exact h1.trans h2
theorem Q7U{α:Type}{l:List α}{i:Nat}{p:α}(q:α)(h:l[i]?=some p):∃R,l.Perm (p::R)/\(l.set i q).Perm (q::R):=by
 have hi:=J3y.1 h;refine⟨l.take i++l.drop (i+1),?_,?_⟩
 ·have e:l=l.take i++p::l.drop (i+1):=by rw[<- hi.2,J3Z,J4a]
  conv=>lhs;rw[e]
  exact J6F
 ·have e:l.set i q=l.take i++q::l.drop (i+1):=by rw[List.set_eq_take_append_cons_drop,if_pos hi.1]
  rw[e];exact J6F
theorem Z0m{β:Type}{l:List Pl}{i:Nat}{p q:Pl}(f:Pl->Option β){b:β}(h:l[i]?=some p)(hp:f p=none)(hq:f q=some b):((l.set i q).filterMap f).Perm (b::l.filterMap f):=by
 obtain⟨R,h1,h2⟩:=Q7U q h;have e1:=h1.filterMap f;have e2:=h2.filterMap f;rw[J6K hp] at e1;rw[J6L hq] at e2;exact e2.trans (e1.symm.cons b)
theorem Q5l{β:Type}{l:List Pl}{i:Nat}{p q:Pl}(f:Pl->Option β)(h:l[i]?=some p)(hpq:f q=f p):((l.set i q).filterMap f).Perm (l.filterMap f):=by
 obtain⟨R,h1,h2⟩:=Q7U q h;have e1:=h1.filterMap f;have e2:=h2.filterMap f;refine e2.trans (List.Perm.trans ?_ e1.symm);rw[J3u,J3u,hpq]
theorem Q5H{l:List Pl}{i:Nat}{p:Pl}(q:Pl)(h:l[i]?=some p)(a:Int):Q0Q (l.set i q) a+Q4e a p=Q0Q l a+Q4e a q:=by
 obtain⟨R,h1,h2⟩:=Q7U q h;have e1:=Z1E (Q4e a) h1;have e2:=Z1E (Q4e a) h2;unfold Q0Q;rw[e1,e2];simp only[J3k,J6M];omega
theorem Z8r(a:Int)(p:Pl):0<=Q4e a p:=by
 unfold Q4e;split <;> omega
theorem Q7b:∀(l:List Pl) (a:Int),0<=Q0Q l a
 | [],_=>by simp[Q0Q]
 | p::r,a=>by
  have:=Q7b r a;have:=Z8r a p;unfold Q0Q at *
  simp only[J3k,J6M];omega
theorem Q2U:∀{l:List Pl} {a:Int},(∀p∈l,p.is=true->(p.fac:Int)≠a)->Q0Q l a=0
 | [],_,_=>rfl
 | p::r,a,h=>by
  have ih:=Q2U (l:=r) (a:=a) fun q hq=>h q (by simp[hq])
  have e:Q4e a p=0:=by
   unfold Q4e;cases hi:p.is with
   | false=>rfl
   | true=>simp[h p (by simp) hi]
  unfold Q0Q at *
  simp[e,ih]
theorem Q5I:∀{E:List (En Fa)} {a:Int},(∀e∈E,e.q.parent≠a)->Q3G E a=0/\Q3H E a=0
 | [],_,_=>⟨rfl,rfl⟩
 | e::r,a,h=>by
  have ih:=Q5I (E:=r) (a:=a) fun x hx=>h x (by simp[hx])
  have:=h e (by simp);unfold Q3G Q3H at *
  simp[givF,kidF,this,ih]
theorem Q4D{E:List (En Fa)}(Ai:E.Pairwise (fun a b=>a.id≠b.id)){id:Int}{e:En Fa}(hf:find E id=some e)(x:Fa)(f:En Fa->Int)(hx:f {e with q:=x}=f e):((upd E id x).map f).sum=(E.map f).sum:=by
 obtain⟨A,B,e1,e2,_⟩:=Q4z Ai hf;rw[e2]
 conv=>rhs;rw[e1]
 simp[hx]
theorem Q2p(E:List (En Fa))(id:Int)(x:Fa):(upd E id x).map En.id=E.map En.id:=by
 unfold upd;rw[J5j]
 apply J5k
 intro e _;show(if e.id=id then _ else _:En Fa).id=e.id;split <;> rfl
theorem Q2d{E:List (En Fa)}{id j:Int}{e:En Fa}(x:Fa)(h:find E j=some e):∃e',find (upd E id x) j=some e':=by
 by_cases hj:j=id
 ·subst hj;exact⟨_,Q0n h x⟩
 ·exact⟨e,by rw[Q0M hj];exact h⟩
theorem Q0I{E:List (En Fa)}{id j:Int}{e' e0:En Fa}(x:Fa)(h0:find E id=some e0)(h:find (upd E id x) j=some e'):∃e,find E j=some e/\(j=id->e=e0/\e'.q=x)/\(j≠id->e'=e):=by
 by_cases hj:j=id
 ·subst hj;rw[Q0n h0] at h;cases h;exact⟨e0,h0,fun _=>⟨rfl,rfl⟩,fun h=>absurd rfl h⟩
 ·rw[Q0M hj] at h;exact⟨e',h,fun h=>absurd h hj,fun _=>rfl⟩
theorem Q5b{E:List (En Fa)}{j:Int}(h:j∈E.map En.id):∃e,find E j=some e:=by
 induction E with
 | nil=>cases h
 | cons x r ih =>
  by_cases hk:j=x.id
  ·exact⟨x,by simp[find,hk]⟩
  ·simp only[J3k,J3m] at h;rcases h with h|h
   ·exact absurd h hk
   ·obtain⟨e,he⟩:=ih h;exact⟨e,by simp only[find,hk,if_false];exact he⟩
theorem Z0n{E:List (En Fa)}(Ai:E.Pairwise (fun a b=>a.id≠b.id)){e:En Fa}(h:e∈E):find E e.id=some e:=by
 induction E with
 | nil=>cases h
 | cons x r ih =>
  obtain⟨h1,h2⟩:=J3H.1 Ai;rcases J3m.1 h with rfl|h
  ·simp[find]
  ·have Ac:¬e.id=x.id:=fun e'=>h1 e h e'.symm
   simp only[find,Ac,if_false];exact ih h2 h
structure MemI(P:PL)(l:List Pl)(fr:List Nat):Prop where
 pool:P.Ok fr
 kind:∀p∈l,p.is=true->p.kind=8∨(1<=p.kind/\p.kind<=5)
 ats:∀k,1<=k->k<=5->(Q1Y l k).Perm (P.usedOf k)
 frs:(Q1Y l 8).Perm (fr.map (1024*·))
 word:∀p∈l,p.is=true->p.kind=1->Q0m P.a.mem p.at_=p.own
structure TreI(E:List (En Fa))(l:List Pl)(xc:Int->Int):Prop where
 ids:(E.map En.id).Perm (Z5h l)
 fac:∀p∈l,p.is=true->∃e,find E p.fac=some e
 par:∀p∈l,p.is=true->p.kind=1->∀e,find E p.own=some e->(p.own=0->e.q.parent = -1)/\(p.own≠0->e.q.parent=p.fac/\p.fac<p.own)
 charged:∀id e,find E id=some e->e.q.charged=Q0Q l id+xc id
 given:∀id e,find E id=some e->e.q.given=Q3G E id/\e.q.kids=Q3H E id
structure QueI(l:List Pl)(xc:Int->Int)(zs:List Nat):Prop where
 root:∃p,l[0]?=some p/\p.kind=1/\p.fac=0/\p.st=1/\p.age=0/\p.own=0
 live:∀i p,l[i]?=some p->i≠0->p.st=1->∃f∈l,f.st=1/\f.kind=1/\f.own=p.fac
 xc:∀id,0<=xc id/\(xc id≠0->∃p∈l,p.st=1/\(p.fac:Int)=id)
 nd:zs.Nodup
 has:∀h,h∈zs↔∃p,pget l 2 h=some p
 ord:zs.Pairwise fun a b=>∀p q,pget l 2 a=some p->pget l 2 b=some q->p.kind=1->q.fac≠p.own
structure Inv(P:PL)(l:List Pl)(fr:List Nat)(xc:Int->Int)(zs:List Nat):Prop where
 len:l.length=256
 st:∀p∈l,p.st<=2/\p.age<=1048575
 mem:MemI P l fr
 tre:TreI P.q.E l xc
 que:QueI l xc zs
theorem Q1l{l:List Pl}{s h:Nat}{p:Pl}(hp:pget l s h=some p):p∈l:=J5p (pget_some.1 hp).1
theorem Q2B{l:List Pl}{i:Nat}{p:Pl}(q:Pl)(hi:l[i]?=some p)(s h:Nat):pget (l.set i q) s h=if h%256=i then(if nm i q=h/\q.st=s then some q else none) else pget l s h:=by
 unfold pget;by_cases e:h%256=i
 ·subst e;simp[(List.getElem?_eq_some_iff.1 hi).1]
 ·rw[if_neg e,J6H (fun h=>e h.symm)]
theorem Q1j{l:List Pl}{i:Nat}{q r:Pl}(h:r∈l.set i q):r=q∨r∈l:=by
 rcases J5J h with h|h
 ·exact .inr h
 ·exact .inl h
theorem Z5i{β:Type}{l:List Pl}(f:Pl->Option β)(hn:(l.filterMap f).Nodup){i j:Nat}{p q:Pl}{b:β}(hi:l[i]?=some p)(hj:l[j]?=some q)(hp:f p=some b)(hq:f q=some b):i=j:=by
 unfold List.Nodup at hn;rw[J3z] at hn;obtain⟨GX,DQ⟩:=J3y.1 hi;obtain⟨T5,IJ⟩:=J3y.1 hj;rcases J6c i j with h|h|h
 ·exact absurd rfl (J6d.1 hn i j GX T5 h b (by rw[DQ];exact hp) b (by rw[IJ];exact hq))
 ·exact h
 ·exact absurd rfl (J6d.1 hn j i T5 GX h b (by rw[IJ];exact hq) b (by rw[DQ];exact hp))
theorem Q8Q{p:Pl}(hi:p.is=true)(hk:p.kind=1):ownF p=some (p.own:Int):=by simp[ownF,hi,hk]
theorem TreI.acc{E:List (En Fa)}{l:List Pl}{xc:Int->Int}(t:TreI E l xc){p:Pl}(hp:p∈l)(hi:p.is=true)(hk:p.kind=1):∃e,find E p.own=some e:=
 Q5b (t.ids.mem_iff.2 (J3w.2 ⟨p,hp,Q8Q hi hk⟩))
theorem MemI.at_nd{P:PL}{l:List Pl}{fr:List Nat}(m:MemI P l fr)(k:Nat)(h1:1<=k)(h5:k<=5):(Q1Y l k).Nodup:=
 (m.ats k h1 h5).nodup_iff.2 ((Q1P m.pool k).imp fun h e=>by subst e;exact absurd h (by omega))
theorem Q1B{p:Pl}(hi:p.is=true):atsF p.kind p=some p.at_:=by simp[atsF,hi]
theorem MemI.used{P:PL}{l:List Pl}{fr:List Nat}(m:MemI P l fr){p:Pl}(hp:p∈l)(hi:p.is=true)(h8:p.kind≠8):p.at_∈P.usedOf p.kind:=by
 obtain⟨h1,h5⟩:=(m.kind p hp hi).resolve_left h8;exact(m.ats _ h1 h5).mem_iff.1 (J3w.2 ⟨p,hp,Q1B hi⟩)
theorem MemI.frame{P:PL}{l:List Pl}{fr:List Nat}(m:MemI P l fr){p:Pl}(hp:p∈l)(hi:p.is=true)(h8:p.kind=8):∃g∈fr,p.at_=1024*g:=by
 have:p.at_∈fr.map (1024*·):=m.frs.mem_iff.1 (J3w.2 ⟨p,hp,by rw[<- h8];exact Q1B hi⟩);obtain⟨g,hg,e⟩:=J3n.1 this;exact⟨g,hg,e.symm⟩
structure J1c(P:PL)(fr:List Nat)(k a own:Nat)(P':PL)(fr':List Nat):Prop where
 pool:P'.Ok fr'
 used:k≠8->(P'.usedOf k).Perm (a::P.usedOf k)
 other:∀j,j≠k->P'.usedOf j=P.usedOf j
 frs:if k=8 then ∃g,a=1024*g/\fr'=g::fr else fr'=fr
 mem:∀b∈P.usedOf 1,Q0m P'.a.mem b=Q0m P.a.mem b
 own:k=1->Q0m P'.a.mem a=own
theorem Q4f{p:Pl}(k:Nat)(h:p.is=false):atsF k p=none:=by simp[atsF,h]
theorem Z0o{p:Pl}{k:Nat}(h:p.kind≠k):atsF k p=none:=by simp[atsF,h]
theorem MemI.add{P P':PL}{l:List Pl}{fr fr':List Nat}(m:MemI P l fr){i:Nat}{p q:Pl}(g:J1c P fr q.kind q.at_ q.own P' fr')(hi:l[i]?=some p)(hp:p.is=false)(hq:q.is=true)(hk:q.kind=8∨(1<=q.kind/\q.kind<=5)):MemI P' (l.set i q) fr':=by
 refine⟨g.pool,fun r hr A4=>?_,fun k h1 h5=>?_,?_,fun r hr A4 A5=>?_⟩
 ·rcases Q1j hr with rfl|hr
  ·exact hk
  ·exact m.kind r hr A4
 ·by_cases e:q.kind=k
  ·subst e;have:=Z0m (atsF q.kind) hi (Q4f _ hp) (Q1B hq);exact this.trans (((m.ats _ h1 h5).cons _).trans (g.used (by omega)).symm)
  ·rw[g.other k fun h=>e h.symm];exact(Q5l (atsF k) hi (by rw[Z0o e,Q4f _ hp])).trans (m.ats k h1 h5)
 ·by_cases e:q.kind=8
  ·have hf:=g.frs;rw[if_pos e] at hf;obtain⟨x,hx,rfl⟩:=hf;have:=Z0m (atsF 8) hi (Q4f _ hp) (by rw[<- e];exact Q1B hq);refine this.trans ?_;rw[hx];exact m.frs.cons _
  ·have hf:=g.frs;rw[if_neg e] at hf;rw[hf];exact(Q5l (atsF 8) hi (by rw[Z0o e,Q4f _ hp])).trans m.frs
 ·rcases Q1j hr with rfl|hr
  ·exact g.own A5
  ·rw[g.mem _ (by have:=m.used hr A4 (by omega);rwa [A5] at this)];exact m.word r hr A4 A5
theorem MemI.same{P P':PL}{l:List Pl}{fr:List Nat}(m:MemI P l fr)(h:P'.Ok fr)(hu:∀k,1<=k->k<=5->P'.usedOf k=P.usedOf k)(hw:∀b∈P.usedOf 1,Q0m P'.a.mem b=Q0m P.a.mem b):MemI P' l fr:=by
 refine⟨h,m.kind,fun k h1 h5=>by rw[hu k h1 h5];exact m.ats k h1 h5,m.frs,fun r hr A4 A5=>?_⟩;rw[hw _ (by have:=m.used hr A4 (by omega);rwa [A5] at this)];exact m.word r hr A4 A5
theorem Q7c{p:Pl}(a:Int)(h:p.is=false):Q4e a p=0:=by simp[Q4e,h]
theorem Q7d{p:Pl}(a:Int)(h:p.is=true):Q4e a p=if (p.fac:Int)=a then(costK p.kind:Int) else 0:=by simp[Q4e,h]
theorem TreI.addN{E:List (En Fa)}{l:List Pl}{xc:Int->Int}(t:TreI E l xc)(Ai:E.Pairwise (fun a b=>a.id≠b.id)){i:Nat}{p q:Pl}(hi:l[i]?=some p)(hp:p.is=false)(hq:q.is=true)(hk:q.kind≠1){e:En Fa}(hf:find E q.fac=some e) :
  TreI (upd E q.fac {e.q with charged:=e.q.charged+(costK q.kind:Int)}) (l.set i q) xc:=by
 have ho:ownF q=ownF p:=by simp[ownF,hp,hk]
 have No:∀a,Q3G (upd E q.fac {e.q with charged:=e.q.charged+(costK q.kind:Int)}) a=Q3G E a:=fun a=>Q4D Ai hf _ _ rfl
 have JK:∀a,Q3H (upd E q.fac {e.q with charged:=e.q.charged+(costK q.kind:Int)}) a=Q3H E a:=fun a=>Q4D Ai hf _ _ rfl
 refine⟨?_,fun r hr A4=>?_,fun r hr A4 A5 x hx=>?_,fun id x hx=>?_,fun id x hx=>?_⟩
 ·rw[Q2p];exact t.ids.trans (Q5l ownF hi ho).symm
 ·rcases Q1j hr with rfl|hr
  ·exact Q2d _ hf
  ·obtain⟨y,hy⟩:=t.fac r hr A4;exact Q2d _ hy
 ·rcases Q1j hr with rfl|hr
  ·exact absurd A5 hk
  ·obtain⟨y,hy,h1,h2⟩:=Q0I _ hf hx;have:=t.par r hr A4 A5 y hy;by_cases hid:(r.own:Int)=q.fac
   ·obtain⟨rfl,e2⟩:=h1 hid;rw[e2];exact this
   ·rw[h2 hid];exact this
 ·obtain⟨y,hy,h1,h2⟩:=Q0I _ hf hx;have hc:=Q5H q hi id;rw[Q7c id hp,Q7d id hq] at hc;have:=t.charged id y hy;by_cases hid:id=q.fac
  ·obtain⟨rfl,e2⟩:=h1 hid;rw[if_pos hid.symm] at hc;rw[e2];show y.q.charged+_=_;omega
  ·rw[if_neg fun h=>hid h.symm] at hc;rw[h2 hid];omega
 ·obtain⟨y,hy,h1,h2⟩:=Q0I _ hf hx;rw[No,JK];have:=t.given id y hy;by_cases hid:id=q.fac
  ·obtain⟨rfl,e2⟩:=h1 hid;rw[e2];exact this
  ·rw[h2 hid];exact this
theorem TreI.addF{E:List (En Fa)}{l:List Pl}{xc:Int->Int}(t:TreI E l xc)(Ai:E.Pairwise (fun a b=>a.id≠b.id)){i b:Nat}{p q:Pl}{limit:Int}(hi:l[i]?=some p)(hp:p.is=false)(hq:q.is=true)(hk:q.kind=1){e:En Fa}(hf:find E q.fac=some e)
  (Aw:find E q.own=none) (Aa:q.fac<q.own) (QD:xc q.own=0) (Ac:∀x∈E,x.q.parent≠q.own) (OC:∀r∈l,r.is=true->r.fac≠q.own) :
  TreI (upd E q.fac {e.q with charged:=e.q.charged+(costK q.kind:Int),given:=e.q.given+limit,kids:=e.q.kids+1}++[⟨q.own,b,⟨limit,0,0,q.fac,0⟩⟩]) (l.set i q) xc:=by
 obtain⟨X,hX⟩:∃X:Fa,X={e.q with charged:=e.q.charged+(costK q.kind:Int),given:=e.q.given+limit,kids:=e.q.kids+1}:=⟨_,rfl⟩
 have QP:X.parent=e.q.parent:=by rw[hX]
 have Va:X.limit=e.q.limit:=by rw[hX]
 have Xd:X.charged=e.q.charged+(costK q.kind:Int):=by rw[hX]
 have Ve:X.given=e.q.given+limit:=by rw[hX]
 have WK:X.kids=e.q.kids+1:=by rw[hX]
 rw[<- hX];clear hX;have No:∀a,Q3G (upd E q.fac X++[⟨q.own,b,⟨limit,0,0,q.fac,0⟩⟩]) a=Q3G E a+if (q.fac:Int)=a then limit else 0:=fun a=>by
  have:((upd E q.fac X).map (givF a)).sum=(E.map (givF a)).sum:=Q4D Ai hf _ _ (by simp[givF,QP,Va]);unfold Q3G;rw[J6E,J6O,this];simp[givF]
 have JK:∀a,Q3H (upd E q.fac X++[⟨q.own,b,⟨limit,0,0,q.fac,0⟩⟩]) a=Q3H E a+if (q.fac:Int)=a then 1 else 0:=fun a=>by
  have:((upd E q.fac X).map (kidF a)).sum=(E.map (kidF a)).sum:=Q4D Ai hf _ _ (by simp[kidF,QP]);unfold Q3H;rw[J6E,J6O,this];simp[kidF]
 have Sq:∀j y,find E j=some y->∃z,find (upd E q.fac X++[⟨q.own,b,⟨limit,0,0,q.fac,0⟩⟩]) j=some z:=fun j y hy=>by
  obtain⟨z,hz⟩:=Q2d (id:=q.fac) X hy;exact⟨z,by rw[Q1O,hz]⟩
 have AJ:∀j z,find (upd E q.fac X++[⟨q.own,b,⟨limit,0,0,q.fac,0⟩⟩]) j=some z->(j=q.own/\z=⟨q.own,b,⟨limit,0,0,q.fac,0⟩⟩)∨(j≠q.own/\∃y,find E j=some y/\(j=q.fac->y=e/\z.q=X)/\(j≠q.fac->z=y)):=fun j z hz=>by
  rw[Q1O] at hz;cases hu:find (upd E q.fac X) j with
  | none =>
   rw[hu] at hz;simp only at hz;split at hz
   ·rename_i h;cases hz;exact .inl ⟨h,rfl⟩
   ·cases hz
  | some y =>
   rw[hu] at hz;cases hz;obtain⟨x,hx,h1,h2⟩:=Q0I X hf hu;refine .inr ⟨?_,x,hx,h1,h2⟩;rintro rfl;rw[Aw] at hx;cases hx
 refine⟨?_,fun r hr A4=>?_,fun r hr A4 A5 x hx=>?_,fun id x hx=>?_,fun id x hx=>?_⟩
 ·rw[J6E,Q2p];have h1:=Z0m ownF hi (by simp[ownF,hp]) (Q8Q hq hk);exact(J6G _ _).trans ((t.ids.cons _).trans h1.symm)
 ·rcases Q1j hr with rfl|hr
  ·exact Sq _ _ hf
  ·obtain⟨y,hy⟩:=t.fac r hr A4;exact Sq _ _ hy
 ·rcases Q1j hr with rfl|hr
  ·rcases AJ _ _ hx with ⟨_,rfl⟩|⟨h,_⟩
   ·exact⟨fun h=>absurd h (by omega),fun _=>⟨rfl,Aa⟩⟩
   ·exact absurd rfl h
  ·rcases AJ _ _ hx with ⟨h,_⟩|⟨_,y,hy,h1,h2⟩
   ·obtain⟨z,hz⟩:=t.acc hr A4 A5;rw[h,Aw] at hz;cases hz
   ·have:=t.par r hr A4 A5 y hy;by_cases hid:(r.own:Int)=q.fac
    ·obtain⟨rfl,e2⟩:=h1 hid;rw[e2,QP];exact this
    ·rw[h2 hid];exact this
 ·have hc:=Q5H q hi id;rw[Q7c id hp,Q7d id hq] at hc;rcases AJ _ _ hx with ⟨rfl,rfl⟩|⟨_,y,hy,h1,h2⟩
  ·rw[if_neg (by omega)] at hc;have:Q0Q l q.own=0:=Q2U fun r hr A4 e=>OC r hr A4 (by omega)
   show(0:Int)=_;rw[QD];omega
  ·have:=t.charged id y hy;by_cases hid:id=q.fac
   ·obtain⟨rfl,e2⟩:=h1 hid;rw[if_pos hid.symm] at hc;rw[e2,Xd];omega
   ·rw[if_neg fun h=>hid h.symm] at hc;rw[h2 hid];omega
 ·rw[No,JK];rcases AJ _ _ hx with ⟨rfl,rfl⟩|⟨_,y,hy,h1,h2⟩
  ·obtain⟨z1,z2⟩:=Q5I Ac;rw[z1,z2,if_neg (by omega),if_neg (by omega)];exact⟨rfl,rfl⟩
  ·have:=t.given id y hy;by_cases hid:id=q.fac
   ·obtain⟨rfl,e2⟩:=h1 hid;rw[if_pos hid.symm,if_pos hid.symm,e2,Ve,WK];omega
   ·rw[if_neg fun h=>hid h.symm,if_neg fun h=>hid h.symm,h2 hid];omega
theorem Z2H{l:List Pl}{i:Nat}{p f:Pl}(q:Pl)(hi:l[i]?=some p)(hf:f∈l):f∈l.set i q∨f=p:=by
 obtain⟨j,hj⟩:=J5Q.1 hf;by_cases e:i=j
 ·subst e;rw[hi] at hj;cases hj;exact .inr rfl
 ·exact .inl (J5p (i:=j) (by rw[J6H e];exact hj))
theorem QueI.add{l:List Pl}{xc:Int->Int}{zs:List Nat}(u:QueI l xc zs){i:Nat}{p q f:Pl}(hi:l[i]?=some p)(hp:p.st=0)(hq:q.st=1)(hf:f∈l)(h1:f.st=1)(h2:f.kind=1)(h3:f.own=q.fac):QueI (l.set i q) xc zs:=by
 obtain⟨r,r1,r2,r3,r4,r5,r6⟩:=u.root;have BH:i≠0:=by rintro rfl;rw[r1] at hi;cases hi;omega
 have hm:∀x∈l,x.st=1->x∈l.set i q:=fun x hx hs=>(Z2H q hi hx).resolve_right fun e=>by subst e;omega
 have hz:∀h,pget (l.set i q) 2 h=pget l 2 h:=fun h=>by
  rw[Q2B q hi];split
  ·rename_i e;rw[if_neg (by omega)]
   symm
   cases hx:pget l 2 h with
   | none=>rfl
   | some x =>
    obtain⟨a,b,c⟩:=pget_some.1 hx;rw[e,hi] at a;cases a;omega
  ·rfl
 refine⟨⟨r,by rw[J6H BH];exact r1,r2,r3,r4,r5,r6⟩,fun j x hx hj hs=>?_,fun id=>⟨(u.xc id).1,fun h=>?_⟩,u.nd,fun h=>by rw[hz];exact u.has h,?_⟩
 ·by_cases e:i=j
  ·subst e;rw[J6P (J3y.1 hi).1] at hx;cases hx;exact⟨f,hm f hf h1,h1,h2,h3⟩
  ·rw[J6H e] at hx;obtain⟨g,g1,g2,g3,g4⟩:=u.live j x hx hj hs;exact⟨g,hm g g1 g2,g2,g3,g4⟩
 ·obtain⟨x,hx,hs,he⟩:=(u.xc id).2 h;exact⟨x,hm x hx hs,hs,he⟩
 ·refine u.ord.imp fun h a b ha hb=>?_
  rw[hz] at ha hb;exact h a b ha hb
end Go.Proofs.YtfidemmgofcnmaaGreatDoor
