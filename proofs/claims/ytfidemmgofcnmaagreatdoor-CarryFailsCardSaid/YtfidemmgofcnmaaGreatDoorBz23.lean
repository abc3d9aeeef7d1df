/- What the laws of spaces share is proved. No condition. Part of a proof. -/
import Derived.Test.YtfidemmgofcnmaaGreatDoorBz22
set_option maxHeartbeats 2000000
set_option linter.unusedVariables false
namespace Go.Proofs.YtfidemmgofcnmaaGreatDoor
open Go.RowKit Go.Proofs.Tryz
structure MkS(S:CO)(per:Nat)(limit ch:Int)(n N:Nat)(l:List Pl):Prop where
 ok:S.Ok [] N 0
 tpi:TPI S fun _=>TB.emp
 ts:S.ts=[]
 now:S.now=0
 per:S.period=per
 top:S.P.d.top=6
 ps:S.P.d.ps.length<=n
 q:∃b,S.P.q.E=[⟨0,b,⟨limit,ch,0,-1,0⟩⟩]
 l:S.l=l
theorem Z6N{a:Nat}{i:Nat}{p:Pl}(h:(newL a)[i]?=some p):¬(p.st=1/\p.kind=2):=by
 rcases Q1Q (J5p h) with rfl|rfl
 ·simp
 ·simp[noPl]
theorem Z9r{S:CO}{limit:Int}{per:Nat}(f:Z5S S 6 limit per):MkS S per limit 64 1 1 (newL 64):=by
 refine⟨f.ok,TPI.emp f.ok (fun i p hi=>by rw[f.l] at hi;exact Z6N hi) (f.high 7 (by omega)) (f.high 6 (by omega)) (fun id=>by rw[f.xc]),f.ts,f.now,f.period,f.top,by rw[f.ps];simp,f.q,f.l⟩
theorem J1z{S:CO}{per n N:Nat}{limit ch:Int}{l:List Pl}(m:MkS S per limit ch n N l){k i:Nat}(hk:2<=k/\k<=5)(hc:((costK k:Nat):Int)<=limit-ch)(hn:n<64)(B6:l[0]?=some ⟨1,64,0,1,0,0⟩)(hi:Fst l i (noPl 0)){w w':World}{r:Ending}(h:MakeR S [] 0 ((k:Nat):Int) 0 w r w') :
  ∃a x S',r=two i 0/\S'.c=S.c/\MkS S' per limit (ch+((costK k:Nat):Int)) (n+1) (N+1) (l.set i ⟨k,a,0,1,0,x⟩)/\Step S.hl S'.hl w w':=by
 obtain⟨b,hq⟩:=m.q;have Ea:find S.P.q.E 0=some ⟨0,b,⟨limit,ch,0,-1,0⟩⟩:=by rw[hq];rfl
 have CC:i<256:=by
  have:=(J3y.1 hi.1).1;have h2:=m.ok.inv.len;rw[m.l] at h2;omega
 have DE:pget S.l 1 0=some ⟨1,64,0,1,0,0⟩:=by rw[m.l];exact pget_some.2 ⟨B6,rfl,rfl⟩
 obtain⟨a,x,P',fr',rfl,hm,st⟩:=h.able (f:=⟨1,64,0,1,0,0⟩) DE (e:=⟨0,b,⟨limit,ch,0,-1,0⟩⟩) (i:=i) (p:=noPl 0) ⟨rfl,.inr ⟨by omega,hk.2⟩,Ea,by show _<=limit-(ch+0);omega,by rw[m.top];have:=m.ps;show _<64;omega,by rw[m.l];exact hi,fun h=>by omega⟩;have Ln:S.l[i]?=some (noPl 0):=by rw[m.l];exact hi.1
 have hf:=hm.fac (by omega);have Cw:fr'=[]:=by
  have h1:=(hm.ok m.ok Ln).inv.mem.frs.length_eq;have e:Q1Y (S.made ⟨1,64,0,1,0,0⟩ k a x i (noPl 0) P').l 8=Q1Y S.l 8:=by
   have hp:=Q5l (l:=S.l) (i:=i) (p:=noPl 0) (q:=⟨k,a,0,1,(noPl 0).age,x⟩) (atsF 8) Ln (by unfold atsF;simp[Pl.is,noPl];omega);have h0:(Q1Y S.l 8).length=0:=by rw[m.ok.inv.mem.frs.length_eq];rfl
   have h2:=hp.length_eq;have e1:Q1Y S.l 8=[]:=J5a.1 h0;show(S.l.set i ⟨k,a,0,1,(noPl 0).age,x⟩).filterMap (atsF 8)=_;rw[e1];refine J5a.1 ?_;rw[h2];exact h0
  rw[e,m.ok.inv.mem.frs.length_eq] at h1;simp at h1;exact J5a.1 h1.symm
 subst Cw;refine⟨a,x,_,by rw[show nm i (noPl 0)=i by unfold nm noPl;simp],?_,⟨hm.ok m.ok Ln,m.tpi.made m.ok hm Ln rfl,m.ts,m.now,m.per,by show P'.d.top=6;rw[hm.same.top,m.top],by show P'.d.ps.length<=_;have:=hm.few;have:=m.ps;omega,⟨b,?_⟩,?_⟩,st⟩
 ·rfl
 ·show P'.q.E=_;rw[hf,hq];rfl
 ·show S.l.set i _=_;rw[m.l];rfl
theorem SP.Ok.entries{Z:SP}{fr:List Nat}{N K:Nat}{M:Int}(ok:Z.Ok fr N K M){i s:Nat}(hi:i<256)(hs:s<256)(h:(Z.tb i).en s≠none):∃x c,x%256=i/\Z.av.en x s=some c:=by
 obtain⟨p,hp⟩:∃p,Z.S.l[i]?=some p:=⟨_,J5s (by rw[ok.core.inv.len];exact hi)⟩
 by_cases hk:p.st=1/\p.kind=2
 ·cases he:(Z.tb i).en s with
  | none=>exact absurd he h
  | some e =>
   refine⟨nm i p,(e.h,e.r),Q6N hi p,Z6q ?_⟩;rw[Q0h (p:=p) (pget_some.2 ⟨by rw[Q6N hi];exact hp,by rw[Q6N hi],hk.1⟩) hk.2 hs,Q6N hi];exact he
 ·exact absurd ((ok.tpi.nil i p hp hk).2 s hs) h
structure MkF(S:CO)(per:Nat)(limit ch:Int)(n N:Nat)(l:List Pl)(fr:List Nat):Prop where
 ok:S.Ok fr N 0
 tpi:TPI S fun _=>TB.emp
 ts:S.ts=[]
 now:S.now=0
 per:S.period=per
 top:S.P.d.top=6
 ps:S.P.d.ps.length<=n
 q:∃b,S.P.q.E=[⟨0,b,⟨limit,ch,0,-1,0⟩⟩]
 l:S.l=l
theorem Z9s{S:CO}{per n N:Nat}{limit ch:Int}{l:List Pl}(m:MkS S per limit ch n N l){i:Nat}(hc:1024<=limit-ch)(hn:n<64)(B6:l[0]?=some ⟨1,64,0,1,0,0⟩)(hi:Fst l i (noPl 0)){w w':World}{r:Ending}(h:MakeR S [] 0 ((8:Nat):Int) 0 w r w') :
  ∃a x S' fr,r=two i 0/\S'.c=S.c/\MkF S' per limit (ch+1024) (n+1) (N+1) (l.set i ⟨8,a,0,1,0,x⟩) fr/\Step S.hl S'.hl w w':=by
 obtain⟨b,hq⟩:=m.q;have Ea:find S.P.q.E 0=some ⟨0,b,⟨limit,ch,0,-1,0⟩⟩:=by rw[hq];rfl
 have DE:pget S.l 1 0=some ⟨1,64,0,1,0,0⟩:=by rw[m.l];exact pget_some.2 ⟨B6,rfl,rfl⟩
 obtain⟨a,x,P',fr',rfl,hm,st⟩:=h.able (f:=⟨1,64,0,1,0,0⟩) DE (e:=⟨0,b,⟨limit,ch,0,-1,0⟩⟩) (i:=i) (p:=noPl 0) ⟨rfl,.inl rfl,Ea,by show(((costK 8:Nat)):Int)<=limit-(ch+0);rw[costK_8];omega,by rw[m.top];have:=m.ps;show _<64;omega,by rw[m.l];exact hi,fun h=>by omega⟩;have Ln:S.l[i]?=some (noPl 0):=by rw[m.l];exact hi.1
 have hf:=hm.fac (by omega);refine⟨a,x,_,fr',by rw[show nm i (noPl 0)=i by unfold nm noPl;simp],?_,⟨hm.ok m.ok Ln,m.tpi.made m.ok hm Ln rfl,m.ts,m.now,m.per,by show P'.d.top=6;rw[hm.same.top,m.top],by show P'.d.ps.length<=_;have:=hm.few;have:=m.ps;omega,⟨b,?_⟩,?_⟩,st⟩
 ·rfl
 ·show P'.q.E=_;rw[hf,hq];rfl
 ·show S.l.set i _=_;rw[m.l];rfl
structure MkY(Z:SP)(per:Nat)(limit:Int)(N:Nat)(M:Int)(l:List Pl)(fr:List Nat):Prop where
 ok:Z.Ok fr N 0 M
 ts:Z.S.ts=[]
 now:Z.S.now=0
 per:Z.S.period=per
 q:∃b ch,Z.S.P.q.E=[⟨0,b,⟨limit,ch,0,-1,0⟩⟩]
 l:Z.S.l=l
theorem J1A{Z:SP}{S:CO}{per n N:Nat}{limit ch:Int}{l:List Pl}{fr:List Nat}(m:MkF S per limit ch n N l fr)(h:Z.New S fun _=>TB.emp):MkY Z per limit N 0 l fr/\Z.av=⟨fun _ _=>none,[]⟩/\Z.F.next=0:=by
 obtain⟨b,hq⟩:=m.q;refine⟨⟨h.ok m.ok m.tpi fun i _=>TB.emp_nil,by rw[h.S];exact m.ts,by rw[h.S];exact m.now,by rw[h.S];exact m.per,⟨b,ch,by rw[h.S];exact hq⟩,by rw[h.S];exact m.l⟩,?_,h.F.next⟩;unfold SP.av avOf;rw[h.tb,h.F.N];congr 1;funext x s;unfold Q0f;split
 ·split
  ·rfl
  ·rfl
 ·rfl
theorem MkY.same{Z Z':SP}{per N:Nat}{limit:Int}{M M':Int}{l:List Pl}{fr:List Nat}(m:MkY Z per limit N M l fr)(ok:Z'.Ok fr N 0 M')(s:SameN Z Z'):MkY Z' per limit N M' l fr:=by
 obtain⟨b,ch,hq⟩:=m.q;refine⟨ok,by rw[s.alt.ts];exact m.ts,by rw[s.alt.now];exact m.now,by rw[s.alt.per];exact m.per,?_,by rw[s.alt.l];exact m.l⟩;obtain⟨e',AD,C5⟩:=s.alt.acc 0 ⟨0,b,⟨limit,ch,0,-1,0⟩⟩ (by rw[hq];rfl);have hid:=s.alt.ids;rw[hq] at hid;have h2:∃e,Z'.S.P.q.E=[e]:=by
  cases hE:Z'.S.P.q.E with
  | nil=>rw[hE] at hid;simp at hid
  | cons e r =>
   rw[hE] at hid;simp at hid;exact⟨e,by rw[hid.2]⟩
 obtain⟨e,hE⟩:=h2;rw[hE] at AD hid;have K8:e.id=0:=by simpa using hid
 have:e=e':=by
  unfold find at AD;rw[if_pos K8.symm] at AD;exact J3Y AD
 subst this;refine⟨e.b,e.q.charged,?_⟩;rw[hE];obtain⟨i,b2,q⟩:=e;simp only at K8 C5 ⊢;subst K8;rw[C5]
theorem MkY.room{Z:SP}{per N:Nat}{limit:Int}{M:Int}{l:List Pl}{fr:List Nat}(m:MkY Z per limit N M l fr)(E Q:List (Nat×Nat))(hE:∀x s c,Z.av.en x s=some c->(x%256,s)∈E)(hQ:∀x s,(x,s)∈E->(x,s/16)∈Q){o:Nat}(ho:(l.filter Pl.is).length<=o)(hp:o+Q.length+E.length+1<64){cs:Int}(AO:Q0Q l 0=cs)
  (hq:cs+256*(Q.length:Int)+48*(E.length:Int)+304<=limit) {i s:Nat} {er:Int}:¬WhyL Z fr 0 i s er:=by
 obtain⟨b,ch,hb⟩:=m.q;have Ea:find Z.S.P.q.E 0=some ⟨0,b,⟨limit,ch,0,-1,0⟩⟩:=by rw[hb];rfl
 have ent:∀i s,i<256->s<256->(Z.tb i).en s≠none->(i,s)∈E:=fun i s hi hs h=>by
  obtain⟨x,c,hx,hc⟩:=m.ok.entries hi hs h;rw[<- hx];exact hE x s c hc
 refine J2B m.ok.core m.ok.tpi Ea (o:=o) (lv:=Q.length) (nd:=E.length) (by rw[m.l];exact ho) (Z6M m.ok.tpi.full Q fun i s hi hs h=>hQ i s (ent i s hi hs h)) (Z6L E ent) hp ?_;rw[m.l,AO];show _<=limit-0;omega
def J2C(o:Option (Nat×Nat)):Value:=match o with
 | none=>.tuple #[.agg #[.int .u32 0,.int .i64 0],.int .i64 6]
 | some c=>.tuple #[.agg #[.int .u32 (c.1:Int),.int .i64 (c.2:Int)],.int .i64 0]
section
variable {Z:SP} {fr:List Nat} {N K:Nat} {M:Int} {w w':World}
theorem RootR.fine{x h:Nat}{z r er:Int}(R:RootR Z fr N K M x z h r w er w'){p q:Pl}(hp:pget Z.S.l 1 x=some p)(hk:p.kind=2)(hz:0<=z/\z<256)(hq:pget Z.S.l 1 h=some q)(hr:0<r/\r<=15)(hm:q.kind=8↔128<=z)(h0:Z.av.en x z.toNat=none)(hw:∀er,¬WhyL Z fr p.fac (x%256) z.toNat er) :
  er=0/\J1x Z fr N K M x z.toNat h r.toNat 0 w w':=by
 have D1:=av_none.1 h0;rcases R with ⟨_,he,_⟩|⟨s,rn,p',q',rfl,rfl,hs,_,_,AG,_,_,_,_,hc⟩
 ·exfalso;rcases he with ⟨h1,_⟩|⟨p',h1,he⟩
  ·rw[hp] at h1;cases h1
  ·rw[hp] at h1;cases h1;rcases he with ⟨h2,_⟩|⟨_,he⟩
   ·exact h2 hk
   ·rcases he with ⟨h3,_⟩|⟨_,he⟩
    ·exact h3 hz
    ·rcases he with ⟨h4,_⟩|⟨q',h4,he⟩
     ·rw[hq] at h4;cases h4
     ·rw[hq] at h4;cases h4;rcases he with ⟨h5,_⟩|⟨_,h5,_⟩
      ·exact h5 ⟨hr,hm⟩
      ·exact h5 D1
 ·rw[hp] at AG;cases AG;rw[J4g,J4g] at *
  rcases hc with ⟨h1,h2⟩|⟨_,h2,_⟩
  ·exact⟨h1,h2⟩
  ·exact absurd h2 (hw er)
theorem MoveR.fine{x y n:Nat}{A:Nat->Mv}{er:Int}(R:MoveR Z fr N K M x y n A w er w'){p1 p2:Pl}(A3:pget Z.S.l 1 x=some p1)(A5:p1.kind=2)(Az:pget Z.S.l 1 y=some p2)(Ax:p2.kind=2)(Af:AllFit Z.av.en x y n A)(hw:∀er,¬WhyM Z fr N K x y n p2.fac A er) :
  er=0/\Q9E Z fr N K M x y n A w w':=by
 rcases R with ⟨Ac,he,_⟩|⟨q1,q2,h1,_,h2,_,_,hc⟩
 ·exfalso;rcases he with ⟨h1,_⟩|⟨q1,h1,he⟩
  ·rw[A3] at h1;cases h1
  ·rw[A3] at h1;cases h1;rcases he with ⟨h2,_⟩|⟨_,he⟩
   ·exact h2 A5
   ·rcases he with ⟨h3,_⟩|⟨q2,h3,he⟩
    ·rw[Az] at h3;cases h3
    ·rw[Az] at h3;cases h3;rcases he with ⟨h4,_⟩|⟨_,i,hi,_,hv⟩
     ·exact h4 Ax
     ·have:=(Z2b (N:=Z.F.N) (tb:=Z.tb) A3 A5 Az Ax (m:=A i) (cl:=Q1f A i (A i))).2 (Af i hi);unfold fitV at hv;rw[this] at hv;exact Ac hv.symm
 ·rw[A3] at h1;cases h1;rw[Az] at h2;cases h2;rcases hc with ⟨h1,h2⟩|⟨_,h2,_⟩
  ·exact⟨h1,h2⟩
  ·exact absurd h2 (hw er)
theorem Z2c{x:Nat}{z:Int}{p:Pl}(hp:pget Z.S.l 1 x=some p)(hk:p.kind=2)(hz:0<=z/\z<256):Q5c Z.S.l Z.tb x z=J2C (Z.av.en x z.toNat):=by
 unfold Q5c;rw[hp];simp only;rw[if_pos hk,if_pos hz];show _=J2C ((Q0f Z.S.l Z.tb x z.toNat).map Ent.c);cases Q0f Z.S.l Z.tb x z.toNat <;> rfl
end
theorem J1B{l:List Pl}{i:Nat}{p:Pl}(h:l[i]?=some p)(hp:p.st=0)(ha:∀j,j<i->∃q,l[j]?=some q/\q.st≠0):Fst l i p:=⟨h,hp,fun j q hj hq=>by
 obtain⟨q',e1,e2⟩:=ha j hj;rw[hq] at e1;cases e1;exact e2⟩
def lt1(k a x:Nat):List Pl:=(newL 64).set 1 ⟨k,a,0,1,0,x⟩
theorem Z6O{w:World}{a:AN}(h:Sep w a.hl)(at_:Nat)(hl:at_<=a.mem.length)(hm:a.mem.length<=1073741824) :
  Calls prog 113 #[.pointer (some ⟨a.a,0,none⟩),.int .i64 at_,.int .i64 0] w fun r w'=>∃ad:Addr,r=.returned (.tuple #[.slice (some ad) 0 (a.mem.length-at_),.int .i64 0])/\w=w':=by
 have c0:=AN.c0 h;clear h;generalize a.mem.length=l at *
 have h1:¬((at_:Int)>l):=by omega
 have h2:decide ((l:Int)<at_)=false:=by simp;omega
 have h3:decide ((l:Int)-at_<0)=false:=by simp;omega
 by_cases hE:at_=l
 ·subst hE;go_enter func113,ntmps113;go_wp2_with fail;go_ret2;exact⟨⟨_,rfl⟩,rfl⟩
 ·have Aa:at_<l:=by omega
  go_enter func113,ntmps113;go_wp2_with fail;go_ret2;exact⟨⟨_,rfl⟩,rfl⟩
def Q1p(l:Nat)(at_:Int)(n:Nat):Int:=if at_<0∨at_+8*n>l then 2 else if at_%8=0 then 0 else 3
theorem Z6P{w:World}{a:AN}(h:Sep w a.hl)(at_:Int)(n:Nat)(hn:n<=1048576)(hm:a.mem.length<=1073741824) :
  Calls prog 121 #[.pointer (some ⟨a.a,0,none⟩),.int .i64 at_,.int .i64 n] w fun r w'=>w=w'/\if Q1p a.mem.length at_ n=0 then ∃(ad:Addr) (c:Nat),r=.returned (.tuple #[.slice (some ad) (8*n) c,.int .i64 0])/\(0<n->ad=⟨a.mb,at_.toNat,none⟩) else r=.returned (.tuple #[.slice none 0 0,.int .i64 (Q1p a.mem.length at_ n)]):=by
 have hw:IntKind.i64.wrap ((n:Int)*8)=n*8:=by rw[IntKind.wrap_i64];omega
 have h9:((n:Int)*8)=((n*8:Nat):Int):=by omega
 by_cases hb:at_<0∨at_+8*n>a.mem.length
 ·have k1:=Z8l h at_ (n*8:Nat) (by omega) hm;have hE:Q1p a.mem.length at_ n=2:=by unfold Q1p;rw[if_pos hb]
  simp only[hE,(by decide:¬(2:Int)=0),if_false];have h3:((2:Int) != 0)=true:=by simp
  rw[<- h9] at k1;clear h hb hE h9;go_enter func121,ntmps121;go_wp2_with (go_at_call 113;refine k1.mono ?_;rintro e w'⟨rfl,rfl⟩);go_ret2;exact⟨rfl,rfl⟩
 ·obtain⟨k,rfl⟩:=J4F (a:=at_) (by omega);have k1:Calls prog 113 #[.pointer (some ⟨a.a,0,none⟩),.int .i64 k,.int .i64 (n*8:Nat)] w fun r w'=>(∃(ad:Addr) (c:Nat),r=.returned (.tuple #[.slice (some ad) (n*8) c,.int .i64 0])/\(0<n->ad=⟨a.mb,k,none⟩))/\w=w':=by
   by_cases h0:n=0
   ·subst h0;refine(Z6O h k (by omega) hm).mono ?_;rintro r w'⟨ad,rfl,rfl⟩;exact⟨⟨ad,_,rfl,by omega⟩,rfl⟩
   ·refine(Q5A h k (n*8) (by omega) (by omega) hm).mono ?_;rintro r w'⟨rfl,rfl⟩;exact⟨⟨_,_,rfl,fun _=>rfl⟩,rfl⟩
  rw[<- h9] at k1;clear h9;have h3:((0:Int) != 0)=false:=by simp
  by_cases h8:(k:Int)%8=0
  ·have hE:Q1p a.mem.length k n=0:=by unfold Q1p;rw[if_neg hb,if_pos h8]
   simp only[hE,if_true];have h2:((k:Int)%8 != 0)=false:=by simp;omega
   clear h hb hE;go_enter func121,ntmps121;go_wp2_with (go_at_call 113;refine k1.mono ?_;rintro e w'⟨⟨ad,c,rfl,JI⟩,rfl⟩);go_ret2;exact⟨rfl,ad,c,by rw[J6b 8 n];rfl,JI⟩
  ·have hE:Q1p a.mem.length k n=3:=by unfold Q1p;rw[if_neg hb,if_neg h8]
   simp only[hE,(by decide:¬(3:Int)=0),if_false];have h2:((k:Int)%8 != 0)=true:=by simp;omega
   clear h hb hE;go_enter func121,ntmps121;go_wp2_with (go_at_call 113;refine k1.mono ?_;rintro e w'⟨⟨ad,c,rfl,JI⟩,rfl⟩);go_ret2;exact⟨rfl,rfl⟩
theorem Z3I(l:Nat)(at_:Int)(n:Nat):Q1p l at_ n=0/\0<=at_/\at_+8*n<=l/\at_%8=0∨Q1p l at_ n=2∨Q1p l at_ n=3:=by
 unfold Q1p;split
 ·exact .inr (.inl rfl)
 ·split
  ·exact .inl ⟨rfl,by omega,by omega,by assumption⟩
  ·exact .inr (.inr rfl)
theorem b8len(x:Nat):(Q0c x).length=8:=rfl
theorem Q3e(ws:List Nat):(ws.flatMap Q0c).length=8*ws.length:=by
 induction ws with
 | nil=>rfl
 | cons x r ih=>rw[J3E,J3N,ih,b8len,J3O];omega
theorem flat8_get(ws:List Nat)(k:Nat):(ws.flatMap Q0c)[k]?=(ws[k/8]?).bind fun x=>(Q0c x)[k%8]?:=by
 induction ws generalizing k with
 | nil=>simp
 | cons x r ih =>
  rw[J3E];by_cases h:k<8
  ·rw[J6p (by rw[b8len];exact h),show k/8=0 by omega,show k%8=k by omega];rfl
  ·rw[J6q (by rw[b8len];omega),ih,b8len,show(k-8)/8=k/8-1 by omega,show(k-8)%8=k%8 by omega];obtain⟨m,hm⟩:∃m,k/8=m+1:=⟨k/8-1,by omega⟩
   rw[hm];rfl
theorem Z3J{ws:List Nat}{k x:Nat}(h:ws[k/8]?=some x):(ws.flatMap Q0c)[k]?.getD 0=x/2 ^ (8*(k%8))%256:=by
 rw[flat8_get,h];exact Q3j x (k%8) (by omega)
theorem Z6Q{w:World}{a:AN}(h:Sep w a.hl)(at_:Int)(ws:List Nat)(hn:ws.length<=1048576)(hm:a.mem.length<=1073741824)(hx:∀x∈ws,x<18446744073709551616)(so:Option Addr)(cap:Nat)(hs:∀wr,Chg (fun b=>b∈keys a.hl) w wr->∀(j x:Nat),ws[j]?=some x->∃ad,so=some ad/\wr.cell? (ad.add j)=some (.int .u64 x)) :
  Calls prog 57 #[.pointer (some ⟨a.a,0,none⟩),.int .i64 at_,.slice so ws.length cap] w fun r w'=>r=.returned (.int .i64 (Q1p a.mem.length at_ ws.length))/\Step a.hl ({a with mem:=if Q1p a.mem.length at_ ws.length=0 then put_ a.mem at_.toNat (ws.flatMap Q0c) else a.mem}:AN).hl w w':=by
 have k1:=Z6P h at_ ws.length hn hm;rcases Z3I a.mem.length at_ ws.length with ⟨hE,h0,hl,h8⟩|hE
 ·simp only[hE,if_true] at k1 ⊢;obtain⟨p,rfl⟩:=J4F h0;simp only[J4g] at k1 ⊢;have FC:=Q3e ws;have IG:Hid (Step a.hl ({a with mem:=put_ a.mem p ((ws.flatMap Q0c).take 0)}:AN).hl w w):=by
   show Step _ _ _ _;rw[J6C,Q7P];exact Step.refl h
  have HN:Hid (∀k wr,k<8*ws.length->Step a.hl ({a with mem:=put_ a.mem p ((ws.flatMap Q0c).take k)}:AN).hl w wr->∃(ad:Addr) (x:Nat),so=some ad/\x<18446744073709551616/\(∃old,wr.cell? ⟨a.mb,p+k,none⟩=some old)/\wr.frozen? ⟨a.mb,p+k,none⟩=false/\wr.cell? (ad.add (k/8))=some (.int .u64 x)/\(ws.flatMap Q0c)[k]?.getD 0=x/2 ^ (8*(k%8))%256/\Step a.hl ({a with mem:=put_ a.mem p ((ws.flatMap Q0c).take (k+1))}:AN).hl w (wr.setCell ⟨a.mb,p+k,none⟩ (.int .u8 ((ws.flatMap Q0c)[k]?.getD 0:Nat)))):=by
   intro k wr hk st;have hj:k/8<ws.length:=by omega
   obtain⟨ad,ea,hc⟩:=hs wr st.chg (k/8) ws[k/8] (J5s hj);refine⟨ad,ws[k/8],ea,hx _ (J6z hj),⟨_,AN.bcell st.sep (p+k) (by show p+k<(put_ _ _ _).length;rw[Q1t _ _ _ (by simp[FC];omega)];omega)⟩,AN.bfree st.sep (p+k),hc,Z3J (J5s hj),?_⟩;have h1:=AN.setB st.sep (p+k) ((ws.flatMap Q0c)[k]?.getD 0);have h2:=Q5j a.mem p (ws.flatMap Q0c) k (by omega) (by omega);have:=st.trans h1
   simpa[h2] using this
  have AX:Hid ((ws.flatMap Q0c).take (8*ws.length)=ws.flatMap Q0c):=J4Z (by omega);clear h hs hx h0 hl h8 hE FC;generalize ws.flatMap Q0c=bs at *
  generalize ws.length=n at *
  generalize a.hl=H at *
  have HK:=Q0a k1;clear k1;generalize a.mem.length=l at *
  go_enter func57,ntmps57;go_wp2_with fail;refine HK.out.mono ?_;rintro e w'⟨rfl,ad1,c,rfl,JI⟩;go_wp2_with fail
  go_loopw [20] (fun iv wr=>∃k:Nat,k<=8*n/\iv=.int .i64 k/\Step H ({a with mem:=put_ a.mem p (bs.take k)}:AN).hl w wr) (fun iv _=>8*n-(intOf iv).toNat)
  case atStart=>exact⟨0,by omega,rfl,IG.out⟩
  case round =>
   obtain⟨k,hk,rfl,Ao⟩:=hrel;by_cases Aa:k<8*n
   ·obtain⟨ad,x,rfl,hx,⟨old,LR⟩,hf,Sx,hv,AC⟩:=HN.out k wr Aa Ao;clear Ao;obtain rfl:=JI (by omega);have BE:(k:Int)/8=((k/8:Nat):Int):=by omega
    have A5:(k:Int)%8=((k%8:Nat):Int):=by omega
    have QW:IntKind.u8.wrap ((x:Int)/2 ^ (8*(k%8)))=((bs[k]?.getD 0:Nat):Int):=by
     rw[hv,IntKind.wrap_u8,show((x:Int)/2 ^ (8*(k%8)))=((x/2 ^ (8*(k%8)):Nat):Int) from by rw[J4V,J4W];rfl];omega
    have hq:k/8<n:=by omega
    have Gm:k%8<8:=by omega
    clear hv;generalize bs[k]?.getD 0=v at *
    generalize k/8=q at *
    generalize k%8=r8 at *
    go_wp2_with fail;go_roundw
    case rel=>exact⟨k+1,by omega,by go_num,AC⟩
    case measure=>simp[intOf];omega
   ·obtain rfl:k=8*n:=by omega
    go_wp2_with fail;go_ret;exact⟨rfl,by have:=Ao;rw[AX.out] at this;exact this⟩
 ·have IG:Hid (Step a.hl a.hl w w):=Step.refl h;have Ac:¬Q1p a.mem.length at_ ws.length=0:=by omega
  simp only[Ac,if_false] at k1 ⊢;have hb:((Q1p a.mem.length at_ ws.length==0)=false):=by simpa using Ac
  generalize Q1p a.mem.length at_ ws.length=E at *
  clear h hs hx;generalize ws.length=n at *
  go_enter func57,ntmps57;go_wp2_with fail;refine k1.mono ?_;rintro e w'⟨rfl,rfl⟩;go_wp2_with fail
  go_loopw [20] (fun iv wr=>iv=.int .i64 0/\wr=w) (fun _ _=>0)
  case atStart=>exact⟨rfl,rfl⟩
  case round =>
   obtain⟨rfl,rfl⟩:=hrel;go_wp2_with fail;go_ret;exact⟨rfl,IG.out⟩
theorem Q4s(m:List Nat)(p:Nat)(ws:List Nat)(hl:p+8*ws.length<=m.length)(hx:∀x∈ws,x<18446744073709551616)(q:Nat)(_hq:q+8<=m.length)(h8:p%8=0)(k8:q%8=0) :
  Q0m (put_ m p (ws.flatMap Q0c)) q=if p<=q/\q<p+8*ws.length then ws[(q-p)/8]?.getD 0 else Q0m m q:=by
 have hf:=Q3e ws;unfold Q0m;have hg:=Q4B m p (ws.flatMap Q0c) (by omega);rw[hf] at hg;by_cases h:p<=q/\q<p+8*ws.length
 ·rw[if_pos h];have hj:(q-p)/8<ws.length:=by omega
  rw[J5s hj];show _=ws[(q-p)/8];rw[<- Q2n ws[(q-p)/8] (hx _ (J6z hj))];congr 1
  apply J4J
  intro i;rw[J5e];by_cases hi:i<8
  ·rw[if_pos hi,J5D,hg,if_neg (by omega),if_pos (by omega),flat8_get,show(q+i-p)/8=(q-p)/8 by omega,show(q+i-p)%8=i by omega,J5s hj];rfl
  ·rw[if_neg hi,J4Q (by rw[b8len];omega)]
 ·rw[if_neg h];congr 1
  apply J4J
  intro i;rw[J5e,J5e];by_cases hi:i<8
  ·rw[if_pos hi,if_pos hi,J5D,J5D,hg];by_cases h1:q+i<p
   ·rw[if_pos h1]
   ·rw[if_neg h1,if_neg (by omega)]
  ·rw[if_neg hi,if_neg hi]
theorem Z9t(m bs:List Nat)(p:Nat)(hm:∀b∈m,b<256)(hb:∀b∈bs,b<256):∀b∈put_ m p bs,b<256:=by
 intro b h;unfold put_ at h;rcases J3Q.1 h with h|h
 ·rcases J3Q.1 h with h|h
  ·exact hm b (J6y h)
  ·exact hb b h
 ·exact hm b (J5E h)
theorem Z9u(ws:List Nat):∀b∈ws.flatMap Q0c,b<256:=by
 intro b h;obtain⟨x,_,hx⟩:=J3G.1 h;unfold Q0c at hx;simp only[J3m,J3D,or_false] at hx;omega
end Go.Proofs.YtfidemmgofcnmaaGreatDoor
namespace Go.Proofs.YtfidemmgofcnmaaGreatDoor
open Go.ChangeShapes Go.WideShapes Go.ChangeAt Go.RowKit Go.Deep Go.Proofs.Tryz
end Go.Proofs.YtfidemmgofcnmaaGreatDoor
namespace Go.Proofs.YtfidemmgofcnmaaGreatDoor
open Go.RowKit Go.Proofs.Tryz
def Q0v(b o:Int):Bool:=decide (0<=b/\b<256/\0<=o/\o<=7/\b.toNat%2 ^ o.toNat=0)
theorem J1C(n k:Nat)(hn:n<256)(hk:k<=7):bits .and .i64 (n:Int) (((2 ^ k-1:Nat):Int))=((n%2 ^ k:Nat):Int):=by
 have hp:2 ^ k-1<2 ^ 63:=by
  have:2 ^ k<=2 ^ 7:=J4p (by omega) hk;omega
 rw[Z2r n (2 ^ k-1) (by omega) hp,J4G]
theorem Q3Q(w:World)(b o:Int):Calls prog 170 #[.int .i64 b,.int .i64 o] w fun r w'=>r=.returned (.bool (Q0v b o))/\w=w':=by
 unfold Q0v;by_cases h1:0<=b
 ·by_cases h2:b<256
  ·by_cases h3:0<=o
   ·by_cases h4:o<=7
    ·obtain⟨n,rfl⟩:=J4F h1;obtain⟨k,rfl⟩:=J4F h3;have hb:=J1C n k (by omega) (by omega);rw[show(decide (0<=(n:Int)/\(n:Int)<256/\0<=(k:Int)/\(k:Int)<=7/\(n:Int).toNat%2 ^ (k:Int).toNat=0))=(((n%2 ^ k:Nat):Int)==0) by
      rw[J4g,J4g];by_cases h:n%2 ^ k=0
      ·rw[h];simp;omega
      ·rw[decide_eq_false (by rintro⟨_,_,_,_,e⟩;exact h e)];exact(beq_false_of_ne (by omega)).symm]
     rw[<- hb];clear hb;have hk:k=0∨k=1∨k=2∨k=3∨k=4∨k=5∨k=6∨k=7:=by omega
     clear h3 h4;go_enter func170,ntmps170;rcases hk with rfl|rfl|rfl|rfl|rfl|rfl|rfl|rfl <;> (go_wp2_with fail;go_ret;exact⟨rfl,rfl⟩)
    ·rw[decide_eq_false (by omega)];go_enter func170,ntmps170;go_wp2_with fail;go_ret;exact⟨rfl,rfl⟩
   ·rw[decide_eq_false (by omega)];go_enter func170,ntmps170;go_wp2_with fail;go_ret;exact⟨rfl,rfl⟩
  ·rw[decide_eq_false (by omega)];go_enter func170,ntmps170;go_wp2_with fail;go_ret;exact⟨rfl,rfl⟩
 ·rw[decide_eq_false (by omega)];go_enter func170,ntmps170;go_wp2_with fail;go_ret;exact⟨rfl,rfl⟩
theorem Z0Q(w:World)(v:Wi):Calls prog 95 #[.agg #[.int .i64 v.base,.int .i64 v.order]] w (Told w (.bool (Q0v v.base v.order))):=by
 obtain⟨b,o⟩:=v;dsimp only at *
 have ka:=Q3Q (w.alloc (.cells #[.int .i64 b,.int .i64 o] 65)) b o;have HB:Hid (Below w.heap.size w (w.alloc (.cells #[.int .i64 b,.int .i64 o] 65))):=(Below.refl w.heap.size w).alloc (J3h _) _;go_enter func95,ntmps95;go_wp2_with fail;refine ka.mono ?_;rintro r w'⟨rfl,rfl⟩;clear ka;go_wp2_with fail;go_ret;exact⟨rfl,HB.out⟩
def Q0W(i:It):Bool:=Q0v i.base i.order&&decide (1<=i.r/\i.r<=15/\0<=i.off/\i.off<256)
theorem Z2d(w:World)(i:It):Calls prog 94 #[.agg #[.int .i64 i.base,.int .i64 i.order,.int .i64 i.r,.int .i64 i.off,.bool i.g]] w fun r w'=>∃x:Int,r=.returned (.tuple #[.int .u64 x,.bool (Q0W i)])/\Below w.heap.size w w':=by
 obtain⟨b,o,ri,f,g⟩:=i;unfold Q0W;dsimp only;have ka:=Q3Q (w.alloc (.cells #[.int .i64 b,.int .i64 o,.int .i64 ri,.int .i64 f,.bool g] 63)) b o;have HB:Hid (Below w.heap.size w (w.alloc (.cells #[.int .i64 b,.int .i64 o,.int .i64 ri,.int .i64 f,.bool g] 63))):=(Below.refl w.heap.size w).alloc (J3h _) _;generalize Q0v b o=al at *
 obtain⟨cv,Bx⟩:∃cv,cv=(al&&decide (1<=ri/\ri<=15/\0<=f/\f<256)):=⟨_,rfl⟩
 rw[<- Bx];go_enter func94,ntmps94;go_wp2_with fail;refine ka.mono ?_;rintro r w'⟨rfl,rfl⟩;clear ka;cases al with
 | false =>
  obtain rfl:cv=false:=Bx;go_wp2_with fail;go_ret2;exact⟨_,rfl,HB.out⟩
 | true =>
  rw[J4r] at Bx;by_cases h1:ri<1
  ·obtain rfl:cv=false:=by rw[Bx,decide_eq_false (by omega)]
   clear Bx;go_wp2_with fail;go_ret2;exact⟨_,rfl,HB.out⟩
  ·by_cases h2:ri>15
   ·obtain rfl:cv=false:=by rw[Bx,decide_eq_false (by omega)]
    clear Bx;go_wp2_with fail;go_ret2;exact⟨_,rfl,HB.out⟩
   ·by_cases h3:f<0
    ·obtain rfl:cv=false:=by rw[Bx,decide_eq_false (by omega)]
     clear Bx;go_wp2_with fail;go_ret2;exact⟨_,rfl,HB.out⟩
    ·by_cases h4:f≥256
     ·obtain rfl:cv=false:=by rw[Bx,decide_eq_false (by omega)]
      clear Bx;go_wp2_with fail;go_ret2;exact⟨_,rfl,HB.out⟩
     ·obtain rfl:cv=true:=by rw[Bx,decide_eq_true (by omega)]
      clear Bx;cases g with
      | false =>
       go_wp2_with fail;go_ret2;exact⟨_,rfl,HB.out⟩
      | true =>
       go_wp2_with fail;go_ret2;exact⟨_,rfl,HB.out⟩
def Q1F(i:It):Nat:=i.base.toNat+256*i.order.toNat+4096*i.r.toNat+16777216*i.off.toNat+(if i.g then 65536 else 0)
theorem Q1V{b o:Int}(h:Q0v b o=true):0<=b/\b<256/\0<=o/\o<=7:=by
 unfold Q0v at h;have:=of_decide_eq_true h;exact⟨this.1,this.2.1,this.2.2.1,this.2.2.2.1⟩
theorem Q3v{i:It}(h:Q0W i=true):0<=i.base/\i.base<256/\0<=i.order/\i.order<=7/\1<=i.r/\i.r<=15/\0<=i.off/\i.off<256:=by
 unfold Q0W at h;rw[J3C] at h;have h1:=Q1V h.1;have h2:=of_decide_eq_true h.2;omega
theorem Q2v(a b:Nat)(ha:a<2 ^ 63)(hb:b<2 ^ 63):bits BinOp.or IntKind.i64 (a:Int) (b:Int)=((a|||b:Nat):Int):=by
 have h:(a|||b)<2 ^ 63:=Nat.or_lt_two_pow ha hb;have e:((BitVec.ofInt 64 (a:Int))|||(BitVec.ofInt 64 (b:Int))).toNat=a|||b:=by
  rw[BitVec.ofInt_natCast,BitVec.ofInt_natCast,BitVec.toNat_or,BitVec.toNat_ofNat,BitVec.toNat_ofNat,J4w (by omega),J4w (by omega)]
 unfold bits;show IntKind.i64.wrap (((BitVec.ofInt 64 (a:Int))|||(BitVec.ofInt 64 (b:Int))).toNat:Int)=_;rw[e,IntKind.wrap_i64];omega
theorem Z0R(a c k:Nat)(h:a<2 ^ k):a|||c*2 ^ k=a+c*2 ^ k:=by
 rw[J6w,J6b c,<- J6x h,J4k]
theorem Z2e{b o ri f:Int}(g:Bool)(h:0<=b/\b<256/\0<=o/\o<=7/\1<=ri/\ri<=15/\0<=f/\f<256) :
  IntKind.u64.wrap (if g then bits BinOp.or IntKind.i64 (bits BinOp.or IntKind.i64 (bits BinOp.or IntKind.i64 (bits BinOp.or IntKind.i64 b (wrap64 (o*256))) (ri*4096)) (f*16777216)) 65536 else bits BinOp.or IntKind.i64 (bits BinOp.or IntKind.i64 (bits BinOp.or IntKind.i64 b (wrap64 (o*256))) (ri*4096)) (f*16777216))=(Q1F ⟨b,o,ri,f,g⟩:Int):=by
 obtain⟨b,rfl⟩:=J4F h.1;obtain⟨o,rfl⟩:=J4F h.2.2.1;obtain⟨ri,rfl⟩:=J4F (a:=ri) (by omega);obtain⟨f,rfl⟩:=J4F (a:=f) (by omega);have e1:wrap64 ((o:Int)*256)=((o*2 ^ 8:Nat):Int):=by rw[Go.IntWalk.wrap64_in _ (by omega)];omega
 have e2:(ri:Int)*4096=((ri*2 ^ 12:Nat):Int):=by omega
 have e3:(f:Int)*16777216=((f*2 ^ 24:Nat):Int):=by omega
 have e4:(65536:Int)=((1*2 ^ 16:Nat):Int):=by decide
 rw[e1,e2,e3,Q2v _ _ (by omega) (by omega),Z0R b o 8 (by omega),Q2v _ _ (by omega) (by omega),Z0R _ ri 12 (by omega),Q2v _ _ (by omega) (by omega)];have e5:(b+o*2 ^ 8+ri*2 ^ 12)|||f*2 ^ 24=b+o*2 ^ 8+ri*2 ^ 12+f*2 ^ 24:=Z0R _ f 24 (by omega);cases g with
 | false =>
  simp only[J6S,if_false];rw[e5,Q3y];unfold Q1F;simp only[J4g,J6S,if_false];omega
 | true =>
  simp only[if_true];rw[e4,Q2v _ _ (by rw[e5];omega) (by omega),Nat.or_assoc,J6w (f*2 ^ 24),<- Nat.or_assoc,Z0R _ 1 16 (by omega),Z0R _ f 24 (by omega),Q3y];unfold Q1F;simp only[J4g,if_true];omega
theorem Q9J(w:World)(i:It):Calls prog 94 #[.agg #[.int .i64 i.base,.int .i64 i.order,.int .i64 i.r,.int .i64 i.off,.bool i.g]] w fun r w'=>∃x:Int,r=.returned (.tuple #[.int .u64 x,.bool (Q0W i)])/\Below w.heap.size w w'/\(Q0W i=true->x=(Q1F i:Int)):=by
 cases hV:Q0W i with
 | true =>
  have ht:=Q3v hV;have AQ:Q0v i.base i.order=true:=by unfold Q0W at hV;rw[J3C] at hV;exact hV.1
  obtain⟨b,o,ri,f,g⟩:=i;dsimp only at *
  have ka:=Q3Q (w.alloc (.cells #[.int .i64 b,.int .i64 o,.int .i64 ri,.int .i64 f,.bool g] 63)) b o;rw[AQ] at ka;have HB:Hid (Below w.heap.size w (w.alloc (.cells #[.int .i64 b,.int .i64 o,.int .i64 ri,.int .i64 f,.bool g] 63))):=(Below.refl w.heap.size w).alloc (J3h _) _;have h1:¬(ri<1):=by omega
  have h2:¬(ri>15):=by omega
  have h3:¬(f≥256):=by omega
  have h4:¬(f<0):=by omega
  have HT:=Q0a ht;clear hV AQ ht;go_enter func94,ntmps94;go_wp2_with fail;refine ka.mono ?_;rintro r w'⟨rfl,rfl⟩;clear ka;cases g with
  | false =>
   go_wp2_with fail;go_ret2;refine⟨_,by rfl,HB.out,fun _=>?_⟩;exact Z2e false HT.out
  | true =>
   go_wp2_with fail;go_ret2;refine⟨_,by rfl,HB.out,fun _=>?_⟩;exact Z2e true HT.out
 | false =>
  refine(Z2d w i).mono ?_;rintro r w'⟨x,rfl,hb⟩;exact⟨x,by rw[hV],hb,by simp⟩
def decV(x:Nat):It:=⟨((x%256:Nat):Int),((x/256%16:Nat):Int),((x/4096%16:Nat):Int),((x/16777216%256:Nat):Int),x/65536%2==1⟩
def Q4N(x:Nat):Option It:=if Q0W (decV x)=true/\Q1F (decV x)=x then some (decV x) else none
theorem Z9v{i:It}(h:Q0W i=true):Q1F i<4294967296:=by
 have:=Q3v h;unfold Q1F;split <;> omega
theorem Z9w{i:It}(h:Q0W i=true):decV (Q1F i)=i:=by
 have ht:=Q3v h;obtain⟨b,o,r,f,g⟩:=i;dsimp only at ht;obtain⟨b,rfl⟩:=J4F ht.1;obtain⟨o,rfl⟩:=J4F ht.2.2.1;obtain⟨r,rfl⟩:=J4F (a:=r) (by omega);obtain⟨f,rfl⟩:=J4F (a:=f) (by omega);unfold decV Q1F;cases g with
 | false =>
  simp only[J4g,J6S,if_false];have e1:(b+256*o+4096*r+16777216*f+0)%256=b:=by omega
  have e2:(b+256*o+4096*r+16777216*f+0)/256%16=o:=by omega
  have e3:(b+256*o+4096*r+16777216*f+0)/4096%16=r:=by omega
  have e4:(b+256*o+4096*r+16777216*f+0)/16777216%256=f:=by omega
  have e5:(b+256*o+4096*r+16777216*f+0)/65536%2=0:=by omega
  rw[e1,e2,e3,e4,e5];rfl
 | true =>
  simp only[J4g,if_true];have e1:(b+256*o+4096*r+16777216*f+65536)%256=b:=by omega
  have e2:(b+256*o+4096*r+16777216*f+65536)/256%16=o:=by omega
  have e3:(b+256*o+4096*r+16777216*f+65536)/4096%16=r:=by omega
  have e4:(b+256*o+4096*r+16777216*f+65536)/16777216%256=f:=by omega
  have e5:(b+256*o+4096*r+16777216*f+65536)/65536%2=1:=by omega
  rw[e1,e2,e3,e4,e5];rfl
theorem Z6R{i:It}(h:Q0W i=true):Q4N (Q1F i)=some i:=by
 unfold Q4N;rw[Z9w h,if_pos ⟨h,rfl⟩]
theorem Z6S{x:Nat}{i:It}(h:Q4N x=some i):Q0W i=true/\Q1F i=x:=by
 unfold Q4N at h;split at h
 ·rename_i hc;cases h;exact hc
 ·cases h
structure Msg where
 label:Nat
 ws:List Nat
 its:List It
def Msg.none:Msg:=⟨0,[],[]⟩
def Q0o(m:List Nat)(p i:Nat):Nat:=Q0m m (p+8*i)
def itemsB(m:List Nat)(p:Nat):Nat->Option (List It)
 | 0=>some []
 | k+1=>match itemsB m p k,Q4N (Q0o m p (11+k)) with
  | some l,some i=>some (l++[i])
  | _,_=>.none
def msgV(m:List Nat)(p:Nat):Msg:=
 if Q0o m p 0%16>8∨Q0o m p 0/16>2 then Msg.none else
 match itemsB m p (Q0o m p 0/16) with
 | some l=>⟨Q0o m p 1,(List.range (Q0o m p 0%16)).map fun i=>Q0o m p (3+i),l⟩
 | .none=>Msg.none
def winV(m:List Nat)(p:Nat):Wi:=
 if Q0o m p 2/4096=0/\Q0v ((Q0o m p 2%256:Nat):Int) ((Q0o m p 2/256%16:Nat):Int)=true then⟨((Q0o m p 2%256:Nat):Int),((Q0o m p 2/256%16:Nat):Int)⟩ else⟨0,0⟩
def Q3R(ws:List Nat)(its:List It):List Nat:=(ws++List.replicate (8-ws.length) 0)++(its.map Q1F++List.replicate (2-its.length) 0)
def putM(m:List Nat)(p:Nat)(x:Msg):List Nat:=put_ (put_ m p ([x.ws.length+16*x.its.length,x.label].flatMap Q0c)) (p+24) ((Q3R x.ws x.its).flatMap Q0c)
def Q5d(m:List Nat)(p:Nat)(v:Wi):List Nat:=put_ m (p+16) ([v.base.toNat+256*v.order.toNat].flatMap Q0c)
structure Msg.May(x:Msg):Prop where
 label:x.label<18446744073709551616
 ws:∀y∈x.ws,y<18446744073709551616
 its:∀y∈x.its,Q0W y=true
 few:x.ws.length<=8
 two:x.its.length<=2
theorem Q9K{ws:List Nat}{its:List It}(h1:ws.length<=8)(h2:its.length<=2):(Q3R ws its).length=10:=by
 unfold Q3R;simp only[J3N,J3r,J4K];omega
theorem Z2f{x:Msg}(h:x.May):∀y∈Q3R x.ws x.its,y<18446744073709551616:=by
 intro y hy;unfold Q3R at hy;rcases J3Q.1 hy with hy|hy
 ·rcases J3Q.1 hy with hy|hy
  ·exact h.ws y hy
  ·rw[(List.mem_replicate.1 hy).2];omega
 ·rcases J3Q.1 hy with hy|hy
  ·obtain⟨i,hi,rfl⟩:=J3n.1 hy;have:=Z9v (h.its i hi);omega
  ·rw[(List.mem_replicate.1 hy).2];omega
theorem Z3K{ws:List Nat}{its:List It}{i:Nat}(hi:i<ws.length):(Q3R ws its)[i]?.getD 0=ws[i]:=by
 unfold Q3R;rw[J6p (by rw[J3N];omega),J6p hi,J5s hi];rfl
theorem Z3L{ws:List Nat}{its:List It}(h1:ws.length<=8){i:Nat}(hi:i<its.length):(Q3R ws its)[8+i]?.getD 0=Q1F its[i]:=by
 unfold Q3R;have hl:(ws++List.replicate (8-ws.length) 0).length=8:=by simp;omega
 rw[J6q (by rw[hl];omega),hl,J5Z,J6p (by simpa using hi),J4M,J5s hi];rfl
theorem Q6p{m:List Nat}{p:Nat}{x:Msg}(h:x.May)(hp:p+256<=m.length)(p8:p%8=0){q:Nat}(hq:q+8<=m.length)(q8:q%8=0) :
  Q0m (putM m p x) q=if p+24<=q/\q<p+104 then(Q3R x.ws x.its)[(q-(p+24))/8]?.getD 0 else if p<=q/\q<p+16 then [x.ws.length+16*x.its.length,x.label][(q-p)/8]?.getD 0 else Q0m m q:=by
 unfold putM;have e1:(put_ m p ([x.ws.length+16*x.its.length,x.label].flatMap Q0c)).length=m.length:=Q1t _ _ _ (by rw[Q3e];simp;omega);have hl:=Q9K h.few h.two;have hw:∀y∈[x.ws.length+16*x.its.length,x.label],y<18446744073709551616:=by
  intro y hy;have h1:=h.few;have h2:=h.two;have h3:=h.label;simp only[J3m,J3D,or_false] at hy;rcases hy with rfl|rfl <;> omega
 rw[Q4s _ _ _ (by rw[e1,hl];omega) (Z2f h) q (by rw[e1];exact hq) (by omega) q8,hl,Q4s _ _ _ (by simp;omega) hw q hq p8 q8];rfl
theorem Q9L{m:List Nat}{p:Nat}{its:List It}(h:∀i (hi:i<its.length),Q4N (Q0o m p (11+i))=some its[i]):∀k,k<=its.length->itemsB m p k=some (its.take k)
 | 0,_=>by simp[itemsB]
 | k+1,hk=>by
  rw[itemsB,Q9L h k (by omega),h k (by omega)];simp only[J4X,J5s (show k<its.length by omega)];rfl
theorem Z6T{m:List Nat}{p:Nat}{x:Msg}(h:x.May)(hp:p+256<=m.length)(p8:p%8=0):msgV (putM m p x) p=x:=by
 have hW:=fun i (hi:i<32)=>Q6p h hp p8 (q:=p+8*i) (by omega) (by omega)
 have h1:=h.few;have h2:=h.two;have w0:Q0o (putM m p x) p 0=x.ws.length+16*x.its.length:=by
  unfold Q0o;rw[hW 0 (by omega),if_neg (by omega),if_pos (by omega),show(p+8*0-p)/8=0 by omega];rfl
 have w1:Q0o (putM m p x) p 1=x.label:=by
  unfold Q0o;rw[hW 1 (by omega),if_neg (by omega),if_pos (by omega),show(p+8*1-p)/8=1 by omega];rfl
 have e1:Q0o (putM m p x) p 0%16=x.ws.length:=by rw[w0];omega
 have e2:Q0o (putM m p x) p 0/16=x.its.length:=by rw[w0];omega
 have hI:=Q9L (m:=putM m p x) (p:=p) (its:=x.its) (fun i hi=>by
  unfold Q0o;rw[hW (11+i) (by omega),if_pos (by omega),show(p+8*(11+i)-(p+24))/8=8+i by omega,Z3L h1 hi,Z6R (h.its _ (J6z hi))]) x.its.length (J3h _)
 unfold msgV;rw[e1,e2,if_neg (by omega),hI,w1];rw[J7g];show(⟨x.label,_,x.its⟩:Msg)=x;have:(List.range x.ws.length).map (fun i=>Q0o (putM m p x) p (3+i))=x.ws:=by
  apply List.ext_getElem
  ·simp
  ·intro i g1 g2;simp only[List.getElem_map,J7h];unfold Q0o;rw[hW (3+i) (by omega),if_pos (by omega),show(p+8*(3+i)-(p+24))/8=i by omega,Z3K g2]
 rw[this]
theorem Q8k{m m':List Nat}{p:Nat}(h:∀i,i<32->i≠2->Q0o m' p i=Q0o m p i):msgV m' p=msgV m p:=by
 have hI:∀k,k<=2->itemsB m' p k=itemsB m p k:=by
  intro k hk
  induction k with
  | zero=>rfl
  | succ k ih=>rw[itemsB,itemsB,ih (by omega),h (11+k) (by omega) (by omega)]
 unfold msgV;rw[h 0 (by omega) (by omega)];split
 ·rfl
 ·rename_i hn;rw[hI _ (by omega),h 1 (by omega) (by omega)];have:(List.range (Q0o m p 0%16)).map (fun i=>Q0o m' p (3+i))=(List.range (Q0o m p 0%16)).map (fun i=>Q0o m p (3+i)):=by
   apply J5k
   intro i hi;have:=J3x.1 hi;exact h (3+i) (by omega) (by omega)
  rw[this]
theorem Q8l{m m':List Nat}{p:Nat}(h:Q0o m' p 2=Q0o m p 2):winV m' p=winV m p:=by unfold winV;rw[h]
theorem J1D{m:List Nat}{p:Nat}{x:Msg}(h:x.May)(hp:p+256<=m.length)(p8:p%8=0):winV (putM m p x) p=winV m p:=by
 refine Q8l ?_;unfold Q0o;rw[Q6p h hp p8 (by omega) (by omega),if_neg (by omega),if_neg (by omega)]
theorem Z6U{m:List Nat}{p q:Nat}{x:Msg}(h:x.May)(hp:p+256<=m.length)(p8:p%8=0)(hq:q+256<=m.length)(q8:q%8=0)(ha:p+256<=q∨q+256<=p):msgV (putM m p x) q=msgV m q/\winV (putM m p x) q=winV m q:=by
 have hW:∀i,i<32->Q0o (putM m p x) q i=Q0o m q i:=by
  intro i hi;unfold Q0o;rw[Q6p h hp p8 (by omega) (by omega),if_neg (by omega),if_neg (by omega)]
 exact⟨Q8k fun i hi _=>hW i hi,Q8l (hW 2 (by omega))⟩
theorem Q7w{m:List Nat}{p:Nat}{v:Wi}(h:Q0v v.base v.order=true)(hp:p+256<=m.length)(p8:p%8=0){q:Nat}(hq:q+8<=m.length)(q8:q%8=0) :
  Q0m (Q5d m p v) q=if q=p+16 then v.base.toNat+256*v.order.toNat else Q0m m q:=by
 have ht:=Q1V h;unfold Q5d;rw[Q4s _ _ _ (by simp;omega) (by simp;omega) q hq (by omega) q8];by_cases e:q=p+16
 ·subst e;rw[if_pos (by simp),if_pos rfl,J6t];rfl
 ·rw[if_neg (by simp;omega),if_neg e]
theorem Z9x{m:List Nat}{p:Nat}{v:Wi}(h:Q0v v.base v.order=true)(hp:p+256<=m.length)(p8:p%8=0):winV (Q5d m p v) p=v:=by
 have ht:=Q1V h;have w2:Q0o (Q5d m p v) p 2=v.base.toNat+256*v.order.toNat:=by
  unfold Q0o;rw[Q7w h hp p8 (by omega) (by omega),if_pos (by omega)]
 obtain⟨b,o⟩:=v;dsimp only at *
 obtain⟨b,rfl⟩:=J4F ht.1;obtain⟨o,rfl⟩:=J4F ht.2.2.1;simp only[J4g] at w2;unfold winV;rw[w2,show(b+256*o)%256=b by omega,show(b+256*o)/256%16=o by omega,if_pos ⟨by omega,h⟩]
theorem Z3M{m:List Nat}{p q:Nat}{v:Wi}(h:Q0v v.base v.order=true)(hp:p+256<=m.length)(p8:p%8=0)(hq:q+256<=m.length)(q8:q%8=0)(ha:p+256<=q∨q+256<=p):msgV (Q5d m p v) q=msgV m q/\winV (Q5d m p v) q=winV m q:=by
 have hW:∀i,i<32->Q0o (Q5d m p v) q i=Q0o m q i:=by
  intro i hi;unfold Q0o;rw[Q7w h hp p8 (by omega) (by omega),if_neg (by omega)]
 exact⟨Q8k fun i hi _=>hW i hi,Q8l (hW 2 (by omega))⟩
abbrev encU(x:Nat):Value:=.int .u64 x
theorem J1E:(prog.info? 83).map (fun i=>(i.zero,i.size,i.bytes))=some (some (.int .u64 0),1,8):=by kernel_rfl
theorem J1F:(prog.info? 63).map (fun i=>(i.zero,i.size,i.bytes))=some (some (.agg #[.int .i64 0,.int .i64 0,.int .i64 0,.int .i64 0,.bool false]),5,40):=by kernel_rfl
theorem Q6q:∀L:List It,(L.flatMap It.cells).length=L.length*5
 | []=>rfl
 | p::r=>by rw[J3E,J3N,Q6q r];simp[It.cells];omega
theorem Q7x:∀(L:List It) (k i:Nat) (m:It) (v:Value),L[k]?=some m->m.cells[i]?=some v->(L.flatMap It.cells)[k*5+i]?=some v
 | [],k,i,m,v,h,_=>by simp at h
 | p::r,k,i,m,v,h,hv=>by
  rw[J3E];have hi:i<5:=by have:=(J3y.1 hv).1;simpa[It.cells] using this
  have CI:p.cells.length=5:=rfl;cases k with
  | zero =>
   simp at h;subst h;rw[J6p (by rw[CI];omega),show 0*5+i=i by omega];exact hv
  | succ k =>
   rw[J6q (by rw[CI];omega),CI,show(k+1)*5+i-5=k*5+i by omega];exact Q7x r k i m v (by simpa using h) hv
theorem J1G{w:World}{H:HL}{rv:RV}{l:List Nat}(h:Sep w (rowH rv 83 1 (l.map encU)++H))(B9:rvOk rv l.length)(hl:l.length<=1000)(x:Nat)(ty:TypeId) :
  ∃rv' w',(Builtin.append_ #[82,82] ty #[lvOf rv l.length,.slice (some ⟨w.heap.size,0,none⟩) 1 1]).run prog (w.alloc (.cells #[.int .u64 x] 83))=.ok (lvOf rv' (l.length+1)) w'/\rvOk rv' (l.length+1)/\Step (rowH rv 83 1 (l.map encU)++H) (rowH rv' 83 1 ((l++[x]).map encU)++H) w w':=by
 obtain⟨i0,hi,Bu,AT,Bk⟩:=info_parts J1E;have ha:=h.alloc (.cells #[.int .u64 x] 83);have An:=Q3X ha.left B9 (by rw[J4K,J4h]);obtain⟨v',w',hr,q1,q2,_,q4⟩:=run_append_own_at (P:=prog) (w.alloc (.cells #[.int .u64 x] 83)) 0 82 ty 83 i0 (.int .u64 0) 1 8 underlying82 hi Bu AT Bk rfl (by decide) (lvOf rv l.length) l.length (l.map encU) An ⟨w.heap.size,0,none⟩ 1 1 [.int .u64 x] rfl (by
  intro j u hj;have:=(Cells.new w 83 [.int .u64 x]).cell j u hj;have e:(⟨w.heap.size,0,none⟩:Addr).add j=⟨w.heap.size,j,none⟩:=by unfold Addr.add;split <;> simp_all
  rw[e];exact this) (fun u hu=>by rw[J5i.1 hu];rfl) (by unfold maxLen;omega) (by omega) (J5d _)
 obtain⟨rv',rfl,e2,e3⟩:=Q1h (A:=[]) (B:=H) (by simpa using ha) q1 q2 q4;refine⟨rv',w',hr,e2,?_⟩;rw[J6E];have e4:Step (rowH rv 83 1 (l.map encU)++H) (rowH rv' 83 1 (l.map encU++[encU x])++H) (w.alloc (.cells #[.int .u64 x] 83)) w':=by simpa using e3
 exact e4.from_alloc
theorem J1H{w:World}{H:HL}{rv:RV}{l:List It}(h:Sep w (rowH rv 63 5 (l.flatMap It.cells)++H))(B9:rvOk rv l.length)(hl:l.length<=1000)(x:It)(ty:TypeId) :
  ∃rv' w',(Builtin.append_ #[98,98] ty #[lvOf rv l.length,.slice (some ⟨w.heap.size,0,none⟩) 1 1]).run prog (w.alloc (.cells #[.int .i64 x.base,.int .i64 x.order,.int .i64 x.r,.int .i64 x.off,.bool x.g] 63))=.ok (lvOf rv' (l.length+1)) w'/\rvOk rv' (l.length+1)/\Step (rowH rv 63 5 (l.flatMap It.cells)++H) (rowH rv' 63 5 ((l++[x]).flatMap It.cells)++H) w w':=by
 obtain⟨i0,hi,Bu,AT,Bk⟩:=info_parts J1F;have ha:=h.alloc (.cells #[.int .i64 x.base,.int .i64 x.order,.int .i64 x.r,.int .i64 x.off,.bool x.g] 63);have An:=Q3X ha.left B9 (Q6q l);obtain⟨v',w',hr,q1,q2,_,q4⟩:=run_append_own_at (P:=prog) (w.alloc (.cells #[.int .i64 x.base,.int .i64 x.order,.int .i64 x.r,.int .i64 x.off,.bool x.g] 63)) 0 98 ty 63 i0 (.agg #[.int .i64 0,.int .i64 0,.int .i64 0,.int .i64 0,.bool false]) 5 40 underlying98 hi Bu AT Bk rfl (by decide) (lvOf rv l.length) l.length (l.flatMap It.cells) An ⟨w.heap.size,0,none⟩ 1 1 x.cells rfl (by
  intro j u hj;have:=(Cells.new w 63 x.cells).cell j u hj;have e:(⟨w.heap.size,0,none⟩:Addr).add j=⟨w.heap.size,j,none⟩:=by unfold Addr.add;split <;> simp_all
  rw[e];exact this) (fun u hu=>by
   simp only[It.cells,J3m,List.mem_nil_iff,or_false] at hu;rcases hu with rfl|rfl|rfl|rfl|rfl <;> rfl) (by unfold maxLen;omega) (by omega) (J5d _)
 obtain⟨rv',rfl,e2,e3⟩:=Q1h (A:=[]) (B:=H) (by simpa using ha) q1 q2 q4;refine⟨rv',w',hr,e2,?_⟩;rw[J3M];have e4:Step (rowH rv 63 5 (l.flatMap It.cells)++H) (rowH rv' 63 5 (l.flatMap It.cells++x.cells)++H) (w.alloc (.cells #[.int .i64 x.base,.int .i64 x.order,.int .i64 x.r,.int .i64 x.off,.bool x.g] 63)) w':=by simpa using e3
 simpa using e4.from_alloc
end Go.Proofs.YtfidemmgofcnmaaGreatDoor
