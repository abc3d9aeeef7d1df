/- What the laws of spaces share is proved. No condition. Part of a proof. -/
import Derived.Test.YtlakjlmaboioiaaGreatDoorVa27
set_option maxHeartbeats 8000000
set_option maxRecDepth 100000
set_option linter.unusedVariables false
namespace Go.Proofs.YtlakjlmaboioiaaGreatDoor
open Go.RowKit Go.Proofs.Tryz
theorem Z1i {l:List Pl} {i:Nat} {p:Pl} (h:l[i]?=some p) (hp:p.st=0) (ha:∀j,j<i->∃q,l[j]?=some q/\q.st≠0):Fst l i p:=⟨h,hp,fun j q hj hq=>by
 obtain⟨q',e1,e2⟩:=ha j hj;rw [hq] at e1;cases e1;exact e2⟩
def lt1 (k a x:Nat):List Pl:=(newL 64).set 1 ⟨k,a,0,1,0,x⟩
def lt2 (k a x m b y:Nat):List Pl:=(lt1 k a x).set 2 ⟨m,b,0,1,0,y⟩
def lt3 (k a x m b y n c z:Nat):List Pl:=(lt2 k a x m b y).set 3 ⟨n,c,0,1,0,z⟩
theorem J1L:(newL 64)[0]?=some ⟨1,64,0,1,0,0⟩/\Fst (newL 64) 1 (noPl 0):=⟨rfl,Z1i rfl rfl fun j hj=>by
 obtain rfl:j=0:=by omega
 exact⟨_,rfl,by decide⟩⟩
theorem J1M (k a x:Nat):(lt1 k a x)[0]?=some ⟨1,64,0,1,0,0⟩/\Fst (lt1 k a x) 2 (noPl 0):=⟨rfl,Z1i rfl rfl fun j hj=>by
 have:j=0∨j=1:=by omega
 rcases this with rfl|rfl
 ·exact⟨_,rfl,by decide⟩
 ·exact⟨_,rfl,(by decide:(1:Nat)≠0)⟩⟩
theorem J1N (k a x m b y:Nat):(lt2 k a x m b y)[0]?=some ⟨1,64,0,1,0,0⟩/\Fst (lt2 k a x m b y) 3 (noPl 0):=⟨rfl,Z1i rfl rfl fun j hj=>by
 have:j=0∨j=1∨j=2:=by omega
 rcases this with rfl|rfl|rfl
 ·exact⟨_,rfl,by decide⟩
 ·exact⟨_,rfl,(by decide:(1:Nat)≠0)⟩
 ·exact⟨_,rfl,(by decide:(1:Nat)≠0)⟩⟩
theorem Q5p (k a x m b y n c z:Nat):pget (lt3 k a x m b y n c z) 1 1=some ⟨k,a,0,1,0,x⟩/\pget (lt3 k a x m b y n c z) 1 2=some ⟨m,b,0,1,0,y⟩/\pget (lt3 k a x m b y n c z) 1 3=some ⟨n,c,0,1,0,z⟩:=⟨by kernel_rfl,by kernel_rfl,by kernel_rfl⟩
theorem J1O (k a x m b y n c z:Nat):((lt3 k a x m b y n c z).filter Pl.is).length=4:=by kernel_rfl
theorem Z9l (a x b y c z:Nat):Q0y (lt3 2 a x 4 b y 2 c z) 0=352:=by kernel_rfl
theorem Z9m (a x b y c z:Nat):kids (lt3 2 a x 4 b y 2 c z) 2=[]:=by kernel_rfl
def AlQ (s c:Nat) (M:Int) (C:AV->Prop) (B:List (Nat×List Value)) (w0 wr:World):Prop:=∃Z a x b y d z,Z.s=s/\Z.S.c=c/\MkZ Z 1 20000 4 M (lt3 2 a x 4 b y 2 d z)/\C Z.av/\Z.F.next=M/\Step [] Z.hl w0 wr/\∀q∈B,AsideV Z.hl q.2 (some ⟨q.1,0,none⟩) wr
theorem AlQ.grown {s c:Nat} {M:Int} {C:AV->Prop} {B:List (Nat×List Value)} {w0 wr w':World} (h:AlQ s c M C B w0 wr) (hb:Below wr.heap.size wr w'):AlQ s c M C B w0 w':=by
 obtain⟨Z,a,x,b,y,d,z,h1,h2,h3,h4,h5,st,hB⟩:=h;exact⟨Z,a,x,b,y,d,z,h1,h2,h3,h4,h5,st.trans (st.sep.grown hb),fun q hq=>(hB q hq).step (st.sep.grown hb)⟩
theorem AlQ.box {s c:Nat} {M:Int} {C:AV->Prop} {B:List (Nat×List Value)} {w0 wr:World} (h:AlQ s c M C B w0 wr) (T:TypeId) (cs:List Value):AlQ s c M C ((wr.heap.size,cs)::B) w0 (wr.alloc (.cells cs.toArray T)):=by
 obtain⟨Z,a,x,b,y,d,z,h1,h2,h3,h4,h5,st,hB⟩:=h;have hb:=(Below.refl wr.heap.size wr).alloc (J2h _) (.cells cs.toArray T);refine⟨Z,a,x,b,y,d,z,h1,h2,h3,h4,h5,st.trans (st.sep.grown hb),fun q hq=>?_⟩;rcases J2m.1 hq with rfl|hq
 ·exact Q2K st.sep T cs
 ·exact (hB q hq).step (st.sep.grown hb)
def en0:Nat->Nat->Option (Nat×Nat):=fun _ _=>none
def E0 (a:AV):Prop:=a=⟨en0,[]⟩
def E1 (a:AV):Prop:=∃b1,a=⟨setA en0 1 5 (some (2,15)),[⟨1,b1,⟨1,5,0,[]⟩⟩]⟩
def E2 (r:Nat) (a:AV):Prop:=∃b1 b2,a=⟨setA (setA en0 1 5 (some (2,15))) 3 7 (some (2,r)),[⟨1,b1,⟨1,5,0,[2]⟩⟩,⟨2,b2,⟨3,7,1,[]⟩⟩]⟩
def E4 (a:AV):Prop:=(∀h s c,a.en h s=some c->h=1/\s=5/\c=(2,15))/\a.en 1 5=some (2,15)/\∃b1,a.N=[⟨1,b1,⟨1,5,0,[]⟩⟩]
def E5 (a:AV):Prop:=(∀h s c,a.en h s=some c->h=3/\s=9/\c=(2,15))/\a.en 3 9=some (2,15)
theorem Q1s {en:Nat->Nat->Option (Nat×Nat)} {h s h' s':Nat} {o:Option (Nat×Nat)} {c:Nat×Nat} (e:setA en h s o h' s'=some c):(h'=h/\s'=s/\o=some c)∨(¬(h'=h/\s'=s)/\en h' s'=some c):=by
 by_cases hh:h'=h/\s'=s
 ·rw [hh.1,hh.2,Q9r] at e;exact .inl ⟨hh.1,hh.2,e⟩
 ·rw [Q5l hh] at e;exact .inr ⟨hh,e⟩
theorem Z9n {w w1:World} {S:CO} (f:Q9n S 6 20000 1) (st:Step [] (S.hl++[]) w w1) :
  Calls prog 16 #[.pointer (some ⟨S.c,0,none⟩),.int .u32 0,.int .i64 2,.int .i64 0] w1 fun r w2=>r=.returned (.tuple #[.int .u32 1,.int .i64 0]) /\
   Calls prog 16 #[.pointer (some ⟨S.c,0,none⟩),.int .u32 0,.int .i64 4,.int .i64 0] w2 fun r w3=>r=.returned (.tuple #[.int .u32 2,.int .i64 0]) /\
    Calls prog 16 #[.pointer (some ⟨S.c,0,none⟩),.int .u32 0,.int .i64 2,.int .i64 0] w3 fun r w4=>r=.returned (.tuple #[.int .u32 3,.int .i64 0]) /\
     Calls prog 17 #[.pointer (some ⟨S.c,0,none⟩)] w4 fun r w5=>∃s,r=.returned (.pointer (some ⟨s,0,none⟩))/\AlQ s S.c 0 E0 [] w w5:=by
 refine (Z1h (J0Q f st) 2 1 (by omega) (by decide) (by omega) (by omega) fun l hl=>by subst hl;exact J1L).mono ?_;rintro r w2 ⟨rfl,q2⟩;refine⟨rfl,(Z1h q2 4 2 (by omega) (by decide) (by omega) (by omega) fun l hl=>by
  obtain⟨l0,a,x,rfl,rfl⟩:=hl;exact J1M 2 a x).mono ?_⟩
 rintro r w3 ⟨rfl,q3⟩;refine⟨rfl,(Z1h q3 2 3 (by omega) (by decide) (by omega) (by omega) fun l hl=>by
  obtain⟨l0,b,y,⟨l1,a,x,rfl,rfl⟩,rfl⟩:=hl;exact J1N 2 a x 4 b y).mono ?_⟩
 rintro r w4 ⟨rfl,S4,l,ec,⟨l0,d,z,⟨l1,b,y,⟨l2,a,x,rfl,rfl⟩,rfl⟩,rfl⟩,m,st4⟩;refine⟨rfl,?_⟩;rw [<- ec];refine (Z2c st4.sep fun _=>TB.emp).mono ?_;rintro r w5 ⟨Z,rfl,hZ,st5⟩;obtain⟨m1,m2,m3⟩:=J0S m hZ;exact⟨Z.s,rfl,Z,a,x,b,y,d,z,rfl,by rw [hZ.S],m1,m2,m3,st4.trans st5,fun q hq=>by cases hq⟩
theorem Z1j {Z:SP} {M:Int} {a x b y d z:Nat} (m:MkZ Z 1 20000 4 M (lt3 2 a x 4 b y 2 d z)) (E:List (Nat×Nat)) (hE:∀h s c,Z.av.en h s=some c->(h%256,s)∈E) (hl:E.length<=2) {i s:Nat} {er:Int}:¬WhyL Z [] 0 i s er:=by
 refine m.room E (E.map fun p=>(p.1,p.2/16)) hE (fun u v h=>J2n.2 ⟨_,h,rfl⟩) (o:=4) (by rw [J1O];exact J2h _) (by rw [J3Q];omega) (cs:=352) (Z9l a x b y d z) (by rw [J3Q];omega)
theorem J0T {s c:Nat} {B:List (Nat×List Value)} {w0 wr:World} (h:AlQ s c 0 E0 B w0 wr) :
  Calls prog 18 #[.pointer (some ⟨s,0,none⟩),.int .u32 1,.int .i64 5,.agg #[.int .u32 2,.int .i64 15]] wr fun r w'=>r=.returned (.int .i64 0)/\AlQ s c 1 E1 B w0 w':=by
 obtain⟨Z,a,x,b,y,d,z,rfl,rfl,m,hC,BA,st,hB⟩:=h;refine (Q9U st.sep m.ok (by omega) (x:=1) (h:=2) (by omega) (by omega) 5 15).mono ?_;rintro r w' ⟨er,rfl,R⟩;obtain⟨g1,g2,g3⟩:=Q5p 2 a x 4 b y 2 d z;rw [<- m.l] at g1 g2;unfold E0 at hC;obtain⟨rfl,Z',k1,k2,k3,⟨b1,k4⟩,k5,k6⟩:=R.fine g1 rfl (by omega) g2 (by omega) (by show (4:Nat)=8↔(128:Int)<=5;decide) (by rw [hC];rfl) fun er=>Z1j m [] (fun h s c hc=>by rw [hC] at hc;cases hc) (by simp)
 refine⟨rfl,Z',a,x,b,y,d,z,k2.s,k2.alt.c,m.same k1 k2,⟨b1,?_⟩,by rw [k5,BA];rfl,st.trans k6,fun q hq=>(hB q hq).step k6⟩;have hN:Z.F.N=[]:=by show Z.av.N=_;rw [hC]
 rw [hN,BA] at k4;rw [hC] at k3;generalize hz:Z'.av=av at k3 k4;obtain⟨en,N⟩:=av;simp only at k3 k4;rw [k3,k4];rfl
theorem Z9o {s c:Nat} {B:List (Nat×List Value)} {w0 wr:World} (h:AlQ s c 1 E1 B w0 wr) :
  Calls prog 19 #[.pointer (some ⟨s,0,none⟩),.int .u32 1,.int .u32 3,.slice (some ⟨wr.heap.size,0,none⟩) 1 1] (wr.alloc (.cells #[.int .i64 5,.int .i64 7,.int .i64 5,.bool false] 39)) fun r w'=>r=.returned (.int .i64 0)/\AlQ s c 2 (E2 5) B w0 w':=by
 obtain⟨Z,a,x,b,y,d,z,rfl,rfl,m,⟨b1,hC⟩,BA,st,hB⟩:=h;have hb:=(Below.refl wr.heap.size wr).alloc (J2h _) (.cells #[.int .i64 5,.int .i64 7,.int .i64 5,.bool false] 39);have st2:=st.sep.grown hb;have BR:=Q5o st.sep ⟨5,7,5,false⟩ ⟨⟨by decide,by decide⟩,⟨by decide,by decide⟩,⟨by decide,by decide⟩⟩;obtain⟨g1,g2,g3⟩:=Q5p 2 a x 4 b y 2 d z;rw [<- m.l] at g1 g3;have Am:FitM Z.av.en 1 3 ⟨5,7,5,false⟩:=by
  rw [hC];exact⟨by decide,by decide,by decide,rfl,⟨(2,15),rfl,by decide,by decide⟩,rfl⟩
 have K1:AsideM Z.hl 1 (fun _=>⟨5,7,5,false⟩) (some ⟨wr.heap.size,0,none⟩) (wr.alloc (.cells #[.int .i64 5,.int .i64 7,.int .i64 5,.bool false] 39)):=BR;have km:=Q2L (n:=1) (cap:=1) (A:=fun _=>⟨5,7,5,false⟩) st2.sep m.ok (by omega) (x:=1) (y:=3) (by omega) (by omega) (by omega) (by omega) K1;refine km.mono ?_;rintro r w' ⟨er,rfl,R⟩;obtain⟨rfl,hz⟩:=R.fine g1 rfl g3 rfl (Q7S Am) fun er hw=>Z1j m [(1,5)] (fun h s c hc=>by
  rw [hC] at hc;rcases Q1s hc with ⟨rfl,rfl,_⟩|⟨_,h0⟩
  ·simp
  ·cases h0) (by simp) (Z2o hw)
 obtain⟨Z',c,b2,k1,k2,k3,k4,k5,k6⟩:=hz.one rfl;rw [hC] at k1 k2;obtain rfl:(2,15)=c:=by simpa [setA] using k1
 refine⟨rfl,Z',a,x,b,y,d,z,k4.s,k4.alt.c,m.same k3 k4,⟨b1,b2,?_⟩,by rw [k5,BA];rfl,(st.trans st2).trans k6,fun q hq=>((hB q hq).step st2).step k6⟩;rw [k2,BA];rfl
theorem Z1k {s c x:Nat} {M z:Int} {C:AV->Prop} {B:List (Nat×List Value)} {w0 wr:World} (h:AlQ s c M C B w0 wr) (hx:x=1∨x=3) (hz:0<=z/\z<256) {o:Option (Nat×Nat)} (ho:∀a,C a->a.en x z.toNat=o) :
  Calls prog 21 #[.pointer (some ⟨s,0,none⟩),.int .u32 x,.int .i64 z] wr fun r w'=>r=.returned (Z4a o)/\AlQ s c M C B w0 w':=by
 have h':=h;obtain⟨Z,a,u,b,y,d,v,rfl,rfl,m,hC,BA,st,hB⟩:=h;obtain⟨g1,g2,g3⟩:=Q5p 2 a u 4 b y 2 d v;rw [<- m.l] at g1 g3;obtain⟨p,hp,hk⟩:∃p,pget Z.S.l 1 x=some p/\p.kind=2:=by
  rcases hx with rfl|rfl
  ·exact⟨_,g1,rfl⟩
  ·exact⟨_,g3,rfl⟩
 have kl:=Q6F st.sep m.ok (x:=x) (by omega) z;rw [Z2p hp hk hz,ho _ hC] at kl;refine kl.mono ?_;rintro r w' ⟨rfl,hb⟩;exact⟨rfl,h'.grown hb⟩
theorem Z0g {s c:Nat} {r0 mk:Nat} {B:List (Nat×List Value)} {w0 wr:World} (h:AlQ s c 2 (E2 r0) B w0 wr) (hm:1<=mk/\mk<=15) {C:AV->Prop} {n:Nat} (Fi:∀a,E2 r0 a->(Q0M mk a [2]).2=n/\C (Q0M mk a [2]).1) :
  Calls prog 20 #[.pointer (some ⟨s,0,none⟩),.int .u32 1,.int .i64 5,.int .i64 mk,.bool false] wr fun r w'=>r=.returned (.tuple #[.int .i64 n,.int .i64 0])/\AlQ s c 2 C B w0 w':=by
 obtain⟨Z,a,u,b,y,d,v,rfl,rfl,m,hC,BA,st,hB⟩:=h;obtain⟨g1,g2,g3⟩:=Q5p 2 a u 4 b y 2 d v;rw [<- m.l] at g1;obtain⟨q1,q2⟩:=Fi _ hC;obtain⟨b1,b2,hC⟩:=hC;have hN:Z.F.N=[⟨1,b1,⟨1,5,0,[2]⟩⟩,⟨2,b2,⟨3,7,1,[]⟩⟩]:=by show Z.av.N=_;rw [hC]
 refine (Q6I st.sep m.ok (x:=1) (by omega) 5 (mk:Int) false).mono ?_;intro r w' R;obtain⟨n',Ef,e1,e2,rfl,Z',k1,k2,k3,k4⟩:=R.fine g1 rfl (by omega) (by omega) (c:=(2,15)) (by rw [hC];rfl);have hid:n'.id=1:=by
  rw [hN] at Ef;rcases J2m.1 Ef with rfl|Ef
  ·rfl
  ·rw [J4o] at Ef;subst Ef;cases e2
 have hL:revL Z.F n'.id false=[2]:=by
  unfold revL;rw [hN,BA,hid];rfl
 rw [hL,J3m] at k2 ⊢;rw [q1];refine⟨rfl,Z',a,u,b,y,d,v,k3.s,k3.alt.c,m.same k1 k3.toSameN,by rw [k2];exact q2,by rw [k3.nx,BA],st.trans k4,fun q hq=>(hB q hq).step k4⟩
theorem J0U {a:AV} (h:E2 5 a):(Q0M 4 a [2]).2=0/\E2 1 (Q0M 4 a [2]).1:=by
 obtain⟨b1,b2,rfl⟩:=h;refine⟨rfl,b1,b2,?_⟩;show (⟨setA (setA (setA en0 1 5 (some (2,15))) 3 7 (some (2,5))) 3 7 (some (2,1)),_⟩:AV)=_;congr 1;funext h s;unfold setA;split <;> rfl
theorem J0V {a:AV} (h:E2 1 a):(Q0M 1 a [2]).2=1/\E4 (Q0M 1 a [2]).1:=by
 obtain⟨b1,b2,rfl⟩:=h;refine⟨rfl,fun h s c hc=>?_,rfl,b1,rfl⟩;have AT:setA (setA (setA en0 1 5 (some (2,15))) 3 7 (some (2,1))) 3 7 none h s=some c:=hc;rcases Q1s AT with ⟨_,_,h0⟩|⟨Aa,h1⟩
 ·cases h0
 ·rcases Q1s h1 with ⟨e1,e2,_⟩|⟨_,h2⟩
  ·exact absurd ⟨e1,e2⟩ Aa
  ·rcases Q1s h2 with ⟨e1,e2,e3⟩|⟨_,h3⟩
   ·exact⟨e1,e2,(J3e e3).symm⟩
   ·cases h3
theorem J0W {s c r0:Nat} {B:List (Nat×List Value)} {w0 wr:World} (h:AlQ s c 2 (E2 r0) B w0 wr) :
  Calls prog 22 #[.pointer (some ⟨s,0,none⟩),.int .u32 3,.int .i64 7] wr fun r w'=>r=.returned (.tuple #[.agg #[.int .i64 1,.int .i64 5],.bool true])/\AlQ s c 2 (E2 r0) B w0 w':=by
 have h':=h;obtain⟨Z,a,u,b,y,d,v,rfl,rfl,m,⟨b1,b2,hC⟩,BA,st,hB⟩:=h;have hN:Z.F.N=[⟨1,b1,⟨1,5,0,[2]⟩⟩,⟨2,b2,⟨3,7,1,[]⟩⟩]:=by show Z.av.N=_;rw [hC]
 have kf:=Z0f st.sep m.ok.fo (x:=3) (z:=7) (by omega) (by omega);have e:Z3Y Z.F.N ((3:Nat):Int) ((7:Nat):Int)=.tuple #[.agg #[.int .i64 1,.int .i64 5],.bool true]:=by
  rw [hN];rfl
 rw [e] at kf;refine kf.mono ?_;rintro r w' ⟨rfl,hb⟩;exact⟨rfl,h'.grown hb⟩
theorem Z9p {s c:Nat} {B:List (Nat×List Value)} {w0 wr:World} (h:AlQ s c 2 E4 B w0 wr) :
  Calls prog 19 #[.pointer (some ⟨s,0,none⟩),.int .u32 1,.int .u32 3,.slice (some ⟨wr.heap.size,0,none⟩) 1 1] (wr.alloc (.cells #[.int .i64 5,.int .i64 9,.int .i64 15,.bool true] 39)) fun r w'=>r=.returned (.int .i64 0)/\AlQ s c 3 E5 B w0 w':=by
 obtain⟨Z,a,x,b,y,d,z,rfl,rfl,m,⟨Fi,Gz,b1,PO⟩,BA,st,hB⟩:=h;have hb:=(Below.refl wr.heap.size wr).alloc (J2h _) (.cells #[.int .i64 5,.int .i64 9,.int .i64 15,.bool true] 39);have st2:=st.sep.grown hb;have BR:=Q5o st.sep ⟨5,9,15,true⟩ ⟨⟨by decide,by decide⟩,⟨by decide,by decide⟩,⟨by decide,by decide⟩⟩;obtain⟨g1,g2,g3⟩:=Q5p 2 a x 4 b y 2 d z;rw [<- m.l] at g1 g3;have Ax:Z.av.en 3 9=none:=by
  cases hh:Z.av.en 3 9 with
  | none=>rfl
  | some c=>have:=(Fi _ _ _ hh).1;omega
 have Am:FitM Z.av.en 1 3 ⟨5,9,15,true⟩:=
  ⟨by decide,by decide,by decide,rfl,⟨(2,15),Gz,by decide,by decide⟩,Ax⟩
 have K1:AsideM Z.hl 1 (fun _=>⟨5,9,15,true⟩) (some ⟨wr.heap.size,0,none⟩) (wr.alloc (.cells #[.int .i64 5,.int .i64 9,.int .i64 15,.bool true] 39)):=BR;have km:=Q2L (n:=1) (cap:=1) (A:=fun _=>⟨5,9,15,true⟩) st2.sep m.ok (by omega) (x:=1) (y:=3) (by omega) (by omega) (by omega) (by omega) K1;refine km.mono ?_;rintro r w' ⟨er,rfl,R⟩;obtain⟨rfl,hz⟩:=R.fine g1 rfl g3 rfl (Q7S Am) fun er hw=>Z1j m [(1,5)] (fun h s c hc=>by
  obtain⟨rfl,rfl,_⟩:=Fi _ _ _ hc;simp) (by simp) (Z2o hw)
 obtain⟨Z',c,b2,av,k1,_,rfl,k2,k3,k4,k5,k6⟩:=hz.grant rfl;obtain rfl:(2,15)=c:=by
  have RI:Z.av.en 1 5=some c:=k1;rw [Gz] at RI;exact J3e RI
 have hid:ownN Z.av.N (1:Int) 5=1:=by rw [PO];rfl
 have E8:(Z'.av).en=setA (setA Z.av.en 3 9 (some (2,15))) 1 5 none:=by
  have ha:setA Z.av.en 3 9 (some (2,15)) 1 5=some (2,15):=by rw [Q5l (by omega)];exact Gz
  have hf:find (addN Z.av.N (ownN Z.av.N (1:Int) 5) (Z.F.next+1) b2 3 9) 1=some ⟨1,b1,⟨1,5,0,[3]⟩⟩:=by rw [PO,BA];rfl
  have hw:=Q2H (m:=15) (a:=⟨setA Z.av.en 3 9 (some (2,15)),addN Z.av.N (ownN Z.av.N (1:Int) 5) (Z.F.next+1) b2 3 9⟩) hf (h:=1) (s:=5) rfl rfl ha;have ho:ownN (addN Z.av.N (ownN Z.av.N (1:Int) 5) (Z.F.next+1) b2 3 9) (1:Int) 5=1:=by rw [PO,BA];rfl
  have RX:weak1 15 ⟨setA Z.av.en 3 9 (some (2,15)),addN Z.av.N (ownN Z.av.N (1:Int) 5) (Z.F.next+1) b2 3 9⟩ (ownN (addN Z.av.N (ownN Z.av.N (1:Int) 5) (Z.F.next+1) b2 3 9) (1:Int) 5)=(Z'.av,true):=k2;rw [ho,hw,if_pos (Q4M 15 (by omega))] at RX;rw [<- (Prod.mk.inj RX).1]
 refine⟨rfl,Z',a,x,b,y,d,z,k4.s,k4.alt.c,m.same k3 k4,⟨fun h s c hc=>?_,by rw [E8];rfl⟩,by rw [k5,BA];rfl,(st.trans st2).trans k6,fun q hq=>((hB q hq).step st2).step k6⟩;rw [E8] at hc;rcases Q1s hc with ⟨_,_,h0⟩|⟨Aa,h1⟩
 ·cases h0
 ·rcases Q1s h1 with ⟨e1,e2,e3⟩|⟨_,h2⟩
  ·exact⟨e1,e2,(J3e e3).symm⟩
  ·obtain⟨e1,e2,_⟩:=Fi _ _ _ h2;exact absurd ⟨e1,e2⟩ Aa
theorem Z6V (l:List Pl) (tb:Nat->TB) (x:Nat):(Q0n l tb x).Nodup:=by
 unfold Q0n;split
 ·exact J6k
 ·split
  ·unfold Q0X;refine J2M.2 ((J6b.filter _).imp fun Aa he=>Aa ?_);omega
  ·exact J6k
theorem Z9q (l:List Pl) (tb:Nat->TB) (h x:Nat):(Q5E l tb h x).Nodup/\∀p∈Q5E l tb h x,p.1=(x:Int):=by
 unfold Q5E Q3s;refine⟨J2M.2 (((Z6V l tb x).filter _).imp fun Aa he=>Aa (Prod.mk.inj he).2),fun p hp=>?_⟩;obtain⟨z,_,rfl⟩:=J2n.1 hp;rfl
theorem Z2q (l:List Pl) (tb:Nat->TB) (h:Nat):∀T:List Nat,T.Nodup->(Q1U l tb h T).Nodup
 | [],_=>J6k
 | x::r,hT=>by
  obtain⟨h1,h2⟩:=J3d.1 hT;have ih:=Z2q l tb h r h2;obtain⟨a1,a2⟩:=Z9q l tb h x;show ((x::r).flatMap (Q5E l tb h)).Nodup;rw [J2E];refine J3a.2 ⟨a1,ih,fun p hp q hq e=>?_⟩;obtain⟨y,hy,s,e2,_⟩:=mem_holdL.1 (show q∈Q1U l tb h r from hq);have e3:=a2 p hp;rw [e,e2] at e3;have:y=x:=by
   have e4:(y:Int)=(x:Int):=e3;omega
  exact h1 (this ▸ hy)
theorem Z0h {Z:SP} {fr:List Nat} {N K:Nat} {M:Int} (ok:Z.Ok fr N K M) {h:Nat} {p:Int×Int}:p∈Q2J Z.S.l Z.tb h↔∃x s r:Nat,p=((x:Int),(s:Int))/\Z.av.en x s=some (h,r):=by
 unfold Q2J;rw [mem_holdL]
 constructor
 ·rintro⟨x,_,s,rfl,_,e,he,rfl⟩;exact⟨x,s,e.r,rfl,Q9B he⟩
 ·rintro⟨x,s,r,rfl,hc⟩;obtain⟨e,he,h2⟩:=Q3r hc;obtain⟨q,q1,_,q3,_⟩:=Q1C he;exact⟨x,(Q1t (by rw [ok.core.inv.len];omega)).2 ⟨q,q1⟩,s,rfl,q3,e,he,(Prod.mk.inj h2).1.symm⟩
theorem Z9r {Z:SP} {fr:List Nat} {N K:Nat} {M:Int} (ok:Z.Ok fr N K M) (h:Nat):(Q2J Z.S.l Z.tb h).Nodup:=Z2q _ _ _ _ (Z4j (by rw [ok.core.inv.len];omega) 1)
theorem Q5q {α:Type} {A B:List α} (ha:A.Nodup) (hb:B.Nodup) (h:∀x,x∈A↔x∈B):A.length=B.length:=
 Nat.le_antisymm (ha.length_le_of_subset fun x hx=>(h x).1 hx) (hb.length_le_of_subset fun x hx=>(h x).2 hx)
theorem Z9s {S:CO} {fr:List Nat} {N K:Nat} (ok:S.Ok fr N K) (hE:S.P.q.E.map En.id=[0]):∃e,find S.P.q.E 0=some e/\e.q.given=0/\e.q.charged=Q0y S.l 0+S.xc 0:=by
 obtain⟨e,PA⟩:∃e,S.P.q.E=[e]:=by
  cases hq:S.P.q.E with
  | nil=>rw [hq] at hE;simp at hE
  | cons e r=>rw [hq] at hE;simp at hE;exact⟨e,by rw [hE.2]⟩
 have hid:e.id=0:=by rw [PA] at hE;simpa using hE
 have hf:find S.P.q.E 0=some e:=by rw [PA];unfold find;rw [if_pos hid.symm]
 refine⟨e,hf,?_,ok.inv.tre.charged 0 e hf⟩;obtain⟨p0,ET,By,_,D1,_,Rd⟩:=ok.inv.que.root;have Be:=(ok.inv.tre.par p0 (J4v ET) (Pl.is_iff.2 (.inl D1)) By e (by rw [Rd];exact hf)).1 Rd;rw [(ok.inv.tre.given 0 e hf).1];refine (Q2S fun x hx=>?_).1;rw [PA,J4o] at hx;rw [hx,Be]
 decide
theorem J0X {Z:SP} {fr:List Nat} {N K:Nat} {M:Int} (ok:Z.Ok fr N K M) (h:∀x s,Z.av.en x s=none) (id:Int):Z.S.xc id=0:=by
 have D3:=Z6T Z.S.l Z.tb id;have El:=Z0M Z.S.l Z.tb id;have h0:∀i s,i<256->s<256->(Z.tb i).en s≠none->False:=fun i s hi hs he=>by
  obtain⟨x,c,_,hc⟩:=ok.entries hi hs he;rw [h] at hc;cases hc
 have h1:=Z0c (tb:=Z.tb) [] fun i s hi hs he=>(h0 i s hi hs he).elim
 have h2:=Z0d ok.tpi.full [] fun i s hi hs he=>(h0 i s hi hs he).elim
 rw [ok.tpi.xc];simp at h1 h2;rw [h1,h2] at D3;simp at D3;omega
def HldQ (s c:Nat) (a:Option Addr) (B:List (Nat×List Value)) (w0 wr:World):Prop:=∃(Z:SP) (u v b y d z:Nat),Z.s=s/\Z.S.c=c/\MkZ Z 1 20000 4 3 (lt3 2 u v 4 b y 2 d z)/\E5 Z.av/\Step [] Z.hl w0 wr/\AsideS Z.hl [(3,9)] a wr/\∀q∈B,AsideV Z.hl q.2 (some ⟨q.1,0,none⟩) wr
theorem Z4b {s c:Nat} {B:List (Nat×List Value)} {w0 wr:World} (h:AlQ s c 3 E5 B w0 wr) :
  Calls prog 23 #[.pointer (some ⟨s,0,none⟩),.int .u32 2] wr fun r w'=>∃(a:Option Addr) (cap:Nat),r=.returned (.slice a 1 cap)/\HldQ s c a B w0 w':=by
 obtain⟨Z,a,x,b,y,d,z,rfl,rfl,m,⟨Fi,Gz⟩,BA,st,hB⟩:=h;have e:Q2J Z.S.l Z.tb 2=[(3,9)]:=by
  have Aw:∀p,p∈Q2J Z.S.l Z.tb 2↔p=(3,9):=fun p=>by
   rw [Z0h m.ok]
   constructor
   ·rintro⟨u,v,r,rfl,hc⟩;obtain⟨rfl,rfl,_⟩:=Fi _ _ _ hc;rfl
   ·rintro rfl;exact⟨3,9,15,rfl,Gz⟩
  have hl:=Q5q (B:=[((3:Int),(9:Int))]) (Z9r m.ok 2) (by simp) fun p=>by rw [Aw];simp
  have NT:=(Aw (3,9)).2 rfl;cases hh:Q2J Z.S.l Z.tb 2 with
  | nil=>rw [hh] at NT;cases NT
  | cons q r =>
   rw [hh] at hl NT;have hr:r=[]:=J4g.1 (by simpa using hl);subst hr;rw [J4o.1 NT]
 refine (Q3t st.sep m.ok 2).mono ?_;intro r w' hr;rw [e] at hr;obtain⟨ad,cap,rfl,hb,has⟩:=hr.aside st.sep;exact⟨ad,cap,rfl,Z,a,x,b,y,d,z,rfl,rfl,m,⟨Fi,Gz⟩,st.trans (st.sep.grown hb),has,fun q hq=>(hB q hq).step (st.sep.grown hb)⟩
structure EndQ (s c:Nat) (a:Option Addr) (B:List (Nat×List Value)) (w0 wr:World):Prop where
 bx:∀q∈B,∀(j:Nat) (v:Value),q.2[j]?=some v->wr.cell? ⟨q.1,j,none⟩=some v
 hl:∃g,a=some ⟨g,0,none⟩/\wr.cell? ⟨g,0,none⟩=some (.int .i64 3)/\wr.cell? ⟨g,1,none⟩=some (.int .i64 9)
 z:∃Z:SP,Z.s=s/\Z.S.c=c/\Z.Ok [] 4 0 3/\(∀x s,Z.av.en x s=none)/\(∃e:En Fa,find Z.S.P.q.E 0=some e/\e.q.charged+e.q.given=352)/\Step [] Z.hl w0 wr
theorem EndQ.grown {s c:Nat} {a:Option Addr} {B:List (Nat×List Value)} {w0 wr w':World} (h:EndQ s c a B w0 wr) (hb:Below wr.heap.size wr w'):EndQ s c a B w0 w':=by
 obtain⟨hB,⟨g,rfl,h1,h2⟩,Z,q1,q2,q3,q4,q5,st⟩:=h;have hg:=World.block_lt_of_cell? wr ⟨g,0,none⟩ h1;exact⟨fun q hq j v hv=>(World.cell?_of_block (w:=wr) (hb.block q.1 (World.block_lt_of_cell? wr ⟨q.1,j,none⟩ (hB q hq j v hv)))).trans (hB q hq j v hv),⟨g,rfl,(World.cell?_of_block (w:=wr) (hb.block g hg)).trans h1,(World.cell?_of_block (w:=wr) (hb.block g hg)).trans h2⟩,Z,q1,q2,q3,q4,q5,st.trans (st.sep.grown hb)⟩
theorem J0Y {s c:Nat} {a:Option Addr} {B:List (Nat×List Value)} {w0 wr:World} (h:HldQ s c a B w0 wr) :
  Calls prog 35 #[.pointer (some ⟨s,0,none⟩),.int .u32 2] wr fun r w'=>∃(ad:Option Addr) (cap:Nat),r=.returned (.tuple #[.slice ad 1 cap,.int .i64 0])/\EndQ s c a B w0 w':=by
 obtain⟨Z,u,v,b,y,d,z,rfl,rfl,m,⟨Fi,Gz⟩,st,has,hB⟩:=h;obtain⟨g1,g2,g3⟩:=Q5p 2 u v 4 b y 2 d z;have Fz:Q0Z Z.S 2=[2]:=by
  have t:=m.ok.core.inv.tree;unfold Q0Z;rw [(Q9e t).2 (by rw [m.l];exact Z9m u v b y d z)];rfl
 refine (Q6L st.sep m.ok (by omega) (h:=2) (by omega)).mono ?_;rintro r w' (⟨h1,_⟩|⟨h1,_⟩|⟨_,_,ad,cap,rfl,Z',I,st2,_⟩)
 ·rw [m.l,g2] at h1;cases h1
 ·cases h1
 ·rw [Fz] at I ⊢;have AZ:∀x s,Z'.av.en x s=none:=fun x s=>by
   rcases I.less.en x s with h1|h1
   ·exact h1
   ·cases hh:Z'.av.en x s with
    | none=>rfl
    | some c =>
     exfalso;have:=(I.out 2 (by simp)).2 x s c hh;rw [h1] at hh;obtain⟨_,_,rfl⟩:=Fi _ _ _ hh;exact this rfl
  have hl:Z'.S.l=(lt3 2 u v 4 b y 2 d z).set 2 ⟨4,b,0,2,0,y⟩:=by
   rw [I.l,m.l];exact Q7N (l:=lt3 2 u v 4 b y 2 d z) (A:=[]) (x:=2) (p:=⟨4,b,0,1,0,y⟩) g2
  have Ae:Z'.S.P.q.E.map En.id=[0]:=by
   obtain⟨b0,ch,hq⟩:=m.q;rw [I.acc,hq];rfl
  obtain⟨e,he,e1,e2⟩:=Z9s I.ok.core Ae;have BB:Q0y Z'.S.l 0=352:=by
   rw [hl]
   kernel_rfl
  refine⟨ad,cap,rfl,fun q hq j v hv=>?_,?_,Z',I.s,I.c,I.ok,AZ,⟨e,he,?_⟩,st.trans st2⟩
  ·obtain⟨g,e,_,_,k4⟩:=((hB q hq).step st2) j v hv;cases e;exact k4
  ·obtain⟨g,rfl,k1,k2,k3,k4⟩:=(has.step st2) 0 (3,9) rfl;exact⟨g,rfl,k3,k4⟩
  ·rw [e2,e1,BB,J0X I.ok AZ];rfl
theorem Z2r {s c x:Nat} {a:Option Addr} {B:List (Nat×List Value)} {w0 wr:World} (h:EndQ s c a B w0 wr) (hx:x<4294967296) :
  Calls prog 25 #[.pointer (some ⟨s,0,none⟩),.int .u32 x] wr fun r w'=>∃(ad:Option Addr) (cap:Nat),r=.returned (.slice ad 0 cap)/\EndQ s c a B w0 w':=by
 have h':=h;obtain⟨_,_,Z,rfl,rfl,ok,hn,_,st⟩:=h;refine (Q3N st.sep ok hx).mono ?_;intro r w' hr;have e:Q0n Z.S.l Z.tb x=[]:=by
  refine J6h.2 fun z hz=>?_
  obtain⟨s,rfl,_,e,he⟩:=mem_slotsL.1 hz;have h0:=av_none.1 (hn x s);rw [he] at h0;cases h0
 rw [e] at hr;obtain⟨ad,cap,rfl,hb,_⟩:=hr.from'
 exact⟨ad,cap,rfl,h'.grown hb⟩
theorem J1P {s c:Nat} {a:Option Addr} {B:List (Nat×List Value)} {w0 wr:World} (h:EndQ s c a B w0 wr) :
  Calls prog 49 #[.pointer (some ⟨c,0,none⟩)] wr fun r w1=>∃p,r=.returned (.pointer (some ⟨p,0,none⟩))/\wr=w1/\Calls prog 51 #[.pointer (some ⟨p,0,none⟩)] w1 fun r w2=>∃q,r=.returned (.pointer (some ⟨q,0,none⟩))/\w1=w2 /\
   Calls prog 52 #[.pointer (some ⟨q,0,none⟩),.int .i64 0] w2 fun r w3=>r=.returned (.int .i64 352)/\Below w0.heap.size w0 w3:=by
 obtain⟨_,_,Z,rfl,rfl,ok,hn,⟨e,he,hu⟩,st⟩:=h;refine (Q2e (SP.sS st.sep)).mono ?_;rintro r w1 ⟨rfl,rfl⟩;refine⟨_,rfl,rfl,(Z2F (CO.sP (SP.sS st.sep))).mono ?_⟩;rintro r w2 ⟨rfl,rfl⟩;refine⟨_,rfl,rfl,(Z4V (PL.sQ (CO.sP (SP.sS st.sep))) ok.core.inv.mem.pool.q he).mono ?_⟩;rintro r w3 ⟨rfl,hb⟩;rw [hu];exact⟨rfl,(st.trans (st.sep.grown hb)).fresh⟩
theorem Q6T {w:World} (h:Env w):Calls prog 14 #[] w (Told w (.bool true)):=by
 have GM:((2 ^ (6+10):Nat):Int)=65536:=by decide
 have k1:=Z1U (Sep.nil h) 6 (by omega) (by omega) 20000 (by omega) (by rw [GM];omega) 1 (by omega) (by omega);rw [GM] at k1;have HQ:Hid (∀r w1,Z6k 6 20000 1 [] w r w1->∃c,r=.returned (.pointer (some ⟨c,0,none⟩))/\Calls prog 16 #[.pointer (some ⟨c,0,none⟩),.int .u32 0,.int .i64 2,.int .i64 0] w1 fun r w2=>r=.returned (.tuple #[.int .u32 1,.int .i64 0]) /\
   Calls prog 16 #[.pointer (some ⟨c,0,none⟩),.int .u32 0,.int .i64 4,.int .i64 0] w2 fun r w3=>r=.returned (.tuple #[.int .u32 2,.int .i64 0]) /\
    Calls prog 16 #[.pointer (some ⟨c,0,none⟩),.int .u32 0,.int .i64 2,.int .i64 0] w3 fun r w4=>r=.returned (.tuple #[.int .u32 3,.int .i64 0]) /\
     Calls prog 17 #[.pointer (some ⟨c,0,none⟩)] w4 fun r w5=>∃s,r=.returned (.pointer (some ⟨s,0,none⟩))/\AlQ s c 0 E0 [] w w5):=by
  rintro r w1 ⟨S,rfl,hf,st⟩;exact⟨S.c,rfl,Z9n hf st⟩
 clear h GM;go_enter func14,ntmps14;go_wp2_with fail;refine k1.mono ?_;intro r w1 hx;obtain⟨c,rfl,hm⟩:=HQ.out _ _ hx;have HM:=Q0a hm;clear hx hm HQ k1;go_wp2_with fail;refine HM.out.mono ?_;rintro r w2 ⟨rfl,hm⟩;have Ts:=Q0a hm;clear hm HM;go_wp2_with fail;refine Ts.out.mono ?_;rintro r w3 ⟨rfl,hm⟩;have Rb:=Q0a hm;clear hm Ts;go_wp2_with fail;refine Rb.out.mono ?_;rintro r w4 ⟨rfl,hm⟩;have SR:=Q0a hm;clear hm Rb;go_wp2_with fail;refine SR.out.mono ?_;rintro r w5 ⟨s,rfl,hq⟩;have H5:=Q0a (J0T hq);clear hq SR;go_wp2_with fail;refine H5.out.mono ?_;rintro r w6 ⟨rfl,hq⟩;have H6:=Q0a (Z9o hq)
 clear hq H5;go_wp2_with fail;refine H6.out.mono ?_;rintro r w7 ⟨rfl,hq⟩;have H7:=Q0a (Z1k (x:=3) (z:=7) hq (.inr rfl) (by omega) (o:=some (2,5)) fun a ⟨b1,b2,e⟩=>by rw [e];rfl);clear hq H6;go_wp2_with fail;refine H7.out.mono ?_;rintro r w8 ⟨rfl,hq⟩;have C6:=hq.box 35 [.int .u32 2,.int .i64 5];have H8:=Q0a (Z0g (mk:=4) C6 (by omega) fun a ha=>J0U ha);clear hq C6 H7;unfold Z4a;go_wp2_with fail;refine H8.out.mono ?_;rintro r w9 ⟨rfl,hq⟩;have H9:=Q0a (Z1k (x:=3) (z:=7) hq (.inr rfl) (by omega) (o:=some (2,1)) fun a ⟨b1,b2,e⟩=>by rw [e];rfl);clear hq H8;go_wp2_with fail;refine H9.out.mono ?_;rintro r w10 ⟨rfl,hq⟩
 have C6:=hq.box 35 [.int .u32 2,.int .i64 1];have R8:=Q0a (J0W C6);clear hq C6 H9;unfold Z4a;go_wp2_with fail;refine R8.out.mono ?_;rintro r w11 ⟨rfl,hq⟩;have C6:=hq.box 46 [.int .i64 1,.int .i64 5];have Sm:=Q0a (Z0g (mk:=1) C6 (by omega) fun a ha=>J0V ha);clear hq C6 R8;go_wp2_with fail;refine Sm.out.mono ?_;rintro r w12 ⟨rfl,hq⟩;have SK:=Q0a (Z1k (x:=3) (z:=7) hq (.inr rfl) (by omega) (o:=none) fun a ⟨e,_⟩=>by
  cases hh:a.en 3 (7:Int).toNat with
  | none=>rfl
  | some c=>have:=(e _ _ _ hh).1;omega)
 clear hq Sm;go_wp2_with fail;refine SK.out.mono ?_;rintro r w13 ⟨rfl,hq⟩;have C6:=hq.box 35 [.int .u32 0,.int .i64 0];have MU:(w13.alloc (.cells #[.int .u32 0,.int .i64 0] 35)).heap.size=w13.heap.size+1:=by simp
 have De:=Z9p C6;rw [MU] at De;have SA:=Q0a De;clear hq C6 SK De MU;unfold Z4a;go_wp2_with fail;refine SA.out.mono ?_;rintro r w14 ⟨rfl,hq⟩;have T7:=Q0a (Z4b hq);clear hq SA;go_wp2_with fail;refine T7.out.mono ?_;rintro r w15 ⟨ha,AM,rfl,hq⟩;have SO:=Q0a (J0Y hq);clear hq T7;go_wp2_with fail;refine SO.out.mono ?_;rintro r w16 ⟨ka,FR,rfl,hq⟩;have BY:=hq.bx;have x0:=BY (w8.heap.size,[.int .u32 2,.int .i64 5]) (by simp) 0 _ rfl;have x1:=BY (w8.heap.size,[.int .u32 2,.int .i64 5]) (by simp) 1 _ rfl;have y0:=BY (w10.heap.size,[.int .u32 2,.int .i64 1]) (by simp) 0 _ rfl;have y1:=BY (w10.heap.size,[.int .u32 2,.int .i64 1]) (by simp) 1 _ rfl
 have z0:=BY (w11.heap.size,[.int .i64 1,.int .i64 5]) (by simp) 0 _ rfl;have z1:=BY (w11.heap.size,[.int .i64 1,.int .i64 5]) (by simp) 1 _ rfl;obtain⟨g,rfl,q0,q1⟩:=hq.hl;simp only at x0 x1 y0 y1 z0 z1;have Sp:=Q0a (Z2r (x:=3) hq (by omega));clear hq BY SO;go_wp2_with fail;refine Sp.out.mono ?_;rintro r w17 ⟨sa,scap,rfl,hq⟩;have RS:=Q0a (Z2r (x:=1) hq (by omega));clear hq Sp x0 x1 y0 y1 z0 z1 q0 q1;go_wp2_with fail;refine RS.out.mono ?_;rintro r w18 ⟨sa2,scap2,rfl,hq⟩;have Tc:=Q0a (J1P hq);clear hq RS;go_wp2_with fail;refine Tc.out.mono ?_;rintro r w19 ⟨pp,rfl,rfl,hq⟩;have Tg:=Q0a hq
 clear hq Tc;go_wp2_with fail;refine Tg.out.mono ?_;rintro r w20 ⟨qq,rfl,rfl,hq⟩;have SC:=Q0a hq;clear hq Tg;go_wp2_with fail;refine SC.out.mono ?_;rintro r w21 ⟨rfl,hb⟩;have HR:Hid (Told w (.bool true) (.returned (.bool true)) w21):=⟨rfl,hb⟩
 clear hb SC;go_wp2_with fail
 first|exact HR.out|(go_ret;exact HR.out)
end Go.Proofs.YtlakjlmaboioiaaGreatDoor
namespace Go.Proofs.YtlakjlmaboioiaaGreatDoor
open Go.ChangeShapes Go.WideShapes Go.ChangeAt Go.RowKit Go.Deep Go.Proofs.Tryz
end Go.Proofs.YtlakjlmaboioiaaGreatDoor
namespace Go.Proofs.YtlakjlmaboioiaaGreatDoor
open Go.RowKit Go.Proofs.Tryz
def Q2i (b o:Int):Bool:=decide (0<=b/\b<256/\0<=o/\o<=7/\b.toNat%2 ^ o.toNat=0)
theorem J0Z (n k:Nat) (hn:n<256) (hk:k<=7):bits .and .i64 (n:Int) (((2 ^ k-1:Nat):Int))=((n%2 ^ k:Nat):Int):=by
 have hp:2 ^ k-1<2 ^ 63:=by
  have:2 ^ k<=2 ^ 7:=J3v (by omega) hk;omega
 rw [Q7h n (2 ^ k-1) (by omega) hp,J3M]
theorem Q6U (w:World) (b o:Int):Calls prog 169 #[.int .i64 b,.int .i64 o] w fun r w'=>r=.returned (.bool (Q2i b o))/\w=w':=by
 unfold Q2i;by_cases h1:0<=b
 ·by_cases h2:b<256
  ·by_cases h3:0<=o
   ·by_cases h4:o<=7
    ·obtain⟨n,rfl⟩:=J3L h1;obtain⟨k,rfl⟩:=J3L h3;have hb:=J0Z n k (by omega) (by omega);rw [show (decide (0<=(n:Int)/\(n:Int)<256/\0<=(k:Int)/\(k:Int)<=7/\(n:Int).toNat%2 ^ (k:Int).toNat=0))=(((n%2 ^ k:Nat):Int)==0) by
      rw [J3m,J3m];by_cases h:n%2 ^ k=0
      ·rw [h];simp;omega
      ·rw [decide_eq_false (by rintro⟨_,_,_,_,e⟩;exact h e)];exact (beq_false_of_ne (by omega)).symm]
     rw [<- hb];clear hb;have hk:k=0∨k=1∨k=2∨k=3∨k=4∨k=5∨k=6∨k=7:=by omega
     clear h3 h4;go_enter func169,ntmps169;rcases hk with rfl|rfl|rfl|rfl|rfl|rfl|rfl|rfl <;> (go_wp2_with fail;go_ret;exact⟨rfl,rfl⟩)
    ·rw [decide_eq_false (by omega)];go_enter func169,ntmps169;go_wp2_with fail;go_ret;exact⟨rfl,rfl⟩
   ·rw [decide_eq_false (by omega)];go_enter func169,ntmps169;go_wp2_with fail;go_ret;exact⟨rfl,rfl⟩
  ·rw [decide_eq_false (by omega)];go_enter func169,ntmps169;go_wp2_with fail;go_ret;exact⟨rfl,rfl⟩
 ·rw [decide_eq_false (by omega)];go_enter func169,ntmps169;go_wp2_with fail;go_ret;exact⟨rfl,rfl⟩
theorem J1a (w:World) (v:Wi):Calls prog 91 #[.agg #[.int .i64 v.base,.int .i64 v.order]] w (Told w (.bool (Q2i v.base v.order))):=by
 obtain⟨b,o⟩:=v;dsimp only at *
 have ka:=Q6U (w.alloc (.cells #[.int .i64 b,.int .i64 o] 56)) b o;have HB:Hid (Below w.heap.size w (w.alloc (.cells #[.int .i64 b,.int .i64 o] 56))):=(Below.refl w.heap.size w).alloc (J2h _) _;go_enter func91,ntmps91;go_wp2_with fail;refine ka.mono ?_;rintro r w' ⟨rfl,rfl⟩;clear ka;go_wp2_with fail;go_ret;exact⟨rfl,HB.out⟩
def Q8B (i:It):Bool:=Q2i i.base i.order&&decide (1<=i.r/\i.r<=15/\0<=i.off/\i.off<256)
theorem Z9t (w:World) (i:It):Calls prog 90 #[.agg #[.int .i64 i.base,.int .i64 i.order,.int .i64 i.r,.int .i64 i.off,.bool i.g]] w fun r w'=>∃x:Int,r=.returned (.tuple #[.int .u64 x,.bool (Q8B i)])/\Below w.heap.size w w':=by
 obtain⟨b,o,ri,f,g⟩:=i;unfold Q8B;dsimp only;have ka:=Q6U (w.alloc (.cells #[.int .i64 b,.int .i64 o,.int .i64 ri,.int .i64 f,.bool g] 54)) b o;have HB:Hid (Below w.heap.size w (w.alloc (.cells #[.int .i64 b,.int .i64 o,.int .i64 ri,.int .i64 f,.bool g] 54))):=(Below.refl w.heap.size w).alloc (J2h _) _;generalize Q2i b o=al at *
 obtain⟨cv,Cu⟩:∃cv,cv=(al&&decide (1<=ri/\ri<=15/\0<=f/\f<256)):=⟨_,rfl⟩
 rw [<- Cu];go_enter func90,ntmps90;go_wp2_with fail;refine ka.mono ?_;rintro r w' ⟨rfl,rfl⟩;clear ka;cases al with
 | false =>
  obtain rfl:cv=false:=Cu;go_wp2_with fail;go_ret2;exact⟨_,rfl,HB.out⟩
 | true =>
  rw [J3x] at Cu;by_cases h1:ri<1
  ·obtain rfl:cv=false:=by rw [Cu,decide_eq_false (by omega)]
   clear Cu;go_wp2_with fail;go_ret2;exact⟨_,rfl,HB.out⟩
  ·by_cases h2:ri>15
   ·obtain rfl:cv=false:=by rw [Cu,decide_eq_false (by omega)]
    clear Cu;go_wp2_with fail;go_ret2;exact⟨_,rfl,HB.out⟩
   ·by_cases h3:f<0
    ·obtain rfl:cv=false:=by rw [Cu,decide_eq_false (by omega)]
     clear Cu;go_wp2_with fail;go_ret2;exact⟨_,rfl,HB.out⟩
    ·by_cases h4:f≥256
     ·obtain rfl:cv=false:=by rw [Cu,decide_eq_false (by omega)]
      clear Cu;go_wp2_with fail;go_ret2;exact⟨_,rfl,HB.out⟩
     ·obtain rfl:cv=true:=by rw [Cu,decide_eq_true (by omega)]
      clear Cu;cases g with
      | false =>
       go_wp2_with fail;go_ret2;exact⟨_,rfl,HB.out⟩
      | true =>
       go_wp2_with fail;go_ret2;exact⟨_,rfl,HB.out⟩
theorem J1Q:(prog.info? 39).map (fun i=>(i.zero,i.size,i.bytes))=some (some (.agg #[.int .i64 0,.int .i64 0,.int .i64 0,.bool false]),4,32):=by kernel_rfl
theorem Q6V:∀L:List Mv,(L.flatMap Mv.cells).length=L.length*4
 | []=>rfl
 | p::r=>by rw [J2E,J2R,Q6V r];simp [Mv.cells];omega
theorem Q3R:∀(L:List Mv) (k i:Nat) (m:Mv) (v:Value),L[k]?=some m->m.cells[i]?=some v->(L.flatMap Mv.cells)[k*4+i]?=some v
 | [],k,i,m,v,h,_=>by simp at h
 | p::r,k,i,m,v,h,hv=>by
  rw [J2E];have hi:i<4:=by have:=(J2y.1 hv).1;simpa [Mv.cells] using this
  have hp:p.cells.length=4:=rfl;cases k with
  | zero =>
   simp at h;subst h;rw [J5u (by rw [hp];omega),show 0*4+i=i by omega];exact hv
  | succ k =>
   rw [J5v (by rw [hp];omega),hp,show (k+1)*4+i-4=k*4+i by omega];exact Q3R r k i m v (by simpa using h) hv
def OutM (w wr:World) (v:Value) (L:List Mv):Prop:=wr.ownsRow w.heap.size 39 4 v L.length (L.flatMap Mv.cells)/\Below w.heap.size w wr
theorem OutM.nil (w:World):OutM w w (.slice none 0 0) []:=⟨World.ownsRow_nil _ _ _ _,Below.refl _ _⟩
theorem OutM.below {w wr w1:World} {v:Value} {L:List Mv} (h:OutM w wr v L) (hb:Below wr.heap.size wr w1):OutM w w1 v L:=
 ⟨Q5z h.1 (fun b Al=>hb.block b (h.1.lt b Al).2),h.2.trans (hb.mono h.2.size)⟩
theorem OutM.app {w wr:World} {v:Value} {L:List Mv} (h:OutM w wr v L) (hl:L.length<=16777216) (m:Mv) (ty:TypeId):∃v' w',(Builtin.append_ #[58,58] ty #[v,.slice (some ⟨wr.heap.size,0,none⟩) 1 1]).run prog (wr.alloc (.cells #[.int .i64 m.src,.int .i64 m.dst,.int .i64 m.r,.bool m.g] 39))=.ok v' w'/\OutM w w' v' (L++[m]):=by
 obtain⟨i0,hi,BN,Bt,Bp⟩:=info_parts J1Q;have h2:=h.below ((Below.refl wr.heap.size wr).alloc (J2h _) (.cells #[.int .i64 m.src,.int .i64 m.dst,.int .i64 m.r,.bool m.g] 39));have hc:=Q6V L;obtain⟨v',w',hr,q1,q2,_,q4⟩:=run_append_own_at (P:=prog) (wr.alloc (.cells #[.int .i64 m.src,.int .i64 m.dst,.int .i64 m.r,.bool m.g] 39)) w.heap.size 58 ty 39 i0 (.agg #[.int .i64 0,.int .i64 0,.int .i64 0,.bool false]) 4 32 underlying58 hi BN Bt Bp rfl (by decide) v L.length (L.flatMap Mv.cells) h2.1 ⟨wr.heap.size,0,none⟩ 1 1 m.cells (by simp [Mv.cells]) (by
  intro j u hj;have:=(Cells.new wr 39 m.cells).cell j u hj;have e:(⟨wr.heap.size,0,none⟩:Addr).add j=⟨wr.heap.size,j,none⟩:=by unfold Addr.add;split <;> simp_all
  rw [e];exact this) (fun u hu=>by
   have h4:u=.int .i64 m.src∨u=.int .i64 m.dst∨u=.int .i64 m.r∨u=.bool m.g:=by simpa [Mv.cells] using hu
   rcases h4 with rfl|rfl|rfl|rfl <;> rfl) (by unfold maxLen;omega) (by omega) h2.2.size
 refine⟨v',w',hr,?_,?_⟩
 ·rw [J2R,J2P];have e:[m].flatMap Mv.cells=m.cells:=by simp
  rw [e];exact q1
 ·exact h2.2.trans ((Below.refl _ _).mono h2.2.size |>.grown q2 h2.2.size (fun b hb=>(h2.1.lt b hb).1))
def itMv (i:It) (v:Wi) (k:Nat):Mv:=⟨i.base+k,v.base+i.off+k,i.r,i.g⟩
def movV (f:Nat->Bool) (i:It) (v:Wi) (k:Nat):List Mv:=((List.range k).filter f).map (itMv i v)
theorem Z6W (f:Nat->Bool) (i:It) (v:Wi) (k:Nat):movV f i v (k+1)=movV f i v k++if f k=true then [itMv i v k] else []:=by
 unfold movV;rw [J2s,J4e,J5K];cases h:f k <;> simp [h]
theorem Z2s (f:Nat->Bool) (i:It) (v:Wi) (k:Nat):(movV f i v k).length<=k:=by
 unfold movV;rw [J3Q];refine J2i (J4w _ _) ?_;rw [J3R];exact J2h _
def Q4q (i:It) (v:Wi):Bool:=Q8B i&&(Q2i v.base v.order&&(decide (i.base<128)==decide (v.base<128)))
theorem Q2M {b o:Int} (h:Q2i b o=true):0<=b/\0<=o/\o<=7/\b.toNat+2 ^ o.toNat<=256/\2 ^ o.toNat<=128:=by
 unfold Q2i at h;obtain⟨h1,h2,h3,h4,h5⟩:=of_decide_eq_true h;obtain⟨n,rfl⟩:=J3L h1;obtain⟨k,rfl⟩:=J3L h3;rw [J3m,J3m] at *
 have hk:k=0∨k=1∨k=2∨k=3∨k=4∨k=5∨k=6∨k=7:=by omega
 refine⟨h1,h3,h4,?_,?_⟩
 ·rcases hk with rfl|rfl|rfl|rfl|rfl|rfl|rfl|rfl <;> simp at h5 ⊢ <;> omega
 ·rcases hk with rfl|rfl|rfl|rfl|rfl|rfl|rfl|rfl <;> simp
end Go.Proofs.YtlakjlmaboioiaaGreatDoor
