/- SpaceRevokes returns true at every input. No condition. Part of its proof. -/
import Derived.Test.YtlakjlmaboioiaaGreatDoorSv27
set_option maxHeartbeats 8000000
set_option maxRecDepth 100000
set_option linter.unusedVariables false
namespace Go.Proofs.YtlakjlmaboioiaaGreatDoor
open Go.RowKit Go.Proofs.Tryz
theorem Z0P {l:List Pl} {i:Nat} {p:Pl} (h:l[i]?=some p) (hp:p.st=0) (ha:∀j,j<i->∃q,l[j]?=some q/\q.st≠0):Fst l i p:=⟨h,hp,fun j q hj hq=>by
 obtain⟨q',e1,e2⟩:=ha j hj;rw [hq] at e1;cases e1;exact e2⟩
def lt1 (k a x:Nat):List Pl:=(newL 64).set 1 ⟨k,a,0,1,0,x⟩
def lt2 (k a x m b y:Nat):List Pl:=(lt1 k a x).set 2 ⟨m,b,0,1,0,y⟩
def lt3 (k a x m b y n c z:Nat):List Pl:=(lt2 k a x m b y).set 3 ⟨n,c,0,1,0,z⟩
theorem J1n:(newL 64)[0]?=some ⟨1,64,0,1,0,0⟩/\Fst (newL 64) 1 (noPl 0):=⟨rfl,Z0P rfl rfl fun j hj=>by
 obtain rfl:j=0:=by omega
 exact⟨_,rfl,by decide⟩⟩
theorem J1o (k a x:Nat):(lt1 k a x)[0]?=some ⟨1,64,0,1,0,0⟩/\Fst (lt1 k a x) 2 (noPl 0):=⟨rfl,Z0P rfl rfl fun j hj=>by
 have:j=0∨j=1:=by omega
 rcases this with rfl|rfl
 ·exact⟨_,rfl,by decide⟩
 ·exact⟨_,rfl,(by decide:(1:Nat)≠0)⟩⟩
theorem J1p (k a x m b y:Nat):(lt2 k a x m b y)[0]?=some ⟨1,64,0,1,0,0⟩/\Fst (lt2 k a x m b y) 3 (noPl 0):=⟨rfl,Z0P rfl rfl fun j hj=>by
 have:j=0∨j=1∨j=2:=by omega
 rcases this with rfl|rfl|rfl
 ·exact⟨_,rfl,by decide⟩
 ·exact⟨_,rfl,(by decide:(1:Nat)≠0)⟩
 ·exact⟨_,rfl,(by decide:(1:Nat)≠0)⟩⟩
theorem Q5l (k a x m b y n c z:Nat):pget (lt3 k a x m b y n c z) 1 1=some ⟨k,a,0,1,0,x⟩/\pget (lt3 k a x m b y n c z) 1 2=some ⟨m,b,0,1,0,y⟩/\pget (lt3 k a x m b y n c z) 1 3=some ⟨n,c,0,1,0,z⟩:=⟨by kernel_rfl,by kernel_rfl,by kernel_rfl⟩
theorem J1q (k a x m b y n c z:Nat):((lt3 k a x m b y n c z).filter Pl.is).length=4:=by kernel_rfl
theorem Z8N (a x b y c z:Nat):Q0A (lt3 2 a x 4 b y 2 c z) 0=352:=by kernel_rfl
theorem Z8O (a x b y c z:Nat):kids (lt3 2 a x 4 b y 2 c z) 2=[]:=by kernel_rfl
def AlQ (s c:Nat) (M:Int) (C:AV->Prop) (B:List (Nat×List Value)) (w0 wr:World):Prop:=∃Z a x b y d z,Z.s=s/\Z.S.c=c/\MkZ Z 1 20000 4 M (lt3 2 a x 4 b y 2 d z)/\C Z.av/\Z.F.next=M/\Step [] Z.hl w0 wr/\∀q∈B,AsideV Z.hl q.2 (some ⟨q.1,0,none⟩) wr
theorem AlQ.grown {s c:Nat} {M:Int} {C:AV->Prop} {B:List (Nat×List Value)} {w0 wr w':World} (h:AlQ s c M C B w0 wr) (hb:Below wr.heap.size wr w'):AlQ s c M C B w0 w':=by
 obtain⟨Z,a,x,b,y,d,z,h1,h2,h3,h4,h5,st,hB⟩:=h;exact⟨Z,a,x,b,y,d,z,h1,h2,h3,h4,h5,st.trans (st.sep.grown hb),fun q hq=>(hB q hq).step (st.sep.grown hb)⟩
theorem AlQ.box {s c:Nat} {M:Int} {C:AV->Prop} {B:List (Nat×List Value)} {w0 wr:World} (h:AlQ s c M C B w0 wr) (T:TypeId) (cs:List Value):AlQ s c M C ((wr.heap.size,cs)::B) w0 (wr.alloc (.cells cs.toArray T)):=by
 obtain⟨Z,a,x,b,y,d,z,h1,h2,h3,h4,h5,st,hB⟩:=h;have hb:=(Below.refl wr.heap.size wr).alloc (J1L _) (.cells cs.toArray T);refine⟨Z,a,x,b,y,d,z,h1,h2,h3,h4,h5,st.trans (st.sep.grown hb),fun q hq=>?_⟩;rcases J1Q.1 hq with rfl|hq
 ·exact Q2J st.sep T cs
 ·exact (hB q hq).step (st.sep.grown hb)
def en0:Nat->Nat->Option (Nat×Nat):=fun _ _=>none
def E0 (a:AV):Prop:=a=⟨en0,[]⟩
def E1 (a:AV):Prop:=∃b1,a=⟨setA en0 1 5 (some (2,15)),[⟨1,b1,⟨1,5,0,[]⟩⟩]⟩
def E2 (r:Nat) (a:AV):Prop:=∃b1 b2,a=⟨setA (setA en0 1 5 (some (2,15))) 3 7 (some (2,r)),[⟨1,b1,⟨1,5,0,[2]⟩⟩,⟨2,b2,⟨3,7,1,[]⟩⟩]⟩
def E4 (a:AV):Prop:=(∀h s c,a.en h s=some c->h=1/\s=5/\c=(2,15))/\a.en 1 5=some (2,15)/\∃b1,a.N=[⟨1,b1,⟨1,5,0,[]⟩⟩]
def E5 (a:AV):Prop:=(∀h s c,a.en h s=some c->h=3/\s=9/\c=(2,15))/\a.en 3 9=some (2,15)
theorem Q1X {en:Nat->Nat->Option (Nat×Nat)} {h s h' s':Nat} {o:Option (Nat×Nat)} {c:Nat×Nat} (e:setA en h s o h' s'=some c):(h'=h/\s'=s/\o=some c)∨(¬(h'=h/\s'=s)/\en h' s'=some c):=by
 by_cases hh:h'=h/\s'=s
 ·rw [hh.1,hh.2,Q8W] at e;exact .inl ⟨hh.1,hh.2,e⟩
 ·rw [Q5h hh] at e;exact .inr ⟨hh,e⟩
theorem Z8P {w w1:World} {S:CO} (f:Q8S S 6 20000 1) (st:Step [] (S.hl++[]) w w1) :
  Calls prog 16 #[.pointer (some ⟨S.c,0,none⟩),.int .u32 0,.int .i64 2,.int .i64 0] w1 fun r w2=>r=.returned (.tuple #[.int .u32 1,.int .i64 0]) /\
   Calls prog 16 #[.pointer (some ⟨S.c,0,none⟩),.int .u32 0,.int .i64 4,.int .i64 0] w2 fun r w3=>r=.returned (.tuple #[.int .u32 2,.int .i64 0]) /\
    Calls prog 16 #[.pointer (some ⟨S.c,0,none⟩),.int .u32 0,.int .i64 2,.int .i64 0] w3 fun r w4=>r=.returned (.tuple #[.int .u32 3,.int .i64 0]) /\
     Calls prog 17 #[.pointer (some ⟨S.c,0,none⟩)] w4 fun r w5=>∃s,r=.returned (.pointer (some ⟨s,0,none⟩))/\AlQ s S.c 0 E0 [] w w5:=by
 refine (Z0O (J0t f st) 2 1 (by omega) (by decide) (by omega) (by omega) fun l hl=>by subst hl;exact J1n).mono ?_;rintro r w2 ⟨rfl,q2⟩;refine⟨rfl,(Z0O q2 4 2 (by omega) (by decide) (by omega) (by omega) fun l hl=>by
  obtain⟨l0,a,x,rfl,rfl⟩:=hl;exact J1o 2 a x).mono ?_⟩
 rintro r w3 ⟨rfl,q3⟩;refine⟨rfl,(Z0O q3 2 3 (by omega) (by decide) (by omega) (by omega) fun l hl=>by
  obtain⟨l0,b,y,⟨l1,a,x,rfl,rfl⟩,rfl⟩:=hl;exact J1p 2 a x 4 b y).mono ?_⟩
 rintro r w4 ⟨rfl,S4,l,ec,⟨l0,d,z,⟨l1,b,y,⟨l2,a,x,rfl,rfl⟩,rfl⟩,rfl⟩,m,st4⟩;refine⟨rfl,?_⟩;rw [<- ec];refine (Z1P st4.sep fun _=>TB.emp).mono ?_;rintro r w5 ⟨Z,rfl,hZ,st5⟩;obtain⟨m1,m2,m3⟩:=J0v m hZ;exact⟨Z.s,rfl,Z,a,x,b,y,d,z,rfl,by rw [hZ.S],m1,m2,m3,st4.trans st5,fun q hq=>by cases hq⟩
theorem Z0Q {Z:SP} {M:Int} {a x b y d z:Nat} (m:MkZ Z 1 20000 4 M (lt3 2 a x 4 b y 2 d z)) (E:List (Nat×Nat)) (hE:∀h s c,Z.av.en h s=some c->(h%256,s)∈E) (hl:E.length<=2) {i s:Nat} {er:Int}:¬WhyL Z [] 0 i s er:=by
 refine m.room E (E.map fun p=>(p.1,p.2/16)) hE (fun u v h=>J1R.2 ⟨_,h,rfl⟩) (o:=4) (by rw [J1q];exact J1L _) (by rw [J3v];omega) (cs:=352) (Z8N a x b y d z) (by rw [J3v];omega)
theorem J0w {s c:Nat} {B:List (Nat×List Value)} {w0 wr:World} (h:AlQ s c 0 E0 B w0 wr) :
  Calls prog 18 #[.pointer (some ⟨s,0,none⟩),.int .u32 1,.int .i64 5,.agg #[.int .u32 2,.int .i64 15]] wr fun r w'=>r=.returned (.int .i64 0)/\AlQ s c 1 E1 B w0 w':=by
 obtain⟨Z,a,x,b,y,d,z,rfl,rfl,m,hC,Bw,st,hB⟩:=h;refine (Q9z st.sep m.ok (by omega) (x:=1) (h:=2) (by omega) (by omega) 5 15).mono ?_;rintro r w' ⟨er,rfl,R⟩;obtain⟨g1,g2,g3⟩:=Q5l 2 a x 4 b y 2 d z;rw [<- m.l] at g1 g2;unfold E0 at hC;obtain⟨rfl,Z',k1,k2,k3,⟨b1,k4⟩,k5,k6⟩:=R.fine g1 rfl (by omega) g2 (by omega) (by show (4:Nat)=8↔(128:Int)<=5;decide) (by rw [hC];rfl) fun er=>Z0Q m [] (fun h s c hc=>by rw [hC] at hc;cases hc) (by simp)
 refine⟨rfl,Z',a,x,b,y,d,z,k2.s,k2.alt.c,m.same k1 k2,⟨b1,?_⟩,by rw [k5,Bw];rfl,st.trans k6,fun q hq=>(hB q hq).step k6⟩;have hN:Z.F.N=[]:=by show Z.av.N=_;rw [hC]
 rw [hN,Bw] at k4;rw [hC] at k3;generalize hz:Z'.av=av at k3 k4;obtain⟨en,N⟩:=av;simp only at k3 k4;rw [k3,k4];rfl
theorem Z8Q {s c:Nat} {B:List (Nat×List Value)} {w0 wr:World} (h:AlQ s c 1 E1 B w0 wr) :
  Calls prog 19 #[.pointer (some ⟨s,0,none⟩),.int .u32 1,.int .u32 3,.slice (some ⟨wr.heap.size,0,none⟩) 1 1] (wr.alloc (.cells #[.int .i64 5,.int .i64 7,.int .i64 5,.bool false] 39)) fun r w'=>r=.returned (.int .i64 0)/\AlQ s c 2 (E2 5) B w0 w':=by
 obtain⟨Z,a,x,b,y,d,z,rfl,rfl,m,⟨b1,hC⟩,Bw,st,hB⟩:=h;have hb:=(Below.refl wr.heap.size wr).alloc (J1L _) (.cells #[.int .i64 5,.int .i64 7,.int .i64 5,.bool false] 39);have st2:=st.sep.grown hb;have BY:=Q7z st.sep ⟨5,7,5,false⟩ ⟨⟨by decide,by decide⟩,⟨by decide,by decide⟩,⟨by decide,by decide⟩⟩;obtain⟨g1,g2,g3⟩:=Q5l 2 a x 4 b y 2 d z;rw [<- m.l] at g1 g3;have Am:FitM Z.av.en 1 3 ⟨5,7,5,false⟩:=by
  rw [hC];exact⟨by decide,by decide,by decide,rfl,⟨(2,15),rfl,by decide,by decide⟩,rfl⟩
 have JM:AsideM Z.hl 1 (fun _=>⟨5,7,5,false⟩) (some ⟨wr.heap.size,0,none⟩) (wr.alloc (.cells #[.int .i64 5,.int .i64 7,.int .i64 5,.bool false] 39)):=BY;have km:=Q3t (n:=1) (cap:=1) (A:=fun _=>⟨5,7,5,false⟩) st2.sep m.ok (by omega) (x:=1) (y:=3) (by omega) (by omega) (by omega) (by omega) JM;refine km.mono ?_;rintro r w' ⟨er,rfl,R⟩;obtain⟨rfl,hz⟩:=R.fine g1 rfl g3 rfl (Q7y Am) fun er hw=>Z0Q m [(1,5)] (fun h s c hc=>by
  rw [hC] at hc;rcases Q1X hc with ⟨rfl,rfl,_⟩|⟨_,h0⟩
  ·simp
  ·cases h0) (by simp) (Z2a hw)
 obtain⟨Z',c,b2,k1,k2,k3,k4,k5,k6⟩:=hz.one rfl;rw [hC] at k1 k2;obtain rfl:(2,15)=c:=by simpa [setA] using k1
 refine⟨rfl,Z',a,x,b,y,d,z,k4.s,k4.alt.c,m.same k3 k4,⟨b1,b2,?_⟩,by rw [k5,Bw];rfl,(st.trans st2).trans k6,fun q hq=>((hB q hq).step st2).step k6⟩;rw [k2,Bw];rfl
theorem Z0R {s c x:Nat} {M z:Int} {C:AV->Prop} {B:List (Nat×List Value)} {w0 wr:World} (h:AlQ s c M C B w0 wr) (hx:x=1∨x=3) (hz:0<=z/\z<256) {o:Option (Nat×Nat)} (ho:∀a,C a->a.en x z.toNat=o) :
  Calls prog 21 #[.pointer (some ⟨s,0,none⟩),.int .u32 x,.int .i64 z] wr fun r w'=>r=.returned (Q9L o)/\AlQ s c M C B w0 w':=by
 have h':=h;obtain⟨Z,a,u,b,y,d,v,rfl,rfl,m,hC,Bw,st,hB⟩:=h;obtain⟨g1,g2,g3⟩:=Q5l 2 a u 4 b y 2 d v;rw [<- m.l] at g1 g3;obtain⟨p,hp,hk⟩:∃p,pget Z.S.l 1 x=some p/\p.kind=2:=by
  rcases hx with rfl|rfl
  ·exact⟨_,g1,rfl⟩
  ·exact⟨_,g3,rfl⟩
 have kl:=Q6w st.sep m.ok (x:=x) (by omega) z;rw [Z2b hp hk hz,ho _ hC] at kl;refine kl.mono ?_;rintro r w' ⟨rfl,hb⟩;exact⟨rfl,h'.grown hb⟩
theorem Q9M {s c:Nat} {r0 mk:Nat} {B:List (Nat×List Value)} {w0 wr:World} (h:AlQ s c 2 (E2 r0) B w0 wr) (hm:1<=mk/\mk<=15) {C:AV->Prop} {n:Nat} (ET:∀a,E2 r0 a->(Q0y mk a [2]).2=n/\C (Q0y mk a [2]).1) :
  Calls prog 20 #[.pointer (some ⟨s,0,none⟩),.int .u32 1,.int .i64 5,.int .i64 mk,.bool false] wr fun r w'=>r=.returned (.tuple #[.int .i64 n,.int .i64 0])/\AlQ s c 2 C B w0 w':=by
 obtain⟨Z,a,u,b,y,d,v,rfl,rfl,m,hC,Bw,st,hB⟩:=h;obtain⟨g1,g2,g3⟩:=Q5l 2 a u 4 b y 2 d v;rw [<- m.l] at g1;obtain⟨q1,q2⟩:=ET _ hC;obtain⟨b1,b2,hC⟩:=hC;have hN:Z.F.N=[⟨1,b1,⟨1,5,0,[2]⟩⟩,⟨2,b2,⟨3,7,1,[]⟩⟩]:=by show Z.av.N=_;rw [hC]
 refine (Q2W st.sep m.ok (x:=1) (by omega) 5 (mk:Int) false).mono ?_;intro r w' R;obtain⟨n',Dc,e1,e2,rfl,Z',k1,k2,k3,k4⟩:=R.fine g1 rfl (by omega) (by omega) (c:=(2,15)) (by rw [hC];rfl);have hid:n'.id=1:=by
  rw [hN] at Dc;rcases J1Q.1 Dc with rfl|Dc
  ·rfl
  ·rw [J3T] at Dc;subst Dc;cases e2
 have hL:revL Z.F n'.id false=[2]:=by
  unfold revL;rw [hN,Bw,hid];rfl
 rw [hL,J2R] at k2 ⊢;rw [q1];refine⟨rfl,Z',a,u,b,y,d,v,k3.s,k3.alt.c,m.same k1 k3.toSameN,by rw [k2];exact q2,by rw [k3.nx,Bw],st.trans k4,fun q hq=>(hB q hq).step k4⟩
theorem J0x {a:AV} (h:E2 5 a):(Q0y 4 a [2]).2=0/\E2 1 (Q0y 4 a [2]).1:=by
 obtain⟨b1,b2,rfl⟩:=h;refine⟨rfl,b1,b2,?_⟩;show (⟨setA (setA (setA en0 1 5 (some (2,15))) 3 7 (some (2,5))) 3 7 (some (2,1)),_⟩:AV)=_;congr 1;funext h s;unfold setA;split <;> rfl
theorem J0y {a:AV} (h:E2 1 a):(Q0y 1 a [2]).2=1/\E4 (Q0y 1 a [2]).1:=by
 obtain⟨b1,b2,rfl⟩:=h;refine⟨rfl,fun h s c hc=>?_,rfl,b1,rfl⟩;have Be:setA (setA (setA en0 1 5 (some (2,15))) 3 7 (some (2,1))) 3 7 none h s=some c:=hc;rcases Q1X Be with ⟨_,_,h0⟩|⟨Aa,h1⟩
 ·cases h0
 ·rcases Q1X h1 with ⟨e1,e2,_⟩|⟨_,h2⟩
  ·exact absurd ⟨e1,e2⟩ Aa
  ·rcases Q1X h2 with ⟨e1,e2,e3⟩|⟨_,h3⟩
   ·exact⟨e1,e2,(J2J e3).symm⟩
   ·cases h3
theorem J0z {s c r0:Nat} {B:List (Nat×List Value)} {w0 wr:World} (h:AlQ s c 2 (E2 r0) B w0 wr) :
  Calls prog 22 #[.pointer (some ⟨s,0,none⟩),.int .u32 3,.int .i64 7] wr fun r w'=>r=.returned (.tuple #[.agg #[.int .i64 1,.int .i64 5],.bool true])/\AlQ s c 2 (E2 r0) B w0 w':=by
 have h':=h;obtain⟨Z,a,u,b,y,d,v,rfl,rfl,m,⟨b1,b2,hC⟩,Bw,st,hB⟩:=h;have hN:Z.F.N=[⟨1,b1,⟨1,5,0,[2]⟩⟩,⟨2,b2,⟨3,7,1,[]⟩⟩]:=by show Z.av.N=_;rw [hC]
 have kf:=Q9K st.sep m.ok.fo (x:=3) (z:=7) (by omega) (by omega);have e:Z3L Z.F.N ((3:Nat):Int) ((7:Nat):Int)=.tuple #[.agg #[.int .i64 1,.int .i64 5],.bool true]:=by
  rw [hN];rfl
 rw [e] at kf;refine kf.mono ?_;rintro r w' ⟨rfl,hb⟩;exact⟨rfl,h'.grown hb⟩
theorem Z8R {s c:Nat} {B:List (Nat×List Value)} {w0 wr:World} (h:AlQ s c 2 E4 B w0 wr) :
  Calls prog 19 #[.pointer (some ⟨s,0,none⟩),.int .u32 1,.int .u32 3,.slice (some ⟨wr.heap.size,0,none⟩) 1 1] (wr.alloc (.cells #[.int .i64 5,.int .i64 9,.int .i64 15,.bool true] 39)) fun r w'=>r=.returned (.int .i64 0)/\AlQ s c 3 E5 B w0 w':=by
 obtain⟨Z,a,x,b,y,d,z,rfl,rfl,m,⟨ET,FG,b1,OS⟩,Bw,st,hB⟩:=h;have hb:=(Below.refl wr.heap.size wr).alloc (J1L _) (.cells #[.int .i64 5,.int .i64 9,.int .i64 15,.bool true] 39);have st2:=st.sep.grown hb;have BY:=Q7z st.sep ⟨5,9,15,true⟩ ⟨⟨by decide,by decide⟩,⟨by decide,by decide⟩,⟨by decide,by decide⟩⟩;obtain⟨g1,g2,g3⟩:=Q5l 2 a x 4 b y 2 d z;rw [<- m.l] at g1 g3;have Av:Z.av.en 3 9=none:=by
  cases hh:Z.av.en 3 9 with
  | none=>rfl
  | some c=>have:=(ET _ _ _ hh).1;omega
 have Am:FitM Z.av.en 1 3 ⟨5,9,15,true⟩:=
  ⟨by decide,by decide,by decide,rfl,⟨(2,15),FG,by decide,by decide⟩,Av⟩
 have JM:AsideM Z.hl 1 (fun _=>⟨5,9,15,true⟩) (some ⟨wr.heap.size,0,none⟩) (wr.alloc (.cells #[.int .i64 5,.int .i64 9,.int .i64 15,.bool true] 39)):=BY;have km:=Q3t (n:=1) (cap:=1) (A:=fun _=>⟨5,9,15,true⟩) st2.sep m.ok (by omega) (x:=1) (y:=3) (by omega) (by omega) (by omega) (by omega) JM;refine km.mono ?_;rintro r w' ⟨er,rfl,R⟩;obtain⟨rfl,hz⟩:=R.fine g1 rfl g3 rfl (Q7y Am) fun er hw=>Z0Q m [(1,5)] (fun h s c hc=>by
  obtain⟨rfl,rfl,_⟩:=ET _ _ _ hc;simp) (by simp) (Z2a hw)
 obtain⟨Z',c,b2,av,k1,_,rfl,k2,k3,k4,k5,k6⟩:=hz.grant rfl;obtain rfl:(2,15)=c:=by
  have Ru:Z.av.en 1 5=some c:=k1;rw [FG] at Ru;exact J2J Ru
 have hid:ownN Z.av.N (1:Int) 5=1:=by rw [OS];rfl
 have Da:(Z'.av).en=setA (setA Z.av.en 3 9 (some (2,15))) 1 5 none:=by
  have ha:setA Z.av.en 3 9 (some (2,15)) 1 5=some (2,15):=by rw [Q5h (by omega)];exact FG
  have hf:find (addN Z.av.N (ownN Z.av.N (1:Int) 5) (Z.F.next+1) b2 3 9) 1=some ⟨1,b1,⟨1,5,0,[3]⟩⟩:=by rw [OS,Bw];rfl
  have hw:=Q1W (m:=15) (a:=⟨setA Z.av.en 3 9 (some (2,15)),addN Z.av.N (ownN Z.av.N (1:Int) 5) (Z.F.next+1) b2 3 9⟩) hf (h:=1) (s:=5) rfl rfl ha;have ho:ownN (addN Z.av.N (ownN Z.av.N (1:Int) 5) (Z.F.next+1) b2 3 9) (1:Int) 5=1:=by rw [OS,Bw];rfl
  have RW:weak1 15 ⟨setA Z.av.en 3 9 (some (2,15)),addN Z.av.N (ownN Z.av.N (1:Int) 5) (Z.F.next+1) b2 3 9⟩ (ownN (addN Z.av.N (ownN Z.av.N (1:Int) 5) (Z.F.next+1) b2 3 9) (1:Int) 5)=(Z'.av,true):=k2;rw [ho,hw,if_pos (Q4H 15 (by omega))] at RW;rw [<- (Prod.mk.inj RW).1]
 refine⟨rfl,Z',a,x,b,y,d,z,k4.s,k4.alt.c,m.same k3 k4,⟨fun h s c hc=>?_,by rw [Da];rfl⟩,by rw [k5,Bw];rfl,(st.trans st2).trans k6,fun q hq=>((hB q hq).step st2).step k6⟩;rw [Da] at hc;rcases Q1X hc with ⟨_,_,h0⟩|⟨Aa,h1⟩
 ·cases h0
 ·rcases Q1X h1 with ⟨e1,e2,e3⟩|⟨_,h2⟩
  ·exact⟨e1,e2,(J2J e3).symm⟩
  ·obtain⟨e1,e2,_⟩:=ET _ _ _ h2;exact absurd ⟨e1,e2⟩ Aa
theorem Z6F (l:List Pl) (tb:Nat->TB) (x:Nat):(Q0q l tb x).Nodup:=by
 unfold Q0q;split
 ·exact J5P
 ·split
  ·unfold Q0X;refine J2q.2 ((J5G.filter _).imp fun Aa he=>Aa ?_);omega
  ·exact J5P
theorem Z8S (l:List Pl) (tb:Nat->TB) (h x:Nat):(Q5x l tb h x).Nodup/\∀p∈Q5x l tb h x,p.1=(x:Int):=by
 unfold Q5x Q3p;refine⟨J2q.2 (((Z6F l tb x).filter _).imp fun Aa he=>Aa (Prod.mk.inj he).2),fun p hp=>?_⟩;obtain⟨z,_,rfl⟩:=J1R.1 hp;rfl
theorem Z2c (l:List Pl) (tb:Nat->TB) (h:Nat):∀T:List Nat,T.Nodup->(Q1M l tb h T).Nodup
 | [],_=>J5P
 | x::r,hT=>by
  obtain⟨h1,h2⟩:=J2I.1 hT;have ih:=Z2c l tb h r h2;obtain⟨a1,a2⟩:=Z8S l tb h x;show ((x::r).flatMap (Q5x l tb h)).Nodup;rw [J2i];refine J2F.2 ⟨a1,ih,fun p hp q hq e=>?_⟩;obtain⟨y,hy,s,e2,_⟩:=mem_holdL.1 (show q∈Q1M l tb h r from hq);have e3:=a2 p hp;rw [e,e2] at e3;have:y=x:=by
   have e4:(y:Int)=(x:Int):=e3;omega
  exact h1 (this ▸ hy)
theorem Q3u {Z:SP} {fr:List Nat} {N K:Nat} {M:Int} (ok:Z.Ok fr N K M) {h:Nat} {p:Int×Int}:p∈Q1v Z.S.l Z.tb h↔∃x s r:Nat,p=((x:Int),(s:Int))/\Z.av.en x s=some (h,r):=by
 unfold Q1v;rw [mem_holdL]
 constructor
 ·rintro⟨x,_,s,rfl,_,e,he,rfl⟩;exact⟨x,s,e.r,rfl,Q6K he⟩
 ·rintro⟨x,s,r,rfl,hc⟩;obtain⟨e,he,h2⟩:=Q2T hc;obtain⟨q,q1,_,q3,_⟩:=Q1s he;exact⟨x,(Q3X (by rw [ok.core.inv.len];omega)).2 ⟨q,q1⟩,s,rfl,q3,e,he,(Prod.mk.inj h2).1.symm⟩
theorem Q8j {Z:SP} {fr:List Nat} {N K:Nat} {M:Int} (ok:Z.Ok fr N K M) (h:Nat):(Q1v Z.S.l Z.tb h).Nodup:=Z2c _ _ _ _ (Z3W (by rw [ok.core.inv.len];omega) 1)
theorem Q7A {α:Type} {A B:List α} (ha:A.Nodup) (hb:B.Nodup) (h:∀x,x∈A↔x∈B):A.length=B.length:=
 Nat.le_antisymm (ha.length_le_of_subset fun x hx=>(h x).1 hx) (hb.length_le_of_subset fun x hx=>(h x).2 hx)
theorem Z8T {S:CO} {fr:List Nat} {N K:Nat} (ok:S.Ok fr N K) (hE:S.P.q.E.map En.id=[0]):∃e,find S.P.q.E 0=some e/\e.q.given=0/\e.q.charged=Q0A S.l 0+S.xc 0:=by
 obtain⟨e,NE⟩:∃e,S.P.q.E=[e]:=by
  cases hq:S.P.q.E with
  | nil=>rw [hq] at hE;simp at hE
  | cons e r=>rw [hq] at hE;simp at hE;exact⟨e,by rw [hE.2]⟩
 have hid:e.id=0:=by rw [NE] at hE;simpa using hE
 have hf:find S.P.q.E 0=some e:=by rw [NE];unfold find;rw [if_pos hid.symm]
 refine⟨e,hf,?_,ok.inv.tre.charged 0 e hf⟩;obtain⟨p0,EC,Bx,_,DI,_,RF⟩:=ok.inv.que.root;have AW:=(ok.inv.tre.par p0 (J4a EC) (Pl.is_iff.2 (.inl DI)) Bx e (by rw [RF];exact hf)).1 RF;rw [(ok.inv.tre.given 0 e hf).1];refine (Q2Q fun x hx=>?_).1;rw [NE,J3T] at hx;rw [hx,AW]
 decide
theorem J0A {Z:SP} {fr:List Nat} {N K:Nat} {M:Int} (ok:Z.Ok fr N K M) (h:∀x s,Z.av.en x s=none) (id:Int):Z.S.xc id=0:=by
 have Dr:=Z6D Z.S.l Z.tb id;have DS:=Z0s Z.S.l Z.tb id;have h0:∀i s,i<256->s<256->(Z.tb i).en s≠none->False:=fun i s hi hs he=>by
  obtain⟨x,c,_,hc⟩:=ok.entries hi hs he;rw [h] at hc;cases hc
 have h1:=Q9H (tb:=Z.tb) [] fun i s hi hs he=>(h0 i s hi hs he).elim
 have h2:=Q9I ok.tpi.full [] fun i s hi hs he=>(h0 i s hi hs he).elim
 rw [ok.tpi.xc];simp at h1 h2;rw [h1,h2] at Dr;simp at Dr;omega
def HldQ (s c:Nat) (a:Option Addr) (B:List (Nat×List Value)) (w0 wr:World):Prop:=∃(Z:SP) (u v b y d z:Nat),Z.s=s/\Z.S.c=c/\MkZ Z 1 20000 4 3 (lt3 2 u v 4 b y 2 d z)/\E5 Z.av/\Step [] Z.hl w0 wr/\AsideS Z.hl [(3,9)] a wr/\∀q∈B,AsideV Z.hl q.2 (some ⟨q.1,0,none⟩) wr
theorem Z3N {s c:Nat} {B:List (Nat×List Value)} {w0 wr:World} (h:AlQ s c 3 E5 B w0 wr) :
  Calls prog 23 #[.pointer (some ⟨s,0,none⟩),.int .u32 2] wr fun r w'=>∃(a:Option Addr) (cap:Nat),r=.returned (.slice a 1 cap)/\HldQ s c a B w0 w':=by
 obtain⟨Z,a,x,b,y,d,z,rfl,rfl,m,⟨ET,FG⟩,Bw,st,hB⟩:=h;have e:Q1v Z.S.l Z.tb 2=[(3,9)]:=by
  have Ay:∀p,p∈Q1v Z.S.l Z.tb 2↔p=(3,9):=fun p=>by
   rw [Q3u m.ok]
   constructor
   ·rintro⟨u,v,r,rfl,hc⟩;obtain⟨rfl,rfl,_⟩:=ET _ _ _ hc;rfl
   ·rintro rfl;exact⟨3,9,15,rfl,FG⟩
  have hl:=Q7A (B:=[((3:Int),(9:Int))]) (Q8j m.ok 2) (by simp) fun p=>by rw [Ay];simp
  have Nj:=(Ay (3,9)).2 rfl;cases hh:Q1v Z.S.l Z.tb 2 with
  | nil=>rw [hh] at Nj;cases Nj
  | cons q r =>
   rw [hh] at hl Nj;have hr:r=[]:=J3L.1 (by simpa using hl);subst hr;rw [J3T.1 Nj]
 refine (Q1K st.sep m.ok 2).mono ?_;intro r w' hr;rw [e] at hr;obtain⟨ad,cap,rfl,hb,has⟩:=hr.aside st.sep;exact⟨ad,cap,rfl,Z,a,x,b,y,d,z,rfl,rfl,m,⟨ET,FG⟩,st.trans (st.sep.grown hb),has,fun q hq=>(hB q hq).step (st.sep.grown hb)⟩
structure EndQ (s c:Nat) (a:Option Addr) (B:List (Nat×List Value)) (w0 wr:World):Prop where
 bx:∀q∈B,∀(j:Nat) (v:Value),q.2[j]?=some v->wr.cell? ⟨q.1,j,none⟩=some v
 hl:∃g,a=some ⟨g,0,none⟩/\wr.cell? ⟨g,0,none⟩=some (.int .i64 3)/\wr.cell? ⟨g,1,none⟩=some (.int .i64 9)
 z:∃Z:SP,Z.s=s/\Z.S.c=c/\Z.Ok [] 4 0 3/\(∀x s,Z.av.en x s=none)/\(∃e:En Fa,find Z.S.P.q.E 0=some e/\e.q.charged+e.q.given=352)/\Step [] Z.hl w0 wr
theorem EndQ.grown {s c:Nat} {a:Option Addr} {B:List (Nat×List Value)} {w0 wr w':World} (h:EndQ s c a B w0 wr) (hb:Below wr.heap.size wr w'):EndQ s c a B w0 w':=by
 obtain⟨hB,⟨g,rfl,h1,h2⟩,Z,q1,q2,q3,q4,q5,st⟩:=h;have hg:=World.block_lt_of_cell? wr ⟨g,0,none⟩ h1;exact⟨fun q hq j v hv=>(World.cell?_of_block (w:=wr) (hb.block q.1 (World.block_lt_of_cell? wr ⟨q.1,j,none⟩ (hB q hq j v hv)))).trans (hB q hq j v hv),⟨g,rfl,(World.cell?_of_block (w:=wr) (hb.block g hg)).trans h1,(World.cell?_of_block (w:=wr) (hb.block g hg)).trans h2⟩,Z,q1,q2,q3,q4,q5,st.trans (st.sep.grown hb)⟩
theorem J0B {s c:Nat} {a:Option Addr} {B:List (Nat×List Value)} {w0 wr:World} (h:HldQ s c a B w0 wr) :
  Calls prog 35 #[.pointer (some ⟨s,0,none⟩),.int .u32 2] wr fun r w'=>∃(ad:Option Addr) (cap:Nat),r=.returned (.tuple #[.slice ad 1 cap,.int .i64 0])/\EndQ s c a B w0 w':=by
 obtain⟨Z,u,v,b,y,d,z,rfl,rfl,m,⟨ET,FG⟩,st,has,hB⟩:=h;obtain⟨g1,g2,g3⟩:=Q5l 2 u v 4 b y 2 d z;have Fs:Z3z Z.S 2=[2]:=by
  have t:=m.ok.core.inv.tree;unfold Z3z;rw [(Q8J t).2 (by rw [m.l];exact Z8O u v b y d z)];rfl
 refine (Q9w st.sep m.ok (by omega) (h:=2) (by omega)).mono ?_;rintro r w' (⟨h1,_⟩|⟨h1,_⟩|⟨_,_,ad,cap,rfl,Z',I,st2,_⟩)
 ·rw [m.l,g2] at h1;cases h1
 ·cases h1
 ·rw [Fs] at I ⊢;have AU:∀x s,Z'.av.en x s=none:=fun x s=>by
   rcases I.less.en x s with h1|h1
   ·exact h1
   ·cases hh:Z'.av.en x s with
    | none=>rfl
    | some c =>
     exfalso;have:=(I.out 2 (by simp)).2 x s c hh;rw [h1] at hh;obtain⟨_,_,rfl⟩:=ET _ _ _ hh;exact this rfl
  have hl:Z'.S.l=(lt3 2 u v 4 b y 2 d z).set 2 ⟨4,b,0,2,0,y⟩:=by
   rw [I.l,m.l];exact Q7t (l:=lt3 2 u v 4 b y 2 d z) (A:=[]) (x:=2) (p:=⟨4,b,0,1,0,y⟩) g2
  have Ae:Z'.S.P.q.E.map En.id=[0]:=by
   obtain⟨b0,ch,hq⟩:=m.q;rw [I.acc,hq];rfl
  obtain⟨e,he,e1,e2⟩:=Z8T I.ok.core Ae;have Bu:Q0A Z'.S.l 0=352:=by
   rw [hl]
   kernel_rfl
  refine⟨ad,cap,rfl,fun q hq j v hv=>?_,?_,Z',I.s,I.c,I.ok,AU,⟨e,he,?_⟩,st.trans st2⟩
  ·obtain⟨g,e,_,_,k4⟩:=((hB q hq).step st2) j v hv;cases e;exact k4
  ·obtain⟨g,rfl,k1,k2,k3,k4⟩:=(has.step st2) 0 (3,9) rfl;exact⟨g,rfl,k3,k4⟩
  ·rw [e2,e1,Bu,J0A I.ok AU];rfl
theorem Z2d {s c x:Nat} {a:Option Addr} {B:List (Nat×List Value)} {w0 wr:World} (h:EndQ s c a B w0 wr) (hx:x<4294967296) :
  Calls prog 25 #[.pointer (some ⟨s,0,none⟩),.int .u32 x] wr fun r w'=>∃(ad:Option Addr) (cap:Nat),r=.returned (.slice ad 0 cap)/\EndQ s c a B w0 w':=by
 have h':=h;obtain⟨_,_,Z,rfl,rfl,ok,hn,_,st⟩:=h;refine (Q7p st.sep ok hx).mono ?_;intro r w' hr;have e:Q0q Z.S.l Z.tb x=[]:=by
  refine J5M.2 fun z hz=>?_
  obtain⟨s,rfl,_,e,he⟩:=mem_slotsL.1 hz;have h0:=av_none.1 (hn x s);rw [he] at h0;cases h0
 rw [e] at hr;obtain⟨ad,cap,rfl,hb,_⟩:=hr.from'
 exact⟨ad,cap,rfl,h'.grown hb⟩
theorem J1r {s c:Nat} {a:Option Addr} {B:List (Nat×List Value)} {w0 wr:World} (h:EndQ s c a B w0 wr) :
  Calls prog 49 #[.pointer (some ⟨c,0,none⟩)] wr fun r w1=>∃p,r=.returned (.pointer (some ⟨p,0,none⟩))/\wr=w1/\Calls prog 51 #[.pointer (some ⟨p,0,none⟩)] w1 fun r w2=>∃q,r=.returned (.pointer (some ⟨q,0,none⟩))/\w1=w2 /\
   Calls prog 52 #[.pointer (some ⟨q,0,none⟩),.int .i64 0] w2 fun r w3=>r=.returned (.int .i64 352)/\Below w0.heap.size w0 w3:=by
 obtain⟨_,_,Z,rfl,rfl,ok,hn,⟨e,he,hu⟩,st⟩:=h;refine (Q2d (SP.sS st.sep)).mono ?_;rintro r w1 ⟨rfl,rfl⟩;refine⟨_,rfl,rfl,(Z2t (CO.sP (SP.sS st.sep))).mono ?_⟩;rintro r w2 ⟨rfl,rfl⟩;refine⟨_,rfl,rfl,(Z4I (PL.sQ (CO.sP (SP.sS st.sep))) ok.core.inv.mem.pool.q he).mono ?_⟩;rintro r w3 ⟨rfl,hb⟩;rw [hu];exact⟨rfl,(st.trans (st.sep.grown hb)).fresh⟩
theorem Z0S {w:World} (h:Env w):Calls prog 14 #[] w (Told w (.bool true)):=by
 have Ki:((2 ^ (6+10):Nat):Int)=65536:=by decide
 have k1:=Z1H (Sep.nil h) 6 (by omega) (by omega) 20000 (by omega) (by rw [Ki];omega) 1 (by omega) (by omega);rw [Ki] at k1;have HQ:Hid (∀r w1,Z5U 6 20000 1 [] w r w1->∃c,r=.returned (.pointer (some ⟨c,0,none⟩))/\Calls prog 16 #[.pointer (some ⟨c,0,none⟩),.int .u32 0,.int .i64 2,.int .i64 0] w1 fun r w2=>r=.returned (.tuple #[.int .u32 1,.int .i64 0]) /\
   Calls prog 16 #[.pointer (some ⟨c,0,none⟩),.int .u32 0,.int .i64 4,.int .i64 0] w2 fun r w3=>r=.returned (.tuple #[.int .u32 2,.int .i64 0]) /\
    Calls prog 16 #[.pointer (some ⟨c,0,none⟩),.int .u32 0,.int .i64 2,.int .i64 0] w3 fun r w4=>r=.returned (.tuple #[.int .u32 3,.int .i64 0]) /\
     Calls prog 17 #[.pointer (some ⟨c,0,none⟩)] w4 fun r w5=>∃s,r=.returned (.pointer (some ⟨s,0,none⟩))/\AlQ s c 0 E0 [] w w5):=by
  rintro r w1 ⟨S,rfl,hf,st⟩;exact⟨S.c,rfl,Z8P hf st⟩
 clear h Ki;go_enter func14,ntmps14;go_wp2_with fail;refine k1.mono ?_;intro r w1 hx;obtain⟨c,rfl,hm⟩:=HQ.out _ _ hx;have HM:=Q0a hm;clear hx hm HQ k1;go_wp2_with fail;refine HM.out.mono ?_;rintro r w2 ⟨rfl,hm⟩;have Qx:=Q0a hm;clear hm HM;go_wp2_with fail;refine Qx.out.mono ?_;rintro r w3 ⟨rfl,hm⟩;have PI:=Q0a hm;clear hm Qx;go_wp2_with fail;refine PI.out.mono ?_;rintro r w4 ⟨rfl,hm⟩;have Qk:=Q0a hm;clear hm PI;go_wp2_with fail;refine Qk.out.mono ?_;rintro r w5 ⟨s,rfl,hq⟩;have H5:=Q0a (J0w hq);clear hq Qk;go_wp2_with fail;refine H5.out.mono ?_;rintro r w6 ⟨rfl,hq⟩;have H6:=Q0a (Z8Q hq)
 clear hq H5;go_wp2_with fail;refine H6.out.mono ?_;rintro r w7 ⟨rfl,hq⟩;have H7:=Q0a (Z0R (x:=3) (z:=7) hq (.inr rfl) (by omega) (o:=some (2,5)) fun a ⟨b1,b2,e⟩=>by rw [e];rfl);clear hq H6;go_wp2_with fail;refine H7.out.mono ?_;rintro r w8 ⟨rfl,hq⟩;have CT:=hq.box 35 [.int .u32 2,.int .i64 5];have H8:=Q0a (Q9M (mk:=4) CT (by omega) fun a ha=>J0x ha);clear hq CT H7;unfold Q9L;go_wp2_with fail;refine H8.out.mono ?_;rintro r w9 ⟨rfl,hq⟩;have H9:=Q0a (Z0R (x:=3) (z:=7) hq (.inr rfl) (by omega) (o:=some (2,1)) fun a ⟨b1,b2,e⟩=>by rw [e];rfl);clear hq H8;go_wp2_with fail;refine H9.out.mono ?_;rintro r w10 ⟨rfl,hq⟩
 have CT:=hq.box 35 [.int .u32 2,.int .i64 1];have RN:=Q0a (J0z CT);clear hq CT H9;unfold Q9L;go_wp2_with fail;refine RN.out.mono ?_;rintro r w11 ⟨rfl,hq⟩;have CT:=hq.box 46 [.int .i64 1,.int .i64 5];have Rq:=Q0a (Q9M (mk:=1) CT (by omega) fun a ha=>J0y ha);clear hq CT RN;go_wp2_with fail;refine Rq.out.mono ?_;rintro r w12 ⟨rfl,hq⟩;have QF:=Q0a (Z0R (x:=3) (z:=7) hq (.inr rfl) (by omega) (o:=none) fun a ⟨e,_⟩=>by
  cases hh:a.en 3 (7:Int).toNat with
  | none=>rfl
  | some c=>have:=(e _ _ _ hh).1;omega)
 clear hq Rq;go_wp2_with fail;refine QF.out.mono ?_;rintro r w13 ⟨rfl,hq⟩;have CT:=hq.box 35 [.int .u32 0,.int .i64 0];have LY:(w13.alloc (.cells #[.int .u32 0,.int .i64 0] 35)).heap.size=w13.heap.size+1:=by simp
 have C6:=Z8R CT;rw [LY] at C6;have Rb:=Q0a C6;clear hq CT QF C6 LY;unfold Q9L;go_wp2_with fail;refine Rb.out.mono ?_;rintro r w14 ⟨rfl,hq⟩;have Qr:=Q0a (Z3N hq);clear hq Rb;go_wp2_with fail;refine Qr.out.mono ?_;rintro r w15 ⟨ha,AH,rfl,hq⟩;have Ro:=Q0a (J0B hq);clear hq Qr;go_wp2_with fail;refine Ro.out.mono ?_;rintro r w16 ⟨ka,Fx,rfl,hq⟩;have BX:=hq.bx;have x0:=BX (w8.heap.size,[.int .u32 2,.int .i64 5]) (by simp) 0 _ rfl;have x1:=BX (w8.heap.size,[.int .u32 2,.int .i64 5]) (by simp) 1 _ rfl;have y0:=BX (w10.heap.size,[.int .u32 2,.int .i64 1]) (by simp) 0 _ rfl;have y1:=BX (w10.heap.size,[.int .u32 2,.int .i64 1]) (by simp) 1 _ rfl
 have z0:=BX (w11.heap.size,[.int .i64 1,.int .i64 5]) (by simp) 0 _ rfl;have z1:=BX (w11.heap.size,[.int .i64 1,.int .i64 5]) (by simp) 1 _ rfl;obtain⟨g,rfl,q0,q1⟩:=hq.hl;simp only at x0 x1 y0 y1 z0 z1;have PH:=Q0a (Z2d (x:=3) hq (by omega));clear hq BX Ro;go_wp2_with fail;refine PH.out.mono ?_;rintro r w17 ⟨sa,scap,rfl,hq⟩;have Q7:=Q0a (Z2d (x:=1) hq (by omega));clear hq PH x0 x1 y0 y1 z0 z1 q0 q1;go_wp2_with fail;refine Q7.out.mono ?_;rintro r w18 ⟨sa2,scap2,rfl,hq⟩;have RM:=Q0a (J1r hq);clear hq Q7;go_wp2_with fail;refine RM.out.mono ?_;rintro r w19 ⟨pp,rfl,rfl,hq⟩;have Qv:=Q0a hq
 clear hq RM;go_wp2_with fail;refine Qv.out.mono ?_;rintro r w20 ⟨qq,rfl,rfl,hq⟩;have Q0:=Q0a hq;clear hq Qv;go_wp2_with fail;refine Q0.out.mono ?_;rintro r w21 ⟨rfl,hb⟩;have HR:Hid (Told w (.bool true) (.returned (.bool true)) w21):=⟨rfl,hb⟩
 clear hb Q0;go_wp2_with fail
 first|exact HR.out|(go_ret;exact HR.out)
theorem Z6G {N:List (En Nd)} {next:Int} (ok:NOk N next) {x y u v:Int} (h:Q2X N x y=some (u,v)):ownN N x y∈kdF N (ownN N u v):=by
 unfold Q2X at h;cases hf:find N (ownN N x y) with
 | none=>rw [hf] at h;cases h
 | some n =>
  rw [hf] at h;simp only at h;cases hm:find N n.q.par with
  | none=>rw [hm] at h;cases h
  | some m =>
   rw [hm] at h;obtain⟨n1,n2⟩:=Q0b hf;obtain⟨m1,m2⟩:=Q0b hm;have hq:(m.q.sp,m.q.sl)=(u,v):=by simpa using h
   have BQ:=ok.rng m m1;obtain⟨p,p1,p2⟩:=(ok.par n n1).2 (by omega);rw [hm] at p1;cases p1;have ho:ownN N u v=m.id:=by
    have:=Q0J ok m1;rw [show m.q.sp=u from congrArg Prod.fst hq,show m.q.sl=v from congrArg Prod.snd hq] at this;exact this
   rw [ho];unfold kdF;rw [Q0g ok.ids m1,<- n2];exact p2
theorem Q7B {N:List (En Nd)} {next:Int} (ok:NOk N next) {id x:Int} (h:x∈Q0x (kdF N) (rkF next) id):∃n,find N x=some n/\n∈N/\n.id=x:=by
 obtain⟨h1,h2⟩:=(Q1V ok.tree).1 h;rcases h1.last with h3|⟨z,_,hz⟩
 ·exact absurd h3 h2
 ·unfold kdF at hz;cases hf:find N z with
  | none=>rw [hf] at hz;cases hz
  | some p =>
   rw [hf] at hz;obtain⟨e,he,_⟩:=ok.kids p (Q0b hf).1 x hz;exact⟨e,he,(Q0b he).1,(Q0b he).2⟩
def Turn (N:List (En Nd)):List Int->List Int->Prop
 | _,[]=>True
 | A,x::r=>(∃n,find N x=some n)/\x∉A/\(∀y∈kdF N x,y∈A)/\Turn N (A++[x]) r
section
variable {N:List (En Nd)} {next:Int}
theorem Z0T (ok:NOk N next):∀(L A:List Int),(A++L).Pairwise (fun a b=>a≠b/\¬Dn (kdF N) a b)->(∀x∈L,∃n,find N x=some n)->(∀x∈L,∀y∈kdF N x,y∈A++L)->Turn N A L
 | [],_,_,_,_=>trivial
 | x::r,A,hp,hn,hk=>by
  obtain⟨p1,p2,p3⟩:=J2z.1 hp;obtain⟨p4,p5⟩:=J2m.1 p2;refine⟨hn x (by simp),fun hx=>(p3 x hx x (by simp)).1 rfl,fun y hy=>?_,Z0T ok r (A++[x]) (by rw [J2M];exact hp) (fun z hz=>hn z (by simp [hz])) fun z hz y hy=>?_⟩
  ·rcases J2A.1 (hk x (by simp) y hy) with h|h
   ·exact h
   ·exfalso;rcases J1Q.1 h with rfl|h
    ·exact Nat.lt_irrefl _ (ok.tree.dn _ _ hy)
    ·exact (p4 y h).2 (.down x y y hy (.here y))
  ·rw [J2M];exact hk z (by simp [hz]) y hy
theorem Z8U (ok:NOk N next) {id:Int} {n:En Nd} (hf:find N id=some n) (self:Bool):Turn N [] (Q0x (kdF N) (rkF next) id++if self=true then [id] else []):=by
 have hb:∀x∈Q0x (kdF N) (rkF next) id,Dn (kdF N) id x/\x≠id:=fun x hx=>(Q1V ok.tree).1 hx
 have Dl:∀x,Dn (kdF N) id x->∀y∈kdF N x,y∈Q0x (kdF N) (rkF next) id:=fun x hx y hy=>by
  refine (Q1V ok.tree).2 ⟨hx.trans (.down x y y hy (.here y)),fun e=>?_⟩;subst e;have h1:=ok.tree.dn _ _ hy;have h2:=(hx.rank ok.tree).1;omega
 cases self with
 | false =>
  rw [if_neg (by decide),J3S];exact Z0T ok _ [] (Q5f ok.tree id) (fun x hx=>by obtain⟨m,h,_⟩:=Q7B ok hx;exact⟨m,h⟩) fun x hx y hy=>Dl x (hb x hx).1 y hy
 | true =>
  rw [if_pos rfl];refine Z0T ok _ [] ?_ (fun x hx=>?_) fun x hx y hy=>?_
  ·rw [J3W];refine J2z.2 ⟨Q5f ok.tree id,List.pairwise_singleton _ _,fun a ha b Ak=>?_⟩;rw [J3T] at Ak;subst Ak;refine⟨(hb a ha).2,fun hd=>?_⟩;have h1:=((hb a ha).1.rank ok.tree).2;have h2:=(hd.rank ok.tree).1;rcases h1 with h1|h1
   ·exact (hb a ha).2 h1
   ·omega
  ·rcases J2A.1 hx with hx|hx
   ·obtain⟨m,h,_⟩:=Q7B ok hx;exact⟨m,h⟩
   ·rw [J3T.1 hx];exact⟨n,hf⟩
  ·rw [J3W];rcases J2A.1 hx with hx|hx
   ·exact J2H _ (Dl x (hb x hx).1 y hy)
   ·rw [J3T.1 hx] at hy;exact J2H _ (Dl id (.here id) y hy)
theorem Turn.nodup:∀(L A:List Int),Turn N A L->L.Nodup/\∀x∈L,x∉A/\∃n,find N x=some n
 | [],_,_=>⟨J5P,fun x h=>by cases h⟩
 | x::r,A,⟨h1,h2,_,h4⟩=>by
  obtain⟨i1,i2⟩:=Turn.nodup r (A++[x]) h4;refine⟨J2I.2 ⟨fun hx=>(i2 x hx).1 (by simp),i1⟩,fun y hy=>?_⟩;rcases J1Q.1 hy with rfl|hy
  ·exact⟨h2,h1⟩
  ·exact⟨fun h=>(i2 y hy).1 (J2H _ h),(i2 y hy).2⟩
end
theorem J1s:∀r,r<16->less r 15=0:=by decide
structure TakenI (a:AV) (next:Int) (A:List Int) (b:AV):Prop where
 ok:AvOk b next
 en:∀u v:Nat,b.en u v=if ownN a.N (u:Int) (v:Int)∈A then none else a.en u v
 own:∀u v:Nat,ownN b.N (u:Int) (v:Int)=if ownN a.N (u:Int) (v:Int)∈A then 0 else ownN a.N (u:Int) (v:Int)
 fr:∀u v:Nat,ownN a.N (u:Int) (v:Int)∉A->Q2X b.N (u:Int) (v:Int)=Q2X a.N (u:Int) (v:Int)
theorem TakenI.start {a:AV} {next:Int} (k:AvOk a next):TakenI a next [] a:=⟨k,fun _ _=>by simp,fun _ _=>by simp,fun _ _ _=>rfl⟩
theorem TakenI.next {a b:AV} {next:Int} (k:AvOk a next) {A:List Int} (I:TakenI a next A b) {x:Int} {n:En Nd} (hf:find a.N x=some n) (hx:x∉A) (hk:∀y∈kdF a.N x,y∈A):(weak1 15 b x).2=true/\TakenI a next (A++[x]) (weak1 15 b x).1:=by
 obtain⟨hn,hid⟩:=Q0b hf;subst hid;have Gw:=k.ok.sm n hn;obtain⟨h,hh⟩:=J3q Gw.1;obtain⟨s,hs⟩:=J3q Gw.2.2.1;have Ag:ownN a.N (h:Int) (s:Int)=n.id:=by rw [<- hh,<- hs];exact Q0J k.ok hn
 have PB:ownN b.N (h:Int) (s:Int)=n.id:=by rw [I.own,Ag,if_neg hx]
 have BQ:=(k.ok.rng n hn).1;obtain⟨n',Dc,e1,e2,e3⟩:=Z1V I.ok.ok (sp:=(h:Int)) (sl:=(s:Int)) (by rw [PB];omega);have FE:n'.id=n.id:=by rw [<- e3,PB]
 have Ia:find b.N n.id=some n':=by rw [<- FE];exact Q0g I.ok.ok.ids Dc
 obtain⟨c,hc⟩:=I.ok.is n' Dc;rw [e1,e2,J2R,J2R] at hc;have hr:=(I.ok.r h s c hc).2;have hw:=Q1W (m:=15) Ia e1 e2 hc;rw [if_pos (J1s _ hr)] at hw;have W1:=Q6y (m:=15) I.ok.ok I.ok.is Ia;have hg:(weak1 15 b n.id).2=true:=by rw [hw]
 have JL:∀u v:Nat,ownN a.N (u:Int) (v:Int)=n.id↔u=h/\v=s:=fun u v=>by
  rw [Q4S k.ok hn,hh,hs];omega
 refine⟨hg,I.ok.weak1 (by omega) _,fun u v=>?_,fun u v=>?_,fun u v Aq=>?_⟩
 ·rw [hw];show setA b.en h s none u v=_;unfold setA;have:=JL u v;by_cases e:u=h/\v=s
  ·rw [if_pos e,if_pos (by rw [this.2 e];simp)]
  ·rw [if_neg e,I.en];by_cases hA:ownN a.N (u:Int) (v:Int)∈A
   ·rw [if_pos hA,if_pos (J2H _ hA)]
   ·rw [if_neg hA,if_neg];intro hm;rcases J2A.1 hm with hm|hm
    ·exact hA hm
    ·exact e (this.1 (J3T.1 hm))
 ·rw [W1.own];have:=JL u v;by_cases hA:ownN a.N (u:Int) (v:Int)∈A
  ·rw [if_pos (J2H _ hA),I.own,if_pos hA];split <;> rfl
  ·rw [I.own,if_neg hA];by_cases e:ownN a.N (u:Int) (v:Int)=n.id
   ·rw [if_pos ⟨hg,e⟩,if_pos (by rw [e];simp)]
   ·rw [if_neg (fun h:_/\_=>e h.2),if_neg];intro hm;rcases J2A.1 hm with hm|hm
    ·exact hA hm
    ·exact e (J3T.1 hm)
 ·have hA:ownN a.N (u:Int) (v:Int)∉A:=fun h=>Aq (J2H _ h)
  have Aa:ownN a.N (u:Int) (v:Int)≠n.id:=fun e=>Aq (by rw [e];simp)
  have UO:¬(u=h/\v=s):=fun e=>Aa ((JL u v).2 e)
  rw [hw];show Q2X (Q0v b.N n' n'.q.ks.length) (u:Int) (v:Int)=_;rw [Z3s I.ok.ok (by rw [FE];exact Ia),e1,e2,if_neg (by omega),if_neg,I.fr u v hA];intro Cz;rw [I.fr u v hA] at Cz;have:=Z6G k.ok Cz;rw [Ag] at this;exact hA (hk _ this)
theorem Q9N {a:AV} {next:Int} (k:AvOk a next):∀(L A:List Int) (b:AV),Turn a.N A L->TakenI a next A b->(Q0y 15 b L).2=L.length/\TakenI a next (A++L) (Q0y 15 b L).1
 | [],A,b,_,I=>⟨rfl,by rw [J3S];exact I⟩
 | x::r,A,b,⟨⟨n,hf⟩,h2,h3,h4⟩,I=>by
  obtain⟨g,I1⟩:=I.next k hf h2 h3;obtain⟨i1,i2⟩:=Q9N k r (A++[x]) (weak1 15 b x).1 h4 I1;refine⟨?_,by rw [J2M] at i2;exact i2⟩;show (if (weak1 15 b x).2=true then 1 else 0)+(Q0y 15 (weak1 15 b x).1 r).2=_;rw [if_pos g,i1,J2w];omega
theorem J0C {Z:SP} {fr:List Nat} {N K:Nat} {M:Int} (ok:Z.Ok fr N K M) {a x:Int} (hd:Dn (kdF Z.F.N) a x):∀{n:En Nd} {e:Ent},find Z.F.N a=some n->Q0D Z.S.l Z.tb n=some e->∃(n':En Nd) (e':Ent),find Z.F.N x=some n'/\Q0D Z.S.l Z.tb n'=some e'/\e'.h=e.h:=by
 induction hd with
 | here h=>exact fun {n e} h1 h2=>⟨n,e,h1,h2,rfl⟩
 | down h k x hk _ ih =>
  intro n e h1 h2;unfold kdF at hk;rw [h1] at hk;obtain⟨m,hm,AW⟩:=ok.fo.n.kids n (Q0b h1).1 k hk;obtain⟨em,Bs⟩:=ok.fpi.is m (Q0b hm).1;have Pp:=ok.fpi.up m (Q0b hm).1 n (by rw [AW,(Q0b h1).2];exact h1) em e Bs h2;obtain⟨n',e',q1,q2,q3⟩:=ih hm Bs;exact⟨n',e',q1,q2,q3.trans Pp.1⟩
def Z0U (N:List (En Nd)) (id:Int):Int×Int:=match find N id with
 | some n=>(n.q.sp,n.q.sl)
 | none=>(0,0)
theorem Z6H {Z Z':SP} {fr:List Nat} {N K:Nat} {M:Int} (ok:Z.Ok fr N K M) (ok':Z'.Ok fr N K M) {x s:Nat} {en:Ent} (he:Q0f Z.S.l Z.tb x s=some en) {n:En Nd} (hn:n∈Z.F.N) (h1:n.q.sp=(x:Int)) (h2:n.q.sl=(s:Int)) (self:Bool) (Da:Z'.av=(Q0y 15 Z.av (revL Z.F n.id self)).1) :
  (Q0y 15 Z.av (revL Z.F n.id self)).2+(Q1v Z'.S.l Z'.tb en.h).length=(Q1v Z.S.l Z.tb en.h).length/\(self=true->1<=(Q0y 15 Z.av (revL Z.F n.id self)).2)/\Z'.av.en x s=(if self=true then none else some (en.h,en.r)) /\
  ∀u v:Nat,(∃r,Z'.av.en u v=some (en.h,r))->Q2X Z'.F.N (u:Int) (v:Int)≠some ((x:Int),(s:Int)):=by
 have k:=ok.avOk;have hid:=Q0g ok.fo.n.ids hn;have Dg:Q0D Z.S.l Z.tb n=some en:=by
  unfold Q0D;rw [h1,h2,J2R,J2R];exact he
 have ht:=Z8U ok.fo.n hid self;obtain⟨BB,I⟩:=Q9N k (revL Z.F n.id self) [] Z.av ht (TakenI.start k);rw [J3W,<- Da] at I;obtain⟨AG,RG⟩:=Turn.nodup _ _ ht;have Ag:ownN Z.F.N (x:Int) (s:Int)=n.id:=by rw [<- h1,<- h2];exact Q0J ok.fo.n hn
 have Et:∀y,y∈revL Z.F n.id self↔(Dn (kdF Z.F.N) n.id y/\(y≠n.id∨self=true)):=fun y=>by
  unfold revL;rw [J2A,Q1V ok.fo.n.tree];cases self with
  | false=>simp
  | true =>
   simp only [if_true,J3T,or_true,and_true]
   constructor
   ·rintro (h|rfl)
    ·exact h.1
    ·exact .here _
   ·intro h;by_cases e:y=n.id
    ·exact .inr e
    ·exact .inl ⟨h,e⟩
 have hL:∀y∈revL Z.F n.id self,∃(m:En Nd) (e:Ent),find Z.F.N y=some m/\Q0D Z.S.l Z.tb m=some e/\e.h=en.h:=fun y hy=>J0C ok ((Et y).1 hy).1 hid Dg
 refine⟨?_,fun hs=>?_,?_,fun u v hr Cz=>?_⟩
 ·rw [BB];have hA:((revL Z.F n.id self).map (Z0U Z.F.N)).Nodup:=by
   refine J2q.2 ((J6b.1 AG).imp ?_);rintro a b ⟨ha,hb,CF⟩ e;refine CF ?_;obtain⟨m,_,hm,_⟩:=hL a ha;obtain⟨m',_,BL,_⟩:=hL b hb;unfold Z0U at e;rw [hm,BL] at e;simp only [Prod.mk.injEq] at e;have:=Q2v ok.fo.n (Q0b hm).1 (Q0b BL).1 e.1 e.2;rw [<- (Q0b hm).2,<- (Q0b BL).2,this]
  have hB:∀p∈(revL Z.F n.id self).map (Z0U Z.F.N),∀q∈Q1v Z'.S.l Z'.tb en.h,p≠q:=by
   intro p hp q hq e;subst e;obtain⟨y,hy,rfl⟩:=J1R.1 hp;obtain⟨m,e,hm,E9,_⟩:=hL y hy;obtain⟨u,v,r,e2,A9⟩:=(Q3u ok').1 hq;unfold Z0U at e2;rw [hm] at e2;simp only [Prod.mk.injEq] at e2;have ho:ownN Z.av.N (u:Int) (v:Int)=y:=by
    rw [<- e2.1,<- e2.2,<- (Q0b hm).2];exact Q0J ok.fo.n (Q0b hm).1
   rw [I.en,ho,if_pos hy] at A9;cases A9
  have hM:∀p,p∈(revL Z.F n.id self).map (Z0U Z.F.N)++Q1v Z'.S.l Z'.tb en.h↔p∈Q1v Z.S.l Z.tb en.h:=by
   intro p;rw [J2A,Q3u ok,Q3u ok']
   constructor
   ·rintro (hp|⟨u,v,r,rfl,A9⟩)
    ·obtain⟨y,hy,rfl⟩:=J1R.1 hp;obtain⟨m,e,hm,E9,Ui⟩:=hL y hy;obtain⟨u,v,p,e',q1,q2,_,_,_,_,_,q4⟩:=ok.fpi.task ok.fo.n (Q0b hm).1;have:e'=e:=by
      unfold Q0D at E9;rw [q1,q2,J2R,J2R,q4] at E9;exact J2J E9
     subst this;refine⟨u,v,e'.r,?_,?_⟩
     ·unfold Z0U;rw [hm];show (m.q.sp,m.q.sl)=_;rw [q1,q2]
     ·rw [<- Ui];exact Q6K q4
    ·rw [I.en] at A9;split at A9
     ·cases A9
     ·exact⟨u,v,r,rfl,A9⟩
   ·rintro⟨u,v,r,rfl,A9⟩;by_cases hA:ownN Z.av.N (u:Int) (v:Int)∈revL Z.F n.id self
    ·left;refine J1R.2 ⟨_,hA,?_⟩;obtain⟨m,e,hm,_,_⟩:=hL _ hA;obtain⟨m2,C6,g1,g2⟩:=k.has u v _ A9;have ho:ownN Z.av.N (u:Int) (v:Int)=m2.id:=by rw [<- g1,<- g2];exact Q0J ok.fo.n C6
     unfold Z0U;rw [ho,Q0g ok.fo.n.ids C6];show (m2.q.sp,m2.q.sl)=_;rw [g1,g2]
    ·right;exact⟨u,v,r,rfl,by rw [I.en,if_neg hA];exact A9⟩
  have Ac:=Q7A (J2F.2 ⟨hA,Q8j ok' _,hB⟩) (Q8j ok _) hM;rw [J2v,J3v] at Ac;exact Ac
 ·rw [BB];exact J2x ((Et n.id).2 ⟨.here _,.inr hs⟩)
 ·rw [I.en];have IK:ownN Z.av.N (x:Int) (s:Int)=n.id:=Ag;cases self with
  | true=>rw [if_pos (by rw [IK];exact (Et n.id).2 ⟨.here _,.inr rfl⟩),if_pos rfl]
  | false =>
   rw [if_neg (fun h=>by rw [IK] at h;have:=((Et n.id).1 h).2;simp at this),if_neg (by decide)];exact Q6K he
 ·obtain⟨r,hr⟩:=hr;rw [I.en] at hr;split at hr
  ·cases hr
  ·rename_i Aq;have FR:Q2X Z'.av.N (u:Int) (v:Int)=some ((x:Int),(s:Int)):=Cz;rw [I.fr u v Aq] at FR;have Qz:=Z6G k.ok FR;have Lf:ownN Z.av.N (u:Int) (v:Int)∈kdF Z.F.N n.id:=by rw [<- Ag];exact Qz
   refine Aq ((Et _).2 ⟨.down _ _ _ Lf (.here _),.inl fun e=>?_⟩);have:=ok.fo.n.tree.dn _ _ Lf;rw [e] at this;omega
end Go.Proofs.YtlakjlmaboioiaaGreatDoor
