/- What the laws of spaces share is proved. No condition. Part of a proof. -/
import Derived.Test.YtlakjlmaboioiaaGreatDoorVa22
set_option maxHeartbeats 4000000
set_option maxRecDepth 100000
set_option linter.unusedVariables false
namespace Go.Proofs.YtlakjlmaboioiaaGreatDoor
open Go.RowKit Go.Proofs.Tryz
theorem Q3O (o:Option Ent):∃(a b:Int),capV o=.tuple #[.agg #[.int .u32 a,.int .i64 b],.bool o.isSome]:=by
 cases o with
 | none=>exact⟨0,0,rfl⟩
 | some e=>exact⟨_,_,rfl⟩
theorem Q5A {w:World} {Z:SP} {fr:List Nat} {N K:Nat} (hs:Sep w Z.hl) (ok:Z.S.Ok fr N K) {x:Nat} (hx:x<4294967296) (z mask:Int) (self:Bool) (e:Int) (he:e≠0) (hw:(pget Z.S.l 1 x=none/\e=8)∨∃p,pget Z.S.l 1 x=some p/\p.kind≠2/\e=10) :
  Calls prog 20 #[.pointer (some ⟨Z.s,0,none⟩),.int .u32 x,.int .i64 z,.int .i64 mask,.bool self] w (Told w (.tuple #[.int .i64 0,.int .i64 e])):=by
 have ks:=Q0J hs ok hx e hw;have Gt:(e==0)=false:=by simpa using he
 have HC:Hid (∀w1,Below w.heap.size w w1->∀o,Below w.heap.size w (w1.alloc o)):=fun w1 hb o=>hb.alloc hb.size o
 clear hs ok hx hw;go_enter func20,ntmps20;go_wp2_with fail;refine ks.mono ?_;rintro r w1 ⟨rfl,Av⟩;have HQ:=Q0a (HC.out w1 Av);clear Av HC ks;go_wp2_with fail
 first|exact⟨rfl,HQ.out _⟩|(go_ret2;exact⟨rfl,HQ.out _⟩)
theorem Q4n {w:World} {Z:SP} {fr:List Nat} {N K:Nat} {M:Int} (hs:Sep w Z.hl) (ok:Z.Ok fr N K M) {x:Nat} (hx:x<4294967296) {p:Pl} (hp:pget Z.S.l 1 x=some p) (hk:p.kind=2) (z mask:Int) (self:Bool) (e:Int)
  (hw:(¬(0<=z/\z<256)/\e=2)∨((0<=z/\z<256)/\¬(0<mask/\mask<=15)/\e=1)∨((0<=z/\z<256)/\(0<mask/\mask<=15)/\Q0f Z.S.l Z.tb x z.toNat=none/\e=6)) :
  Calls prog 20 #[.pointer (some ⟨Z.s,0,none⟩),.int .u32 x,.int .i64 z,.int .i64 mask,.bool self] w (Told w (.tuple #[.int .i64 0,.int .i64 e])):=by
 have ks:=Q0U hs ok.core hx hp hk;have hi:=(pget_some.1 hp).1;have Ap:=(pget_some.1 hp).2.2;have AC:(Z.tb (x%256)).at' z=if 0<=z/\z<256 then Q0f Z.S.l Z.tb x z.toNat else none:=by
  unfold TB.at';split
  ·rename_i h;rw [Q0h hp hk (by omega)]
  ·rfl
 obtain⟨ca,cb,Cu⟩:=Q3O ((Z.tb (x%256)).at' z);have HC:Hid (∀(w2:World) (g:Nat),Below w.heap.size w w2->TblZ Z p g w2->Calls prog 74 #[.agg #[.pointer (some ⟨g,0,none⟩),.int .u32 x,.int .i64 (p.fac:Int)],.int .i64 z] (w2.alloc (.cells #[.pointer (some ⟨g,0,none⟩),.int .u32 x,.int .i64 (p.fac:Int)] 155)) (fun r w4=>r=.returned (.tuple #[.agg #[.int .u32 ca,.int .i64 cb],.bool ((Z.tb (x%256)).at' z).isSome])/\∀o,Below w.heap.size w (w4.alloc o))):=fun w2 g Af hg=>by
  have As:Below w2.heap.size w2 (w2.alloc (.cells #[.pointer (some ⟨g,0,none⟩),.int .u32 x,.int .i64 (p.fac:Int)] 155)):=(Below.refl _ _).alloc (J2h _) _;have BP:=Af.alloc Af.size (.cells #[.pointer (some ⟨g,0,none⟩),.int .u32 x,.int .i64 (p.fac:Int)] 155);have s2:=(hs.grown Af).sep;have T:=(ok.tpi.x (p.fac:Int)).tt ok.core hi Ap hk (SP.sS (s2.grown As).sep) (hg.grown s2 As).c;refine (Q1w T (x:Int) (p.fac:Int) z fun e AL=>?_).mono ?_
  ·rw [AC] at AL;split at AL
   ·exact ok.fpi.low ok.core.inv.lok AL
   ·cases AL
  ·rw [Cu];rintro r w4 ⟨rfl,A5⟩;have Ew:Below w.heap.size w w4:=BP.trans (A5.mono BP.size);exact⟨rfl,fun o=>Ew.alloc Ew.size o⟩
 have Ay:(decide (0<=z/\z<256)=false/\e=2)∨(decide (0<=z/\z<256)=true/\decide (0<mask/\mask<=15)=false/\e=1)∨(decide (0<=z/\z<256)=true/\decide (0<mask/\mask<=15)=true/\((Z.tb (x%256)).at' z).isSome=false/\e=6):=by
  rcases hw with ⟨h1,h2⟩|⟨h1,h2,h3⟩|⟨h1,h2,h3,h4⟩
  ·exact .inl ⟨decide_eq_false h1,h2⟩
  ·exact .inr (.inl ⟨decide_eq_true h1,decide_eq_false h2,h3⟩)
  ·exact .inr (.inr ⟨decide_eq_true h1,decide_eq_true h2,by rw [AC,if_pos h1,h3];rfl,h4⟩)
 have Bd:Hid (∀W,Calls prog 75 #[.int .i64 z] W fun r w'=>r=.returned (.bool (decide (0<=z/\z<256)))/\W=w'):=fun W=>Q2V W z
 have Bn:Hid (∀W,Calls prog 76 #[.int .i64 mask] W fun r w'=>r=.returned (.bool (decide (0<mask/\mask<=15)))/\W=w'):=fun W=>Q3M W mask
 generalize ((Z.tb (x%256)).at' z).isSome=full at *
 generalize decide (0<=z/\z<256)=bh at *
 generalize decide (0<mask/\mask<=15)=br at *
 clear hs ok hx hp hk hw hi Ap AC Cu;rcases Ay with ⟨rfl,rfl⟩|⟨rfl,rfl,rfl⟩|⟨rfl,rfl,rfl,rfl⟩
 ·go_enter func20,ntmps20;go_wp2_with fail;refine ks.mono ?_;rintro r w2 ⟨g,rfl,Af,hg⟩;have kc:=HC.out w2 g Af hg;clear Af hg HC ks;go_wp2_with fail;refine kc.mono ?_;rintro r w4 ⟨rfl,hz⟩;have HZ:=Q0a (hz (.cells #[.int .u32 ca,.int .i64 cb] 35));have kh:=Bd.out (w4.alloc (.cells #[.int .u32 ca,.int .i64 cb] 35));clear hz kc Bd Bn;go_wp2_with fail;refine kh.mono ?_;rintro r w' ⟨rfl,rfl⟩;go_wp2_with fail
  first|exact⟨rfl,HZ.out⟩|(go_ret2;exact⟨rfl,HZ.out⟩)
 ·go_enter func20,ntmps20;go_wp2_with fail;refine ks.mono ?_;rintro r w2 ⟨g,rfl,Af,hg⟩;have kc:=HC.out w2 g Af hg;clear Af hg HC ks;go_wp2_with fail;refine kc.mono ?_;rintro r w4 ⟨rfl,hz⟩;have HZ:=Q0a (hz (.cells #[.int .u32 ca,.int .i64 cb] 35));have kh:=Bd.out (w4.alloc (.cells #[.int .u32 ca,.int .i64 cb] 35));have kr:=Bn.out (w4.alloc (.cells #[.int .u32 ca,.int .i64 cb] 35));clear hz kc Bd Bn;go_wp2_with fail;refine kh.mono ?_;rintro r w' ⟨rfl,rfl⟩;go_wp2_with fail;refine kr.mono ?_;rintro r w' ⟨rfl,rfl⟩;go_wp2_with fail
  first|exact⟨rfl,HZ.out⟩|(go_ret2;exact⟨rfl,HZ.out⟩)
 ·go_enter func20,ntmps20;go_wp2_with fail;refine ks.mono ?_;rintro r w2 ⟨g,rfl,Af,hg⟩;have kc:=HC.out w2 g Af hg;clear Af hg HC ks;go_wp2_with fail;refine kc.mono ?_;rintro r w4 ⟨rfl,hz⟩;have HZ:=Q0a (hz (.cells #[.int .u32 ca,.int .i64 cb] 35));have kh:=Bd.out (w4.alloc (.cells #[.int .u32 ca,.int .i64 cb] 35));have kr:=Bn.out (w4.alloc (.cells #[.int .u32 ca,.int .i64 cb] 35));clear hz kc Bd Bn;go_wp2_with fail;refine kh.mono ?_;rintro r w' ⟨rfl,rfl⟩;go_wp2_with fail;refine kr.mono ?_;rintro r w' ⟨rfl,rfl⟩;go_wp2_with fail
  first|exact⟨rfl,HZ.out⟩|(go_ret2;exact⟨rfl,HZ.out⟩)
theorem Q6I {w:World} {Z:SP} {fr:List Nat} {N K:Nat} {M:Int} (hs:Sep w Z.hl) (ok:Z.Ok fr N K M) {x:Nat} (hx:x<4294967296) (z mask:Int) (self:Bool) :
  Calls prog 20 #[.pointer (some ⟨Z.s,0,none⟩),.int .u32 x,.int .i64 z,.int .i64 mask,.bool self] w (RevR Z fr N K M x z mask self w):=by
 cases hp:pget Z.S.l 1 x with
 | none =>
  refine (Q5A hs ok.core hx z mask self 8 (by decide) (.inl ⟨hp,rfl⟩)).mono ?_;rintro r w' ⟨rfl,hb⟩;exact .inl ⟨8,rfl,hb,.inl ⟨hp,rfl⟩⟩
 | some p =>
  by_cases hk:p.kind=2
  ·by_cases hz:0<=z/\z<256
   ·by_cases hm:0<mask/\mask<=15
    ·cases he:Q0f Z.S.l Z.tb x z.toNat with
     | none =>
      refine (Q4n hs ok hx hp hk z mask self 6 (.inr (.inr ⟨hz,hm,he,rfl⟩))).mono ?_;rintro r w' ⟨rfl,hb⟩;exact .inl ⟨6,rfl,hb,.inr ⟨p,hp,.inr (.inr (.inr ⟨hk,hz,hm,he,rfl⟩))⟩⟩
     | some en =>
      have Qj:((z.toNat:Nat):Int)=z:=by omega
      have Ie:((mask.toNat:Nat):Int)=mask:=by omega
      have:=Z3F (s:=z.toNat) (m:=mask.toNat) hs ok hx hp hk (by omega) (by omega) (by omega) he self;rw [Qj,Ie] at this;exact this
    ·refine (Q4n hs ok hx hp hk z mask self 1 (.inr (.inl ⟨hz,hm,rfl⟩))).mono ?_;rintro r w' ⟨rfl,hb⟩;exact .inl ⟨1,rfl,hb,.inr ⟨p,hp,.inr (.inr (.inl ⟨hk,hz,hm,rfl⟩))⟩⟩
   ·refine (Q4n hs ok hx hp hk z mask self 2 (.inl ⟨hz,rfl⟩)).mono ?_;rintro r w' ⟨rfl,hb⟩;exact .inl ⟨2,rfl,hb,.inr ⟨p,hp,.inr (.inl ⟨hk,hz,rfl⟩)⟩⟩
  ·refine (Q5A hs ok.core hx z mask self 10 (by decide) (.inr ⟨p,hp,hk,rfl⟩)).mono ?_;rintro r w' ⟨rfl,hb⟩;exact .inl ⟨10,rfl,hb,.inr ⟨p,hp,.inl ⟨hk,rfl⟩⟩⟩
def Z3G (N:List (En Nd)) (sp sl:Int):Option (Int×Int):=match find N (ownN N sp sl) with
 | none=>none
 | some n=>(find N n.q.par).map fun m=>(m.q.sp,m.q.sl)
theorem Z9e {N:List (En Nd)} {next:Int} (ok:NOk N next) {n:En Nd} (hn:n∈N):Z3G N n.q.sp n.q.sl=(find N n.q.par).map fun m=>(m.q.sp,m.q.sl):=by
 unfold Z3G;rw [Q1k ok hn,Q0g ok.ids hn]
theorem Q3P (N:List (En Nd)) (sp sl:Int):(∃n∈N,n.q.sp=sp/\n.q.sl=sl)∨∀e∈N,(e.q.sp,e.q.sl)≠(sp,sl):=by
 by_cases h:∃n∈N,n.q.sp=sp/\n.q.sl=sl
 ·exact .inl h
 ·exact .inr fun e he hx=>h ⟨e,he,by simpa using hx⟩
section
variable {N:List (En Nd)} {next:Int}
theorem Z9f {par sp sl:Int} {b:Nat} {x:En Nd} (h:x∈addN N par (next+1) b sp sl):(∃c∈N,x={c with q:=if c.id=par then {c.q with ks:=c.q.ks++[next+1]} else c.q})∨x=⟨next+1,b,⟨sp,sl,par,[]⟩⟩:=by
 unfold addN at h;rcases J2V.1 h with h|h
 ·exact .inl (Q1m h)
 ·exact .inr (J4o.1 h)
end
def Q3u (next:Int) (x:Nat) (a:AV) (s:Int):AV×Nat:=if ownN a.N (x:Int) s=0 then (a,0) else Q0M 15 a (Q0H (kdF a.N) (rkF next) (ownN a.N (x:Int) s)++[ownN a.N (x:Int) s])
def Q1P (next:Int) (x:Nat):AV->List Int->AV×Nat
 | a,[]=>(a,0)
 | a,s::r=>((Q1P next x (Q3u next x a s).1 r).1,(Q3u next x a s).2+(Q1P next x (Q3u next x a s).1 r).2)
theorem wipeA_snoc (next:Int) (x:Nat):∀(l:List Int) (a:AV) (s:Int),Q1P next x a (l++[s])=((Q3u next x (Q1P next x a l).1 s).1,(Q1P next x a l).2+(Q3u next x (Q1P next x a l).1 s).2)
 | [],a,s=>by
  show ((Q3u next x a s).1,(Q3u next x a s).2+0)=((Q3u next x a s).1,0+(Q3u next x a s).2);rw [J4L,J2q]
 | y::r,a,s=>by
  rw [J4s];unfold Q1P;rw [wipeA_snoc next x r];simp only [J3H]
def J1F (Z:SP) (fr:List Nat) (N K:Nat) (M:Int) (x:Nat) (l:List Int) (w w':World):Prop:=∃Z',Z'.Ok fr N K M/\Z'.av=(Q1P Z.F.next x Z.av l).1/\SameZ Z Z'/\Step Z.hl Z'.hl w w'
structure WpI (Z:SP) (fr:List Nat) (N K:Nat) (M:Int) (x:Nat) (l:List Int) (a:Option Addr) (w:World) (k:Nat) (Z1:SP) (wr:World):Prop where
 ok:Z1.Ok fr N K M
 av:Z1.av=(Q1P Z.F.next x Z.av (l.take k)).1
 same:SameZ Z Z1
 st:Step Z.hl Z1.hl w wr
 row:AsideV Z1.hl (l.map encI) a wr
theorem Z3H {wr:World} {Z:SP} {fr:List Nat} {N K:Nat} {M:Int} (hs:Sep wr Z.hl) (ok:Z.Ok fr N K M) {x s:Nat} (hx:x<4294967296) (A9:s<256) :
  wr.cell? ⟨Z.s,1,none⟩=some (.pointer (some ⟨Z.F.f,0,none⟩))/\Calls prog 88 #[.pointer (some ⟨Z.F.f,0,none⟩),.int .i64 x,.int .i64 s] wr fun r w1=>∃id:Int,r=.returned (.int .i64 id)/\wr=w1/\((id=0/\ownN Z.F.N (x:Int) (s:Int)=0)∨(id≠0 /\
   Calls prog 84 #[.pointer (some ⟨Z.F.f,0,none⟩),.int .i64 id] w1 fun r w5=>∃(a:Option Addr) (n cap:Nat),r=.returned (.slice a n cap)/\∃(a2:Option Addr) (n2 c2:Nat) (w6:World),(Builtin.append_ #[36,36] 36 #[.slice a n cap,.slice (some ⟨w5.heap.size,0,none⟩) 1 1]).run prog (w5.alloc (.cells #[.int .i64 id] 3))=.ok (.slice a2 n2 c2) w6 /\
    Calls prog 85 #[.pointer (some ⟨Z.s,0,none⟩),.int .i64 15,.slice a2 n2 c2] w6 fun r w7=>∃v:Nat,r=.returned (.int .i64 v)/\v<=65537/\∃Z',Z'.Ok fr N K M/\Q3u Z.F.next x Z.av (s:Int)=(Z'.av,v)/\SameZ Z Z'/\Step Z.hl Z'.hl wr w7)):=by
 have g1:(0:Int)<=(x:Int):=by omega
 have g2:(x:Int)<9223372036854775808:=by omega
 have g3:(0:Int)<=(s:Int):=by omega
 have g4:(s:Int)<9223372036854775808:=by omega
 refine⟨SP.c1 hs,(Q4R (SP.sF hs) ok.fo (sp:=(x:Int)) (sl:=(s:Int)) (Q3q (p:=((x:Int),(s:Int))) g1 g2 g3 g4)).mono ?_⟩;rintro r w1 ⟨rfl,rfl⟩;refine⟨_,rfl,rfl,?_⟩;by_cases h0:ownN Z.F.N (x:Int) (s:Int)=0
 ·exact .inl ⟨h0,h0⟩
 ·refine .inr ⟨h0,?_⟩;obtain⟨n,hn,e1,e2⟩:=(Q3P Z.F.N (x:Int) (s:Int)).resolve_right fun h=>h0 ((Q1v ok.fo.n).2 h)
  have hid:=Q1k ok.fo.n hn;rw [e1,e2] at hid;have ER:=Q0g ok.fo.n.ids hn;have Dt:Q3u Z.F.next x Z.av (s:Int)=Q0M 15 Z.av (revL Z.F n.id true):=by
   unfold Q3u revL;rw [if_neg (show ¬ownN Z.av.N (x:Int) (s:Int)=0 from h0),if_pos rfl];show Q0M 15 Z.av (Q0H (kdF Z.F.N) (rkF Z.F.next) (ownN Z.F.N (x:Int) (s:Int))++[ownN Z.F.N (x:Int) (s:Int)])=_;rw [hid]
  rw [hid];refine (Q7K hs ok.fo ER).mono ?_;rintro r w5 ⟨AH,a,cap,rfl,Aq⟩;have Ac:=Z2h ok.fo ER true;have D3:(Q0H (kdF Z.F.N) (rkF Z.F.next) n.id).length<=16777216:=by
   unfold revL at Ac;rw [J2R] at Ac;omega
  obtain⟨v',w6,Br,EA⟩:=Aq.app D3 n.id 36;obtain⟨a2,c2,rfl,has⟩:=EA.aside hs;refine⟨a,_,cap,rfl,a2,_,c2,w6,Br,?_⟩;have hl:Q0H (kdF Z.F.N) (rkF Z.F.next) n.id++[n.id]=revL Z.F n.id true:=by unfold revL;rw [if_pos rfl]
  rw [hl] at has ⊢;have s6:=(hs.grown EA.2).sep;refine (Q2v s6 ok 15 (by omega) (by omega) (revL Z.F n.id true) a2 c2 (by omega) has (Q7D _ _)).mono ?_;rintro r w7 ⟨rfl,Z',k1,k2,k3,k4⟩;refine⟨_,rfl,J2i (Q5Q 15 _ _) Ac,Z',k1,?_,k3,(hs.grown EA.2).trans k4⟩;rw [Dt,k2]
theorem Z1a {t:TB} {k:Nat} {z:Int} (h:z∈Q0X t k):∃s:Nat,z=(s:Int)/\s<k:=by
 unfold Q0X at h;obtain⟨s,hs,rfl⟩:=J2n.1 h;exact⟨s,rfl,J2x.1 (J2B.1 hs).1⟩
theorem Z3I {l:List Pl} {tb:Nat->TB} {x:Nat} {z:Int} (h:z∈Q0n l tb x):∃s:Nat,z=(s:Int)/\s<256:=by
 unfold Q0n at h;split at h
 ·cases h
 ·split at h
  ·exact Z1a h
  ·cases h
theorem Z3J (l:List Pl) (tb:Nat->TB) (x:Nat):(Q0n l tb x).length<=256:=by
 unfold Q0n;split
 ·simp
 ·split
  ·exact Q4m _ _
  ·simp
theorem Q9O {w:World} {Z:SP} {fr:List Nat} {N K:Nat} {M:Int} (hs:Sep w Z.hl) (ok:Z.Ok fr N K M) {x:Nat} (hx:x<4294967296) :
  Calls prog 40 #[.pointer (some ⟨Z.s,0,none⟩),.int .u32 x] w fun r w'=>r=.returned (.int .i64 ((Q1P Z.F.next x Z.av (Q0n Z.S.l Z.tb x)).2:Nat))/\J1F Z fr N K M x (Q0n Z.S.l Z.tb x) w w':=by
 have Rg:=Q3N hs ok hx;have Cl:Hid (∀w1 a,Below w.heap.size w w1->AsideV Z.hl ((Q0n Z.S.l Z.tb x).map encI) a w1->WpI Z fr N K M x (Q0n Z.S.l Z.tb x) a w 0 Z w1):=fun w1 a hb ha=>⟨ok,rfl,SameZ.refl Z,hs.grown hb,ha⟩
 have HS:=Q0a hs;have HX:=Q0a hx;have FJ:Hid (∀z∈Q0n Z.S.l Z.tb x,∃s:Nat,z=(s:Int)/\s<256):=fun z hz=>Z3I hz
 have CS:=Z3J Z.S.l Z.tb x;generalize hL:Q0n Z.S.l Z.tb x=l at *
 generalize hn:l.length=n at *
 have HN:=Q0a hn;have Cj:(0:Int)<=(x:Int):=by omega
 have Dg:(x:Int)<4294967296:=by omega
 have MO:IntKind.i64.wrap (x:Int)=(x:Int):=Go.IntWalk.i64_in _ (by omega);have DZ:=Q0a CS;clear hs ok hx hL hn CS;go_enter func40,ntmps40;go_wp2_with fail;refine Rg.mono ?_;rintro r w1 ⟨v,rfl,h1,h2⟩;obtain⟨a,cap,rfl,has⟩:=Q7E HS.out h1;have KJ:=Q0a (Cl.out w1 a h2 has);rw [HN.out];clear h1 h2 has Rg Cl;go_wp2_with fail
 go_loopg [5,13] n (fun gk cv iv wr=>∃(k:Nat) (Z1:SP),iv=.int .i64 k/\cv=.int .i64 ((Q1P Z.F.next x Z.av (l.take k)).2:Nat)/\(Q1P Z.F.next x Z.av (l.take k)).2<=65537*k/\k+gk=n/\WpI Z fr N K M x l a w k Z1 wr)
 case atStart=>exact⟨0,Z,rfl,rfl,J4j _,by omega,KJ.out⟩
 case round =>
  obtain⟨k,Z1,rfl,rfl,DT,A7,hI⟩:=hrel;have C0:=Q0a A7;have HI:=Q0a hI;by_cases Ab:k<n
  ·obtain⟨z,hz⟩:∃z,l[k]?=some z:=⟨l[k]'(by rw [HN.out];exact Ab),J4y (by rw [HN.out];exact Ab)⟩
   obtain⟨s,rfl,A9⟩:=FJ.out z (J4v hz);obtain⟨g,rfl,_,_,GZ⟩:=hI.row k (.int .i64 s) (by rw [J3S,hz];rfl);have BK:∀(Z2:SP) (w':World) (v:Nat),Q3u Z1.F.next x Z1.av (s:Int)=(Z2.av,v)->Z2.Ok fr N K M->SameZ Z1 Z2->Step Z1.hl Z2.hl wr w'->(Q1P Z.F.next x Z.av (l.take (k+1))).2=(Q1P Z.F.next x Z.av (l.take k)).2+v/\WpI Z fr N K M x l (some ⟨g,0,none⟩) w (k+1) Z2 w':=fun Z2 w' v e k1 k2 k3=>by
    have AW:l.take (k+1)=l.take k++[(s:Int)]:=by rw [J4d,hz];rfl
    have DW:Q1P Z.F.next x Z.av (l.take (k+1))=(Z2.av,(Q1P Z.F.next x Z.av (l.take k)).2+v):=by
     rw [AW,wipeA_snoc,<- HI.out.av,<- HI.out.same.nx,e]
    exact⟨by rw [DW],k1,by rw [DW],HI.out.same.trans k2,HI.out.st.trans k3,AsideV.step HI.out.row k3⟩
   have DB:=Q0a BK;obtain⟨Cf,Hn⟩:=Z3H hI.st.sep hI.ok HX.out A9;have FU:=hI.same.s;have L9:=hI.same.f;rw [FU,L9] at Cf;rw [L9,FU] at Hn;have HF:=Q0a Hn;have CE:(k:Int)<(n:Int):=by omega
   have By:(0:Int)<=(k:Int):=by omega
   have FP:(k:Int)<=256:=by have:=DZ.out;omega
   have KB:(Q1P Z.F.next x Z.av (l.take k)).2<=16777472:=by have:=DZ.out;omega
   have SM:=Q0a DT;generalize A6:(Q1P Z.F.next x Z.av (l.take k)).2=c at *
   have JI:(c:Int)<=16777472:=by omega
   have G9:(0:Int)<=(c:Int):=by omega
   have D1:(0:Int)<=(s:Int):=by omega
   have C2:(s:Int)<256:=by omega
   clear hI A7 Hn hz DT A6 KB BK FU L9 A9;go_wp2_with fail;refine HF.out.mono ?_;rintro r w2 ⟨id,rfl,rfl,hz⟩;have HZ:=Q0a hz;clear hz HF;rcases HZ.out with ⟨rfl,h0⟩|⟨Aa,FC⟩
   ·obtain⟨q1,q2⟩:=DB.out Z1 wr 0 (by unfold Q3u;rw [show Z1.av.N=Z1.F.N from rfl,if_pos h0]) HI.out.ok (SameZ.refl _) (Step.refl HI.out.st.sep);have Q1:=Q0a q1;have Q2:=Q0a q2;clear q1 q2 h0 HZ DB;go_wp2_with fail;go_roundg (n-(k+1))
    case measure=>have:=C0.out;omega
    case rel=>exact⟨k+1,Z1,by go_num,by rw [Q1.out];simp,by rw [Q1.out];have:=SM.out;omega,by have:=C0.out;omega,Q2.out⟩
   ·have NF:=Q0a FC;have Ka:(id==0)=false:=by simpa using Aa
    have Wa:(id != 0)=true:=by simpa using Aa
    have VD:wr.drew.cell? ⟨Z.s,1,none⟩=some (.pointer (some ⟨Z.F.f,0,none⟩)):=Cf;clear FC HZ;go_wp2_with fail;refine NF.out.mono ?_;rintro r w5 ⟨a1,n1,c1,rfl,a2,n2,c2,w6,Br,kw⟩;have Te:=Q0a kw;clear kw NF;go_wp2_with (at_builtin;refine Lib.wpList_append_run _ rfl _ _ _ _ rfl _ _ rfl rfl _ _ Br ?_);refine Te.out.mono ?_;rintro r w7 ⟨v,rfl,FX,Z2,k1,k2,k3,k4⟩;obtain⟨q1,q2⟩:=DB.out _ _ _ k2 k1 k3 k4;have Q1:=Q0a q1;have Q2:=Q0a q2;have Gk:(v:Int)<=65537:=by omega
    have Wr:(0:Int)<=(v:Int):=by omega
    have Ur:=Q0a FX;clear q1 q2 Te DB k1 k2 k3 k4 FX Br;go_wp2_with fail;go_roundg (n-(k+1))
    case measure=>have:=C0.out;omega
    case rel=>exact⟨k+1,Z2,by go_num,by rw [Q1.out];simp,by rw [Q1.out];have:=SM.out;have:=Ur.out;omega,by have:=C0.out;omega,Q2.out⟩
  ·obtain rfl:k=n:=by have:=C0.out;omega
   have HR:Hid (((Q1P Z.F.next x Z.av (l.take k)).2=(Q1P Z.F.next x Z.av l).2)/\J1F Z fr N K M x l w wr):=by
    have h1:l.take k=l:=by rw [<- HN.out,J6q]
    have h2:=hI.av;rw [h1] at h2;exact⟨by rw [h1],Z1,hI.ok,h2,hI.same,hI.st⟩
   rw [HR.out.1];clear hI A7 DT;go_wp2_with fail
   first|exact⟨rfl,HR.out.2⟩|(go_ret;exact⟨rfl,HR.out.2⟩)
def Q8z (m:Nat):Option (Nat×Nat)->Option (Nat×Nat)
 | none=>none
 | some c=>if less c.2 m=0 then none else some (c.1,less c.2 m)
def EnIs (a:AV):Prop:=∀n∈a.N,∃c,a.en n.q.sp.toNat n.q.sl.toNat=some c
theorem FPI.enIs {l:List Pl} {tb:Nat->TB} {N:List (En Nd)} (f:FPI l tb N):EnIs (avOf l tb N):=fun n hn=>by
 obtain⟨e,he⟩:=f.is n hn;exact⟨(e.h,e.r),Q9B he⟩
theorem Q4V {N:List (En Nd)} {next:Int} (ok:NOk N next) {n:En Nd} (hn:n∈N) (h s:Nat):ownN N (h:Int) (s:Int)=n.id↔n.q.sp=(h:Int)/\n.q.sl=(s:Int):=by
 constructor
 ·intro e;rcases Q3P N (h:Int) (s:Int) with ⟨c,hc,h1,h2⟩|Ar
  ·have:=Q1k ok hc;rw [h1,h2,e] at this;have OD:c=n:=by
    have a1:=Q0g ok.ids hc;have a2:=Q0g ok.ids hn;rw [<- this,a2] at a1;exact (J3e a1).symm
   subst OD;exact⟨h1,h2⟩
  ·have:=(Q1v ok).2 Ar;rw [this] at e;have:=ok.rng n hn;omega
 ·rintro⟨h1,h2⟩;have:=Q1k ok hn;rw [h1,h2] at this;exact this
section
variable {m:Nat} {a:AV} {next:Int}
structure J2a (m:Nat) (a:AV) (next:Int) (id:Int):Prop where
 ok:NOk (weak1 m a id).1.N next
 is:EnIs (weak1 m a id).1
 en:∀h s:Nat,(weak1 m a id).1.en h s=if ownN a.N (h:Int) (s:Int)=id then Q8z m (a.en h s) else a.en h s
 old:∀x n,x≠id->find a.N x=some n->∃n',find (weak1 m a id).1.N x=some n'/\n'.q.sp=n.q.sp/\n'.q.sl=n.q.sl/\n'.id=n.id
 new:∀x n',find (weak1 m a id).1.N x=some n'->∃n,find a.N x=some n/\n'.q.sp=n.q.sp/\n'.q.sl=n.q.sl
 own:∀h s:Nat,ownN (weak1 m a id).1.N (h:Int) (s:Int)=if (weak1 m a id).2=true/\ownN a.N (h:Int) (s:Int)=id then 0 else ownN a.N (h:Int) (s:Int)
 gone:(weak1 m a id).2=true↔∃n c,find a.N id=some n/\a.en n.q.sp.toNat n.q.sl.toNat=some c/\less c.2 m=0
theorem Q6J (ok:NOk a.N next) (is:EnIs a) {id:Int} {n:En Nd} (hf:find a.N id=some n):J2a m a next id:=by
 obtain⟨hn,hid⟩:=Q0b hf;obtain⟨c,hc⟩:=is n hn;have Jx:=ok.sm n hn;have Lh:((n.q.sp.toNat:Nat):Int)=n.q.sp:=by omega
 have F5:((n.q.sl.toNat:Nat):Int)=n.q.sl:=by omega
 have hw:=Q2H (m:=m) (a:=a) hf Lh.symm F5.symm hc;have Ak:∀h s:Nat,ownN a.N (h:Int) (s:Int)=id↔(h=n.q.sp.toNat/\s=n.q.sl.toNat):=fun h s=>by
  have:=Q4V ok hn h s;rw [hid] at this;rw [this];omega
 by_cases h0:less c.2 m=0
 ·rw [if_pos h0] at hw;have ER:find a.N n.id=some n:=by rw [hid];exact hf
  have hN:(weak1 m a id).1.N=Q0C a.N n n.q.ks.length:=by rw [hw]
  have AY:NOk (Q0C a.N n n.q.ks.length) next:=ok.lift ER;have Aw:∀{x},x∈Q0C a.N n n.q.ks.length->∃c∈a.N,c.id≠n.id/\x={c with q:=Q0t n n.q.ks.length c}:=fun {x} hx=>by
   obtain⟨c,hc,rfl⟩:=Q1m hx;obtain⟨h1,h2⟩:=(Q2G ok.ids n.id c).1 hc;exact⟨c,h1,h2,rfl⟩
  have AP:∀h s:Nat,(weak1 m a id).1.en h s=if ownN a.N (h:Int) (s:Int)=id then Q8z m (a.en h s) else a.en h s:=fun h s=>by
   rw [hw];show setA a.en n.q.sp.toNat n.q.sl.toNat none h s=_;unfold setA;by_cases e:h=n.q.sp.toNat/\s=n.q.sl.toNat
   ·rw [if_pos e,if_pos ((Ak h s).2 e),e.1,e.2,hc];unfold Q8z;simp only;rw [if_pos h0]
   ·rw [if_neg e,if_neg (fun x=>e ((Ak h s).1 x))]
  refine⟨by rw [hN];exact AY,?_,AP,?_,?_,?_,?_⟩
  ·rw [hw];intro x hx;obtain⟨d,hd,Aa,rfl⟩:=Aw hx;obtain⟨cd,EE⟩:=is d hd;refine⟨cd,?_⟩;simp only [Q1G];rw [Q5l (Z0P ok hd hn Aa)];exact EE
  ·intro x d hx hd;refine⟨{d with q:=Q0t n n.q.ks.length d},by rw [hN,Q3K ok,if_neg (by rw [hid];exact hx),hd];rfl,?_,?_,rfl⟩ <;> simp only [Q1G]
  ·intro x d' DV;rw [hN,Q3K ok] at DV;split at DV
   ·cases DV
   ·cases hd:find a.N x with
    | none=>rw [hd] at DV;cases DV
    | some d =>
     rw [hd] at DV;simp only [J3V,J2v] at DV;subst DV;exact⟨d,rfl,by simp only [Q1G],by simp only [Q1G]⟩
  ·intro h s;rw [hw];simp only [true_and];by_cases e:ownN a.N (h:Int) (s:Int)=id
   ·rw [if_pos e];obtain⟨e1,e2⟩:=(Ak h s).1 e;refine (Q1v AY).2 fun d hd hx=>?_
    obtain⟨c',AT,Aa,rfl⟩:=Aw hd;simp only [Q1G,Prod.mk.injEq] at hx;exact Aa (by rw [Q4j ok AT hn (by rw [hx.1];omega) (by rw [hx.2];omega)])
   ·rw [if_neg e];rcases Q3P a.N (h:Int) (s:Int) with ⟨d,hd,e1,e2⟩|Ar
    ·have Aa:d.id≠n.id:=fun x=>e (by
      have:=Q1k ok hd;rw [e1,e2] at this;rw [this,x,hid])
     have hm:({d with q:=Q0t n n.q.ks.length d}:En Nd)∈Q0C a.N n n.q.ks.length:=by
      unfold Q0C mapE;exact J2n.2 ⟨d,(Q2G ok.ids n.id d).2 ⟨hd,Aa⟩,rfl⟩
     have q1:=Q1k AY hm;have q2:=Q1k ok hd;simp only [Q1G] at q1;rw [e1,e2] at q1 q2;rw [q1,q2]
    ·rw [(Q1v ok).2 Ar];refine (Q1v AY).2 fun d hd hx=>?_
     obtain⟨c',AT,_,rfl⟩:=Aw hd;simp only [Q1G] at hx;exact Ar c' AT hx
  ·rw [hw];simp only [true_iff];exact⟨n,c,hf,hc,h0⟩
 ·rw [if_neg h0] at hw;have hN:(weak1 m a id).1.N=a.N:=by rw [hw]
  have AP:∀h s:Nat,(weak1 m a id).1.en h s=if ownN a.N (h:Int) (s:Int)=id then Q8z m (a.en h s) else a.en h s:=fun h s=>by
   rw [hw];show setA a.en n.q.sp.toNat n.q.sl.toNat _ h s=_;unfold setA;by_cases e:h=n.q.sp.toNat/\s=n.q.sl.toNat
   ·rw [if_pos e,if_pos ((Ak h s).2 e),e.1,e.2,hc];unfold Q8z;simp only;rw [if_neg h0]
   ·rw [if_neg e,if_neg (fun x=>e ((Ak h s).1 x))]
  refine⟨by rw [hN];exact ok,?_,AP,?_,?_,?_,?_⟩
  ·rw [hw];intro x hx;show ∃c',setA a.en n.q.sp.toNat n.q.sl.toNat _ x.q.sp.toNat x.q.sl.toNat=some c';unfold setA;split
   ·exact⟨_,rfl⟩
   ·exact is x hx
  ·intro x d hx hd;exact⟨d,by rw [hN];exact hd,rfl,rfl,rfl⟩
  ·intro x d' DV;rw [hN] at DV;exact⟨d',DV,rfl,rfl⟩
  ·intro h s;rw [hw];simp
  ·rw [hw]
   constructor
   ·intro h;simp at h
   ·rintro⟨n2,c2,h1,h2,h3⟩;rw [hf] at h1;cases h1;rw [hc] at h2;cases h2;exact absurd h3 h0
end
structure AvOk (a:AV) (next:Int):Prop where
 ok:NOk a.N next
 is:EnIs a
 r:∀h s c,a.en h s=some c->1<=c.2/\c.2<16
 has:∀h s c,a.en h s=some c->∃n∈a.N,n.q.sp=(h:Int)/\n.q.sl=(s:Int)
theorem SP.Ok.avOk {Z:SP} {fr:List Nat} {N K:Nat} {M:Int} (ok:Z.Ok fr N K M):AvOk Z.av Z.F.next:=
 ⟨ok.fo.n,ok.fpi.enIs,fun h s c hc=>ok.fpi.rights hc,fun h s c hc=>by
  obtain⟨e,he,rfl⟩:=Q3r hc;exact ok.fpi.has h s e he⟩
theorem Z2i {N:List (En Nd)} {next:Int} (ok:NOk N next) {sp sl:Int} (h:ownN N sp sl≠0):∃n∈N,n.q.sp=sp/\n.q.sl=sl/\ownN N sp sl=n.id:=by
 rcases Q3P N sp sl with ⟨n,hn,rfl,rfl⟩|Ar
 ·exact⟨n,hn,rfl,rfl,Q1k ok hn⟩
 ·exact absurd ((Q1v ok).2 Ar) h
theorem Z6L {o:Option (Nat×Nat)} (h:∀c,o=some c->c.2<16):Q8z 15 o=none:=by
 cases o with
 | none=>rfl
 | some c =>
  show (if less c.2 15=0 then none else some (c.1,less c.2 15))=none;rw [if_pos (Q4M c.2 (h c rfl))]
theorem Z3K:∀r,r<16->∀m,m<16->less r m<16:=by decide
theorem AvOk.weak1 {a:AV} {next:Int} (k:AvOk a next) {m:Nat} (hm:m<16) (id:Int):AvOk (weak1 m a id).1 next:=by
 cases hf:find a.N id with
 | none=>unfold Go.Proofs.YtlakjlmaboioiaaGreatDoor.weak1;rw [hf];exact k
 | some n =>
  have W:=Q6J (m:=m) k.ok k.is hf;refine⟨W.ok,W.is,fun h s c hc=>?_,fun h s c hc=>?_⟩
  ·rw [W.en] at hc;split at hc
   ·cases ho:a.en h s with
    | none=>rw [ho] at hc;cases hc
    | some c0 =>
     have h0:=k.r h s c0 ho;rw [ho] at hc;unfold Q8z at hc;simp only at hc;split at hc
     ·cases hc
     ·cases hc
      have:=Z3K c0.2 h0.2 m hm;exact⟨by simp only;omega,this⟩
   ·exact k.r h s c hc
  ·have AP:=W.en h s;have Ak:=W.own h s;cases ho:a.en h s with
   | none =>
    rw [ho] at AP;rw [AP] at hc;split at hc <;> cases hc
   | some c0 =>
    obtain⟨n0,Dw,q1,q2⟩:=k.has h s c0 ho;have hid:ownN a.N (h:Int) (s:Int)=n0.id:=(Q4V k.ok Dw h s).2 ⟨q1,q2⟩;have Cp:=k.ok.rng n0 Dw;have Aa:ownN (Go.Proofs.YtlakjlmaboioiaaGreatDoor.weak1 m a id).1.N (h:Int) (s:Int)≠0:=by
     rw [Ak];split
     ·rename_i hg;exfalso;obtain⟨n2,c2,g1,g2,g3⟩:=W.gone.1 hg.1;rw [if_pos hg.2] at AP;have Po:n2=n0:=by
       obtain⟨m1,m2⟩:=Q0b g1;have h3:=Q0g k.ok.ids Dw;rw [<- hid,hg.2,g1] at h3;exact J3e h3
      rw [Po,q1,q2,J3m,J3m,ho] at g2;cases g2;rw [ho] at AP;unfold Q8z at AP;simp only [g3,if_pos] at AP;rw [AP] at hc;cases hc
     ·rw [hid];omega
    obtain⟨n',Ef,e1,e2,_⟩:=Z2i W.ok Aa;exact⟨n',Ef,e1,e2⟩
theorem AvOk.weakA15 {next:Int}:∀(l:List Int) {a:AV},AvOk a next->AvOk (Q0M 15 a l).1 next/\(∀h s:Nat,(Q0M 15 a l).1.en h s=none∨(Q0M 15 a l).1.en h s=a.en h s)/\∀h s:Nat,ownN a.N (h:Int) (s:Int)∈l->(Q0M 15 a l).1.en h s=none
 | [],a,k=>⟨k,fun _ _=>.inr rfl,fun _ _ h=>by cases h⟩
 | id::r,a,k=>by
  have k1:=k.weak1 (m:=15) (by omega) id;obtain⟨i1,i2,i3⟩:=AvOk.weakA15 r k1;have BL:∀h s:Nat,((Go.Proofs.YtlakjlmaboioiaaGreatDoor.weak1 15 a id).1.en h s=none∨(Go.Proofs.YtlakjlmaboioiaaGreatDoor.weak1 15 a id).1.en h s=a.en h s)/\(ownN a.N (h:Int) (s:Int)=id->(Go.Proofs.YtlakjlmaboioiaaGreatDoor.weak1 15 a id).1.en h s=none)/\(ownN a.N (h:Int) (s:Int)≠id->ownN (Go.Proofs.YtlakjlmaboioiaaGreatDoor.weak1 15 a id).1.N (h:Int) (s:Int)=ownN a.N (h:Int) (s:Int)):=fun h s=>by
   cases hf:find a.N id with
   | none =>
    have e:Go.Proofs.YtlakjlmaboioiaaGreatDoor.weak1 15 a id=(a,false):=by unfold Go.Proofs.YtlakjlmaboioiaaGreatDoor.weak1;rw [hf]
    rw [e];refine⟨.inr rfl,fun ho=>?_,fun _=>rfl⟩;cases AP:a.en h s with
    | none=>rfl
    | some c =>
     exfalso;obtain⟨n,hn,q1,q2⟩:=k.has h s c AP;have:=(Q4V k.ok hn h s).2 ⟨q1,q2⟩;have h3:=Q0g k.ok.ids hn;rw [<- this,ho,hf] at h3;cases h3
   | some n =>
    have W:=Q6J (m:=15) k.ok k.is hf;have hl:Q8z 15 (a.en h s)=none:=Z6L fun c hc=>(k.r h s c hc).2
    rw [W.en,W.own,hl];refine⟨?_,fun ho=>by rw [if_pos ho],fun ho=>by rw [if_neg fun hh=>ho hh.2]⟩;split
    ·exact .inl rfl
    ·exact .inr rfl
  refine⟨i1,fun h s=>?_,fun h s hm=>?_⟩
  ·rcases i2 h s with h1|h1
   ·exact .inl h1
   ·rcases (BL h s).1 with h2|h2
    ·exact .inl (h1.trans h2)
    ·exact .inr (h1.trans h2)
  ·by_cases ho:ownN a.N (h:Int) (s:Int)=id
   ·rcases i2 h s with h1|h1
    ·exact h1
    ·exact h1.trans ((BL h s).2.1 ho)
   ·refine i3 h s ?_;rw [(BL h s).2.2 ho];rcases J2m.1 hm with h'|h'
    ·exact absurd h' ho
    ·exact h'
structure Lesser (a a':AV) (next:Int):Prop where
 ok:AvOk a' next
 en:∀h s:Nat,a'.en h s=none∨a'.en h s=a.en h s
theorem Lesser.refl {a:AV} {next:Int} (k:AvOk a next):Lesser a a next:=⟨k,fun _ _=>.inr rfl⟩
theorem Lesser.trans {a b c:AV} {next:Int} (h:Lesser a b next) (k:Lesser b c next):Lesser a c next:=⟨k.ok,fun x s=>by
 rcases k.en x s with h1|h1
 ·exact .inl h1
 ·rw [h1];exact h.en x s⟩
theorem Lesser.none {a b:AV} {next:Int} (h:Lesser a b next) {x s:Nat} (h0:a.en x s=none):b.en x s=none:=by
 rcases h.en x s with h1|h1
 ·exact h1
 ·rw [h1];exact h0
theorem Z3L {a:AV} {next:Int} (k:AvOk a next) (x s:Nat):Lesser a (Q3u next x a (s:Int)).1 next/\(Q3u next x a (s:Int)).1.en x s=none:=by
 unfold Q3u;split
 ·rename_i h0;refine⟨Lesser.refl k,?_⟩;cases AP:a.en x s with
  | none=>rfl
  | some c =>
   exfalso;obtain⟨n,hn,q1,q2⟩:=k.has x s c AP;have:=(Q4V k.ok hn x s).2 ⟨q1,q2⟩;have:=k.ok.rng n hn;omega
 ·obtain⟨h1,h2,h3⟩:=AvOk.weakA15 (Q0H (kdF a.N) (rkF next) (ownN a.N (x:Int) (s:Int))++[ownN a.N (x:Int) (s:Int)]) k;exact⟨⟨h1,h2⟩,h3 x s (by simp)⟩
theorem Q7L {next:Int} {x:Nat}:∀(l:List Nat) {a:AV},AvOk a next->Lesser a (Q1P next x a (l.map fun (s:Nat)=>(s:Int))).1 next/\∀s∈l,(Q1P next x a (l.map fun (s:Nat)=>(s:Int))).1.en x s=none
 | [],a,k=>⟨Lesser.refl k,fun _ h=>by cases h⟩
 | s::r,a,k=>by
  obtain⟨h1,h2⟩:=Z3L k x s;obtain⟨i1,i2⟩:=Q7L r h1.ok;refine⟨h1.trans i1,fun t ht=>?_⟩;rcases J2m.1 ht with rfl|ht
  ·exact i1.none h2
  ·exact i2 t ht
theorem Z6M {a:AV} {l:List Pl} {tb:Nat->TB} {N:List (En Nd)} {next:Int} {x:Nat} (ha:a=avOf l tb N) (k:AvOk a next):Lesser a (Q1P next x a (Q0n l tb x)).1 next/\∀s:Nat,(Q1P next x a (Q0n l tb x)).1.en x s=none:=by
 obtain⟨L,hL⟩:∃L:List Nat,Q0n l tb x=L.map fun (s:Nat)=>(s:Int):=by
  unfold Q0n;split
  ·exact⟨[],rfl⟩
  ·split
   ·exact⟨_,rfl⟩
   ·exact⟨[],rfl⟩
 have Aw:=fun z=>mem_slotsL (l:=l) (tb:=tb) (x:=x) (z:=z)
 rw [hL] at Aw ⊢;obtain⟨h1,h2⟩:=Q7L (x:=x) L k;refine⟨h1,fun s=>?_⟩;by_cases hs:s∈L
 ·exact h2 s hs
 ·refine h1.none ?_;rw [ha];show (Q0f l tb x s).map Ent.c=none;cases he:Q0f l tb x s with
  | none=>rfl
  | some e =>
   exfalso;obtain⟨p,_,_,h4,_⟩:=Q1C he;obtain⟨t,ht,Vu⟩:=J2n.1 ((Aw (s:Int)).2 ⟨s,rfl,h4,e,he⟩);have:t=s:=by have h':(t:Int)=(s:Int):=Vu;omega
   exact hs (this ▸ ht)
def Q2g (a:AV) (p:Int×Int):AV×Nat:=Q0M 15 a [ownN a.N p.1 p.2]
def Q1d:AV->List (Int×Int)->AV×Nat
 | a,[]=>(a,0)
 | a,p::r=>((Q1d (Q2g a p).1 r).1,(Q2g a p).2+(Q1d (Q2g a p).1 r).2)
theorem purgeA_snoc:∀(l:List (Int×Int)) (a:AV) (p:Int×Int),Q1d a (l++[p])=((Q2g (Q1d a l).1 p).1,(Q1d a l).2+(Q2g (Q1d a l).1 p).2)
 | [],a,p=>by
  show ((Q2g a p).1,(Q2g a p).2+0)=((Q2g a p).1,0+(Q2g a p).2);rw [J4L,J2q]
 | y::r,a,p=>by
  rw [J4s];unfold Q1d;rw [purgeA_snoc r];simp only [J3H]
theorem Q9P (a:AV) (p:Int×Int):(Q2g a p).2<=1:=Q5Q 15 _ a
theorem Q9Q:∀(l:List (Int×Int)) (a:AV),(Q1d a l).2<=l.length
 | [],a=>J2h _
 | p::r,a=>by
  have h1:=Q9P a p;have h2:=Q9Q r (Q2g a p).1;show _+_<=_;rw [J2S];omega
theorem Q6K {next:Int}:∀(l:List (Int×Int)) {a:AV},AvOk a next->Lesser a (Q1d a l).1 next/\∀h s:Nat,((h:Int),(s:Int))∈l->(Q1d a l).1.en h s=none
 | [],a,k=>⟨Lesser.refl k,fun _ _ h=>by cases h⟩
 | p::r,a,k=>by
  obtain⟨h1,h2,h3⟩:=AvOk.weakA15 [ownN a.N p.1 p.2] k;obtain⟨i1,i2⟩:=Q6K r h1;have hl:Lesser a (Q2g a p).1 next:=⟨h1,h2⟩
  refine⟨hl.trans i1,fun h s hm=>?_⟩;rcases J2m.1 hm with rfl|hm
  ·exact i1.none (h3 h s (by simp))
  ·exact i2 h s hm
def AsideS (H:HL) (L:List (Int×Int)) (a:Option Addr) (w:World):Prop:=∀(j:Nat) (x:Int×Int),L[j]?=some x->∃g,a=some ⟨g,0,none⟩/\g∉keys H/\g<w.heap.size/\w.cell? ⟨g,j*2,none⟩=some (.int .i64 x.1)/\w.cell? ⟨g,j*2+1,none⟩=some (.int .i64 x.2)
theorem AsideS.step {H H':HL} {L:List (Int×Int)} {a:Option Addr} {w w':World} (h:AsideS H L a w) (st:Step H H' w w'):AsideS H' L a w':=fun j x hj=>by
 obtain⟨g,h1,h2,h3,h4,h5⟩:=h j x hj;have e:=st.chg.block g h3 h2;refine⟨g,h1,fun hk=>?_,J2j h3 st.chg.size,(World.cell?_of_block (w:=w) e).trans h4,(World.cell?_of_block (w:=w) e).trans h5⟩;rcases st.new g hk with h'|h'
 ·exact h2 h'
 ·omega
theorem Z2j:∀(L:List (Int×Int)) (j:Nat) (x:Int×Int),L[j]?=some x->(L.flatMap encS)[j*2]?=some (.int .i64 x.1)/\(L.flatMap encS)[j*2+1]?=some (.int .i64 x.2)
 | [],j,x,h=>by simp at h
 | p::r,0,x,h=>by
  simp at h;subst h;exact⟨rfl,rfl⟩
 | p::r,j+1,x,h=>by
  have ih:=Z2j r j x (by simpa using h);rw [J2E];have e1:(j+1)*2=(j*2)+(encS p).length:=by simp [encS];omega
  have e2:(j+1)*2+1=(j*2+1)+(encS p).length:=by simp [encS];omega
  rw [e2,e1,J5v (by omega),J5v (by omega)]
  simpa using ih
theorem NewSp.aside {w w':World} {H:HL} {L:List (Int×Int)} {r:Ending} (h:NewSp w L r w') (hs:Sep w H):∃(a:Option Addr) (cap:Nat),r=.returned (.slice a L.length cap)/\Below w.heap.size w w'/\AsideS H L a w':=by
 obtain⟨v,rfl,h1,h2⟩:=h;obtain⟨a,cap,rfl,h3⟩:=Q5S h1;refine⟨a,cap,rfl,h2,fun j x hj=>?_⟩;obtain⟨e1,e2⟩:=Z2j L j x hj;obtain⟨g,rfl,q1,q2,q3⟩:=h3 _ _ e1;obtain⟨g',e,_,_,q4⟩:=h3 _ _ e2;cases e;exact⟨g,rfl,fun hk=>by have:=hs.lt hk;omega,q2,q3,q4⟩
theorem Z1b {w:World} {H:HL} (hs:Sep w H) (T:TypeId) (cs:List Value):AsideV H cs (some ⟨w.heap.size,0,none⟩) (w.alloc (.cells cs.toArray T)):=fun j v hj =>
 ⟨w.heap.size,rfl,fun hk=>by have:=hs.lt hk;omega,by simp,(Cells.new w T cs).cell j v hj⟩
def Z9C (Z:SP) (fr:List Nat) (N K:Nat) (M:Int) (l:List (Int×Int)) (w w':World):Prop:=∃Z',Z'.Ok fr N K M/\Z'.av=(Q1d Z.av l).1/\SameZ Z Z'/\Step Z.hl Z'.hl w w'
structure PgI (Z:SP) (fr:List Nat) (N K:Nat) (M:Int) (l:List (Int×Int)) (a:Option Addr) (w:World) (k:Nat) (Z1:SP) (wr:World):Prop where
 ok:Z1.Ok fr N K M
 av:Z1.av=(Q1d Z.av (l.take k)).1
 same:SameZ Z Z1
 st:Step Z.hl Z1.hl w wr
 row:AsideS Z1.hl l a wr
theorem Z1c {wr W:World} {Z:SP} {fr:List Nat} {N K:Nat} {M:Int} (hs:Sep wr Z.hl) (ok:Z.Ok fr N K M) {x s:Nat} (hx:x<4294967296) (A9:s<256) (hb:Below wr.heap.size wr W) :
  Calls prog 88 #[.pointer (some ⟨Z.F.f,0,none⟩),.int .i64 x,.int .i64 s] W fun r w1=>r=.returned (.int .i64 (ownN Z.F.N (x:Int) (s:Int)))/\W=w1 /\
   ∀(w2:World) (a:Nat),a=w2.heap.size->Below wr.heap.size wr w2->Calls prog 85 #[.pointer (some ⟨Z.s,0,none⟩),.int .i64 15,.slice (some ⟨a,0,none⟩) 1 1] (w2.alloc (.cells #[.int .i64 (ownN Z.F.N (x:Int) (s:Int))] 3)) fun r w3=>∃v:Nat,r=.returned (.int .i64 v)/\v<=1/\(∀b,wr.heap.size<=b->b<w2.heap.size->w3.heap[b]?=w2.heap[b]?)/\∃Z',Z'.Ok fr N K M/\Q2g Z.av ((x:Int),(s:Int))=(Z'.av,v)/\SameZ Z Z'/\Step Z.hl Z'.hl wr w3:=by
 have s1:=hs.grown hb;have g1:(0:Int)<=(x:Int):=by omega
 have g2:(x:Int)<9223372036854775808:=by omega
 have g3:(0:Int)<=(s:Int):=by omega
 have g4:(s:Int)<9223372036854775808:=by omega
 refine (Q4R (SP.sF s1.sep) ok.fo (sp:=(x:Int)) (sl:=(s:Int)) (Q3q (p:=((x:Int),(s:Int))) g1 g2 g3 g4)).mono ?_;rintro r w1 ⟨rfl,rfl⟩;refine⟨rfl,rfl,fun w2 a ha Af=>?_⟩;subst ha;have As:=Af.alloc Af.size (.cells #[.int .i64 (ownN Z.F.N (x:Int) (s:Int))] 3);have s3:=hs.grown As;have Az:AsideV Z.hl ([ownN Z.F.N (x:Int) (s:Int)].map encI) (some ⟨w2.heap.size,0,none⟩) (w2.alloc (.cells #[.int .i64 (ownN Z.F.N (x:Int) (s:Int))] 3)):=Z1b (hs.grown Af).sep 3 [.int .i64 (ownN Z.F.N (x:Int) (s:Int))];refine (Q2v s3.sep ok 15 (by omega) (by omega) [ownN Z.F.N (x:Int) (s:Int)] (some ⟨w2.heap.size,0,none⟩) 1 (by simp) Az (Q7D _ _)).mono ?_
 rintro r w3 ⟨rfl,Z',k1,k2,k3,st⟩;refine⟨_,rfl,Q9P Z.av ((x:Int),(s:Int)),fun b h1 h2=>?_,Z',k1,?_,k3,s3.trans st⟩
 ·have h3:b<(w2.alloc (.cells #[.int .i64 (ownN Z.F.N (x:Int) (s:Int))] 3)).heap.size:=by simp;omega
  rw [st.keep hs h1 b (J2h _) h3];exact Below.heap_alloc _ _ _ h2
 ·unfold Q2g;rw [k2];rfl
theorem Q7M {w:World} {Z:SP} {fr:List Nat} {N K:Nat} {M:Int} (hs:Sep w Z.hl) (ok:Z.Ok fr N K M) (h:Nat) :
  Calls prog 39 #[.pointer (some ⟨Z.s,0,none⟩),.int .u32 h] w fun r w'=>r=.returned (.int .i64 ((Q1d Z.av (Q2J Z.S.l Z.tb h)).2:Nat))/\Z9C Z fr N K M (Q2J Z.S.l Z.tb h) w w':=by
 have kh:=Q3t hs ok h;have Cl:Hid (∀w1 a,Below w.heap.size w w1->AsideS Z.hl (Q2J Z.S.l Z.tb h) a w1->PgI Z fr N K M (Q2J Z.S.l Z.tb h) a w 0 Z w1):=fun w1 a hb ha=>⟨ok,rfl,SameZ.refl Z,hs.grown hb,ha⟩
 have HS:=Q0a hs;have FJ:Hid (∀z∈Q2J Z.S.l Z.tb h,∃x s:Nat,z=((x:Int),(s:Int))/\x<4294967296/\s<256):=fun z hz=>by
  obtain⟨x,hx,s,rfl,h3,_⟩:=mem_holdL.1 hz;obtain⟨q,hq⟩:=(Q1t (by rw [ok.core.inv.len];omega)).1 hx;exact⟨x,s,rfl,by
   obtain⟨a1,a2,_⟩:=pget_some.1 hq;have:=(ok.core.inv.lok.2 q (J4v a1)).2;unfold nm at a2;omega,h3⟩
 have CS:(Q2J Z.S.l Z.tb h).length<=65536:=by
  have h1:=Q6G Z.S.l Z.tb h (allL Z.S.l 1);have h2:=Q1Y Z.S.l 1 Z.S.l.length;rw [ok.core.inv.len] at h2;unfold Q2J;unfold allL at h1 ⊢;rw [ok.core.inv.len] at h1 ⊢;omega
 generalize hL:Q2J Z.S.l Z.tb h=l at *
 generalize hn:l.length=n at *
 have HN:=Q0a hn;have DZ:=Q0a CS;clear hs ok hL hn CS;go_enter func39,ntmps39;go_wp2_with fail;refine kh.mono ?_;intro r w1 Dg;obtain⟨a,cap,rfl,h2,has⟩:=Dg.aside HS.out;have KJ:=Q0a (Cl.out w1 a h2 has);rw [HN.out];clear h2 has kh Cl Dg;go_wp2_with fail
 go_loopg [5,12] n (fun gk cv iv wr=>∃(k:Nat) (Z1:SP),iv=.int .i64 k/\cv=.int .i64 ((Q1d Z.av (l.take k)).2:Nat)/\k+gk=n/\PgI Z fr N K M l a w k Z1 wr)
 case atStart=>exact⟨0,Z,rfl,rfl,by omega,KJ.out⟩
 case round =>
  obtain⟨k,Z1,rfl,rfl,A7,hI⟩:=hrel;have C0:=Q0a A7;have HI:=Q0a hI;by_cases Ab:k<n
  ·obtain⟨z,hz⟩:∃z,l[k]?=some z:=⟨l[k]'(by rw [HN.out];exact Ab),J4y (by rw [HN.out];exact Ab)⟩
   obtain⟨x,s,rfl,EV,A9⟩:=FJ.out z (J4v hz);obtain⟨g,rfl,_,_,GZ,LE⟩:=hI.row k _ hz;have BK:∀(Z2:SP) (w':World) (v:Nat),Q2g Z1.av ((x:Int),(s:Int))=(Z2.av,v)->Z2.Ok fr N K M->SameZ Z1 Z2->Step Z1.hl Z2.hl wr w'->(Q1d Z.av (l.take (k+1))).2=(Q1d Z.av (l.take k)).2+v/\PgI Z fr N K M l (some ⟨g,0,none⟩) w (k+1) Z2 w':=fun Z2 w' v e k1 k2 k3=>by
    have AW:l.take (k+1)=l.take k++[((x:Int),(s:Int))]:=by rw [J4d,hz];rfl
    have DW:Q1d Z.av (l.take (k+1))=(Z2.av,(Q1d Z.av (l.take k)).2+v):=by
     rw [AW,purgeA_snoc,<- HI.out.av,e]
    exact⟨by rw [DW],k1,by rw [DW],HI.out.same.trans k2,HI.out.st.trans k3,AsideS.step HI.out.row k3⟩
   have DB:=Q0a BK;have HR:Hid (∀W,Below wr.heap.size wr W->W.cell? ⟨Z1.s,1,none⟩=some (.pointer (some ⟨Z1.F.f,0,none⟩))/\_):=fun W hb=>⟨SP.c1 (HI.out.st.sep.grown hb).sep,Z1c HI.out.st.sep HI.out.ok EV A9 hb⟩
   have FU:=hI.same.s;rw [FU] at HR;have DT:=Q9Q (l.take k) Z.av;rw [J4A] at DT;have CE:(k:Int)<(n:Int):=by omega
   have By:(0:Int)<=(k:Int):=by omega
   have FP:(k:Int)<=65536:=by have:=DZ.out;omega
   have KB:(Q1d Z.av (l.take k)).2<=65536:=by have:=DZ.out;omega
   generalize A6:(Q1d Z.av (l.take k)).2=c at *
   have JI:(c:Int)<=65536:=by omega
   have G9:(0:Int)<=(c:Int):=by omega
   have D1:(0:Int)<=(s:Int):=by omega
   have C2:(s:Int)<256:=by omega
   have Cj:(0:Int)<=(x:Int):=by omega
   have Dg:(x:Int)<4294967296:=by omega
   have VM:Hid (∀Z2:SP,SameZ Z1 Z2->Z2.F.f=Z1.F.f/\Z2.s=Z.s):=fun Z2 h=>⟨h.f,h.s.trans HI.out.same.s⟩
   generalize Z1.F.f=ff at *
   clear hI A7 hz DT A6 KB BK FU A9 EV;have BY:Below wr.heap.size wr (wr.alloc (.cells #[.int .i64 x,.int .i64 s] 46)):=(Below.refl _ _).alloc (J2h _) _;have IH:=Cells.new wr 46 [.int .i64 x,.int .i64 s];have e0:=IH.cell 0 _ rfl;have e1:=IH.cell 1 _ rfl;obtain⟨d0,-⟩:=HR.out _ BY;obtain⟨d1,kf⟩:=HR.out _ BY.drew;have e0d:(wr.alloc (.cells #[.int .i64 x,.int .i64 s] 46)).drew.cell? ⟨wr.heap.size,0,none⟩=some (.int .i64 x):=e0;have e1d:(wr.alloc (.cells #[.int .i64 x,.int .i64 s] 46)).drew.cell? ⟨wr.heap.size,1,none⟩=some (.int .i64 s):=e1;have AG:=Q0a BY;have Cy:=Q0a IH;have Bq:Hid (∀W,Below (wr.alloc (.cells #[.int .i64 x,.int .i64 s] 46)).heap.size (wr.alloc (.cells #[.int .i64 x,.int .i64 s] 46)) W->W.cell? ⟨Z.s,1,none⟩=some (.pointer (some ⟨ff,0,none⟩))/\W.cell? ⟨wr.heap.size,0,none⟩=some (.int .i64 x)/\W.cell? ⟨wr.heap.size,1,none⟩=some (.int .i64 s)):=fun W hb=>by
    have hc:=Cy.out.same (hb.block _ (by simp));exact⟨(HR.out _ (Q0e hb)).1,hc.cell 0 _ rfl,hc.cell 1 _ rfl⟩
   have RZ:Hid (∀W,Below (wr.alloc (.cells #[.int .i64 x,.int .i64 s] 46)).heap.size (wr.alloc (.cells #[.int .i64 x,.int .i64 s] 46)) W->∀o,Below (wr.alloc (.cells #[.int .i64 x,.int .i64 s] 46)).heap.size (wr.alloc (.cells #[.int .i64 x,.int .i64 s] 46)) (W.alloc o)):=fun W hb o=>hb.alloc hb.size o
   have Du:Hid (∀(w2 w3:World) (Z2:SP),Below (wr.alloc (.cells #[.int .i64 x,.int .i64 s] 46)).heap.size (wr.alloc (.cells #[.int .i64 x,.int .i64 s] 46)) w2->(∀b,wr.heap.size<=b->b<w2.heap.size->w3.heap[b]?=w2.heap[b]?)->SameZ Z1 Z2->Step Z1.hl Z2.hl wr w3->w3.cell? ⟨Z.s,1,none⟩=some (.pointer (some ⟨ff,0,none⟩))/\w3.cell? ⟨wr.heap.size,0,none⟩=some (.int .i64 x)/\w3.cell? ⟨wr.heap.size,1,none⟩=some (.int .i64 s)):=fun w2 w3 Z2 hb hk sm st=>by
    have hc:=Cy.out.same (hb.block _ (by simp));have GT:=hc.same (hk _ (J2h _) hc.lt);have h1:=SP.c1 st.sep;obtain⟨q1,q2⟩:=VM.out Z2 sm;rw [q1,q2] at h1;exact⟨h1,GT.cell 0 _ rfl,GT.cell 1 _ rfl⟩
   have DN:Hid (Below (wr.alloc (.cells #[.int .i64 x,.int .i64 s] 46)).heap.size (wr.alloc (.cells #[.int .i64 x,.int .i64 s] 46)) (wr.alloc (.cells #[.int .i64 x,.int .i64 s] 46)).drew):=(Below.refl _ _).drew;clear BY IH;go_wp2_with fail
   go_region_held3 (fun W=>W.cell? ⟨Z.s,1,none⟩=some (.pointer (some ⟨ff,0,none⟩))/\W.cell? ⟨wr.heap.size,0,none⟩=some (.int .i64 x)/\W.cell? ⟨wr.heap.size,1,none⟩=some (.int .i64 s)) (first|exact⟨d0,e0,e1⟩|exact⟨d1,e0d,e1d⟩|exact Bq.out _ (RZ.out _ DN.out _)|exact RK)
    (first|(go_at_call 88;refine kf.mono ?_;rintro r w2 ⟨rfl,rfl,L8⟩;have SQ:=Q0a L8;clear L8)|(go_at_call 85;refine (SQ.out (wr.alloc (.cells #[.int .i64 x,.int .i64 s] 46)).drew (wr.heap.size+1) (by simp) AG.out.drew).mono ?_;rintro r w3 ⟨v,rfl,hv,hk,Z2,k1,k2,k3,st⟩;have RK:=Du.out _ _ _ DN.out hk k3 st;have RH:=Q0a (DB.out _ _ _ k2 k1 k3 st);have HV:=Q0a hv;clear hv hk k1 k2 k3 st))
   obtain⟨q1,q2⟩:=RH.out;have Q1:=Q0a q1;have Q2:=Q0a q2;have Wr:(0:Int)<=(v:Int):=by omega
   have Gk:(v:Int)<=1:=by have:=HV.out;omega
   clear q1 q2 RH SQ RK Du RZ Bq DN AG Cy kf d0 d1 e0 e1 e0d e1d;go_wp2_with fail;go_roundg (n-(k+1))
   case measure=>have:=C0.out;omega
   case rel=>exact⟨k+1,Z2,by go_num,by rw [Q1.out];simp;exact Go.IntWalk.i64_in _ (by omega),by have:=C0.out;omega,Q2.out⟩
  ·obtain rfl:k=n:=by have:=C0.out;omega
   have HR:Hid (((Q1d Z.av (l.take k)).2=(Q1d Z.av l).2)/\Z9C Z fr N K M l w wr):=by
    have h1:l.take k=l:=by rw [<- HN.out,J6q]
    have h2:=hI.av;rw [h1] at h2;exact⟨by rw [h1],Z1,hI.ok,h2,hI.same,hI.st⟩
   rw [HR.out.1];clear hI A7;go_wp2_with fail
   first|exact⟨rfl,HR.out.2⟩|(go_ret;exact⟨rfl,HR.out.2⟩)
end Go.Proofs.YtlakjlmaboioiaaGreatDoor
