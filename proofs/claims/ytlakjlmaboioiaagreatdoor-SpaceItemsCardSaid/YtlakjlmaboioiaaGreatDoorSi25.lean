/- SpaceItems returns true at every input. No condition. Part of its proof. -/
import Derived.Test.YtlakjlmaboioiaaGreatDoorSi01
import Derived.Test.YtlakjlmaboioiaaGreatDoorSi19
import Derived.Test.YtlakjlmaboioiaaGreatDoorSi21
import Derived.Test.YtlakjlmaboioiaaGreatDoorSi12
import Derived.Test.YtlakjlmaboioiaaGreatDoorSi17
import Derived.Test.YtlakjlmaboioiaaGreatDoorSi22
import Derived.Test.YtlakjlmaboioiaaGreatDoorSi24
import Derived.Deep.LoopGhost
set_option maxHeartbeats 8000000
set_option maxRecDepth 100000
set_option linter.unusedVariables false
namespace Go.Proofs.YtlakjlmaboioiaaGreatDoor
open Go.RowKit Go.Proofs.Tryz
def Z7r (N:List (En Nd)) (x z:Int):Value:=match Z9R N x z with
 | none=>.tuple #[.agg #[.int .i64 0,.int .i64 0],.bool false]
 | some p=>.tuple #[.agg #[.int .i64 p.1,.int .i64 p.2],.bool true]
def parV (N:List (En Nd)) (id:Int):Int:=match find N id with
 | none=>0
 | some n=>n.q.par
theorem Q9M {w:World} {q:FO} (h:Sep w q.hl) (id:Int):Calls prog 87 #[.pointer (some ⟨q.f,0,none⟩),.int .i64 id] w fun r w'=>r=.returned (.int .i64 (parV q.N id))/\w=w':=by
 unfold parV;cases hf:find q.N id with
 | none=>exact Q8q h hf
 | some e=>exact Q8p h hf
theorem Z2G {w:World} {q:FO} (h:Sep w q.hl) (id:Int):∃(a b:Int) (c:Bool),((find q.N id=none/\a=0/\b=0/\c=false)∨∃m,find q.N id=some m/\a=m.q.sp/\b=m.q.sl/\c=true)/\Calls prog 86 #[.pointer (some ⟨q.f,0,none⟩),.int .i64 id] w fun r w'=>r=.returned (.tuple #[.int .i64 a,.int .i64 b,.bool c])/\Below w.heap.size w w':=by
 cases hf:find q.N id with
 | none=>exact⟨0,0,false,.inl ⟨rfl,rfl,rfl,rfl⟩,(Q5K h hf).mono fun r w' ⟨h1,h2⟩=>⟨h1,h2 ▸ Below.refl _ _⟩⟩
 | some e=>exact⟨e.q.sp,e.q.sl,true,.inr ⟨e,rfl,rfl,rfl,rfl⟩,Q5L h hf⟩
theorem Z5q {w:World} {Z:SP} (hs:Sep w Z.hl) (ok:Z.F.Ok) {x z:Nat} (hx:x<4294967296) (hz:z<256) :
  Calls prog 22 #[.pointer (some ⟨Z.s,0,none⟩),.int .u32 x,.int .i64 z] w (Told w (Z7r Z.F.N (x:Int) (z:Int))):=by
 have b1:Below w.heap.size w (w.alloc (.cells #[.int .i64 0,.int .i64 0] 46)):=(Below.refl _ _).alloc (J0t _) _;have s1:=(hs.grown b1).sep;have c1:=SP.c1 s1;have c1d:(w.alloc (.cells #[.int .i64 0,.int .i64 0] 46)).drew.cell? ⟨Z.s,1,none⟩=some (.pointer (some ⟨Z.F.f,0,none⟩)):=c1;have g1:(0:Int)<=(x:Int):=by omega
 have g2:(x:Int)<9223372036854775808:=by omega
 have g3:(0:Int)<=(z:Int):=by omega
 have g4:(z:Int)<9223372036854775808:=by omega
 have kf:=Q4p (SP.sF s1.drew) ok (sp:=(x:Int)) (sl:=(z:Int)) (Q2R (p:=((x:Int),(z:Int))) g1 g2 g3 g4);clear g1 g2 g3 g4;have kp:=Q9M (SP.sF s1.drew) (ownN Z.F.N (x:Int) (z:Int));obtain⟨a,b,c,hcase,ko⟩:=Z2G (SP.sF s1.drew) (parV Z.F.N (ownN Z.F.N (x:Int) (z:Int)));have hv:Z7r Z.F.N (x:Int) (z:Int)=.tuple #[.agg #[.int .i64 a,.int .i64 b],.bool c]:=by
  unfold Z7r Z9R;unfold parV at hcase;cases hf:find Z.F.N (ownN Z.F.N (x:Int) (z:Int)) with
  | none =>
   rw [hf] at hcase;simp only at hcase;rcases hcase with ⟨_,rfl,rfl,rfl⟩|⟨m,hm,_⟩
   ·rfl
   ·rw [ok.n.zero] at hm;cases hm
  | some n =>
   rw [hf] at hcase;simp only at hcase ⊢;rcases hcase with ⟨h0,rfl,rfl,rfl⟩|⟨m,hm,rfl,rfl,rfl⟩
   ·rw [h0];rfl
   ·rw [hm];rfl
 rw [hv];have HO:Hid (∀w1,Below (w.alloc (.cells #[.int .i64 0,.int .i64 0] 46)).drew.heap.size (w.alloc (.cells #[.int .i64 0,.int .i64 0] 46)).drew w1->w1.cell? ⟨Z.s,1,none⟩=some (.pointer (some ⟨Z.F.f,0,none⟩))/\Cells w1 w.heap.size 46 [.int .i64 0,.int .i64 0]/\∀u v,Below w.heap.size w ((w1.setCell ⟨w.heap.size,0,none⟩ u).setCell ⟨w.heap.size,1,none⟩ v)):=fun w1 hb=>by
  have hb':Below (w.alloc (.cells #[.int .i64 0,.int .i64 0] 46)).heap.size (w.alloc (.cells #[.int .i64 0,.int .i64 0] 46)) w1:=((Below.refl _ _).drew).trans hb;have hbz:Below w.heap.size w w1:=Q0e hb';exact⟨SP.c1 (hs.grown hbz).sep,(Cells.new w 46 [.int .i64 0,.int .i64 0]).same (hb'.block w.heap.size (by simp)),fun u v=>(hbz.setCell (J0t _) _).setCell (J0t _) _⟩
 generalize parV Z.F.N (ownN Z.F.N (x:Int) (z:Int))=pid at *
 generalize ownN Z.F.N (x:Int) (z:Int)=oid at *
 have hx0:(0:Int)<=(x:Int):=by omega
 have hx1:(x:Int)<4294967296:=by omega
 have hwx:IntKind.i64.wrap (x:Int)=(x:Int):=Go.IntWalk.i64_in _ (by omega);clear hs ok hx hz hcase hv b1 s1;go_enter func22,ntmps22;go_wp2_with fail
 go_region_held3 (fun w'=>w'.cell? ⟨Z.s,1,none⟩=some (.pointer (some ⟨Z.F.f,0,none⟩))) (first|exact c1|exact c1d|exact hcell)
  (first|(go_at_call 88;refine kf.mono ?_;rintro r w' ⟨rfl,rfl⟩)|(go_at_call 87;refine kp.mono ?_;rintro r w' ⟨rfl,rfl⟩)|(go_at_call 86;refine ko.mono ?_;rintro r w1 ⟨rfl,hb⟩;obtain⟨hcell,hres,hz⟩:=HO.out w1 hb;have HZ:=Q0a hz;have e0:=hres.cell 0 _ rfl;have e1:=hres.cell 1 _ rfl;have f0:=hres.free 0;have f1:=hres.free 1;have hlt:=hres.lt;clear hz hres hb HO))
 go_wp2_with fail;refine bodyPost_ret (v:=.tuple #[.agg #[.int .i64 a,.int .i64 b],.bool c]) (by simp [results,results22,go_sem,e0,e1]) rfl ⟨rfl,HZ.out _ _⟩
structure MkS (S:CO) (per:Nat) (limit ch:Int) (n N:Nat) (l:List Pl):Prop where
 ok:S.Ok [] N 0
 tpi:TPI S fun _=>TB.emp
 ts:S.ts=[]
 now:S.now=0
 per:S.period=per
 top:S.P.d.top=6
 ps:S.P.d.ps.length<=n
 q:∃b,S.P.q.E=[⟨0,b,⟨limit,ch,0,-1,0⟩⟩]
 l:S.l=l
def MkQ (c:Nat) (per:Nat) (limit ch:Int) (n N:Nat) (L:List Pl->Prop) (w0 wr:World):Prop:=∃S l,S.c=c/\L l/\MkS S per limit ch n N l/\Step [] S.hl w0 wr
theorem Z5r {a:Nat} {i:Nat} {p:Pl} (h:(newL a)[i]?=some p):¬(p.st=1/\p.kind=2):=by
 rcases Q2d (J2G h) with rfl|rfl
 ·simp
 ·simp [noPl]
theorem Z7s {S:CO} {limit:Int} {per:Nat} (f:Q6H S 6 limit per):MkS S per limit 64 1 1 (newL 64):=by
 refine⟨f.ok,TPI.emp f.ok (fun i p hi=>by rw [f.l] at hi;exact Z5r hi) (f.high 7 (by omega)) (f.high 6 (by omega)) (fun id=>by rw [f.xc]),f.ts,f.now,f.period,f.top,by rw [f.ps];simp,f.q,f.l⟩
theorem Z5s {w w1:World} {S:CO} {limit:Int} {per:Nat} (f:Q6H S 6 limit per) (st:Step [] (S.hl++[]) w w1):MkQ S.c per limit 64 1 1 (fun l=>l=newL 64) w w1:=
 ⟨S,newL 64,rfl,rfl,Z7s f,by simpa using st⟩
theorem Z9g {S:CO} {per n N:Nat} {limit ch:Int} {l:List Pl} (m:MkS S per limit ch n N l) {k i:Nat} (hk:2<=k/\k<=5) (hc:((costK k:Nat):Int)<=limit-ch) (hn:n<64) (hroot:l[0]?=some ⟨1,64,0,1,0,0⟩) (hi:Fst l i (noPl 0)) {w w':World} {r:Ending} (h:MakeR S [] 0 ((k:Nat):Int) 0 w r w') :
  ∃a x S',r=two i 0/\S'.c=S.c/\MkS S' per limit (ch+((costK k:Nat):Int)) (n+1) (N+1) (l.set i ⟨k,a,0,1,0,x⟩)/\Step S.hl S'.hl w w':=by
 obtain⟨b,hq⟩:=m.q;have hfe:find S.P.q.E 0=some ⟨0,b,⟨limit,ch,0,-1,0⟩⟩:=by rw [hq];rfl
 have hil:i<256:=by
  have:=(J0K.1 hi.1).1;have h2:=m.ok.inv.len;rw [m.l] at h2;omega
 have hpg:pget S.l 1 0=some ⟨1,64,0,1,0,0⟩:=by rw [m.l];exact pget_some.2 ⟨hroot,rfl,rfl⟩
 obtain⟨a,x,P',fr',rfl,hm,st⟩:=h.able (f:=⟨1,64,0,1,0,0⟩) hpg (e:=⟨0,b,⟨limit,ch,0,-1,0⟩⟩) (i:=i) (p:=noPl 0) ⟨rfl,.inr ⟨by omega,hk.2⟩,hfe,by show _<=limit-(ch+0);omega,by rw [m.top];have:=m.ps;show _<64;omega,by rw [m.l];exact hi,fun h=>by omega⟩;have hiS:S.l[i]?=some (noPl 0):=by rw [m.l];exact hi.1
 have hf:=hm.fac (by omega);have hfr:fr'=[]:=by
  have h1:=(hm.ok m.ok hiS).inv.mem.frs.length_eq;have e:Q1N (S.made ⟨1,64,0,1,0,0⟩ k a x i (noPl 0) P').l 8=Q1N S.l 8:=by
   have hp:=Q2p (l:=S.l) (i:=i) (p:=noPl 0) (q:=⟨k,a,0,1,(noPl 0).age,x⟩) (atsF 8) hiS (by unfold atsF;simp [Pl.is,noPl];omega);have h0:(Q1N S.l 8).length=0:=by rw [m.ok.inv.mem.frs.length_eq];rfl
   have h2:=hp.length_eq;have e1:Q1N S.l 8=[]:=J2r.1 h0;show (S.l.set i ⟨k,a,0,1,(noPl 0).age,x⟩).filterMap (atsF 8)=_;rw [e1];refine J2r.1 ?_;rw [h2];exact h0
  rw [e,m.ok.inv.mem.frs.length_eq] at h1;simp at h1;exact J2r.1 h1.symm
 subst hfr;refine⟨a,x,_,by rw [show nm i (noPl 0)=i by unfold nm noPl;simp],?_,⟨hm.ok m.ok hiS,m.tpi.made m.ok hm hiS rfl,m.ts,m.now,m.per,by show P'.d.top=6;rw [hm.same.top,m.top],by show P'.d.ps.length<=_;have:=hm.few;have:=m.ps;omega,⟨b,?_⟩,?_⟩,st⟩
 ·rfl
 ·show P'.q.E=_;rw [hf,hq];rfl
 ·show S.l.set i _=_;rw [m.l];rfl
theorem Q6b {c per n N:Nat} {limit ch:Int} {L:List Pl->Prop} {w0 wr:World} (h:MkQ c per limit ch n N L w0 wr) (k i:Nat) (hk:2<=k/\k<=5) (hc:((costK k:Nat):Int)<=limit-ch) (hn:n<64) (hN:N+1<1048576) (hL:∀l,L l->l[0]?=some ⟨1,64,0,1,0,0⟩/\Fst l i (noPl 0)) :
  Calls prog 16 #[.pointer (some ⟨c,0,none⟩),.int .u32 0,.int .i64 ((k:Nat):Int),.int .i64 0] wr fun r w'=>r=.returned (.tuple #[.int .u32 i,.int .i64 0])/\MkQ c per limit (ch+((costK k:Nat):Int)) (n+1) (N+1) (fun l'=>∃l a x,L l/\l'=l.set i ⟨k,a,0,1,0,x⟩) w0 w':=by
 obtain⟨S,l,rfl,hl,m,st⟩:=h;have:=Z4w st.sep m.ok (by omega) (x:=0) (by omega) ((k:Nat):Int) 0;refine this.mono ?_;intro r w' hr;obtain⟨a,x,S',rfl,ec,m',st'⟩:=Z9g m hk hc hn (hL l hl).1 (hL l hl).2 hr;exact⟨rfl,S',_,ec,⟨l,a,x,hl,rfl⟩,m',st.trans st'⟩
structure MkZ (Z:SP) (per:Nat) (limit:Int) (N:Nat) (M:Int) (l:List Pl):Prop where
 ok:Z.Ok [] N 0 M
 ts:Z.S.ts=[]
 now:Z.S.now=0
 per:Z.S.period=per
 q:∃b ch,Z.S.P.q.E=[⟨0,b,⟨limit,ch,0,-1,0⟩⟩]
 l:Z.S.l=l
theorem Z5t {Z:SP} {S:CO} {per n N:Nat} {limit ch:Int} {l:List Pl} (m:MkS S per limit ch n N l) (h:Z.New S fun _=>TB.emp):MkZ Z per limit N 0 l/\Z.av=⟨fun _ _=>none,[]⟩/\Z.F.next=0:=by
 obtain⟨b,hq⟩:=m.q;refine⟨⟨h.ok m.ok m.tpi fun i _=>TB.emp_nil,by rw [h.S];exact m.ts,by rw [h.S];exact m.now,by rw [h.S];exact m.per,⟨b,ch,by rw [h.S];exact hq⟩,by rw [h.S];exact m.l⟩,?_,h.F.next⟩;unfold SP.av avOf;rw [h.tb,h.F.N];congr 1;funext x s;unfold Q0f;split
 ·split
  ·rfl
  ·rfl
 ·rfl
theorem MkZ.same {Z Z':SP} {per N:Nat} {limit:Int} {M M':Int} {l:List Pl} (m:MkZ Z per limit N M l) (ok:Z'.Ok [] N 0 M') (s:SameN Z Z'):MkZ Z' per limit N M' l:=by
 obtain⟨b,ch,hq⟩:=m.q;refine⟨ok,by rw [s.alt.ts];exact m.ts,by rw [s.alt.now];exact m.now,by rw [s.alt.per];exact m.per,?_,by rw [s.alt.l];exact m.l⟩;obtain⟨e',he',hq'⟩:=s.alt.acc 0 ⟨0,b,⟨limit,ch,0,-1,0⟩⟩ (by rw [hq];rfl);have hid:=s.alt.ids;rw [hq] at hid;have h2:∃e,Z'.S.P.q.E=[e]:=by
  cases hE:Z'.S.P.q.E with
  | nil=>rw [hE] at hid;simp at hid
  | cons e r =>
   rw [hE] at hid;simp at hid;exact⟨e,by rw [hid.2]⟩
 obtain⟨e,hE⟩:=h2;rw [hE] at he' hid;have hid':e.id=0:=by simpa using hid
 have:e=e':=by
  unfold find at he';rw [if_pos hid'.symm] at he';exact J1p he'
 subst this;refine⟨e.b,e.q.charged,?_⟩;rw [hE];obtain⟨i,b2,q⟩:=e;simp only at hid' hq' ⊢;subst hid';rw [hq']
theorem SP.Ok.entries {Z:SP} {fr:List Nat} {N K:Nat} {M:Int} (ok:Z.Ok fr N K M) {i s:Nat} (hi:i<256) (hs:s<256) (h:(Z.tb i).en s≠none):∃x c,x%256=i/\Z.av.en x s=some c:=by
 obtain⟨p,hp⟩:∃p,Z.S.l[i]?=some p:=⟨_,J2J (by rw [ok.core.inv.len];exact hi)⟩
 by_cases hk:p.st=1/\p.kind=2
 ·cases he:(Z.tb i).en s with
  | none=>exact absurd he h
  | some e =>
   refine⟨nm i p,(e.h,e.r),Q3M hi p,Q6i ?_⟩;rw [Q0i (p:=p) (pget_some.2 ⟨by rw [Q3M hi];exact hp,by rw [Q3M hi],hk.1⟩) hk.2 hs,Q3M hi];exact he
 ·exact absurd ((ok.tpi.nil i p hp hk).2 s hs) h
theorem MkZ.room {Z:SP} {per N:Nat} {limit:Int} {M:Int} {l:List Pl} (m:MkZ Z per limit N M l) (E Q:List (Nat×Nat)) (hE:∀x s c,Z.av.en x s=some c->(x%256,s)∈E) (hQ:∀x s,(x,s)∈E->(x,s/16)∈Q) {o:Nat} (ho:(l.filter Pl.is).length<=o) (hp:o+Q.length+E.length+1<64) {cs:Int} (hcs:Q0u l 0=cs)
  (hq:cs+256*(Q.length:Int)+48*(E.length:Int)+304<=limit) {i s:Nat} {er:Int}:¬WhyL Z [] 0 i s er:=by
 obtain⟨b,ch,hb⟩:=m.q;have hfe:find Z.S.P.q.E 0=some ⟨0,b,⟨limit,ch,0,-1,0⟩⟩:=by rw [hb];rfl
 have ent:∀i s,i<256->s<256->(Z.tb i).en s≠none->(i,s)∈E:=fun i s hi hs h=>by
  obtain⟨x,c,hx,hc⟩:=m.ok.entries hi hs h;rw [<- hx];exact hE x s c hc
 refine Z7S m.ok.core m.ok.tpi hfe (o:=o) (lv:=Q.length) (nd:=E.length) (by rw [m.l];exact ho) (Q6a m.ok.tpi.full Q fun i s hi hs h=>hQ i s (ent i s hi hs h)) (Q5Z E ent) hp ?_;rw [m.l,hcs];show _<=limit-0;omega
def Q9N (o:Option (Nat×Nat)):Value:=match o with
 | none=>.tuple #[.agg #[.int .u32 0,.int .i64 0],.int .i64 6]
 | some c=>.tuple #[.agg #[.int .u32 (c.1:Int),.int .i64 (c.2:Int)],.int .i64 0]
section
variable {Z:SP} {fr:List Nat} {N K:Nat} {M:Int} {w w':World}
theorem RootR.fine {x h:Nat} {z r er:Int} (R:RootR Z fr N K M x z h r w er w') {p q:Pl} (hp:pget Z.S.l 1 x=some p) (hk:p.kind=2) (hz:0<=z/\z<256) (hq:pget Z.S.l 1 h=some q) (hr:0<r/\r<=15) (hm:q.kind=8↔128<=z) (h0:Z.av.en x z.toNat=none) (hw:∀er,¬WhyL Z fr p.fac (x%256) z.toNat er) :
  er=0/\Z9f Z fr N K M x z.toNat h r.toNat 0 w w':=by
 have h0':=av_none.1 h0;rcases R with ⟨_,he,_⟩|⟨s,rn,p',q',rfl,rfl,hs,_,_,hp',_,_,_,_,hc⟩
 ·exfalso;rcases he with ⟨h1,_⟩|⟨p',h1,he⟩
  ·rw [hp] at h1;cases h1
  ·rw [hp] at h1;cases h1;rcases he with ⟨h2,_⟩|⟨_,he⟩
   ·exact h2 hk
   ·rcases he with ⟨h3,_⟩|⟨_,he⟩
    ·exact h3 hz
    ·rcases he with ⟨h4,_⟩|⟨q',h4,he⟩
     ·rw [hq] at h4;cases h4
     ·rw [hq] at h4;cases h4;rcases he with ⟨h5,_⟩|⟨_,h5,_⟩
      ·exact h5 ⟨hr,hm⟩
      ·exact h5 h0'
 ·rw [hp] at hp';cases hp';rw [J1x,J1x] at *
  rcases hc with ⟨h1,h2⟩|⟨_,h2,_⟩
  ·exact⟨h1,h2⟩
  ·exact absurd h2 (hw er)
theorem MoveR.fine {x y n:Nat} {A:Nat->Mv} {er:Int} (R:MoveR Z fr N K M x y n A w er w') {p1 p2:Pl} (hp1:pget Z.S.l 1 x=some p1) (hk1:p1.kind=2) (hp2:pget Z.S.l 1 y=some p2) (hk2:p2.kind=2) (hfit:AllFit Z.av.en x y n A) (hw:∀er,¬WhyM Z fr N K x y n p2.fac A er) :
  er=0/\MovedZ Z fr N K M x y n A w w':=by
 rcases R with ⟨hne,he,_⟩|⟨q1,q2,h1,_,h2,_,_,hc⟩
 ·exfalso;rcases he with ⟨h1,_⟩|⟨q1,h1,he⟩
  ·rw [hp1] at h1;cases h1
  ·rw [hp1] at h1;cases h1;rcases he with ⟨h2,_⟩|⟨_,he⟩
   ·exact h2 hk1
   ·rcases he with ⟨h3,_⟩|⟨q2,h3,he⟩
    ·rw [hp2] at h3;cases h3
    ·rw [hp2] at h3;cases h3;rcases he with ⟨h4,_⟩|⟨_,i,hi,_,hv⟩
     ·exact h4 hk2
     ·have:=(Z0X (N:=Z.F.N) (tb:=Z.tb) hp1 hk1 hp2 hk2 (m:=A i) (cl:=Q1e A i (A i))).2 (hfit i hi);unfold fitV at hv;rw [this] at hv;exact hne hv.symm
 ·rw [hp1] at h1;cases h1;rw [hp2] at h2;cases h2;rcases hc with ⟨h1,h2⟩|⟨_,h2,_⟩
  ·exact⟨h1,h2⟩
  ·exact absurd h2 (hw er)
theorem Q6X {en:Nat->Nat->Option (Nat×Nat)} {x y:Nat} {m:Mv} (h:FitM en x y m):AllFit en x y 1 (fun _=>m):=fun i hi=>by
 obtain rfl:i=0:=by omega
 exact⟨h,rfl⟩
theorem Z0Y {x y:Nat} {m:Mv} {own:Int} {er:Int} (h:WhyM Z fr N K x y 1 own (fun _=>m) er):WhyL Z fr own (y%256) m.dst.toNat er:=by
 obtain⟨k,S',t',hk,_,h0,hw⟩:=h;obtain⟨rfl,rfl⟩:=h0 (by omega);rw [Q2h] at hw;exact hw
theorem MovedZ.one {x y:Nat} {m:Mv} (h:MovedZ Z fr N K M x y 1 (fun _=>m) w w') (hg:m.g=false):∃(Z':SP) (c:Nat×Nat) (b:Nat),Z.av.en x m.src.toNat=some c/\Z'.av=⟨setA Z.av.en y m.dst.toNat (some (c.1,c.2&&&m.r.toNat)),addN Z.av.N (ownN Z.av.N (x:Int) m.src) (Z.F.next+1) b (y:Int) m.dst⟩/\Z'.Ok fr N K (M+1)/\SameN Z Z'/\Z'.F.next=Z.F.next+1/\Step Z.hl Z'.hl w w':=by
 obtain⟨a,Z',h1,h2,h3,h4,h5,h6⟩:=h;cases h1 with
 | succ k a0 c b h1 hc hn =>
  cases h1
  have e2:Z'.av=⟨setA Z.av.en y m.dst.toNat (some (c.1,c.2&&&m.r.toNat)),addN Z.av.N (ownN Z.av.N (x:Int) m.src) (Z.F.next+1) b (y:Int) m.dst⟩:=by
   generalize hz:Z'.av=az at h2;cases h2 with
   | skip k a' h2 _=>cases h2;simp
   | lift k a' a'' h2 hg' _=>rw [hg] at hg';cases hg'
  exact⟨Z',c,b,hc,e2,h3,h4,h5,h6⟩
theorem MovedZ.grant {x y:Nat} {m:Mv} (h:MovedZ Z fr N K M x y 1 (fun _=>m) w w') (hg:m.g=true):∃(Z':SP) (c:Nat×Nat) (b:Nat) (a:AV),Z.av.en x m.src.toNat=some c/\Z.av.en y m.dst.toNat=none/\a=⟨setA Z.av.en y m.dst.toNat (some (c.1,c.2&&&m.r.toNat)),addN Z.av.N (ownN Z.av.N (x:Int) m.src) (Z.F.next+1) b (y:Int) m.dst⟩/\weak1 15 a (ownN a.N (x:Int) m.src)=(Z'.av,true)/\Z'.Ok fr N K (M+1)/\SameN Z Z'/\Z'.F.next=Z.F.next+1/\Step Z.hl Z'.hl w w':=by
 obtain⟨a,Z',h1,h2,h3,h4,h5,h6⟩:=h;cases h1 with
 | succ k a0 c b h1 hc hn =>
  cases h1
  refine⟨Z',c,b,⟨setA Z.av.en y m.dst.toNat (some (c.1,c.2&&&m.r.toNat)),addN Z.av.N (ownN Z.av.N (x:Int) m.src) (Z.F.next+1) b (y:Int) m.dst⟩,hc,hn,rfl,?_,h3,h4,h5,h6⟩;generalize hz:Z'.av=az at h2;cases h2 with
  | skip k a' h2 hg'=>rw [hg] at hg';cases hg'
  | lift k a' a'' h2 hg' hw =>
   cases h2
   simpa using hw
theorem RevR.fine {x:Nat} {z mask:Int} {self:Bool} {r:Ending} (R:RevR Z fr N K M x z mask self w r w') {p:Pl} (hp:pget Z.S.l 1 x=some p) (hk:p.kind=2) (hz:0<=z/\z<256) (hm:0<mask/\mask<=15) {c:Nat×Nat} (hc:Z.av.en x z.toNat=some c) :
  ∃n∈Z.F.N,n.q.sp=(x:Int)/\n.q.sl=z/\r=.returned (.tuple #[.int .i64 ((Q0F mask.toNat Z.av (revL Z.F n.id self)).2:Nat),.int .i64 0])/\∃Z',Z'.Ok fr N K M/\Z'.av=(Q0F mask.toNat Z.av (revL Z.F n.id self)).1/\SameZ Z Z'/\Step Z.hl Z'.hl w w':=by
 obtain⟨e,he,_⟩:=Q2t hc;rcases R with ⟨er,_,_,hc⟩|⟨s,m,n,en,rfl,rfl,_,_,_,_,hn,h1,h2,hr,hw⟩
 ·exfalso;rcases hc with ⟨h1,_⟩|⟨p',h1,hc⟩
  ·rw [hp] at h1;cases h1
  ·rw [hp] at h1;cases h1;rcases hc with ⟨h2,_⟩|⟨_,h2,_⟩|⟨_,h2,h3,_⟩|⟨_,_,_,h3,_⟩
   ·exact h2 hk
   ·exact h2 hz
   ·exact h3 hm
   ·rw [he] at h3;cases h3
 ·rw [J1x];exact⟨n,hn,h1,h2,hr,hw⟩
theorem Z0Z {x:Nat} {z:Int} {p:Pl} (hp:pget Z.S.l 1 x=some p) (hk:p.kind=2) (hz:0<=z/\z<256):Q8A Z.S.l Z.tb x z=Q9N (Z.av.en x z.toNat):=by
 unfold Q8A;rw [hp];simp only;rw [if_pos hk,if_pos hz];show _=Q9N ((Q0f Z.S.l Z.tb x z.toNat).map Ent.c);cases Q0f Z.S.l Z.tb x z.toNat <;> rfl
theorem Q6Y {H:HL} (hs:Sep w H) (m:Mv) (hm:m.Wf):AsideM H 1 (fun _=>m) (some ⟨w.heap.size,0,none⟩) (w.alloc (.cells #[.int .i64 m.src,.int .i64 m.dst,.int .i64 m.r,.bool m.g] 39)):=by
 refine⟨fun j hj=>⟨w.heap.size,0,rfl,by simp,fun i v hv=>?_,hm⟩,fun a _ ha hk=>?_⟩
 ·obtain rfl:j=0:=by omega
  have:=(Cells.new w 39 m.cells).cell i v hv;have e:0+0*4+i=i:=by omega
  rw [e];exact this
 ·cases ha
  have:=hs.lt hk;simp at this
end
theorem Q9O {l:List Pl} {i:Nat} {p:Pl} (h:l[i]?=some p) (hp:p.st=0) (ha:∀j,j<i->∃q,l[j]?=some q/\q.st≠0):Fst l i p:=⟨h,hp,fun j q hj hq=>by
 obtain⟨q',e1,e2⟩:=ha j hj;rw [hq] at e1;cases e1;exact e2⟩
def lt1 (k a x:Nat):List Pl:=(newL 64).set 1 ⟨k,a,0,1,0,x⟩
def lt2 (k a x m b y:Nat):List Pl:=(lt1 k a x).set 2 ⟨m,b,0,1,0,y⟩
def lt3 (k a x m b y n c z:Nat):List Pl:=(lt2 k a x m b y).set 3 ⟨n,c,0,1,0,z⟩
theorem Z7T:(newL 64)[0]?=some ⟨1,64,0,1,0,0⟩/\Fst (newL 64) 1 (noPl 0):=⟨rfl,Q9O rfl rfl fun j hj=>by
 obtain rfl:j=0:=by omega
 exact⟨_,rfl,by decide⟩⟩
theorem Z7U (k a x:Nat):(lt1 k a x)[0]?=some ⟨1,64,0,1,0,0⟩/\Fst (lt1 k a x) 2 (noPl 0):=⟨rfl,Q9O rfl rfl fun j hj=>by
 have:j=0∨j=1:=by omega
 rcases this with rfl|rfl
 ·exact⟨_,rfl,by decide⟩
 ·exact⟨_,rfl,(by decide:(1:Nat)≠0)⟩⟩
theorem Z9X (k a x m b y:Nat):(lt2 k a x m b y)[0]?=some ⟨1,64,0,1,0,0⟩/\Fst (lt2 k a x m b y) 3 (noPl 0):=⟨rfl,Q9O rfl rfl fun j hj=>by
 have:j=0∨j=1∨j=2:=by omega
 rcases this with rfl|rfl|rfl
 ·exact⟨_,rfl,by decide⟩
 ·exact⟨_,rfl,(by decide:(1:Nat)≠0)⟩
 ·exact⟨_,rfl,(by decide:(1:Nat)≠0)⟩⟩
theorem Q4L (k a x m b y n c z:Nat):pget (lt3 k a x m b y n c z) 1 1=some ⟨k,a,0,1,0,x⟩/\pget (lt3 k a x m b y n c z) 1 2=some ⟨m,b,0,1,0,y⟩/\pget (lt3 k a x m b y n c z) 1 3=some ⟨n,c,0,1,0,z⟩:=⟨by kernel_rfl,by kernel_rfl,by kernel_rfl⟩
theorem Z9Y (k a x m b y n c z:Nat):((lt3 k a x m b y n c z).filter Pl.is).length=4:=by kernel_rfl
theorem Z7t (a x b y c z:Nat):Q0u (lt3 2 a x 4 b y 2 c z) 0=352:=by kernel_rfl
theorem Z7u (a x b y c z:Nat):kids (lt3 2 a x 4 b y 2 c z) 2=[]:=by kernel_rfl
def AlQ (s c:Nat) (M:Int) (C:AV->Prop) (B:List (Nat×List Value)) (w0 wr:World):Prop:=∃Z a x b y d z,Z.s=s/\Z.S.c=c/\MkZ Z 1 20000 4 M (lt3 2 a x 4 b y 2 d z)/\C Z.av/\Z.F.next=M/\Step [] Z.hl w0 wr/\∀q∈B,AsideV Z.hl q.2 (some ⟨q.1,0,none⟩) wr
theorem AlQ.grown {s c:Nat} {M:Int} {C:AV->Prop} {B:List (Nat×List Value)} {w0 wr w':World} (h:AlQ s c M C B w0 wr) (hb:Below wr.heap.size wr w'):AlQ s c M C B w0 w':=by
 obtain⟨Z,a,x,b,y,d,z,h1,h2,h3,h4,h5,st,hB⟩:=h;exact⟨Z,a,x,b,y,d,z,h1,h2,h3,h4,h5,st.trans (st.sep.grown hb),fun q hq=>(hB q hq).step (st.sep.grown hb)⟩
theorem AlQ.box {s c:Nat} {M:Int} {C:AV->Prop} {B:List (Nat×List Value)} {w0 wr:World} (h:AlQ s c M C B w0 wr) (T:TypeId) (cs:List Value):AlQ s c M C ((wr.heap.size,cs)::B) w0 (wr.alloc (.cells cs.toArray T)):=by
 obtain⟨Z,a,x,b,y,d,z,h1,h2,h3,h4,h5,st,hB⟩:=h;have hb:=(Below.refl wr.heap.size wr).alloc (J0t _) (.cells cs.toArray T);refine⟨Z,a,x,b,y,d,z,h1,h2,h3,h4,h5,st.trans (st.sep.grown hb),fun q hq=>?_⟩;rcases J0y.1 hq with rfl|hq
 ·exact Q2i st.sep T cs
 ·exact (hB q hq).step (st.sep.grown hb)
def en0:Nat->Nat->Option (Nat×Nat):=fun _ _=>none
def E0 (a:AV):Prop:=a=⟨en0,[]⟩
def E1 (a:AV):Prop:=∃b1,a=⟨setA en0 1 5 (some (2,15)),[⟨1,b1,⟨1,5,0,[]⟩⟩]⟩
def E2 (r:Nat) (a:AV):Prop:=∃b1 b2,a=⟨setA (setA en0 1 5 (some (2,15))) 3 7 (some (2,r)),[⟨1,b1,⟨1,5,0,[2]⟩⟩,⟨2,b2,⟨3,7,1,[]⟩⟩]⟩
def E4 (a:AV):Prop:=(∀h s c,a.en h s=some c->h=1/\s=5/\c=(2,15))/\a.en 1 5=some (2,15)/\∃b1,a.N=[⟨1,b1,⟨1,5,0,[]⟩⟩]
def E5 (a:AV):Prop:=(∀h s c,a.en h s=some c->h=3/\s=9/\c=(2,15))/\a.en 3 9=some (2,15)
theorem Q1g {en:Nat->Nat->Option (Nat×Nat)} {h s h' s':Nat} {o:Option (Nat×Nat)} {c:Nat×Nat} (e:setA en h s o h' s'=some c):(h'=h/\s'=s/\o=some c)∨(¬(h'=h/\s'=s)/\en h' s'=some c):=by
 by_cases hh:h'=h/\s'=s
 ·rw [hh.1,hh.2,Q8h] at e;exact .inl ⟨hh.1,hh.2,e⟩
 ·rw [Q4H hh] at e;exact .inr ⟨hh,e⟩
theorem Z7v {w w1:World} {S:CO} (f:Q6H S 6 20000 1) (st:Step [] (S.hl++[]) w w1) :
  Calls prog 16 #[.pointer (some ⟨S.c,0,none⟩),.int .u32 0,.int .i64 2,.int .i64 0] w1 fun r w2=>r=.returned (.tuple #[.int .u32 1,.int .i64 0]) /\
   Calls prog 16 #[.pointer (some ⟨S.c,0,none⟩),.int .u32 0,.int .i64 4,.int .i64 0] w2 fun r w3=>r=.returned (.tuple #[.int .u32 2,.int .i64 0]) /\
    Calls prog 16 #[.pointer (some ⟨S.c,0,none⟩),.int .u32 0,.int .i64 2,.int .i64 0] w3 fun r w4=>r=.returned (.tuple #[.int .u32 3,.int .i64 0]) /\
     Calls prog 17 #[.pointer (some ⟨S.c,0,none⟩)] w4 fun r w5=>∃s,r=.returned (.pointer (some ⟨s,0,none⟩))/\AlQ s S.c 0 E0 [] w w5:=by
 refine (Q6b (Z5s f st) 2 1 (by omega) (by decide) (by omega) (by omega) fun l hl=>by subst hl;exact Z7T).mono ?_;rintro r w2 ⟨rfl,q2⟩;refine⟨rfl,(Q6b q2 4 2 (by omega) (by decide) (by omega) (by omega) fun l hl=>by
  obtain⟨l0,a,x,rfl,rfl⟩:=hl;exact Z7U 2 a x).mono ?_⟩
 rintro r w3 ⟨rfl,q3⟩;refine⟨rfl,(Q6b q3 2 3 (by omega) (by decide) (by omega) (by omega) fun l hl=>by
  obtain⟨l0,b,y,⟨l1,a,x,rfl,rfl⟩,rfl⟩:=hl;exact Z9X 2 a x 4 b y).mono ?_⟩
 rintro r w4 ⟨rfl,S4,l,ec,⟨l0,d,z,⟨l1,b,y,⟨l2,a,x,rfl,rfl⟩,rfl⟩,rfl⟩,m,st4⟩;refine⟨rfl,?_⟩;rw [<- ec];refine (Z0N st4.sep fun _=>TB.emp).mono ?_;rintro r w5 ⟨Z,rfl,hZ,st5⟩;obtain⟨m1,m2,m3⟩:=Z5t m hZ;exact⟨Z.s,rfl,Z,a,x,b,y,d,z,rfl,by rw [hZ.S],m1,m2,m3,st4.trans st5,fun q hq=>by cases hq⟩
theorem Q9P {Z:SP} {M:Int} {a x b y d z:Nat} (m:MkZ Z 1 20000 4 M (lt3 2 a x 4 b y 2 d z)) (E:List (Nat×Nat)) (hE:∀h s c,Z.av.en h s=some c->(h%256,s)∈E) (hl:E.length<=2) {i s:Nat} {er:Int}:¬WhyL Z [] 0 i s er:=by
 refine m.room E (E.map fun p=>(p.1,p.2/16)) hE (fun u v h=>J0z.2 ⟨_,h,rfl⟩) (o:=4) (by rw [Z9Y];exact J0t _) (by rw [J2b];omega) (cs:=352) (Z7t a x b y d z) (by rw [J2b];omega)
theorem Z9h {s c:Nat} {B:List (Nat×List Value)} {w0 wr:World} (h:AlQ s c 0 E0 B w0 wr) :
  Calls prog 18 #[.pointer (some ⟨s,0,none⟩),.int .u32 1,.int .i64 5,.agg #[.int .u32 2,.int .i64 15]] wr fun r w'=>r=.returned (.int .i64 0)/\AlQ s c 1 E1 B w0 w':=by
 obtain⟨Z,a,x,b,y,d,z,rfl,rfl,m,hC,hnx,st,hB⟩:=h;refine (Q8K st.sep m.ok (by omega) (x:=1) (h:=2) (by omega) (by omega) 5 15).mono ?_;rintro r w' ⟨er,rfl,R⟩;obtain⟨g1,g2,g3⟩:=Q4L 2 a x 4 b y 2 d z;rw [<- m.l] at g1 g2;unfold E0 at hC;obtain⟨rfl,Z',k1,k2,k3,⟨b1,k4⟩,k5,k6⟩:=R.fine g1 rfl (by omega) g2 (by omega) (by show (4:Nat)=8↔(128:Int)<=5;decide) (by rw [hC];rfl) fun er=>Q9P m [] (fun h s c hc=>by rw [hC] at hc;cases hc) (by simp)
 refine⟨rfl,Z',a,x,b,y,d,z,k2.s,k2.alt.c,m.same k1 k2,⟨b1,?_⟩,by rw [k5,hnx];rfl,st.trans k6,fun q hq=>(hB q hq).step k6⟩;have hN:Z.F.N=[]:=by show Z.av.N=_;rw [hC]
 rw [hN,hnx] at k4;rw [hC] at k3;generalize hz:Z'.av=av at k3 k4;obtain⟨en,N⟩:=av;simp only at k3 k4;rw [k3,k4];rfl
theorem Z7w {s c:Nat} {B:List (Nat×List Value)} {w0 wr:World} (h:AlQ s c 1 E1 B w0 wr) :
  Calls prog 19 #[.pointer (some ⟨s,0,none⟩),.int .u32 1,.int .u32 3,.slice (some ⟨wr.heap.size,0,none⟩) 1 1] (wr.alloc (.cells #[.int .i64 5,.int .i64 7,.int .i64 5,.bool false] 39)) fun r w'=>r=.returned (.int .i64 0)/\AlQ s c 2 (E2 5) B w0 w':=by
 obtain⟨Z,a,x,b,y,d,z,rfl,rfl,m,⟨b1,hC⟩,hnx,st,hB⟩:=h;have hb:=(Below.refl wr.heap.size wr).alloc (J0t _) (.cells #[.int .i64 5,.int .i64 7,.int .i64 5,.bool false] 39);have st2:=st.sep.grown hb;have hmv:=Q6Y st.sep ⟨5,7,5,false⟩ ⟨⟨by decide,by decide⟩,⟨by decide,by decide⟩,⟨by decide,by decide⟩⟩;obtain⟨g1,g2,g3⟩:=Q4L 2 a x 4 b y 2 d z;rw [<- m.l] at g1 g3;have hfit:FitM Z.av.en 1 3 ⟨5,7,5,false⟩:=by
  rw [hC];exact⟨by decide,by decide,by decide,rfl,⟨(2,15),rfl,by decide,by decide⟩,rfl⟩
 have hmv':AsideM Z.hl 1 (fun _=>⟨5,7,5,false⟩) (some ⟨wr.heap.size,0,none⟩) (wr.alloc (.cells #[.int .i64 5,.int .i64 7,.int .i64 5,.bool false] 39)):=hmv;have km:=Q5X (n:=1) (cap:=1) (A:=fun _=>⟨5,7,5,false⟩) st2.sep m.ok (by omega) (x:=1) (y:=3) (by omega) (by omega) (by omega) (by omega) hmv';refine km.mono ?_;rintro r w' ⟨er,rfl,R⟩;obtain⟨rfl,hz⟩:=R.fine g1 rfl g3 rfl (Q6X hfit) fun er hw=>Q9P m [(1,5)] (fun h s c hc=>by
  rw [hC] at hc;rcases Q1g hc with ⟨rfl,rfl,_⟩|⟨_,h0⟩
  ·simp
  ·cases h0) (by simp) (Z0Y hw)
 obtain⟨Z',c,b2,k1,k2,k3,k4,k5,k6⟩:=hz.one rfl;rw [hC] at k1 k2;obtain rfl:(2,15)=c:=by simpa [setA] using k1
 refine⟨rfl,Z',a,x,b,y,d,z,k4.s,k4.alt.c,m.same k3 k4,⟨b1,b2,?_⟩,by rw [k5,hnx];rfl,(st.trans st2).trans k6,fun q hq=>((hB q hq).step st2).step k6⟩;rw [k2,hnx];rfl
theorem Q9Q {s c x:Nat} {M z:Int} {C:AV->Prop} {B:List (Nat×List Value)} {w0 wr:World} (h:AlQ s c M C B w0 wr) (hx:x=1∨x=3) (hz:0<=z/\z<256) {o:Option (Nat×Nat)} (ho:∀a,C a->a.en x z.toNat=o) :
  Calls prog 21 #[.pointer (some ⟨s,0,none⟩),.int .u32 x,.int .i64 z] wr fun r w'=>r=.returned (Q9N o)/\AlQ s c M C B w0 w':=by
 have h':=h;obtain⟨Z,a,u,b,y,d,v,rfl,rfl,m,hC,hnx,st,hB⟩:=h;obtain⟨g1,g2,g3⟩:=Q4L 2 a u 4 b y 2 d v;rw [<- m.l] at g1 g3;obtain⟨p,hp,hk⟩:∃p,pget Z.S.l 1 x=some p/\p.kind=2:=by
  rcases hx with rfl|rfl
  ·exact⟨_,g1,rfl⟩
  ·exact⟨_,g3,rfl⟩
 have kl:=Q8C st.sep m.ok (x:=x) (by omega) z;rw [Z0Z hp hk hz,ho _ hC] at kl;refine kl.mono ?_;rintro r w' ⟨rfl,hb⟩;exact⟨rfl,h'.grown hb⟩
theorem Q8O {s c:Nat} {r0 mk:Nat} {B:List (Nat×List Value)} {w0 wr:World} (h:AlQ s c 2 (E2 r0) B w0 wr) (hm:1<=mk/\mk<=15) {C:AV->Prop} {n:Nat} (hC1:∀a,E2 r0 a->(Q0F mk a [2]).2=n/\C (Q0F mk a [2]).1) :
  Calls prog 20 #[.pointer (some ⟨s,0,none⟩),.int .u32 1,.int .i64 5,.int .i64 mk,.bool false] wr fun r w'=>r=.returned (.tuple #[.int .i64 n,.int .i64 0])/\AlQ s c 2 C B w0 w':=by
 obtain⟨Z,a,u,b,y,d,v,rfl,rfl,m,hC,hnx,st,hB⟩:=h;obtain⟨g1,g2,g3⟩:=Q4L 2 a u 4 b y 2 d v;rw [<- m.l] at g1;obtain⟨q1,q2⟩:=hC1 _ hC;obtain⟨b1,b2,hC⟩:=hC;have hN:Z.F.N=[⟨1,b1,⟨1,5,0,[2]⟩⟩,⟨2,b2,⟨3,7,1,[]⟩⟩]:=by show Z.av.N=_;rw [hC]
 refine (Q9F st.sep m.ok (x:=1) (by omega) 5 (mk:Int) false).mono ?_;intro r w' R;obtain⟨n',hn',e1,e2,rfl,Z',k1,k2,k3,k4⟩:=R.fine g1 rfl (by omega) (by omega) (c:=(2,15)) (by rw [hC];rfl);have hid:n'.id=1:=by
  rw [hN] at hn';rcases J0y.1 hn' with rfl|hn'
  ·rfl
  ·rw [J2z] at hn';subst hn';cases e2
 have hL:revL Z.F n'.id false=[2]:=by
  unfold revL;rw [hN,hnx,hid];rfl
 rw [hL,J1x] at k2 ⊢;rw [q1];refine⟨rfl,Z',a,u,b,y,d,v,k3.s,k3.alt.c,m.same k1 k3.toSameN,by rw [k2];exact q2,by rw [k3.nx,hnx],st.trans k4,fun q hq=>(hB q hq).step k4⟩
theorem Z9i {a:AV} (h:E2 5 a):(Q0F 4 a [2]).2=0/\E2 1 (Q0F 4 a [2]).1:=by
 obtain⟨b1,b2,rfl⟩:=h;refine⟨rfl,b1,b2,?_⟩;show (⟨setA (setA (setA en0 1 5 (some (2,15))) 3 7 (some (2,5))) 3 7 (some (2,1)),_⟩:AV)=_;congr 1;funext h s;unfold setA;split <;> rfl
theorem Z9j {a:AV} (h:E2 1 a):(Q0F 1 a [2]).2=1/\E4 (Q0F 1 a [2]).1:=by
 obtain⟨b1,b2,rfl⟩:=h;refine⟨rfl,fun h s c hc=>?_,rfl,b1,rfl⟩;have hc':setA (setA (setA en0 1 5 (some (2,15))) 3 7 (some (2,1))) 3 7 none h s=some c:=hc;rcases Q1g hc' with ⟨_,_,h0⟩|⟨hne,h1⟩
 ·cases h0
 ·rcases Q1g h1 with ⟨e1,e2,_⟩|⟨_,h2⟩
  ·exact absurd ⟨e1,e2⟩ hne
  ·rcases Q1g h2 with ⟨e1,e2,e3⟩|⟨_,h3⟩
   ·exact⟨e1,e2,(J1p e3).symm⟩
   ·cases h3
theorem Z9k {s c r0:Nat} {B:List (Nat×List Value)} {w0 wr:World} (h:AlQ s c 2 (E2 r0) B w0 wr) :
  Calls prog 22 #[.pointer (some ⟨s,0,none⟩),.int .u32 3,.int .i64 7] wr fun r w'=>r=.returned (.tuple #[.agg #[.int .i64 1,.int .i64 5],.bool true])/\AlQ s c 2 (E2 r0) B w0 w':=by
 have h':=h;obtain⟨Z,a,u,b,y,d,v,rfl,rfl,m,⟨b1,b2,hC⟩,hnx,st,hB⟩:=h;have hN:Z.F.N=[⟨1,b1,⟨1,5,0,[2]⟩⟩,⟨2,b2,⟨3,7,1,[]⟩⟩]:=by show Z.av.N=_;rw [hC]
 have kf:=Z5q st.sep m.ok.fo (x:=3) (z:=7) (by omega) (by omega);have e:Z7r Z.F.N ((3:Nat):Int) ((7:Nat):Int)=.tuple #[.agg #[.int .i64 1,.int .i64 5],.bool true]:=by
  rw [hN];rfl
 rw [e] at kf;refine kf.mono ?_;rintro r w' ⟨rfl,hb⟩;exact⟨rfl,h'.grown hb⟩
theorem Z7x {s c:Nat} {B:List (Nat×List Value)} {w0 wr:World} (h:AlQ s c 2 E4 B w0 wr) :
  Calls prog 19 #[.pointer (some ⟨s,0,none⟩),.int .u32 1,.int .u32 3,.slice (some ⟨wr.heap.size,0,none⟩) 1 1] (wr.alloc (.cells #[.int .i64 5,.int .i64 9,.int .i64 15,.bool true] 39)) fun r w'=>r=.returned (.int .i64 0)/\AlQ s c 3 E5 B w0 w':=by
 obtain⟨Z,a,x,b,y,d,z,rfl,rfl,m,⟨hC1,hC2,b1,hC3⟩,hnx,st,hB⟩:=h;have hb:=(Below.refl wr.heap.size wr).alloc (J0t _) (.cells #[.int .i64 5,.int .i64 9,.int .i64 15,.bool true] 39);have st2:=st.sep.grown hb;have hmv:=Q6Y st.sep ⟨5,9,15,true⟩ ⟨⟨by decide,by decide⟩,⟨by decide,by decide⟩,⟨by decide,by decide⟩⟩;obtain⟨g1,g2,g3⟩:=Q4L 2 a x 4 b y 2 d z;rw [<- m.l] at g1 g3;have hfree:Z.av.en 3 9=none:=by
  cases hh:Z.av.en 3 9 with
  | none=>rfl
  | some c=>have:=(hC1 _ _ _ hh).1;omega
 have hfit:FitM Z.av.en 1 3 ⟨5,9,15,true⟩:=
  ⟨by decide,by decide,by decide,rfl,⟨(2,15),hC2,by decide,by decide⟩,hfree⟩
 have hmv':AsideM Z.hl 1 (fun _=>⟨5,9,15,true⟩) (some ⟨wr.heap.size,0,none⟩) (wr.alloc (.cells #[.int .i64 5,.int .i64 9,.int .i64 15,.bool true] 39)):=hmv;have km:=Q5X (n:=1) (cap:=1) (A:=fun _=>⟨5,9,15,true⟩) st2.sep m.ok (by omega) (x:=1) (y:=3) (by omega) (by omega) (by omega) (by omega) hmv';refine km.mono ?_;rintro r w' ⟨er,rfl,R⟩;obtain⟨rfl,hz⟩:=R.fine g1 rfl g3 rfl (Q6X hfit) fun er hw=>Q9P m [(1,5)] (fun h s c hc=>by
  obtain⟨rfl,rfl,_⟩:=hC1 _ _ _ hc;simp) (by simp) (Z0Y hw)
 obtain⟨Z',c,b2,av,k1,_,rfl,k2,k3,k4,k5,k6⟩:=hz.grant rfl;obtain rfl:(2,15)=c:=by
  have k1':Z.av.en 1 5=some c:=k1;rw [hC2] at k1';exact J1p k1'
 have hid:ownN Z.av.N (1:Int) 5=1:=by rw [hC3];rfl
 have hav:(Z'.av).en=setA (setA Z.av.en 3 9 (some (2,15))) 1 5 none:=by
  have ha:setA Z.av.en 3 9 (some (2,15)) 1 5=some (2,15):=by rw [Q4H (by omega)];exact hC2
  have hf:find (addN Z.av.N (ownN Z.av.N (1:Int) 5) (Z.F.next+1) b2 3 9) 1=some ⟨1,b1,⟨1,5,0,[3]⟩⟩:=by rw [hC3,hnx];rfl
  have hw:=Q2g (m:=15) (a:=⟨setA Z.av.en 3 9 (some (2,15)),addN Z.av.N (ownN Z.av.N (1:Int) 5) (Z.F.next+1) b2 3 9⟩) hf (h:=1) (s:=5) rfl rfl ha;have ho:ownN (addN Z.av.N (ownN Z.av.N (1:Int) 5) (Z.F.next+1) b2 3 9) (1:Int) 5=1:=by rw [hC3,hnx];rfl
  have k2':weak1 15 ⟨setA Z.av.en 3 9 (some (2,15)),addN Z.av.N (ownN Z.av.N (1:Int) 5) (Z.F.next+1) b2 3 9⟩ (ownN (addN Z.av.N (ownN Z.av.N (1:Int) 5) (Z.F.next+1) b2 3 9) (1:Int) 5)=(Z'.av,true):=k2;rw [ho,hw,if_pos (Q4j 15 (by omega))] at k2';rw [<- (Prod.mk.inj k2').1]
 refine⟨rfl,Z',a,x,b,y,d,z,k4.s,k4.alt.c,m.same k3 k4,⟨fun h s c hc=>?_,by rw [hav];rfl⟩,by rw [k5,hnx];rfl,(st.trans st2).trans k6,fun q hq=>((hB q hq).step st2).step k6⟩;rw [hav] at hc;rcases Q1g hc with ⟨_,_,h0⟩|⟨hne,h1⟩
 ·cases h0
 ·rcases Q1g h1 with ⟨e1,e2,e3⟩|⟨_,h2⟩
  ·exact⟨e1,e2,(J1p e3).symm⟩
  ·obtain⟨e1,e2,_⟩:=hC1 _ _ _ h2;exact absurd ⟨e1,e2⟩ hne
theorem Q8P (l:List Pl) (tb:Nat->TB) (x:Nat):(Q0o l tb x).Nodup:=by
 unfold Q0o;split
 ·exact J4q
 ·split
  ·unfold Q0R;refine J0Y.2 ((J4j.filter _).imp fun hne he=>hne ?_);omega
  ·exact J4q
theorem Z7y (l:List Pl) (tb:Nat->TB) (h x:Nat):(Q4V l tb h x).Nodup/\∀p∈Q4V l tb h x,p.1=(x:Int):=by
 unfold Q4V Q2T;refine⟨J0Y.2 (((Q8P l tb x).filter _).imp fun hne he=>hne (Prod.mk.inj he).2),fun p hp=>?_⟩;obtain⟨z,_,rfl⟩:=J0z.1 hp;rfl
theorem Z1a (l:List Pl) (tb:Nat->TB) (h:Nat):∀T:List Nat,T.Nodup->(Q1C l tb h T).Nodup
 | [],_=>J4q
 | x::r,hT=>by
  obtain⟨h1,h2⟩:=J1o.1 hT;have ih:=Z1a l tb h r h2;obtain⟨a1,a2⟩:=Z7y l tb h x;show ((x::r).flatMap (Q4V l tb h)).Nodup;rw [J0Q];refine J1l.2 ⟨a1,ih,fun p hp q hq e=>?_⟩;obtain⟨y,hy,s,e2,_⟩:=mem_holdL.1 (show q∈Q1C l tb h r from hq);have e3:=a2 p hp;rw [e,e2] at e3;have:y=x:=by
   have e4:(y:Int)=(x:Int):=e3;omega
  exact h1 (this ▸ hy)
theorem Z5u {Z:SP} {fr:List Nat} {N K:Nat} {M:Int} (ok:Z.Ok fr N K M) {h:Nat} {p:Int×Int}:p∈Q2v Z.S.l Z.tb h↔∃x s r:Nat,p=((x:Int),(s:Int))/\Z.av.en x s=some (h,r):=by
 unfold Q2v;rw [mem_holdL]
 constructor
 ·rintro⟨x,_,s,rfl,_,e,he,rfl⟩;exact⟨x,s,e.r,rfl,Q6i he⟩
 ·rintro⟨x,s,r,rfl,hc⟩;obtain⟨e,he,h2⟩:=Q2t hc;obtain⟨q,q1,_,q3,_⟩:=Q3h he;exact⟨x,(Q4v (by rw [ok.core.inv.len];omega)).2 ⟨q,q1⟩,s,rfl,q3,e,he,(Prod.mk.inj h2).1.symm⟩
theorem Z7z {Z:SP} {fr:List Nat} {N K:Nat} {M:Int} (ok:Z.Ok fr N K M) (h:Nat):(Q2v Z.S.l Z.tb h).Nodup:=Z1a _ _ _ _ (Z2M (by rw [ok.core.inv.len];omega) 1)
theorem Z2H {α:Type} {A B:List α} (ha:A.Nodup) (hb:B.Nodup) (h:∀x,x∈A↔x∈B):A.length=B.length:=
 Nat.le_antisymm (ha.length_le_of_subset fun x hx=>(h x).1 hx) (hb.length_le_of_subset fun x hx=>(h x).2 hx)
theorem Z7A {S:CO} {fr:List Nat} {N K:Nat} (ok:S.Ok fr N K) (hE:S.P.q.E.map En.id=[0]):∃e,find S.P.q.E 0=some e/\e.q.given=0/\e.q.charged=Q0u S.l 0+S.xc 0:=by
 obtain⟨e,hEe⟩:∃e,S.P.q.E=[e]:=by
  cases hq:S.P.q.E with
  | nil=>rw [hq] at hE;simp at hE
  | cons e r=>rw [hq] at hE;simp at hE;exact⟨e,by rw [hE.2]⟩
 have hid:e.id=0:=by rw [hEe] at hE;simpa using hE
 have hf:find S.P.q.E 0=some e:=by rw [hEe];unfold find;rw [if_pos hid.symm]
 refine⟨e,hf,?_,ok.inv.tre.charged 0 e hf⟩;obtain⟨p0,hp0,hk0,_,hs0,_,ho0⟩:=ok.inv.que.root;have hpar:=(ok.inv.tre.par p0 (J2G hp0) (Pl.is_iff.2 (.inl hs0)) hk0 e (by rw [ho0];exact hf)).1 ho0;rw [(ok.inv.tre.given 0 e hf).1];refine (Q3D fun x hx=>?_).1;rw [hEe,J2z] at hx;rw [hx,hpar]
 decide
theorem Z9l {Z:SP} {fr:List Nat} {N K:Nat} {M:Int} (ok:Z.Ok fr N K M) (h:∀x s,Z.av.en x s=none) (id:Int):Z.S.xc id=0:=by
 have hle:=Z5p Z.S.l Z.tb id;have hnn:=Q9r Z.S.l Z.tb id;have h0:∀i s,i<256->s<256->(Z.tb i).en s≠none->False:=fun i s hi hs he=>by
  obtain⟨x,c,_,hc⟩:=ok.entries hi hs he;rw [h] at hc;cases hc
 have h1:=Q5Z (tb:=Z.tb) [] fun i s hi hs he=>(h0 i s hi hs he).elim
 have h2:=Q6a ok.tpi.full [] fun i s hi hs he=>(h0 i s hi hs he).elim
 rw [ok.tpi.xc];simp at h1 h2;rw [h1,h2] at hle;simp at hle;omega
def HldQ (s c:Nat) (a:Option Addr) (B:List (Nat×List Value)) (w0 wr:World):Prop:=∃(Z:SP) (u v b y d z:Nat),Z.s=s/\Z.S.c=c/\MkZ Z 1 20000 4 3 (lt3 2 u v 4 b y 2 d z)/\E5 Z.av/\Step [] Z.hl w0 wr/\AsideS Z.hl [(3,9)] a wr/\∀q∈B,AsideV Z.hl q.2 (some ⟨q.1,0,none⟩) wr
theorem Z2I {s c:Nat} {B:List (Nat×List Value)} {w0 wr:World} (h:AlQ s c 3 E5 B w0 wr) :
  Calls prog 23 #[.pointer (some ⟨s,0,none⟩),.int .u32 2] wr fun r w'=>∃(a:Option Addr) (cap:Nat),r=.returned (.slice a 1 cap)/\HldQ s c a B w0 w':=by
 obtain⟨Z,a,x,b,y,d,z,rfl,rfl,m,⟨hC1,hC2⟩,hnx,st,hB⟩:=h;have e:Q2v Z.S.l Z.tb 2=[(3,9)]:=by
  have hmem:∀p,p∈Q2v Z.S.l Z.tb 2↔p=(3,9):=fun p=>by
   rw [Z5u m.ok]
   constructor
   ·rintro⟨u,v,r,rfl,hc⟩;obtain⟨rfl,rfl,_⟩:=hC1 _ _ _ hc;rfl
   ·rintro rfl;exact⟨3,9,15,rfl,hC2⟩
  have hl:=Z2H (B:=[((3:Int),(9:Int))]) (Z7z m.ok 2) (by simp) fun p=>by rw [hmem];simp
  have h39:=(hmem (3,9)).2 rfl;cases hh:Q2v Z.S.l Z.tb 2 with
  | nil=>rw [hh] at h39;cases h39
  | cons q r =>
   rw [hh] at hl h39;have hr:r=[]:=J2r.1 (by simpa using hl);subst hr;rw [J2z.1 h39]
 refine (Q4R st.sep m.ok 2).mono ?_;intro r w' hr;rw [e] at hr;obtain⟨ad,cap,rfl,hb,has⟩:=hr.aside st.sep;exact⟨ad,cap,rfl,Z,a,x,b,y,d,z,rfl,rfl,m,⟨hC1,hC2⟩,st.trans (st.sep.grown hb),has,fun q hq=>(hB q hq).step (st.sep.grown hb)⟩
structure EndQ (s c:Nat) (a:Option Addr) (B:List (Nat×List Value)) (w0 wr:World):Prop where
 bx:∀q∈B,∀(j:Nat) (v:Value),q.2[j]?=some v->wr.cell? ⟨q.1,j,none⟩=some v
 hl:∃g,a=some ⟨g,0,none⟩/\wr.cell? ⟨g,0,none⟩=some (.int .i64 3)/\wr.cell? ⟨g,1,none⟩=some (.int .i64 9)
 z:∃Z:SP,Z.s=s/\Z.S.c=c/\Z.Ok [] 4 0 3/\(∀x s,Z.av.en x s=none)/\(∃e:En Fa,find Z.S.P.q.E 0=some e/\e.q.charged+e.q.given=352)/\Step [] Z.hl w0 wr
theorem EndQ.grown {s c:Nat} {a:Option Addr} {B:List (Nat×List Value)} {w0 wr w':World} (h:EndQ s c a B w0 wr) (hb:Below wr.heap.size wr w'):EndQ s c a B w0 w':=by
 obtain⟨hB,⟨g,rfl,h1,h2⟩,Z,q1,q2,q3,q4,q5,st⟩:=h;have hg:=World.block_lt_of_cell? wr ⟨g,0,none⟩ h1;exact⟨fun q hq j v hv=>(World.cell?_of_block (w:=wr) (hb.block q.1 (World.block_lt_of_cell? wr ⟨q.1,j,none⟩ (hB q hq j v hv)))).trans (hB q hq j v hv),⟨g,rfl,(World.cell?_of_block (w:=wr) (hb.block g hg)).trans h1,(World.cell?_of_block (w:=wr) (hb.block g hg)).trans h2⟩,Z,q1,q2,q3,q4,q5,st.trans (st.sep.grown hb)⟩
theorem Z9m {s c:Nat} {a:Option Addr} {B:List (Nat×List Value)} {w0 wr:World} (h:HldQ s c a B w0 wr) :
  Calls prog 35 #[.pointer (some ⟨s,0,none⟩),.int .u32 2] wr fun r w'=>∃(ad:Option Addr) (cap:Nat),r=.returned (.tuple #[.slice ad 1 cap,.int .i64 0])/\EndQ s c a B w0 w':=by
 obtain⟨Z,u,v,b,y,d,z,rfl,rfl,m,⟨hC1,hC2⟩,st,has,hB⟩:=h;obtain⟨g1,g2,g3⟩:=Q4L 2 u v 4 b y 2 d z;have hkl:Z2x Z.S 2=[2]:=by
  have t:=m.ok.core.inv.tree;unfold Z2x;rw [(Q7W t).2 (by rw [m.l];exact Z7u u v b y d z)];rfl
 refine (Z5h st.sep m.ok (by omega) (h:=2) (by omega)).mono ?_;rintro r w' (⟨h1,_⟩|⟨h1,_⟩|⟨_,_,ad,cap,rfl,Z',I,st2,_⟩)
 ·rw [m.l,g2] at h1;cases h1
 ·cases h1
 ·rw [hkl] at I ⊢;have hnone:∀x s,Z'.av.en x s=none:=fun x s=>by
   rcases I.less.en x s with h1|h1
   ·exact h1
   ·cases hh:Z'.av.en x s with
    | none=>rfl
    | some c =>
     exfalso;have:=(I.out 2 (by simp)).2 x s c hh;rw [h1] at hh;obtain⟨_,_,rfl⟩:=hC1 _ _ _ hh;exact this rfl
  have hl:Z'.S.l=(lt3 2 u v 4 b y 2 d z).set 2 ⟨4,b,0,2,0,y⟩:=by
   rw [I.l,m.l];exact Q6T (l:=lt3 2 u v 4 b y 2 d z) (A:=[]) (x:=2) (p:=⟨4,b,0,1,0,y⟩) g2
  have hids:Z'.S.P.q.E.map En.id=[0]:=by
   obtain⟨b0,ch,hq⟩:=m.q;rw [I.acc,hq];rfl
  obtain⟨e,he,e1,e2⟩:=Z7A I.ok.core hids;have hcs:Q0u Z'.S.l 0=352:=by
   rw [hl]
   kernel_rfl
  refine⟨ad,cap,rfl,fun q hq j v hv=>?_,?_,Z',I.s,I.c,I.ok,hnone,⟨e,he,?_⟩,st.trans st2⟩
  ·obtain⟨g,e,_,_,k4⟩:=((hB q hq).step st2) j v hv;cases e;exact k4
  ·obtain⟨g,rfl,k1,k2,k3,k4⟩:=(has.step st2) 0 (3,9) rfl;exact⟨g,rfl,k3,k4⟩
  ·rw [e2,e1,hcs,Z9l I.ok hnone];rfl
theorem Z1b {s c x:Nat} {a:Option Addr} {B:List (Nat×List Value)} {w0 wr:World} (h:EndQ s c a B w0 wr) (hx:x<4294967296) :
  Calls prog 25 #[.pointer (some ⟨s,0,none⟩),.int .u32 x] wr fun r w'=>∃(ad:Option Addr) (cap:Nat),r=.returned (.slice ad 0 cap)/\EndQ s c a B w0 w':=by
 have h':=h;obtain⟨_,_,Z,rfl,rfl,ok,hn,_,st⟩:=h;refine (Q4I st.sep ok hx).mono ?_;intro r w' hr;have e:Q0o Z.S.l Z.tb x=[]:=by
  refine J4n.2 fun z hz=>?_
  obtain⟨s,rfl,_,e,he⟩:=mem_slotsL.1 hz;have h0:=av_none.1 (hn x s);rw [he] at h0;cases h0
 rw [e] at hr;obtain⟨ad,cap,rfl,hb,_⟩:=hr.from'
 exact⟨ad,cap,rfl,h'.grown hb⟩
theorem Z9Z {s c:Nat} {a:Option Addr} {B:List (Nat×List Value)} {w0 wr:World} (h:EndQ s c a B w0 wr) :
  Calls prog 49 #[.pointer (some ⟨c,0,none⟩)] wr fun r w1=>∃p,r=.returned (.pointer (some ⟨p,0,none⟩))/\wr=w1/\Calls prog 51 #[.pointer (some ⟨p,0,none⟩)] w1 fun r w2=>∃q,r=.returned (.pointer (some ⟨q,0,none⟩))/\w1=w2 /\
   Calls prog 52 #[.pointer (some ⟨q,0,none⟩),.int .i64 0] w2 fun r w3=>r=.returned (.int .i64 352)/\Below w0.heap.size w0 w3:=by
 obtain⟨_,_,Z,rfl,rfl,ok,hn,⟨e,he,hu⟩,st⟩:=h;refine (Q1I (SP.sS st.sep)).mono ?_;rintro r w1 ⟨rfl,rfl⟩;refine⟨_,rfl,rfl,(Z1r (CO.sP (SP.sS st.sep))).mono ?_⟩;rintro r w2 ⟨rfl,rfl⟩;refine⟨_,rfl,rfl,(Z3x (PL.sQ (CO.sP (SP.sS st.sep))) ok.core.inv.mem.pool.q he).mono ?_⟩;rintro r w3 ⟨rfl,hb⟩;rw [hu];exact⟨rfl,(st.trans (st.sep.grown hb)).fresh⟩
theorem Q9R {w:World} (h:Env w):Calls prog 14 #[] w (Told w (.bool true)):=by
 have h16:((2 ^ (6+10):Nat):Int)=65536:=by decide
 have k1:=Z0F (Sep.nil h) 6 (by omega) (by omega) 20000 (by omega) (by rw [h16];omega) 1 (by omega) (by omega);rw [h16] at k1;have HQ:Hid (∀r w1,Z4C 6 20000 1 [] w r w1->∃c,r=.returned (.pointer (some ⟨c,0,none⟩))/\Calls prog 16 #[.pointer (some ⟨c,0,none⟩),.int .u32 0,.int .i64 2,.int .i64 0] w1 fun r w2=>r=.returned (.tuple #[.int .u32 1,.int .i64 0]) /\
   Calls prog 16 #[.pointer (some ⟨c,0,none⟩),.int .u32 0,.int .i64 4,.int .i64 0] w2 fun r w3=>r=.returned (.tuple #[.int .u32 2,.int .i64 0]) /\
    Calls prog 16 #[.pointer (some ⟨c,0,none⟩),.int .u32 0,.int .i64 2,.int .i64 0] w3 fun r w4=>r=.returned (.tuple #[.int .u32 3,.int .i64 0]) /\
     Calls prog 17 #[.pointer (some ⟨c,0,none⟩)] w4 fun r w5=>∃s,r=.returned (.pointer (some ⟨s,0,none⟩))/\AlQ s c 0 E0 [] w w5):=by
  rintro r w1 ⟨S,rfl,hf,st⟩;exact⟨S.c,rfl,Z7v hf st⟩
 clear h h16;go_enter func14,ntmps14;go_wp2_with fail;refine k1.mono ?_;intro r w1 hx;obtain⟨c,rfl,hm⟩:=HQ.out _ _ hx;have HM:=Q0a hm;clear hx hm HQ k1;go_wp2_with fail;refine HM.out.mono ?_;rintro r w2 ⟨rfl,hm⟩;have HM2:=Q0a hm;clear hm HM;go_wp2_with fail;refine HM2.out.mono ?_;rintro r w3 ⟨rfl,hm⟩;have HM3:=Q0a hm;clear hm HM2;go_wp2_with fail;refine HM3.out.mono ?_;rintro r w4 ⟨rfl,hm⟩;have HM4:=Q0a hm;clear hm HM3;go_wp2_with fail;refine HM4.out.mono ?_;rintro r w5 ⟨s,rfl,hq⟩;have H5:=Q0a (Z9h hq);clear hq HM4;go_wp2_with fail;refine H5.out.mono ?_;rintro r w6 ⟨rfl,hq⟩;have H6:=Q0a (Z7w hq)
 clear hq H5;go_wp2_with fail;refine H6.out.mono ?_;rintro r w7 ⟨rfl,hq⟩;have H7:=Q0a (Q9Q (x:=3) (z:=7) hq (.inr rfl) (by omega) (o:=some (2,5)) fun a ⟨b1,b2,e⟩=>by rw [e];rfl);clear hq H6;go_wp2_with fail;refine H7.out.mono ?_;rintro r w8 ⟨rfl,hq⟩;have hq':=hq.box 35 [.int .u32 2,.int .i64 5];have H8:=Q0a (Q8O (mk:=4) hq' (by omega) fun a ha=>Z9i ha);clear hq hq' H7;unfold Q9N;go_wp2_with fail;refine H8.out.mono ?_;rintro r w9 ⟨rfl,hq⟩;have H9:=Q0a (Q9Q (x:=3) (z:=7) hq (.inr rfl) (by omega) (o:=some (2,1)) fun a ⟨b1,b2,e⟩=>by rw [e];rfl);clear hq H8;go_wp2_with fail;refine H9.out.mono ?_;rintro r w10 ⟨rfl,hq⟩
 have hq':=hq.box 35 [.int .u32 2,.int .i64 1];have H10:=Q0a (Z9k hq');clear hq hq' H9;unfold Q9N;go_wp2_with fail;refine H10.out.mono ?_;rintro r w11 ⟨rfl,hq⟩;have hq':=hq.box 46 [.int .i64 1,.int .i64 5];have H11:=Q0a (Q8O (mk:=1) hq' (by omega) fun a ha=>Z9j ha);clear hq hq' H10;go_wp2_with fail;refine H11.out.mono ?_;rintro r w12 ⟨rfl,hq⟩;have H12:=Q0a (Q9Q (x:=3) (z:=7) hq (.inr rfl) (by omega) (o:=none) fun a ⟨e,_⟩=>by
  cases hh:a.en 3 (7:Int).toNat with
  | none=>rfl
  | some c=>have:=(e _ _ _ hh).1;omega)
 clear hq H11;go_wp2_with fail;refine H12.out.mono ?_;rintro r w13 ⟨rfl,hq⟩;have hq':=hq.box 35 [.int .u32 0,.int .i64 0];have hz13:(w13.alloc (.cells #[.int .u32 0,.int .i64 0] 35)).heap.size=w13.heap.size+1:=by simp
 have hm2:=Z7x hq';rw [hz13] at hm2;have H13:=Q0a hm2;clear hq hq' H12 hm2 hz13;unfold Q9N;go_wp2_with fail;refine H13.out.mono ?_;rintro r w14 ⟨rfl,hq⟩;have H14:=Q0a (Z2I hq);clear hq H13;go_wp2_with fail;refine H14.out.mono ?_;rintro r w15 ⟨ha,hcap,rfl,hq⟩;have H15:=Q0a (Z9m hq);clear hq H14;go_wp2_with fail;refine H15.out.mono ?_;rintro r w16 ⟨ka,kcap,rfl,hq⟩;have hbx:=hq.bx;have x0:=hbx (w8.heap.size,[.int .u32 2,.int .i64 5]) (by simp) 0 _ rfl;have x1:=hbx (w8.heap.size,[.int .u32 2,.int .i64 5]) (by simp) 1 _ rfl;have y0:=hbx (w10.heap.size,[.int .u32 2,.int .i64 1]) (by simp) 0 _ rfl;have y1:=hbx (w10.heap.size,[.int .u32 2,.int .i64 1]) (by simp) 1 _ rfl
 have z0:=hbx (w11.heap.size,[.int .i64 1,.int .i64 5]) (by simp) 0 _ rfl;have z1:=hbx (w11.heap.size,[.int .i64 1,.int .i64 5]) (by simp) 1 _ rfl;obtain⟨g,rfl,q0,q1⟩:=hq.hl;simp only at x0 x1 y0 y1 z0 z1;have H16:=Q0a (Z1b (x:=3) hq (by omega));clear hq hbx H15;go_wp2_with fail;refine H16.out.mono ?_;rintro r w17 ⟨sa,scap,rfl,hq⟩;have H17:=Q0a (Z1b (x:=1) hq (by omega));clear hq H16 x0 x1 y0 y1 z0 z1 q0 q1;go_wp2_with fail;refine H17.out.mono ?_;rintro r w18 ⟨sa2,scap2,rfl,hq⟩;have H18:=Q0a (Z9Z hq);clear hq H17;go_wp2_with fail;refine H18.out.mono ?_;rintro r w19 ⟨pp,rfl,rfl,hq⟩;have H19:=Q0a hq
 clear hq H18;go_wp2_with fail;refine H19.out.mono ?_;rintro r w20 ⟨qq,rfl,rfl,hq⟩;have H20:=Q0a hq;clear hq H19;go_wp2_with fail;refine H20.out.mono ?_;rintro r w21 ⟨rfl,hb⟩;have HR:Hid (Told w (.bool true) (.returned (.bool true)) w21):=⟨rfl,hb⟩
 clear hb H20;go_wp2_with fail
 first|exact HR.out|(go_ret;exact HR.out)
theorem Z5v (k a x m b y:Nat):pget (lt2 k a x m b y) 1 1=some ⟨k,a,0,1,0,x⟩/\pget (lt2 k a x m b y) 1 2=some ⟨m,b,0,1,0,y⟩:=⟨by kernel_rfl,by kernel_rfl⟩
theorem Z7V (k a x m b y:Nat):((lt2 k a x m b y).filter Pl.is).length=3:=by kernel_rfl
end Go.Proofs.YtlakjlmaboioiaaGreatDoor
namespace Go.Proofs.YtlakjlmaboioiaaGreatDoor
open Go.ChangeShapes Go.WideShapes Go.ChangeAt Go.RowKit Go.Deep Go.Proofs.Tryz
end Go.Proofs.YtlakjlmaboioiaaGreatDoor
namespace Go.Proofs.YtlakjlmaboioiaaGreatDoor
open Go.RowKit Go.Proofs.Tryz
def Q1m (b o:Int):Bool:=decide (0<=b/\b<256/\0<=o/\o<=7/\b.toNat%2 ^ o.toNat=0)
theorem Z9n (n k:Nat) (hn:n<256) (hk:k<=7):bits .and .i64 (n:Int) (((2 ^ k-1:Nat):Int))=((n%2 ^ k:Nat):Int):=by
 have hp:2 ^ k-1<2 ^ 63:=by
  have:2 ^ k<=2 ^ 7:=J1G (by omega) hk;omega
 rw [Z1f n (2 ^ k-1) (by omega) hp,J1X]
theorem Q6c (w:World) (b o:Int):Calls prog 169 #[.int .i64 b,.int .i64 o] w fun r w'=>r=.returned (.bool (Q1m b o))/\w=w':=by
 unfold Q1m;by_cases h1:0<=b
 ·by_cases h2:b<256
  ·by_cases h3:0<=o
   ·by_cases h4:o<=7
    ·obtain⟨n,rfl⟩:=J1W h1;obtain⟨k,rfl⟩:=J1W h3;have hb:=Z9n n k (by omega) (by omega);rw [show (decide (0<=(n:Int)/\(n:Int)<256/\0<=(k:Int)/\(k:Int)<=7/\(n:Int).toNat%2 ^ (k:Int).toNat=0))=(((n%2 ^ k:Nat):Int)==0) by
      rw [J1x,J1x];by_cases h:n%2 ^ k=0
      ·rw [h];simp;omega
      ·rw [decide_eq_false (by rintro⟨_,_,_,_,e⟩;exact h e)];exact (beq_false_of_ne (by omega)).symm]
     rw [<- hb];clear hb;have hk:k=0∨k=1∨k=2∨k=3∨k=4∨k=5∨k=6∨k=7:=by omega
     clear h3 h4;go_enter func169,ntmps169;rcases hk with rfl|rfl|rfl|rfl|rfl|rfl|rfl|rfl <;> (go_wp2_with fail;go_ret;exact⟨rfl,rfl⟩)
    ·rw [decide_eq_false (by omega)];go_enter func169,ntmps169;go_wp2_with fail;go_ret;exact⟨rfl,rfl⟩
   ·rw [decide_eq_false (by omega)];go_enter func169,ntmps169;go_wp2_with fail;go_ret;exact⟨rfl,rfl⟩
  ·rw [decide_eq_false (by omega)];go_enter func169,ntmps169;go_wp2_with fail;go_ret;exact⟨rfl,rfl⟩
 ·rw [decide_eq_false (by omega)];go_enter func169,ntmps169;go_wp2_with fail;go_ret;exact⟨rfl,rfl⟩
theorem Z9o (w:World) (v:Wi):Calls prog 91 #[.agg #[.int .i64 v.base,.int .i64 v.order]] w (Told w (.bool (Q1m v.base v.order))):=by
 obtain⟨b,o⟩:=v;dsimp only at *
 have ka:=Q6c (w.alloc (.cells #[.int .i64 b,.int .i64 o] 56)) b o;have HB:Hid (Below w.heap.size w (w.alloc (.cells #[.int .i64 b,.int .i64 o] 56))):=(Below.refl w.heap.size w).alloc (J0t _) _;go_enter func91,ntmps91;go_wp2_with fail;refine ka.mono ?_;rintro r w' ⟨rfl,rfl⟩;clear ka;go_wp2_with fail;go_ret;exact⟨rfl,HB.out⟩
def Q6d (i:It):Bool:=Q1m i.base i.order&&decide (1<=i.r/\i.r<=15/\0<=i.off/\i.off<256)
theorem Z7B (w:World) (i:It):Calls prog 90 #[.agg #[.int .i64 i.base,.int .i64 i.order,.int .i64 i.r,.int .i64 i.off,.bool i.g]] w fun r w'=>∃x:Int,r=.returned (.tuple #[.int .u64 x,.bool (Q6d i)])/\Below w.heap.size w w':=by
 obtain⟨b,o,ri,f,g⟩:=i;unfold Q6d;dsimp only;have ka:=Q6c (w.alloc (.cells #[.int .i64 b,.int .i64 o,.int .i64 ri,.int .i64 f,.bool g] 54)) b o;have HB:Hid (Below w.heap.size w (w.alloc (.cells #[.int .i64 b,.int .i64 o,.int .i64 ri,.int .i64 f,.bool g] 54))):=(Below.refl w.heap.size w).alloc (J0t _) _;generalize Q1m b o=al at *
 obtain⟨cv,hcv⟩:∃cv,cv=(al&&decide (1<=ri/\ri<=15/\0<=f/\f<256)):=⟨_,rfl⟩
 rw [<- hcv];go_enter func90,ntmps90;go_wp2_with fail;refine ka.mono ?_;rintro r w' ⟨rfl,rfl⟩;clear ka;cases al with
 | false =>
  obtain rfl:cv=false:=hcv;go_wp2_with fail;go_ret2;exact⟨_,rfl,HB.out⟩
 | true =>
  rw [J1I] at hcv;by_cases h1:ri<1
  ·obtain rfl:cv=false:=by rw [hcv,decide_eq_false (by omega)]
   clear hcv;go_wp2_with fail;go_ret2;exact⟨_,rfl,HB.out⟩
  ·by_cases h2:ri>15
   ·obtain rfl:cv=false:=by rw [hcv,decide_eq_false (by omega)]
    clear hcv;go_wp2_with fail;go_ret2;exact⟨_,rfl,HB.out⟩
   ·by_cases h3:f<0
    ·obtain rfl:cv=false:=by rw [hcv,decide_eq_false (by omega)]
     clear hcv;go_wp2_with fail;go_ret2;exact⟨_,rfl,HB.out⟩
    ·by_cases h4:f≥256
     ·obtain rfl:cv=false:=by rw [hcv,decide_eq_false (by omega)]
      clear hcv;go_wp2_with fail;go_ret2;exact⟨_,rfl,HB.out⟩
     ·obtain rfl:cv=true:=by rw [hcv,decide_eq_true (by omega)]
      clear hcv;cases g with
      | false =>
       go_wp2_with fail;go_ret2;exact⟨_,rfl,HB.out⟩
      | true =>
       go_wp2_with fail;go_ret2;exact⟨_,rfl,HB.out⟩
end Go.Proofs.YtlakjlmaboioiaaGreatDoor
