/- SpaceFails returns true at every input. No condition. Part of its proof. -/
import Derived.Test.YtfidemmgofcnmaaGreatDoorSf27
set_option maxHeartbeats 2000000
set_option maxRecDepth 100000
set_option linter.unusedVariables false
namespace Go.Proofs.YtfidemmgofcnmaaGreatDoor
open Go.RowKit Go.Proofs.Tryz
theorem Z9G(Q:List (Nat×Nat))(n:Nat):(Q.filter fun q=>decide (q.1<n+1)).length=(Q.filter fun q=>decide (q.1<n)).length+(Q.filter fun q=>decide (q.1=n)).length:=by
 induction Q with
 | nil=>rfl
 | cons q r ih =>
  simp only[J7p];by_cases h1:q.1<n
  ·rw[if_pos (by simp;omega),if_pos (by simpa using h1),if_neg (by simp;omega)];simp only[J3N];omega
  ·by_cases h2:q.1=n
   ·rw[if_pos (by simp;omega),if_neg (by simpa using h1),if_pos (by simpa using h2)];simp only[J3N];omega
   ·rw[if_neg (by simp;omega),if_neg (by simpa using h1),if_neg (by simpa using h2)];exact ih
theorem Q6R{α:Type}(f:Nat->Option α)(m i:Nat)(Q:List (Nat×Nat))(h:∀s,s<m->f s≠none->(i,s)∈Q):((List.range m).filterMap f).length<=(Q.filter fun q=>decide (q.1=i)).length:=by
 have e:((List.range m).filterMap f).length=(((List.range m).filter fun s=>(f s).isSome).map fun s=>(i,s)).length:=by
  rw[J4L];generalize List.range m=L
  induction L with
  | nil=>rfl
  | cons a r ih =>
   rw[J3o,J7p];cases f a with
   | none=>simpa using ih
   | some b=>simp[ih]
 rw[e];have AO:(((List.range m).filter fun s=>(f s).isSome).map fun s=>(i,s)).Nodup:=by
  refine J3H.2 ((J6X.filter _).imp fun Aa he=>Aa ?_);exact(Prod.mk.inj he).2
 refine AO.length_le_of_subset fun q hq=>?_
 obtain⟨s,hs,rfl⟩:=J3h.1 hq;obtain⟨h1,h2⟩:=J3w.1 hs;refine J3w.2 ⟨h s (J3s.1 h1) (fun h0=>by rw[h0] at h2;cases h2),by simp⟩
theorem Q5m(f:Nat->List Nat)(Q:List (Nat×Nat)):∀n,(∀i,i<n->(f i).length<=(Q.filter fun q=>decide (q.1=i)).length)->((List.range n).flatMap f).length<=(Q.filter fun q=>decide (q.1<n)).length
 | 0,_=>by simp
 | n+1,h=>by
  rw[J3m,J3K,J3M,Z9G];have h1:=Q5m f Q n fun i hi=>h i (by omega)
  have h2:=h n (by omega);simp only[J3z,J7f,J5i];omega
theorem Z0f{tb:Nat->TB}(Q:List (Nat×Nat))(h:∀i s,i<256->s<256->(tb i).en s≠none->(i,s)∈Q):(Q2J tb).length<=Q.length:=by
 refine J3c (Q5m _ Q 256 fun i hi=>?_) (J5r _ _);refine Q6R _ 256 i Q fun s hs h0=>h i s hi hs fun e=>h0 ?_
 rw[e];rfl
theorem Z0g{tb:Nat->TB}(hf:∀i,i<256->(tb i).Full)(Q:List (Nat×Nat))(h:∀i s,i<256->s<256->(tb i).en s≠none->(i,s/16)∈Q):(Q2o tb).length<=Q.length:=by
 refine J3c (Q5m _ Q 256 fun i hi=>?_) (J5r _ _);refine Q6R _ 16 i Q fun k hk h0=>?_
 obtain⟨s,h1,h2,h3⟩:=hf i hi k hk fun e=>h0 (by rw[if_pos e])
 rw[<- h2];exact h i s hi h1 h3
theorem J0j(l:List Pl)(tb:Nat->TB)(id:Int):∀n,((List.range n).map fun i=>xcP tb id i l[i]?).sum<=256*(((List.range n).flatMap fun i=>(tb i).lvs).length:Int)+48*(((List.range n).flatMap fun i=>(tb i).nds).length:Int)
 | 0=>by simp
 | n+1=>by
  have ih:=J0j l tb id n;rw[J3m,J6G,J6R,J3K,J3K,J3M,J3M];simp only[J3e,J5I,J6P,List.sum_nil,J3z,J7f,J5i];have h1:xcP tb id n l[n]?<=(tb n).cost:=by
   have hc:=(tb n).cost_nn;unfold xcP;split
   ·split
    ·omega
    ·exact hc
   ·exact hc
  unfold TB.cost at h1;omega
theorem Z7u(l:List Pl)(tb:Nat->TB)(id:Int):xcOf l tb id<=256*((Q2o tb).length:Int)+48*((Q2J tb).length:Int):=J0j l tb id 256
theorem Z9H{P:PL}{fr:List Nat}(ok:P.Ok fr):P.d.ps.length<=fr.length+((List.range 8).map fun k=>(P.usedOf k).length).sum:=by
 rw[<- ok.pages.length_eq,J3M];have AO:=(ok.pages.nodup_iff).2 ok.d.nd;have DT:P.pages.Nodup:=(J3V.1 AO).2.1;have h1:P.pages.length<=(((List.range 8).flatMap P.usedOf).map fun a=>a/1024).length:=by
  refine DT.length_le_of_subset fun g hg=>?_
  obtain⟨k,a,ha,rfl⟩:=(Q5e ok g).1 hg;have:=Q2d ok ha;exact J3h.2 ⟨a,J3C.2 ⟨k,J3s.2 (by omega),ha⟩,rfl⟩
 rw[J4L,List.length_flatMap] at h1;omega
theorem Z0h:∀l:List Pl,(Q2i l 8).length+(Q2i l 1).length+(Q2i l 2).length+(Q2i l 3).length+(Q2i l 4).length+(Q2i l 5).length<=(l.filter Pl.is).length
 | []=>by simp[Q2i]
 | p::r=>by
  have ih:=Z0h r;have step:∀k,(Q2i (p::r) k).length=(Q2i r k).length+if p.is=true/\p.kind=k then 1 else 0:=fun k=>by
   unfold Q2i;rw[J3o];by_cases h:p.is=true/\p.kind=k
   ·rw[if_pos h];have:atsF k p=some p.at_:=by unfold atsF;simp[h.1,h.2]
    rw[this];rfl
   ·rw[if_neg h];have:atsF k p=none:=by
     unfold atsF;rw[if_neg]
     simpa using h
    rw[this];rfl
  rw[step,step,step,step,step,step,J7p];by_cases hi:p.is=true
  ·rw[if_pos hi,J3N];simp only[hi,true_and];by_cases h8:p.kind=8
   ·simp[h8];omega
   ·by_cases h1:p.kind=1
    ·simp[h1];omega
    ·by_cases h2:p.kind=2
     ·simp[h2];omega
     ·by_cases h3:p.kind=3
      ·simp[h3];omega
      ·by_cases h4:p.kind=4
       ·simp[h4];omega
       ·by_cases h5:p.kind=5
        ·simp[h5];omega
        ·simp[h8,h1,h2,h3,h4,h5];omega
  ·rw[if_neg hi];simp only[hi]
   simpa using ih
theorem Z4n{S:CO}{fr:List Nat}{N K:Nat}(ok:S.Ok fr N K):S.P.d.ps.length<=(S.l.filter Pl.is).length+(S.P.usedOf 7).length+(S.P.usedOf 6).length:=by
 have h1:=Z9H ok.inv.mem.pool;have h2:=Z0h S.l;have hf:(Q2i S.l 8).length=fr.length:=by rw[ok.inv.mem.frs.length_eq,J4L]
 have hk:∀k,1<=k->k<=5->(Q2i S.l k).length=(S.P.usedOf k).length:=fun k a b=>(ok.inv.mem.ats k a b).length_eq
 have h0:(S.P.usedOf 0).length=0:=by
  cases hu:S.P.usedOf 0 with
  | nil=>rfl
  | cons a r =>
   have:=Q2d ok.inv.mem.pool (k:=0) (a:=a) (by rw[hu];simp);omega
 have e:((List.range 8).map fun k=>(S.P.usedOf k).length).sum=(S.P.usedOf 0).length+((S.P.usedOf 1).length+((S.P.usedOf 2).length+((S.P.usedOf 3).length+((S.P.usedOf 4).length+((S.P.usedOf 5).length+((S.P.usedOf 6).length+((S.P.usedOf 7).length+0))))))):=rfl;have q1:=hk 1 (by omega) (by omega);have q2:=hk 2 (by omega) (by omega);have q3:=hk 3 (by omega) (by omega);have q4:=hk 4 (by omega) (by omega);have q5:=hk 5 (by omega) (by omega);omega
theorem J2w{Z:SP}{fr:List Nat}{N K:Nat}(ok:Z.S.Ok fr N K)(t:TPI Z.S Z.tb){own:Int}{e:En Fa}(he:find Z.S.P.q.E own=some e){i s:Nat}{er:Int}{o lv nd:Nat}(ho:(Z.S.l.filter Pl.is).length<=o)(hl:(Q2o Z.tb).length<=lv)(hn:(Q2J Z.tb).length<=nd)(hp:o+lv+nd+1<64)
  (hq:Q0y Z.S.l own+256*(lv:Int)+48*(nd:Int)+304<=e.q.limit-e.q.given):¬WhyL Z fr own i s er:=by
 have hc:=Z4n ok;have h7:=t.lvs.length_eq;have h6:=t.nds.length_eq;have OD:=ok.inv.mem.pool.top;have VI:64<=2 ^ Z.S.P.d.top:=J3c (by decide:64<=2 ^ 6) (J4q (by omega) OD);have CZ:=ok.inv.tre.charged own e he;have hx:=Z7u Z.S.l Z.tb own;rw[t.xc] at CZ;rintro(⟨_,e',AT,A8⟩|⟨_,Aq⟩|⟨a,P1,g,_,⟨_,e',AT,A8⟩|⟨_,Aq⟩⟩)
 ·rw[he] at AT;cases AT;unfold Q0v at A8;omega
 ·have:=Aq.page.len;omega
 ·obtain⟨e0,E8,_,hE⟩:=g.q;rw[he] at E8;cases E8;rw[hE] at AT;have hf:=Q0h he {e.q with charged:=e.q.charged+((Q0c 6:Nat):Int)};rw[show({Z.S.P.q with E:=upd Z.S.P.q.E own {e.q with charged:=e.q.charged+((Q0c 6:Nat):Int)}}:QT).E=upd Z.S.P.q.E own {e.q with charged:=e.q.charged+((Q0c 6:Nat):Int)} from rfl,hf] at AT;cases AT;unfold Q0v at A8;simp only[Q5h] at A8;omega
 ·have h1:=Aq.page.len;have h2:=(g.gotM ok.inv.mem.pool).few;rw[g.top] at h1;omega
def Z9I(N:List (En Nd))(x z:Int):Value:=match J2n N x z with
 | none=>.tuple #[.agg #[.int .i64 0,.int .i64 0],.bool false]
 | some p=>.tuple #[.agg #[.int .i64 p.1,.int .i64 p.2],.bool true]
def parV(N:List (En Nd))(id:Int):Int:=match find N id with
 | none=>0
 | some n=>n.q.par
theorem Z1m{w:World}{q:FO}(h:Sep w q.hl)(id:Int):Calls prog 160 #[.pointer (some ⟨q.f,0,none⟩),.int .i64 id] w fun r w'=>r=.returned (.int .i64 (parV q.N id))/\w=w':=by
 unfold parV;cases hf:find q.N id with
 | none=>exact Q9v h hf
 | some e=>exact Q9u h hf
theorem Z4o{w:World}{q:FO}(h:Sep w q.hl)(id:Int):∃(a b:Int) (c:Bool),((find q.N id=none/\a=0/\b=0/\c=false)∨∃m,find q.N id=some m/\a=m.q.sp/\b=m.q.sl/\c=true)/\Calls prog 159 #[.pointer (some ⟨q.f,0,none⟩),.int .i64 id] w fun r w'=>r=.returned (.tuple #[.int .i64 a,.int .i64 b,.bool c])/\Below w.heap.size w w':=by
 cases hf:find q.N id with
 | none=>exact⟨0,0,false,.inl ⟨rfl,rfl,rfl,rfl⟩,(Q6y h hf).mono fun r w' ⟨h1,h2⟩=>⟨h1,h2 ▸ Below.refl _ _⟩⟩
 | some e=>exact⟨e.q.sp,e.q.sl,true,.inr ⟨e,rfl,rfl,rfl,rfl⟩,Q6z h hf⟩
theorem Z7v{w:World}{Z:SP}(hs:Sep w Z.hl)(ok:Z.F.Ok){x z:Nat}(hx:x<4294967296)(hz:z<256) :
  Calls prog 82 #[.pointer (some ⟨Z.s,0,none⟩),.int .u32 x,.int .i64 z] w (Told w (Z9I Z.F.N (x:Int) (z:Int))):=by
 have b1:Below w.heap.size w (w.alloc (.cells #[.int .i64 0,.int .i64 0] 173)):=(Below.refl _ _).alloc (J3b _) _;have s1:=(hs.grown b1).sep;have c1:=SP.c1 s1;have Qx:(w.alloc (.cells #[.int .i64 0,.int .i64 0] 173)).drew.cell? ⟨Z.s,1,none⟩=some (.pointer (some ⟨Z.F.f,0,none⟩)):=c1;have g1:(0:Int)<=(x:Int):=by omega
 have g2:(x:Int)<9223372036854775808:=by omega
 have g3:(0:Int)<=(z:Int):=by omega
 have g4:(z:Int)<9223372036854775808:=by omega
 have kf:=Q4O (SP.sF s1.drew) ok (sp:=(x:Int)) (sl:=(z:Int)) (Q3u (p:=((x:Int),(z:Int))) g1 g2 g3 g4);clear g1 g2 g3 g4;have kp:=Z1m (SP.sF s1.drew) (ownN Z.F.N (x:Int) (z:Int));obtain⟨a,b,c,Ay,ko⟩:=Z4o (SP.sF s1.drew) (parV Z.F.N (ownN Z.F.N (x:Int) (z:Int)));have hv:Z9I Z.F.N (x:Int) (z:Int)=.tuple #[.agg #[.int .i64 a,.int .i64 b],.bool c]:=by
  unfold Z9I J2n;unfold parV at Ay;cases hf:find Z.F.N (ownN Z.F.N (x:Int) (z:Int)) with
  | none =>
   rw[hf] at Ay;simp only at Ay;rcases Ay with ⟨_,rfl,rfl,rfl⟩|⟨m,hm,_⟩
   ·rfl
   ·rw[ok.n.zero] at hm;cases hm
  | some n =>
   rw[hf] at Ay;simp only at Ay ⊢;rcases Ay with ⟨h0,rfl,rfl,rfl⟩|⟨m,hm,rfl,rfl,rfl⟩
   ·rw[h0];rfl
   ·rw[hm];rfl
 rw[hv];have HO:Hid (∀w1,Below (w.alloc (.cells #[.int .i64 0,.int .i64 0] 173)).drew.heap.size (w.alloc (.cells #[.int .i64 0,.int .i64 0] 173)).drew w1->w1.cell? ⟨Z.s,1,none⟩=some (.pointer (some ⟨Z.F.f,0,none⟩))/\Cells w1 w.heap.size 173 [.int .i64 0,.int .i64 0]/\∀u v,Below w.heap.size w ((w1.setCell ⟨w.heap.size,0,none⟩ u).setCell ⟨w.heap.size,1,none⟩ v)):=fun w1 hb=>by
  have Al:Below (w.alloc (.cells #[.int .i64 0,.int .i64 0] 173)).heap.size (w.alloc (.cells #[.int .i64 0,.int .i64 0] 173)) w1:=((Below.refl _ _).drew).trans hb;have KV:Below w.heap.size w w1:=Q0e Al;exact⟨SP.c1 (hs.grown KV).sep,(Cells.new w 173 [.int .i64 0,.int .i64 0]).same (Al.block w.heap.size (by simp)),fun u v=>(KV.setCell (J3b _) _).setCell (J3b _) _⟩
 generalize parV Z.F.N (ownN Z.F.N (x:Int) (z:Int))=pid at *
 generalize ownN Z.F.N (x:Int) (z:Int)=oid at *
 have Cw:(0:Int)<=(x:Int):=by omega
 have Dl:(x:Int)<4294967296:=by omega
 have M7:IntKind.i64.wrap (x:Int)=(x:Int):=Go.IntWalk.i64_in _ (by omega);clear hs ok hx hz Ay hv b1 s1;go_enter func82,ntmps82;go_wp2_with fail
 go_region_held3 (fun w'=>w'.cell? ⟨Z.s,1,none⟩=some (.pointer (some ⟨Z.F.f,0,none⟩))) (first|exact c1|exact Qx|exact Ak)
  (first|(go_at_call 161;refine kf.mono ?_;rintro r w'⟨rfl,rfl⟩)|(go_at_call 160;refine kp.mono ?_;rintro r w'⟨rfl,rfl⟩)|(go_at_call 159;refine ko.mono ?_;rintro r w1⟨rfl,hb⟩;obtain⟨Ak,Aj,hz⟩:=HO.out w1 hb;have HZ:=Q0a hz;have e0:=Aj.cell 0 _ rfl;have e1:=Aj.cell 1 _ rfl;have f0:=Aj.free 0;have f1:=Aj.free 1;have Ab:=Aj.lt;clear hz Aj hb HO))
 go_wp2_with fail;refine bodyPost_ret (v:=.tuple #[.agg #[.int .i64 a,.int .i64 b],.bool c]) (by simp[results,results82,go_sem,e0,e1]) rfl ⟨rfl,HZ.out _ _⟩
structure MkS(S:CO)(per:Nat)(limit ch:Int)(n N:Nat)(l:List Pl):Prop where
 ok:S.Ok [] N 0
 tpi:TPI S fun _=>TB.emp
 ts:S.ts=[]
 now:S.now=0
 per:S.period=per
 top:S.P.d.top=6
 ps:S.P.d.ps.length<=n
 q:∃b,S.P.q.E=[⟨0,b,⟨limit,ch,0,-1,0⟩⟩]
 l:S.l=l
def MkQ(c:Nat)(per:Nat)(limit ch:Int)(n N:Nat)(L:List Pl->Prop)(w0 wr:World):Prop:=∃S l,S.c=c/\L l/\MkS S per limit ch n N l/\Step [] S.hl w0 wr
theorem Z7w{a:Nat}{i:Nat}{p:Pl}(h:(newL a)[i]?=some p):¬(p.st=1/\p.kind=2):=by
 rcases Q2H (J5q h) with rfl|rfl
 ·simp
 ·simp[noPl]
theorem Z2C{S:CO}{limit:Int}{per:Nat}(f:Z0d S 6 limit per):MkS S per limit 64 1 1 (newL 64):=by
 refine⟨f.ok,TPI.emp f.ok (fun i p hi=>by rw[f.l] at hi;exact Z7w hi) (f.high 7 (by omega)) (f.high 6 (by omega)) (fun id=>by rw[f.xc]),f.ts,f.now,f.period,f.top,by rw[f.ps];simp,f.q,f.l⟩
theorem J1x{w w1:World}{S:CO}{limit:Int}{per:Nat}(f:Z0d S 6 limit per)(st:Step [] (S.hl++[]) w w1):MkQ S.c per limit 64 1 1 (fun l=>l=newL 64) w w1:=
 ⟨S,newL 64,rfl,rfl,Z2C f,by simpa using st⟩
theorem J1y{S:CO}{per n N:Nat}{limit ch:Int}{l:List Pl}(m:MkS S per limit ch n N l){k i:Nat}(hk:2<=k/\k<=5)(hc:((costK k:Nat):Int)<=limit-ch)(hn:n<64)(B6:l[0]?=some ⟨1,64,0,1,0,0⟩)(hi:Fst l i (noPl 0)){w w':World}{r:Ending}(h:MakeR S [] 0 ((k:Nat):Int) 0 w r w') :
  ∃a x S',r=two i 0/\S'.c=S.c/\MkS S' per limit (ch+((costK k:Nat):Int)) (n+1) (N+1) (l.set i ⟨k,a,0,1,0,x⟩)/\Step S.hl S'.hl w w':=by
 obtain⟨b,hq⟩:=m.q;have Hc:find S.P.q.E 0=some ⟨0,b,⟨limit,ch,0,-1,0⟩⟩:=by rw[hq];rfl
 have C4:i<256:=by
  have:=(J3t.1 hi.1).1;have h2:=m.ok.inv.len;rw[m.l] at h2;omega
 have DT:pget S.l 1 0=some ⟨1,64,0,1,0,0⟩:=by rw[m.l];exact pget_some.2 ⟨B6,rfl,rfl⟩
 obtain⟨a,x,P',fr',rfl,hm,st⟩:=h.able (f:=⟨1,64,0,1,0,0⟩) DT (e:=⟨0,b,⟨limit,ch,0,-1,0⟩⟩) (i:=i) (p:=noPl 0) ⟨rfl,.inr ⟨by omega,hk.2⟩,Hc,by show _<=limit-(ch+0);omega,by rw[m.top];have:=m.ps;show _<64;omega,by rw[m.l];exact hi,fun h=>by omega⟩;have N9:S.l[i]?=some (noPl 0):=by rw[m.l];exact hi.1
 have hf:=hm.fac (by omega);have D9:fr'=[]:=by
  have h1:=(hm.ok m.ok N9).inv.mem.frs.length_eq;have e:Q2i (S.made ⟨1,64,0,1,0,0⟩ k a x i (noPl 0) P').l 8=Q2i S.l 8:=by
   have hp:=Q1I (l:=S.l) (i:=i) (p:=noPl 0) (q:=⟨k,a,0,1,(noPl 0).age,x⟩) (atsF 8) N9 (by unfold atsF;simp[Pl.is,noPl];omega);have h0:(Q2i S.l 8).length=0:=by rw[m.ok.inv.mem.frs.length_eq];rfl
   have h2:=hp.length_eq;have e1:Q2i S.l 8=[]:=J5b.1 h0;show(S.l.set i ⟨k,a,0,1,(noPl 0).age,x⟩).filterMap (atsF 8)=_;rw[e1];refine J5b.1 ?_;rw[h2];exact h0
  rw[e,m.ok.inv.mem.frs.length_eq] at h1;simp at h1;exact J5b.1 h1.symm
 subst D9;refine⟨a,x,_,by rw[show nm i (noPl 0)=i by unfold nm noPl;simp],?_,⟨hm.ok m.ok N9,m.tpi.made m.ok hm N9 rfl,m.ts,m.now,m.per,by show P'.d.top=6;rw[hm.same.top,m.top],by show P'.d.ps.length<=_;have:=hm.few;have:=m.ps;omega,⟨b,?_⟩,?_⟩,st⟩
 ·rfl
 ·show P'.q.E=_;rw[hf,hq];rfl
 ·show S.l.set i _=_;rw[m.l];rfl
theorem Z1n{c per n N:Nat}{limit ch:Int}{L:List Pl->Prop}{w0 wr:World}(h:MkQ c per limit ch n N L w0 wr)(k i:Nat)(hk:2<=k/\k<=5)(hc:((costK k:Nat):Int)<=limit-ch)(hn:n<64)(hN:N+1<1048576)(hL:∀l,L l->l[0]?=some ⟨1,64,0,1,0,0⟩/\Fst l i (noPl 0)) :
  Calls prog 79 #[.pointer (some ⟨c,0,none⟩),.int .u32 0,.int .i64 ((k:Nat):Int),.int .i64 0] wr fun r w'=>r=.returned (.tuple #[.int .u32 i,.int .i64 0])/\MkQ c per limit (ch+((costK k:Nat):Int)) (n+1) (N+1) (fun l'=>∃l a x,L l/\l'=l.set i ⟨k,a,0,1,0,x⟩) w0 w':=by
 obtain⟨S,l,rfl,hl,m,st⟩:=h;have:=Q6O st.sep m.ok (by omega) (x:=0) (by omega) ((k:Nat):Int) 0;refine this.mono ?_;intro r w' hr;obtain⟨a,x,S',rfl,ec,m',st'⟩:=J1y m hk hc hn (hL l hl).1 (hL l hl).2 hr;exact⟨rfl,S',_,ec,⟨l,a,x,hl,rfl⟩,m',st.trans st'⟩
structure MkZ(Z:SP)(per:Nat)(limit:Int)(N:Nat)(M:Int)(l:List Pl):Prop where
 ok:Z.Ok [] N 0 M
 ts:Z.S.ts=[]
 now:Z.S.now=0
 per:Z.S.period=per
 q:∃b ch,Z.S.P.q.E=[⟨0,b,⟨limit,ch,0,-1,0⟩⟩]
 l:Z.S.l=l
theorem J1z{Z:SP}{S:CO}{per n N:Nat}{limit ch:Int}{l:List Pl}(m:MkS S per limit ch n N l)(h:Z.New S fun _=>TB.emp):MkZ Z per limit N 0 l/\Z.av=⟨fun _ _=>none,[]⟩/\Z.F.next=0:=by
 obtain⟨b,hq⟩:=m.q;refine⟨⟨h.ok m.ok m.tpi fun i _=>TB.emp_nil,by rw[h.S];exact m.ts,by rw[h.S];exact m.now,by rw[h.S];exact m.per,⟨b,ch,by rw[h.S];exact hq⟩,by rw[h.S];exact m.l⟩,?_,h.F.next⟩;unfold SP.av avOf;rw[h.tb,h.F.N];congr 1;funext x s;unfold Q0f;split
 ·split
  ·rfl
  ·rfl
 ·rfl
theorem MkZ.same{Z Z':SP}{per N:Nat}{limit:Int}{M M':Int}{l:List Pl}(m:MkZ Z per limit N M l)(ok:Z'.Ok [] N 0 M')(s:SameN Z Z'):MkZ Z' per limit N M' l:=by
 obtain⟨b,ch,hq⟩:=m.q;refine⟨ok,by rw[s.alt.ts];exact m.ts,by rw[s.alt.now];exact m.now,by rw[s.alt.per];exact m.per,?_,by rw[s.alt.l];exact m.l⟩;obtain⟨e',AT,CV⟩:=s.alt.acc 0 ⟨0,b,⟨limit,ch,0,-1,0⟩⟩ (by rw[hq];rfl);have hid:=s.alt.ids;rw[hq] at hid;have h2:∃e,Z'.S.P.q.E=[e]:=by
  cases hE:Z'.S.P.q.E with
  | nil=>rw[hE] at hid;simp at hid
  | cons e r =>
   rw[hE] at hid;simp at hid;exact⟨e,by rw[hid.2]⟩
 obtain⟨e,hE⟩:=h2;rw[hE] at AT hid;have JW:e.id=0:=by simpa using hid
 have:e=e':=by
  unfold find at AT;rw[if_pos JW.symm] at AT;exact J3Z AT
 subst this;refine⟨e.b,e.q.charged,?_⟩;rw[hE];obtain⟨i,b2,q⟩:=e;simp only at JW CV ⊢;subst JW;rw[CV]
theorem SP.Ok.entries{Z:SP}{fr:List Nat}{N K:Nat}{M:Int}(ok:Z.Ok fr N K M){i s:Nat}(hi:i<256)(hs:s<256)(h:(Z.tb i).en s≠none):∃x c,x%256=i/\Z.av.en x s=some c:=by
 obtain⟨p,hp⟩:∃p,Z.S.l[i]?=some p:=⟨_,J5t (by rw[ok.core.inv.len];exact hi)⟩
 by_cases hk:p.st=1/\p.kind=2
 ·cases he:(Z.tb i).en s with
  | none=>exact absurd he h
  | some e =>
   refine⟨nm i p,(e.h,e.r),Q1B hi p,Q9y ?_⟩;rw[Q0g (p:=p) (pget_some.2 ⟨by rw[Q1B hi];exact hp,by rw[Q1B hi],hk.1⟩) hk.2 hs,Q1B hi];exact he
 ·exact absurd ((ok.tpi.nil i p hp hk).2 s hs) h
theorem MkZ.room{Z:SP}{per N:Nat}{limit:Int}{M:Int}{l:List Pl}(m:MkZ Z per limit N M l)(E Q:List (Nat×Nat))(hE:∀x s c,Z.av.en x s=some c->(x%256,s)∈E)(hQ:∀x s,(x,s)∈E->(x,s/16)∈Q){o:Nat}(ho:(l.filter Pl.is).length<=o)(hp:o+Q.length+E.length+1<64){cs:Int}(B4:Q0y l 0=cs)
  (hq:cs+256*(Q.length:Int)+48*(E.length:Int)+304<=limit) {i s:Nat} {er:Int}:¬WhyL Z [] 0 i s er:=by
 obtain⟨b,ch,hb⟩:=m.q;have Hc:find Z.S.P.q.E 0=some ⟨0,b,⟨limit,ch,0,-1,0⟩⟩:=by rw[hb];rfl
 have ent:∀i s,i<256->s<256->(Z.tb i).en s≠none->(i,s)∈E:=fun i s hi hs h=>by
  obtain⟨x,c,hx,hc⟩:=m.ok.entries hi hs h;rw[<- hx];exact hE x s c hc
 refine J2w m.ok.core m.ok.tpi Hc (o:=o) (lv:=Q.length) (nd:=E.length) (by rw[m.l];exact ho) (Z0g m.ok.tpi.full Q fun i s hi hs h=>hQ i s (ent i s hi hs h)) (Z0f E ent) hp ?_;rw[m.l,B4];show _<=limit-0;omega
def Z4p(o:Option (Nat×Nat)):Value:=match o with
 | none=>.tuple #[.agg #[.int .u32 0,.int .i64 0],.int .i64 6]
 | some c=>.tuple #[.agg #[.int .u32 (c.1:Int),.int .i64 (c.2:Int)],.int .i64 0]
section
variable {Z:SP} {fr:List Nat} {N K:Nat} {M:Int} {w w':World}
theorem RootR.fine{x h:Nat}{z r er:Int}(R:RootR Z fr N K M x z h r w er w'){p q:Pl}(hp:pget Z.S.l 1 x=some p)(hk:p.kind=2)(hz:0<=z/\z<256)(hq:pget Z.S.l 1 h=some q)(hr:0<r/\r<=15)(hm:q.kind=8↔128<=z)(h0:Z.av.en x z.toNat=none)(hw:∀er,¬WhyL Z fr p.fac (x%256) z.toNat er) :
  er=0/\J1o Z fr N K M x z.toNat h r.toNat 0 w w':=by
 have Dj:=av_none.1 h0;rcases R with ⟨_,he,_⟩|⟨s,rn,p',q',rfl,rfl,hs,_,_,BH,_,_,_,_,hc⟩
 ·exfalso;rcases he with ⟨h1,_⟩|⟨p',h1,he⟩
  ·rw[hp] at h1;cases h1
  ·rw[hp] at h1;cases h1;rcases he with ⟨h2,_⟩|⟨_,he⟩
   ·exact h2 hk
   ·rcases he with ⟨h3,_⟩|⟨_,he⟩
    ·exact h3 hz
    ·rcases he with ⟨h4,_⟩|⟨q',h4,he⟩
     ·rw[hq] at h4;cases h4
     ·rw[hq] at h4;cases h4;rcases he with ⟨h5,_⟩|⟨_,h5,_⟩
      ·exact h5 ⟨hr,hm⟩
      ·exact h5 Dj
 ·rw[hp] at BH;cases BH;rw[J4h,J4h] at *
  rcases hc with ⟨h1,h2⟩|⟨_,h2,_⟩
  ·exact⟨h1,h2⟩
  ·exact absurd h2 (hw er)
theorem MoveR.fine{x y n:Nat}{A:Nat->Mv}{er:Int}(R:MoveR Z fr N K M x y n A w er w'){p1 p2:Pl}(Bh:pget Z.S.l 1 x=some p1)(A0:p1.kind=2)(A5:pget Z.S.l 1 y=some p2)(A2:p2.kind=2)(An:AllFit Z.av.en x y n A)(hw:∀er,¬WhyM Z fr N K x y n p2.fac A er) :
  er=0/\MovedZ Z fr N K M x y n A w w':=by
 rcases R with ⟨Aa,he,_⟩|⟨q1,q2,h1,_,h2,_,_,hc⟩
 ·exfalso;rcases he with ⟨h1,_⟩|⟨q1,h1,he⟩
  ·rw[Bh] at h1;cases h1
  ·rw[Bh] at h1;cases h1;rcases he with ⟨h2,_⟩|⟨_,he⟩
   ·exact h2 A0
   ·rcases he with ⟨h3,_⟩|⟨q2,h3,he⟩
    ·rw[A5] at h3;cases h3
    ·rw[A5] at h3;cases h3;rcases he with ⟨h4,_⟩|⟨_,i,hi,_,hv⟩
     ·exact h4 A2
     ·have:=(Z2t (N:=Z.F.N) (tb:=Z.tb) Bh A0 A5 A2 (m:=A i) (cl:=Q1z A i (A i))).2 (An i hi);unfold fitV at hv;rw[this] at hv;exact Aa hv.symm
 ·rw[Bh] at h1;cases h1;rw[A5] at h2;cases h2;rcases hc with ⟨h1,h2⟩|⟨_,h2,_⟩
  ·exact⟨h1,h2⟩
  ·exact absurd h2 (hw er)
theorem Q7V{en:Nat->Nat->Option (Nat×Nat)}{x y:Nat}{m:Mv}(h:FitM en x y m):AllFit en x y 1 (fun _=>m):=fun i hi=>by
 obtain rfl:i=0:=by omega
 exact⟨h,rfl⟩
theorem Z2D{x y:Nat}{m:Mv}{own:Int}{er:Int}(h:WhyM Z fr N K x y 1 own (fun _=>m) er):WhyL Z fr own (y%256) m.dst.toNat er:=by
 obtain⟨k,S',t',hk,_,h0,hw⟩:=h;obtain⟨rfl,rfl⟩:=h0 (by omega);rw[Q1d] at hw;exact hw
theorem MovedZ.one{x y:Nat}{m:Mv}(h:MovedZ Z fr N K M x y 1 (fun _=>m) w w')(hg:m.g=false):∃(Z':SP) (c:Nat×Nat) (b:Nat),Z.av.en x m.src.toNat=some c/\Z'.av=⟨setA Z.av.en y m.dst.toNat (some (c.1,c.2&&&m.r.toNat)),addN Z.av.N (ownN Z.av.N (x:Int) m.src) (Z.F.next+1) b (y:Int) m.dst⟩/\Z'.Ok fr N K (M+1)/\SameN Z Z'/\Z'.F.next=Z.F.next+1/\Step Z.hl Z'.hl w w':=by
 obtain⟨a,Z',h1,h2,h3,h4,h5,h6⟩:=h;cases h1 with
 | succ k a0 c b h1 hc hn =>
  cases h1
  have e2:Z'.av=⟨setA Z.av.en y m.dst.toNat (some (c.1,c.2&&&m.r.toNat)),addN Z.av.N (ownN Z.av.N (x:Int) m.src) (Z.F.next+1) b (y:Int) m.dst⟩:=by
   generalize hz:Z'.av=az at h2;cases h2 with
   | skip k a' h2 _=>cases h2;simp
   | lift k a' a'' h2 EM _=>rw[hg] at EM;cases EM
  exact⟨Z',c,b,hc,e2,h3,h4,h5,h6⟩
theorem MovedZ.grant{x y:Nat}{m:Mv}(h:MovedZ Z fr N K M x y 1 (fun _=>m) w w')(hg:m.g=true):∃(Z':SP) (c:Nat×Nat) (b:Nat) (a:AV),Z.av.en x m.src.toNat=some c/\Z.av.en y m.dst.toNat=none/\a=⟨setA Z.av.en y m.dst.toNat (some (c.1,c.2&&&m.r.toNat)),addN Z.av.N (ownN Z.av.N (x:Int) m.src) (Z.F.next+1) b (y:Int) m.dst⟩/\weak1 15 a (ownN a.N (x:Int) m.src)=(Z'.av,true)/\Z'.Ok fr N K (M+1)/\SameN Z Z'/\Z'.F.next=Z.F.next+1/\Step Z.hl Z'.hl w w':=by
 obtain⟨a,Z',h1,h2,h3,h4,h5,h6⟩:=h;cases h1 with
 | succ k a0 c b h1 hc hn =>
  cases h1
  refine⟨Z',c,b,⟨setA Z.av.en y m.dst.toNat (some (c.1,c.2&&&m.r.toNat)),addN Z.av.N (ownN Z.av.N (x:Int) m.src) (Z.F.next+1) b (y:Int) m.dst⟩,hc,hn,rfl,?_,h3,h4,h5,h6⟩;generalize hz:Z'.av=az at h2;cases h2 with
  | skip k a' h2 EM=>rw[hg] at EM;cases EM
  | lift k a' a'' h2 EM hw =>
   cases h2
   simpa using hw
theorem RevR.fine{x:Nat}{z mask:Int}{self:Bool}{r:Ending}(R:RevR Z fr N K M x z mask self w r w'){p:Pl}(hp:pget Z.S.l 1 x=some p)(hk:p.kind=2)(hz:0<=z/\z<256)(hm:0<mask/\mask<=15){c:Nat×Nat}(hc:Z.av.en x z.toNat=some c) :
  ∃n∈Z.F.N,n.q.sp=(x:Int)/\n.q.sl=z/\r=.returned (.tuple #[.int .i64 ((Q0P mask.toNat Z.av (revL Z.F n.id self)).2:Nat),.int .i64 0])/\∃Z',Z'.Ok fr N K M/\Z'.av=(Q0P mask.toNat Z.av (revL Z.F n.id self)).1/\SameZ Z Z'/\Step Z.hl Z'.hl w w':=by
 obtain⟨e,he,_⟩:=Q3v hc;rcases R with ⟨er,_,_,hc⟩|⟨s,m,n,en,rfl,rfl,_,_,_,_,hn,h1,h2,hr,hw⟩
 ·exfalso;rcases hc with ⟨h1,_⟩|⟨p',h1,hc⟩
  ·rw[hp] at h1;cases h1
  ·rw[hp] at h1;cases h1;rcases hc with ⟨h2,_⟩|⟨_,h2,_⟩|⟨_,h2,h3,_⟩|⟨_,_,_,h3,_⟩
   ·exact h2 hk
   ·exact h2 hz
   ·exact h3 hm
   ·rw[he] at h3;cases h3
 ·rw[J4h];exact⟨n,hn,h1,h2,hr,hw⟩
theorem Z2E{x:Nat}{z:Int}{p:Pl}(hp:pget Z.S.l 1 x=some p)(hk:p.kind=2)(hz:0<=z/\z<256):Q6F Z.S.l Z.tb x z=Z4p (Z.av.en x z.toNat):=by
 unfold Q6F;rw[hp];simp only;rw[if_pos hk,if_pos hz];show _=Z4p ((Q0f Z.S.l Z.tb x z.toNat).map Ent.c);cases Q0f Z.S.l Z.tb x z.toNat <;> rfl
theorem Q7W{H:HL}(hs:Sep w H)(m:Mv)(hm:m.Wf):AsideM H 1 (fun _=>m) (some ⟨w.heap.size,0,none⟩) (w.alloc (.cells #[.int .i64 m.src,.int .i64 m.dst,.int .i64 m.r,.bool m.g] 90)):=by
 refine⟨fun j hj=>⟨w.heap.size,0,rfl,by simp,fun i v hv=>?_,hm⟩,fun a _ ha hk=>?_⟩
 ·obtain rfl:j=0:=by omega
  have:=(Cells.new w 90 m.cells).cell i v hv;have e:0+0*4+i=i:=by omega
  rw[e];exact this
 ·cases ha
  have:=hs.lt hk;simp at this
end
theorem Z1o{l:List Pl}{i:Nat}{p:Pl}(h:l[i]?=some p)(hp:p.st=0)(ha:∀j,j<i->∃q,l[j]?=some q/\q.st≠0):Fst l i p:=⟨h,hp,fun j q hj hq=>by
 obtain⟨q',e1,e2⟩:=ha j hj;rw[hq] at e1;cases e1;exact e2⟩
def lt1(k a x:Nat):List Pl:=(newL 64).set 1 ⟨k,a,0,1,0,x⟩
def lt2(k a x m b y:Nat):List Pl:=(lt1 k a x).set 2 ⟨m,b,0,1,0,y⟩
def lt3(k a x m b y n c z:Nat):List Pl:=(lt2 k a x m b y).set 3 ⟨n,c,0,1,0,z⟩
theorem J2x:(newL 64)[0]?=some ⟨1,64,0,1,0,0⟩/\Fst (newL 64) 1 (noPl 0):=⟨rfl,Z1o rfl rfl fun j hj=>by
 obtain rfl:j=0:=by omega
 exact⟨_,rfl,by decide⟩⟩
theorem J2y(k a x:Nat):(lt1 k a x)[0]?=some ⟨1,64,0,1,0,0⟩/\Fst (lt1 k a x) 2 (noPl 0):=⟨rfl,Z1o rfl rfl fun j hj=>by
 have:j=0∨j=1:=by omega
 rcases this with rfl|rfl
 ·exact⟨_,rfl,by decide⟩
 ·exact⟨_,rfl,(by decide:(1:Nat)≠0)⟩⟩
theorem J2z(k a x m b y:Nat):(lt2 k a x m b y)[0]?=some ⟨1,64,0,1,0,0⟩/\Fst (lt2 k a x m b y) 3 (noPl 0):=⟨rfl,Z1o rfl rfl fun j hj=>by
 have:j=0∨j=1∨j=2:=by omega
 rcases this with rfl|rfl|rfl
 ·exact⟨_,rfl,by decide⟩
 ·exact⟨_,rfl,(by decide:(1:Nat)≠0)⟩
 ·exact⟨_,rfl,(by decide:(1:Nat)≠0)⟩⟩
theorem Q5n(k a x m b y n c z:Nat):pget (lt3 k a x m b y n c z) 1 1=some ⟨k,a,0,1,0,x⟩/\pget (lt3 k a x m b y n c z) 1 2=some ⟨m,b,0,1,0,y⟩/\pget (lt3 k a x m b y n c z) 1 3=some ⟨n,c,0,1,0,z⟩:=⟨by kernel_rfl,by kernel_rfl,by kernel_rfl⟩
theorem J2A(k a x m b y n c z:Nat):((lt3 k a x m b y n c z).filter Pl.is).length=4:=by kernel_rfl
theorem Z9J(a x b y c z:Nat):Q0y (lt3 2 a x 4 b y 2 c z) 0=352:=by kernel_rfl
theorem Z9K(a x b y c z:Nat):kids (lt3 2 a x 4 b y 2 c z) 2=[]:=by kernel_rfl
def AlQ(s c:Nat)(M:Int)(C:AV->Prop)(B:List (Nat×List Value))(w0 wr:World):Prop:=∃Z a x b y d z,Z.s=s/\Z.S.c=c/\MkZ Z 1 20000 4 M (lt3 2 a x 4 b y 2 d z)/\C Z.av/\Z.F.next=M/\Step [] Z.hl w0 wr/\∀q∈B,AsideV Z.hl q.2 (some ⟨q.1,0,none⟩) wr
theorem AlQ.grown{s c:Nat}{M:Int}{C:AV->Prop}{B:List (Nat×List Value)}{w0 wr w':World}(h:AlQ s c M C B w0 wr)(hb:Below wr.heap.size wr w'):AlQ s c M C B w0 w':=by
 obtain⟨Z,a,x,b,y,d,z,h1,h2,h3,h4,h5,st,hB⟩:=h;exact⟨Z,a,x,b,y,d,z,h1,h2,h3,h4,h5,st.trans (st.sep.grown hb),fun q hq=>(hB q hq).step (st.sep.grown hb)⟩
theorem AlQ.box{s c:Nat}{M:Int}{C:AV->Prop}{B:List (Nat×List Value)}{w0 wr:World}(h:AlQ s c M C B w0 wr)(T:TypeId)(cs:List Value):AlQ s c M C ((wr.heap.size,cs)::B) w0 (wr.alloc (.cells cs.toArray T)):=by
 obtain⟨Z,a,x,b,y,d,z,h1,h2,h3,h4,h5,st,hB⟩:=h;have hb:=(Below.refl wr.heap.size wr).alloc (J3b _) (.cells cs.toArray T);refine⟨Z,a,x,b,y,d,z,h1,h2,h3,h4,h5,st.trans (st.sep.grown hb),fun q hq=>?_⟩;rcases J3g.1 hq with rfl|hq
 ·exact Q2O st.sep T cs
 ·exact(hB q hq).step (st.sep.grown hb)
def en0:Nat->Nat->Option (Nat×Nat):=fun _ _=>none
def E0(a:AV):Prop:=a=⟨en0,[]⟩
def E1(a:AV):Prop:=∃b1,a=⟨setA en0 1 5 (some (2,15)),[⟨1,b1,⟨1,5,0,[]⟩⟩]⟩
def E2(r:Nat)(a:AV):Prop:=∃b1 b2,a=⟨setA (setA en0 1 5 (some (2,15))) 3 7 (some (2,r)),[⟨1,b1,⟨1,5,0,[2]⟩⟩,⟨2,b2,⟨3,7,1,[]⟩⟩]⟩
def E4(a:AV):Prop:=(∀h s c,a.en h s=some c->h=1/\s=5/\c=(2,15))/\a.en 1 5=some (2,15)/\∃b1,a.N=[⟨1,b1,⟨1,5,0,[]⟩⟩]
def E5(a:AV):Prop:=(∀h s c,a.en h s=some c->h=3/\s=9/\c=(2,15))/\a.en 3 9=some (2,15)
theorem Q2e{en:Nat->Nat->Option (Nat×Nat)}{h s h' s':Nat}{o:Option (Nat×Nat)}{c:Nat×Nat}(e:setA en h s o h' s'=some c):(h'=h/\s'=s/\o=some c)∨(¬(h'=h/\s'=s)/\en h' s'=some c):=by
 by_cases hh:h'=h/\s'=s
 ·rw[hh.1,hh.2,Q9i] at e;exact .inl ⟨hh.1,hh.2,e⟩
 ·rw[Q5j hh] at e;exact .inr ⟨hh,e⟩
theorem Z9L{w w1:World}{S:CO}(f:Z0d S 6 20000 1)(st:Step [] (S.hl++[]) w w1) :
  Calls prog 79 #[.pointer (some ⟨S.c,0,none⟩),.int .u32 0,.int .i64 2,.int .i64 0] w1 fun r w2=>r=.returned (.tuple #[.int .u32 1,.int .i64 0]) /\
   Calls prog 79 #[.pointer (some ⟨S.c,0,none⟩),.int .u32 0,.int .i64 4,.int .i64 0] w2 fun r w3=>r=.returned (.tuple #[.int .u32 2,.int .i64 0]) /\
    Calls prog 79 #[.pointer (some ⟨S.c,0,none⟩),.int .u32 0,.int .i64 2,.int .i64 0] w3 fun r w4=>r=.returned (.tuple #[.int .u32 3,.int .i64 0]) /\
     Calls prog 80 #[.pointer (some ⟨S.c,0,none⟩)] w4 fun r w5=>∃s,r=.returned (.pointer (some ⟨s,0,none⟩))/\AlQ s S.c 0 E0 [] w w5:=by
 refine(Z1n (J1x f st) 2 1 (by omega) (by decide) (by omega) (by omega) fun l hl=>by subst hl;exact J2x).mono ?_;rintro r w2⟨rfl,q2⟩;refine⟨rfl,(Z1n q2 4 2 (by omega) (by decide) (by omega) (by omega) fun l hl=>by
  obtain⟨l0,a,x,rfl,rfl⟩:=hl;exact J2y 2 a x).mono ?_⟩
 rintro r w3⟨rfl,q3⟩;refine⟨rfl,(Z1n q3 2 3 (by omega) (by decide) (by omega) (by omega) fun l hl=>by
  obtain⟨l0,b,y,⟨l1,a,x,rfl,rfl⟩,rfl⟩:=hl;exact J2z 2 a x 4 b y).mono ?_⟩
 rintro r w4⟨rfl,S4,l,ec,⟨l0,d,z,⟨l1,b,y,⟨l2,a,x,rfl,rfl⟩,rfl⟩,rfl⟩,m,st4⟩;refine⟨rfl,?_⟩;rw[<- ec];refine(Z2B st4.sep fun _=>TB.emp).mono ?_;rintro r w5⟨Z,rfl,hZ,st5⟩;obtain⟨m1,m2,m3⟩:=J1z m hZ;exact⟨Z.s,rfl,Z,a,x,b,y,d,z,rfl,by rw[hZ.S],m1,m2,m3,st4.trans st5,fun q hq=>by cases hq⟩
theorem Z1p{Z:SP}{M:Int}{a x b y d z:Nat}(m:MkZ Z 1 20000 4 M (lt3 2 a x 4 b y 2 d z))(E:List (Nat×Nat))(hE:∀h s c,Z.av.en h s=some c->(h%256,s)∈E)(hl:E.length<=2){i s:Nat}{er:Int}:¬WhyL Z [] 0 i s er:=by
 refine m.room E (E.map fun p=>(p.1,p.2/16)) hE (fun u v h=>J3h.2 ⟨_,h,rfl⟩) (o:=4) (by rw[J2A];exact J3b _) (by rw[J4L];omega) (cs:=352) (Z9J a x b y d z) (by rw[J4L];omega)
theorem J1A{s c:Nat}{B:List (Nat×List Value)}{w0 wr:World}(h:AlQ s c 0 E0 B w0 wr) :
  Calls prog 41 #[.pointer (some ⟨s,0,none⟩),.int .u32 1,.int .i64 5,.agg #[.int .u32 2,.int .i64 15]] wr fun r w'=>r=.returned (.int .i64 0)/\AlQ s c 1 E1 B w0 w':=by
 obtain⟨Z,a,x,b,y,d,z,rfl,rfl,m,hC,B3,st,hB⟩:=h;refine(Q6J st.sep m.ok (by omega) (x:=1) (h:=2) (by omega) (by omega) 5 15).mono ?_;rintro r w'⟨er,rfl,R⟩;obtain⟨g1,g2,g3⟩:=Q5n 2 a x 4 b y 2 d z;rw[<- m.l] at g1 g2;unfold E0 at hC;obtain⟨rfl,Z',k1,k2,k3,⟨b1,k4⟩,k5,k6⟩:=R.fine g1 rfl (by omega) g2 (by omega) (by show(4:Nat)=8↔(128:Int)<=5;decide) (by rw[hC];rfl) fun er=>Z1p m [] (fun h s c hc=>by rw[hC] at hc;cases hc) (by simp)
 refine⟨rfl,Z',a,x,b,y,d,z,k2.s,k2.alt.c,m.same k1 k2,⟨b1,?_⟩,by rw[k5,B3];rfl,st.trans k6,fun q hq=>(hB q hq).step k6⟩;have hN:Z.F.N=[]:=by show Z.av.N=_;rw[hC]
 rw[hN,B3] at k4;rw[hC] at k3;generalize hz:Z'.av=av at k3 k4;obtain⟨en,N⟩:=av;simp only at k3 k4;rw[k3,k4];rfl
theorem Z9M{s c:Nat}{B:List (Nat×List Value)}{w0 wr:World}(h:AlQ s c 1 E1 B w0 wr) :
  Calls prog 39 #[.pointer (some ⟨s,0,none⟩),.int .u32 1,.int .u32 3,.slice (some ⟨wr.heap.size,0,none⟩) 1 1] (wr.alloc (.cells #[.int .i64 5,.int .i64 7,.int .i64 5,.bool false] 90)) fun r w'=>r=.returned (.int .i64 0)/\AlQ s c 2 (E2 5) B w0 w':=by
 obtain⟨Z,a,x,b,y,d,z,rfl,rfl,m,⟨b1,hC⟩,B3,st,hB⟩:=h;have hb:=(Below.refl wr.heap.size wr).alloc (J3b _) (.cells #[.int .i64 5,.int .i64 7,.int .i64 5,.bool false] 90);have st2:=st.sep.grown hb;have B5:=Q7W st.sep ⟨5,7,5,false⟩ ⟨⟨by decide,by decide⟩,⟨by decide,by decide⟩,⟨by decide,by decide⟩⟩;obtain⟨g1,g2,g3⟩:=Q5n 2 a x 4 b y 2 d z;rw[<- m.l] at g1 g3;have An:FitM Z.av.en 1 3 ⟨5,7,5,false⟩:=by
  rw[hC];exact⟨by decide,by decide,by decide,rfl,⟨(2,15),rfl,by decide,by decide⟩,rfl⟩
 have Kz:AsideM Z.hl 1 (fun _=>⟨5,7,5,false⟩) (some ⟨wr.heap.size,0,none⟩) (wr.alloc (.cells #[.int .i64 5,.int .i64 7,.int .i64 5,.bool false] 90)):=B5;have km:=Q2P (n:=1) (cap:=1) (A:=fun _=>⟨5,7,5,false⟩) st2.sep m.ok (by omega) (x:=1) (y:=3) (by omega) (by omega) (by omega) (by omega) Kz;refine km.mono ?_;rintro r w'⟨er,rfl,R⟩;obtain⟨rfl,hz⟩:=R.fine g1 rfl g3 rfl (Q7V An) fun er hw=>Z1p m [(1,5)] (fun h s c hc=>by
  rw[hC] at hc;rcases Q2e hc with ⟨rfl,rfl,_⟩|⟨_,h0⟩
  ·simp
  ·cases h0) (by simp) (Z2D hw)
 obtain⟨Z',c,b2,k1,k2,k3,k4,k5,k6⟩:=hz.one rfl;rw[hC] at k1 k2;obtain rfl:(2,15)=c:=by simpa[setA] using k1
 refine⟨rfl,Z',a,x,b,y,d,z,k4.s,k4.alt.c,m.same k3 k4,⟨b1,b2,?_⟩,by rw[k5,B3];rfl,(st.trans st2).trans k6,fun q hq=>((hB q hq).step st2).step k6⟩;rw[k2,B3];rfl
theorem Z1q{s c x:Nat}{M z:Int}{C:AV->Prop}{B:List (Nat×List Value)}{w0 wr:World}(h:AlQ s c M C B w0 wr)(hx:x=1∨x=3)(hz:0<=z/\z<256){o:Option (Nat×Nat)}(ho:∀a,C a->a.en x z.toNat=o) :
  Calls prog 37 #[.pointer (some ⟨s,0,none⟩),.int .u32 x,.int .i64 z] wr fun r w'=>r=.returned (Z4p o)/\AlQ s c M C B w0 w':=by
 have h':=h;obtain⟨Z,a,u,b,y,d,v,rfl,rfl,m,hC,B3,st,hB⟩:=h;obtain⟨g1,g2,g3⟩:=Q5n 2 a u 4 b y 2 d v;rw[<- m.l] at g1 g3;obtain⟨p,hp,hk⟩:∃p,pget Z.S.l 1 x=some p/\p.kind=2:=by
  rcases hx with rfl|rfl
  ·exact⟨_,g1,rfl⟩
  ·exact⟨_,g3,rfl⟩
 have kl:=Q6G st.sep m.ok (x:=x) (by omega) z;rw[Z2E hp hk hz,ho _ hC] at kl;refine kl.mono ?_;rintro r w'⟨rfl,hb⟩;exact⟨rfl,h'.grown hb⟩
theorem Z0i{s c:Nat}{r0 mk:Nat}{B:List (Nat×List Value)}{w0 wr:World}(h:AlQ s c 2 (E2 r0) B w0 wr)(hm:1<=mk/\mk<=15){C:AV->Prop}{n:Nat}(EK:∀a,E2 r0 a->(Q0P mk a [2]).2=n/\C (Q0P mk a [2]).1) :
  Calls prog 81 #[.pointer (some ⟨s,0,none⟩),.int .u32 1,.int .i64 5,.int .i64 mk,.bool false] wr fun r w'=>r=.returned (.tuple #[.int .i64 n,.int .i64 0])/\AlQ s c 2 C B w0 w':=by
 obtain⟨Z,a,u,b,y,d,v,rfl,rfl,m,hC,B3,st,hB⟩:=h;obtain⟨g1,g2,g3⟩:=Q5n 2 a u 4 b y 2 d v;rw[<- m.l] at g1;obtain⟨q1,q2⟩:=EK _ hC;obtain⟨b1,b2,hC⟩:=hC;have hN:Z.F.N=[⟨1,b1,⟨1,5,0,[2]⟩⟩,⟨2,b2,⟨3,7,1,[]⟩⟩]:=by show Z.av.N=_;rw[hC]
 refine(Q6I st.sep m.ok (x:=1) (by omega) 5 (mk:Int) false).mono ?_;intro r w' R;obtain⟨n',DQ,e1,e2,rfl,Z',k1,k2,k3,k4⟩:=R.fine g1 rfl (by omega) (by omega) (c:=(2,15)) (by rw[hC];rfl);have hid:n'.id=1:=by
  rw[hN] at DQ;rcases J3g.1 DQ with rfl|DQ
  ·rfl
  ·rw[J5j] at DQ;subst DQ;cases e2
 have hL:revL Z.F n'.id false=[2]:=by
  unfold revL;rw[hN,B3,hid];rfl
 rw[hL,J4h] at k2 ⊢;rw[q1];refine⟨rfl,Z',a,u,b,y,d,v,k3.s,k3.alt.c,m.same k1 k3.toSameN,by rw[k2];exact q2,by rw[k3.nx,B3],st.trans k4,fun q hq=>(hB q hq).step k4⟩
theorem J1B{a:AV}(h:E2 5 a):(Q0P 4 a [2]).2=0/\E2 1 (Q0P 4 a [2]).1:=by
 obtain⟨b1,b2,rfl⟩:=h;refine⟨rfl,b1,b2,?_⟩;show(⟨setA (setA (setA en0 1 5 (some (2,15))) 3 7 (some (2,5))) 3 7 (some (2,1)),_⟩:AV)=_;congr 1;funext h s;unfold setA;split <;> rfl
theorem J1C{a:AV}(h:E2 1 a):(Q0P 1 a [2]).2=1/\E4 (Q0P 1 a [2]).1:=by
 obtain⟨b1,b2,rfl⟩:=h;refine⟨rfl,fun h s c hc=>?_,rfl,b1,rfl⟩;have Bj:setA (setA (setA en0 1 5 (some (2,15))) 3 7 (some (2,1))) 3 7 none h s=some c:=hc;rcases Q2e Bj with ⟨_,_,h0⟩|⟨Aa,h1⟩
 ·cases h0
 ·rcases Q2e h1 with ⟨e1,e2,_⟩|⟨_,h2⟩
  ·exact absurd ⟨e1,e2⟩ Aa
  ·rcases Q2e h2 with ⟨e1,e2,e3⟩|⟨_,h3⟩
   ·exact⟨e1,e2,(J3Z e3).symm⟩
   ·cases h3
theorem J1D{s c r0:Nat}{B:List (Nat×List Value)}{w0 wr:World}(h:AlQ s c 2 (E2 r0) B w0 wr) :
  Calls prog 82 #[.pointer (some ⟨s,0,none⟩),.int .u32 3,.int .i64 7] wr fun r w'=>r=.returned (.tuple #[.agg #[.int .i64 1,.int .i64 5],.bool true])/\AlQ s c 2 (E2 r0) B w0 w':=by
 have h':=h;obtain⟨Z,a,u,b,y,d,v,rfl,rfl,m,⟨b1,b2,hC⟩,B3,st,hB⟩:=h;have hN:Z.F.N=[⟨1,b1,⟨1,5,0,[2]⟩⟩,⟨2,b2,⟨3,7,1,[]⟩⟩]:=by show Z.av.N=_;rw[hC]
 have kf:=Z7v st.sep m.ok.fo (x:=3) (z:=7) (by omega) (by omega);have e:Z9I Z.F.N ((3:Nat):Int) ((7:Nat):Int)=.tuple #[.agg #[.int .i64 1,.int .i64 5],.bool true]:=by
  rw[hN];rfl
 rw[e] at kf;refine kf.mono ?_;rintro r w'⟨rfl,hb⟩;exact⟨rfl,h'.grown hb⟩
theorem Z9N{s c:Nat}{B:List (Nat×List Value)}{w0 wr:World}(h:AlQ s c 2 E4 B w0 wr) :
  Calls prog 39 #[.pointer (some ⟨s,0,none⟩),.int .u32 1,.int .u32 3,.slice (some ⟨wr.heap.size,0,none⟩) 1 1] (wr.alloc (.cells #[.int .i64 5,.int .i64 9,.int .i64 15,.bool true] 90)) fun r w'=>r=.returned (.int .i64 0)/\AlQ s c 3 E5 B w0 w':=by
 obtain⟨Z,a,x,b,y,d,z,rfl,rfl,m,⟨EK,FJ,b1,Oq⟩,B3,st,hB⟩:=h;have hb:=(Below.refl wr.heap.size wr).alloc (J3b _) (.cells #[.int .i64 5,.int .i64 9,.int .i64 15,.bool true] 90);have st2:=st.sep.grown hb;have B5:=Q7W st.sep ⟨5,9,15,true⟩ ⟨⟨by decide,by decide⟩,⟨by decide,by decide⟩,⟨by decide,by decide⟩⟩;obtain⟨g1,g2,g3⟩:=Q5n 2 a x 4 b y 2 d z;rw[<- m.l] at g1 g3;have Ax:Z.av.en 3 9=none:=by
  cases hh:Z.av.en 3 9 with
  | none=>rfl
  | some c=>have:=(EK _ _ _ hh).1;omega
 have An:FitM Z.av.en 1 3 ⟨5,9,15,true⟩:=
  ⟨by decide,by decide,by decide,rfl,⟨(2,15),FJ,by decide,by decide⟩,Ax⟩
 have Kz:AsideM Z.hl 1 (fun _=>⟨5,9,15,true⟩) (some ⟨wr.heap.size,0,none⟩) (wr.alloc (.cells #[.int .i64 5,.int .i64 9,.int .i64 15,.bool true] 90)):=B5;have km:=Q2P (n:=1) (cap:=1) (A:=fun _=>⟨5,9,15,true⟩) st2.sep m.ok (by omega) (x:=1) (y:=3) (by omega) (by omega) (by omega) (by omega) Kz;refine km.mono ?_;rintro r w'⟨er,rfl,R⟩;obtain⟨rfl,hz⟩:=R.fine g1 rfl g3 rfl (Q7V An) fun er hw=>Z1p m [(1,5)] (fun h s c hc=>by
  obtain⟨rfl,rfl,_⟩:=EK _ _ _ hc;simp) (by simp) (Z2D hw)
 obtain⟨Z',c,b2,av,k1,_,rfl,k2,k3,k4,k5,k6⟩:=hz.grant rfl;obtain rfl:(2,15)=c:=by
  have OJ:Z.av.en 1 5=some c:=k1;rw[FJ] at OJ;exact J3Z OJ
 have hid:ownN Z.av.N (1:Int) 5=1:=by rw[Oq];rfl
 have Es:(Z'.av).en=setA (setA Z.av.en 3 9 (some (2,15))) 1 5 none:=by
  have ha:setA Z.av.en 3 9 (some (2,15)) 1 5=some (2,15):=by rw[Q5j (by omega)];exact FJ
  have hf:find (addN Z.av.N (ownN Z.av.N (1:Int) 5) (Z.F.next+1) b2 3 9) 1=some ⟨1,b1,⟨1,5,0,[3]⟩⟩:=by rw[Oq,B3];rfl
  have hw:=Q2L (m:=15) (a:=⟨setA Z.av.en 3 9 (some (2,15)),addN Z.av.N (ownN Z.av.N (1:Int) 5) (Z.F.next+1) b2 3 9⟩) hf (h:=1) (s:=5) rfl rfl ha;have ho:ownN (addN Z.av.N (ownN Z.av.N (1:Int) 5) (Z.F.next+1) b2 3 9) (1:Int) 5=1:=by rw[Oq,B3];rfl
  have QX:weak1 15 ⟨setA Z.av.en 3 9 (some (2,15)),addN Z.av.N (ownN Z.av.N (1:Int) 5) (Z.F.next+1) b2 3 9⟩ (ownN (addN Z.av.N (ownN Z.av.N (1:Int) 5) (Z.F.next+1) b2 3 9) (1:Int) 5)=(Z'.av,true):=k2;rw[ho,hw,if_pos (Q4H 15 (by omega))] at QX;rw[<- (Prod.mk.inj QX).1]
 refine⟨rfl,Z',a,x,b,y,d,z,k4.s,k4.alt.c,m.same k3 k4,⟨fun h s c hc=>?_,by rw[Es];rfl⟩,by rw[k5,B3];rfl,(st.trans st2).trans k6,fun q hq=>((hB q hq).step st2).step k6⟩;rw[Es] at hc;rcases Q2e hc with ⟨_,_,h0⟩|⟨Aa,h1⟩
 ·cases h0
 ·rcases Q2e h1 with ⟨e1,e2,e3⟩|⟨_,h2⟩
  ·exact⟨e1,e2,(J3Z e3).symm⟩
  ·obtain⟨e1,e2,_⟩:=EK _ _ _ h2;exact absurd ⟨e1,e2⟩ Aa
theorem Z7x(l:List Pl)(tb:Nat->TB)(x:Nat):(Q0q l tb x).Nodup:=by
 unfold Q0q;split
 ·exact J7g
 ·split
  ·unfold Q0X;refine J3H.2 ((J6X.filter _).imp fun Aa he=>Aa ?_);omega
  ·exact J7g
theorem Z9O(l:List Pl)(tb:Nat->TB)(h x:Nat):(Q5y l tb h x).Nodup/\∀p∈Q5y l tb h x,p.1=(x:Int):=by
 unfold Q5y Q3z;refine⟨J3H.2 (((Z7x l tb x).filter _).imp fun Aa he=>Aa (Prod.mk.inj he).2),fun p hp=>?_⟩;obtain⟨z,_,rfl⟩:=J3h.1 hp;rfl
theorem Z2F(l:List Pl)(tb:Nat->TB)(h:Nat):∀T:List Nat,T.Nodup->(Q2b l tb h T).Nodup
 | [],_=>J7g
 | x::r,hT=>by
  obtain⟨h1,h2⟩:=J3Y.1 hT;have ih:=Z2F l tb h r h2;obtain⟨a1,a2⟩:=Z9O l tb h x;show((x::r).flatMap (Q5y l tb h)).Nodup;rw[J3z];refine J3V.2 ⟨a1,ih,fun p hp q hq e=>?_⟩;obtain⟨y,hy,s,e2,_⟩:=mem_holdL.1 (show q∈Q2b l tb h r from hq);have e3:=a2 p hp;rw[e,e2] at e3;have:y=x:=by
   have e4:(y:Int)=(x:Int):=e3;omega
  exact h1 (this ▸ hy)
theorem Z7y{Z:SP}{fr:List Nat}{N K:Nat}{M:Int}(ok:Z.Ok fr N K M){h:Nat}{p:Int×Int}:p∈Q3b Z.S.l Z.tb h↔∃x s r:Nat,p=((x:Int),(s:Int))/\Z.av.en x s=some (h,r):=by
 unfold Q3b;rw[mem_holdL]
 constructor
 ·rintro⟨x,_,s,rfl,_,e,he,rfl⟩;exact⟨x,s,e.r,rfl,Q9y he⟩
 ·rintro⟨x,s,r,rfl,hc⟩;obtain⟨e,he,h2⟩:=Q3v hc;obtain⟨q,q1,_,q3,_⟩:=Q3M he;exact⟨x,(Q3g (by rw[ok.core.inv.len];omega)).2 ⟨q,q1⟩,s,rfl,q3,e,he,(Prod.mk.inj h2).1.symm⟩
theorem Z9P{Z:SP}{fr:List Nat}{N K:Nat}{M:Int}(ok:Z.Ok fr N K M)(h:Nat):(Q3b Z.S.l Z.tb h).Nodup:=Z2F _ _ _ _ (Z4A (by rw[ok.core.inv.len];omega) 1)
theorem Z4q{α:Type}{A B:List α}(ha:A.Nodup)(hb:B.Nodup)(h:∀x,x∈A↔x∈B):A.length=B.length:=
 Nat.le_antisymm (ha.length_le_of_subset fun x hx=>(h x).1 hx) (hb.length_le_of_subset fun x hx=>(h x).2 hx)
theorem Z9Q{S:CO}{fr:List Nat}{N K:Nat}(ok:S.Ok fr N K)(hE:S.P.q.E.map En.id=[0]):∃e,find S.P.q.E 0=some e/\e.q.given=0/\e.q.charged=Q0y S.l 0+S.xc 0:=by
 obtain⟨e,Px⟩:∃e,S.P.q.E=[e]:=by
  cases hq:S.P.q.E with
  | nil=>rw[hq] at hE;simp at hE
  | cons e r=>rw[hq] at hE;simp at hE;exact⟨e,by rw[hE.2]⟩
 have hid:e.id=0:=by rw[Px] at hE;simpa using hE
 have hf:find S.P.q.E 0=some e:=by rw[Px];unfold find;rw[if_pos hid.symm]
 refine⟨e,hf,?_,ok.inv.tre.charged 0 e hf⟩;obtain⟨p0,EF,Bz,_,DW,_,Sg⟩:=ok.inv.que.root;have Bo:=(ok.inv.tre.par p0 (J5q EF) (Pl.is_iff.2 (.inl DW)) Bz e (by rw[Sg];exact hf)).1 Sg;rw[(ok.inv.tre.given 0 e hf).1];refine(Q2U fun x hx=>?_).1;rw[Px,J5j] at hx;rw[hx,Bo]
 decide
theorem J1E{Z:SP}{fr:List Nat}{N K:Nat}{M:Int}(ok:Z.Ok fr N K M)(h:∀x s,Z.av.en x s=none)(id:Int):Z.S.xc id=0:=by
 have D1:=Z7u Z.S.l Z.tb id;have Ec:=Z0F Z.S.l Z.tb id;have h0:∀i s,i<256->s<256->(Z.tb i).en s≠none->False:=fun i s hi hs he=>by
  obtain⟨x,c,_,hc⟩:=ok.entries hi hs he;rw[h] at hc;cases hc
 have h1:=Z0f (tb:=Z.tb) [] fun i s hi hs he=>(h0 i s hi hs he).elim
 have h2:=Z0g ok.tpi.full [] fun i s hi hs he=>(h0 i s hi hs he).elim
 rw[ok.tpi.xc];simp at h1 h2;rw[h1,h2] at D1;simp at D1;omega
def HldQ(s c:Nat)(a:Option Addr)(B:List (Nat×List Value))(w0 wr:World):Prop:=∃(Z:SP) (u v b y d z:Nat),Z.s=s/\Z.S.c=c/\MkZ Z 1 20000 4 3 (lt3 2 u v 4 b y 2 d z)/\E5 Z.av/\Step [] Z.hl w0 wr/\AsideS Z.hl [(3,9)] a wr/\∀q∈B,AsideV Z.hl q.2 (some ⟨q.1,0,none⟩) wr
theorem Z4r{s c:Nat}{B:List (Nat×List Value)}{w0 wr:World}(h:AlQ s c 3 E5 B w0 wr) :
  Calls prog 83 #[.pointer (some ⟨s,0,none⟩),.int .u32 2] wr fun r w'=>∃(a:Option Addr) (cap:Nat),r=.returned (.slice a 1 cap)/\HldQ s c a B w0 w':=by
 obtain⟨Z,a,x,b,y,d,z,rfl,rfl,m,⟨EK,FJ⟩,B3,st,hB⟩:=h;have e:Q3b Z.S.l Z.tb 2=[(3,9)]:=by
  have Az:∀p,p∈Q3b Z.S.l Z.tb 2↔p=(3,9):=fun p=>by
   rw[Z7y m.ok]
   constructor
   ·rintro⟨u,v,r,rfl,hc⟩;obtain⟨rfl,rfl,_⟩:=EK _ _ _ hc;rfl
   ·rintro rfl;exact⟨3,9,15,rfl,FJ⟩
  have hl:=Z4q (B:=[((3:Int),(9:Int))]) (Z9P m.ok 2) (by simp) fun p=>by rw[Az];simp
  have Od:=(Az (3,9)).2 rfl;cases hh:Q3b Z.S.l Z.tb 2 with
  | nil=>rw[hh] at Od;cases Od
  | cons q r =>
   rw[hh] at hl Od;have hr:r=[]:=J5b.1 (by simpa using hl);subst hr;rw[J5j.1 Od]
 refine(Q5u st.sep m.ok 2).mono ?_;intro r w' hr;rw[e] at hr;obtain⟨ad,cap,rfl,hb,has⟩:=hr.aside st.sep;exact⟨ad,cap,rfl,Z,a,x,b,y,d,z,rfl,rfl,m,⟨EK,FJ⟩,st.trans (st.sep.grown hb),has,fun q hq=>(hB q hq).step (st.sep.grown hb)⟩
structure EndQ(s c:Nat)(a:Option Addr)(B:List (Nat×List Value))(w0 wr:World):Prop where
 bx:∀q∈B,∀(j:Nat) (v:Value),q.2[j]?=some v->wr.cell? ⟨q.1,j,none⟩=some v
 hl:∃g,a=some ⟨g,0,none⟩/\wr.cell? ⟨g,0,none⟩=some (.int .i64 3)/\wr.cell? ⟨g,1,none⟩=some (.int .i64 9)
 z:∃Z:SP,Z.s=s/\Z.S.c=c/\Z.Ok [] 4 0 3/\(∀x s,Z.av.en x s=none)/\(∃e:En Fa,find Z.S.P.q.E 0=some e/\e.q.charged+e.q.given=352)/\Step [] Z.hl w0 wr
theorem EndQ.grown{s c:Nat}{a:Option Addr}{B:List (Nat×List Value)}{w0 wr w':World}(h:EndQ s c a B w0 wr)(hb:Below wr.heap.size wr w'):EndQ s c a B w0 w':=by
 obtain⟨hB,⟨g,rfl,h1,h2⟩,Z,q1,q2,q3,q4,q5,st⟩:=h;have hg:=World.block_lt_of_cell? wr ⟨g,0,none⟩ h1;exact⟨fun q hq j v hv=>(World.cell?_of_block (w:=wr) (hb.block q.1 (World.block_lt_of_cell? wr ⟨q.1,j,none⟩ (hB q hq j v hv)))).trans (hB q hq j v hv),⟨g,rfl,(World.cell?_of_block (w:=wr) (hb.block g hg)).trans h1,(World.cell?_of_block (w:=wr) (hb.block g hg)).trans h2⟩,Z,q1,q2,q3,q4,q5,st.trans (st.sep.grown hb)⟩
theorem J1F{s c:Nat}{a:Option Addr}{B:List (Nat×List Value)}{w0 wr:World}(h:HldQ s c a B w0 wr) :
  Calls prog 84 #[.pointer (some ⟨s,0,none⟩),.int .u32 2] wr fun r w'=>∃(ad:Option Addr) (cap:Nat),r=.returned (.tuple #[.slice ad 1 cap,.int .i64 0])/\EndQ s c a B w0 w':=by
 obtain⟨Z,u,v,b,y,d,z,rfl,rfl,m,⟨EK,FJ⟩,st,has,hB⟩:=h;obtain⟨g1,g2,g3⟩:=Q5n 2 u v 4 b y 2 d z;have DX:Z4k Z.S 2=[2]:=by
  have t:=m.ok.core.inv.tree;unfold Z4k;rw[(Q9e t).2 (by rw[m.l];exact Z9K u v b y d z)];rfl
 refine(Z0e st.sep m.ok (by omega) (h:=2) (by omega)).mono ?_;rintro r w' (⟨h1,_⟩|⟨h1,_⟩|⟨_,_,ad,cap,rfl,Z',I,st2,_⟩)
 ·rw[m.l,g2] at h1;cases h1
 ·cases h1
 ·rw[DX] at I ⊢;have Bb:∀x s,Z'.av.en x s=none:=fun x s=>by
   rcases I.less.en x s with h1|h1
   ·exact h1
   ·cases hh:Z'.av.en x s with
    | none=>rfl
    | some c =>
     exfalso;have:=(I.out 2 (by simp)).2 x s c hh;rw[h1] at hh;obtain⟨_,_,rfl⟩:=EK _ _ _ hh;exact this rfl
  have hl:Z'.S.l=(lt3 2 u v 4 b y 2 d z).set 2 ⟨4,b,0,2,0,y⟩:=by
   rw[I.l,m.l];exact Q7T (l:=lt3 2 u v 4 b y 2 d z) (A:=[]) (x:=2) (p:=⟨4,b,0,1,0,y⟩) g2
  have Ae:Z'.S.P.q.E.map En.id=[0]:=by
   obtain⟨b0,ch,hq⟩:=m.q;rw[I.acc,hq];rfl
  obtain⟨e,he,e1,e2⟩:=Z9Q I.ok.core Ae;have B4:Q0y Z'.S.l 0=352:=by
   rw[hl]
   kernel_rfl
  refine⟨ad,cap,rfl,fun q hq j v hv=>?_,?_,Z',I.s,I.c,I.ok,Bb,⟨e,he,?_⟩,st.trans st2⟩
  ·obtain⟨g,e,_,_,k4⟩:=((hB q hq).step st2) j v hv;cases e;exact k4
  ·obtain⟨g,rfl,k1,k2,k3,k4⟩:=(has.step st2) 0 (3,9) rfl;exact⟨g,rfl,k3,k4⟩
  ·rw[e2,e1,B4,J1E I.ok Bb];rfl
theorem Z2G{s c x:Nat}{a:Option Addr}{B:List (Nat×List Value)}{w0 wr:World}(h:EndQ s c a B w0 wr)(hx:x<4294967296) :
  Calls prog 32 #[.pointer (some ⟨s,0,none⟩),.int .u32 x] wr fun r w'=>∃(ad:Option Addr) (cap:Nat),r=.returned (.slice ad 0 cap)/\EndQ s c a B w0 w':=by
 have h':=h;obtain⟨_,_,Z,rfl,rfl,ok,hn,_,st⟩:=h;refine(Q7Q st.sep ok hx).mono ?_;intro r w' hr;have e:Q0q Z.S.l Z.tb x=[]:=by
  refine J7d.2 fun z hz=>?_
  obtain⟨s,rfl,_,e,he⟩:=mem_slotsL.1 hz;have h0:=av_none.1 (hn x s);rw[he] at h0;cases h0
 rw[e] at hr;obtain⟨ad,cap,rfl,hb,_⟩:=hr.from'
 exact⟨ad,cap,rfl,h'.grown hb⟩
theorem J2B{s c:Nat}{a:Option Addr}{B:List (Nat×List Value)}{w0 wr:World}(h:EndQ s c a B w0 wr) :
  Calls prog 27 #[.pointer (some ⟨c,0,none⟩)] wr fun r w1=>∃p,r=.returned (.pointer (some ⟨p,0,none⟩))/\wr=w1/\Calls prog 13 #[.pointer (some ⟨p,0,none⟩)] w1 fun r w2=>∃q,r=.returned (.pointer (some ⟨q,0,none⟩))/\w1=w2 /\
   Calls prog 19 #[.pointer (some ⟨q,0,none⟩),.int .i64 0] w2 fun r w3=>r=.returned (.int .i64 352)/\Below w0.heap.size w0 w3:=by
 obtain⟨_,_,Z,rfl,rfl,ok,hn,⟨e,he,hu⟩,st⟩:=h;refine(Q1o (SP.sS st.sep)).mono ?_;rintro r w1⟨rfl,rfl⟩;refine⟨_,rfl,rfl,(Q7r (CO.sP (SP.sS st.sep))).mono ?_⟩;rintro r w2⟨rfl,rfl⟩;refine⟨_,rfl,rfl,(Q8S (PL.sQ (CO.sP (SP.sS st.sep))) ok.core.inv.mem.pool.q he).mono ?_⟩;rintro r w3⟨rfl,hb⟩;rw[hu];exact⟨rfl,(st.trans (st.sep.grown hb)).fresh⟩
end Go.Proofs.YtfidemmgofcnmaaGreatDoor
