/- What the laws of spaces share is proved. No condition. Part of a proof. -/
import Derived.Test.YtfidemmgofcnmaaGreatDoorBz23
set_option maxHeartbeats 16000000
set_option maxRecDepth 100000
set_option linter.unusedVariables false
namespace Go.Proofs.YtfidemmgofcnmaaGreatDoor
open Go.RowKit Go.Proofs.Tryz
def Q0z(i:Nat):Nat:=[2,2,3,3,3,4,8].getD i 0
def lB(f:Nat->Nat×Nat):Nat->List Pl
 | 0=>newL 64
 | k+1=>(lB f k).set (k+1) ⟨Q0z k,(f k).1,0,1,0,(f k).2⟩
def chB:Nat->Int
 | 0=>64
 | k+1=>chB k+((costK (Q0z k):Nat):Int)
theorem Z2g{f f':Nat->Nat×Nat}:∀k,(∀j,j<k->f' j=f j)->lB f' k=lB f k
 | 0,_=>rfl
 | k+1,h=>by
  rw[lB,lB,Z2g k fun j hj=>h j (by omega),h k (by omega)]
theorem Z6V(f:Nat->Nat×Nat):∀k,(lB f k).length=256
 | 0=>by
  show(newL 64).length=256;unfold newL;rw[J3O,J3r]
 | k+1=>by rw[lB,J4N,Z6V f k]
theorem Q7y(f:Nat->Nat×Nat):∀k,k<255->∀j,j<256->(lB f k)[j]?=some (if j=0 then⟨1,64,0,1,0,0⟩ else if j<=k then⟨Q0z (j-1),(f (j-1)).1,0,1,0,(f (j-1)).2⟩ else noPl 0)
 | 0,_,j,hj=>by
  show(newL 64)[j]?=_;unfold newL;cases j with
  | zero=>rfl
  | succ j =>
   rw[J6o,J5c,if_pos (by omega),if_neg (by omega),if_neg (by omega)]
 | k+1,hk,j,hj=>by
  rw[lB];by_cases e:j=k+1
  ·subst e;rw[J6P (by rw[Z6V];omega),if_neg (by omega),if_pos (J3h _)];rfl
  ·rw[J6H (fun h=>e h.symm),Q7y f k (by omega) j hj];by_cases h0:j=0
   ·rw[if_pos h0,if_pos h0]
   ·rw[if_neg h0,if_neg h0];by_cases h1:j<=k
    ·rw[if_pos h1,if_pos (by omega)]
    ·rw[if_neg h1,if_neg (by omega)]
theorem J2D(f:Nat->Nat×Nat){k:Nat}(hk:k<255):(lB f k)[0]?=some ⟨1,64,0,1,0,0⟩/\Fst (lB f k) (k+1) (noPl 0):=by
 refine⟨Q7y f k hk 0 (by omega),J1B ?_ rfl fun j hj=>?_⟩
 ·rw[Q7y f k hk (k+1) (by omega),if_neg (by omega),if_neg (by omega)]
 ·rw[Q7y f k hk j (by omega)];by_cases h0:j=0
  ·exact⟨_,rfl,by rw[if_pos h0];decide⟩
  ·exact⟨_,rfl,by rw[if_neg h0,if_pos (by omega)];show(1:Nat)≠0;decide⟩
theorem Q6r(f:Nat->Nat×Nat){k i:Nat}(hk:k<255)(hi:i<k):pget (lB f k) 1 (i+1)=some ⟨Q0z i,(f i).1,0,1,0,(f i).2⟩:=by
 refine pget_some.2 ⟨?_,?_,?_⟩
 ·rw[J4w (by omega),Q7y f k hk (i+1) (by omega),if_neg (by omega),if_pos (by omega)];rfl
 ·show 0*256+(i+1)%256=i+1;omega
 ·rfl
def BgS(s c:Nat)(L:Int)(k:Nat)(f:Nat->Nat×Nat)(R:HL)(w0 wr:World):Prop:=∃(Z:SP) (S:CO) (fr:List Nat),Z.s=s/\S.c=c/\Z.New S (fun _=>TB.emp) /\
 (k<=6->fr=[]/\MkS S 2 L (chB k) (1+k) (1+k) (lB f k))/\(k=7->MkF S 2 L (chB 7) 8 8 (lB f 7) fr)/\Step [] (R++Z.hl) w0 wr
theorem Z9y:chB 0=64/\chB 1=192/\chB 2=320/\chB 3=576/\chB 4=832/\chB 5=1088/\chB 6=1120/\chB 7=2144:=by decide
section
variable {s c:Nat} {L:Int} {k:Nat} {f:Nat->Nat×Nat} {R:HL} {w0 wr:World}
theorem BgS.grown{w':World}(h:BgS s c L k f R w0 wr)(hb:Below wr.heap.size wr w'):BgS s c L k f R w0 w':=by
 obtain⟨Z,S,fr,e1,e2,e3,e4,e5,st⟩:=h;exact⟨Z,S,fr,e1,e2,e3,e4,e5,st.trans (st.sep.grown hb)⟩
theorem BgS.beside{R':HL}{w':World}(h:BgS s c L k f R w0 wr)(Ao:∀B,Sep wr (R++B)->Step (R++B) (R'++B) wr w'):BgS s c L k f R' w0 w':=by
 obtain⟨Z,S,fr,e1,e2,e3,e4,e5,st⟩:=h;exact⟨Z,S,fr,e1,e2,e3,e4,e5,st.trans (Ao _ st.sep)⟩
theorem J2E{w w1:World}{S:CO}{limit:Int}(fo:Z5S S 6 limit 2)(st:Step [] (S.hl++[]) w w1)(f:Nat->Nat×Nat) :
  Calls prog 80 #[.pointer (some ⟨S.c,0,none⟩)] w1 fun r w'=>∃s,r=.returned (.pointer (some ⟨s,0,none⟩))/\BgS s S.c limit 0 f [] w w':=by
 have m:=Z9r fo;have st':Step [] S.hl w w1:=by rwa [J5h] at st
 refine(Z9e st'.sep (fun _=>TB.emp)).mono ?_;rintro r w'⟨Z,rfl,hn,st2⟩;exact⟨Z.s,rfl,Z,S,[],rfl,rfl,hn,fun _=>⟨rfl,m⟩,fun h=>by omega,st'.trans st2⟩
theorem J1I(h:BgS s c L k f R w0 wr)(hk:k<7)(hL:4500<=L) :
  Calls prog 79 #[.pointer (some ⟨c,0,none⟩),.int .u32 0,.int .i64 ((Q0z k:Nat):Int),.int .i64 0] wr fun r w'=>r=.returned (.tuple #[.int .u32 ((k+1:Nat):Int),.int .i64 0])/\∃f',(∀j,j<k->f' j=f j)/\BgS s c L (k+1) f' R w0 w':=by
 obtain⟨Z,S,fr,rfl,rfl,hn,h6,h7,st⟩:=h;obtain⟨rfl,m⟩:=h6 (by omega);have sZ:=st.sep.right;have hs:Sep wr S.hl:=by have:=SP.sS sZ;rwa [hn.S] at this
 obtain⟨hr,hi⟩:=J2D f (k:=k) (by omega);have hv:=Z9y;have fin:∀(S':CO) (a x:Nat) (fr':List Nat) (w':World),S'.c=S.c->((k+1<=6)->fr'=[]/\MkS S' 2 L (chB (k+1)) (1+(k+1)) (1+(k+1)) ((lB f k).set (k+1) ⟨Q0z k,a,0,1,0,x⟩))->(k+1=7->MkF S' 2 L (chB 7) 8 8 ((lB f k).set (k+1) ⟨Q0z k,a,0,1,0,x⟩) fr')->Step S.hl S'.hl wr w'->∃f',(∀j,j<k->f' j=f j)/\BgS Z.s S.c L (k+1) f' R w0 w':=fun S' a x fr' w' ec m1 m2 st'=>by
  have Rl:lB (fun j=>if j=k then(a,x) else f j) (k+1)=(lB f k).set (k+1) ⟨Q0z k,a,0,1,0,x⟩:=by
   rw[lB,Z2g k (f:=f) (f':=fun j=>if j=k then(a,x) else f j) fun j hj=>by simp;omega];simp
  refine⟨fun j=>if j=k then(a,x) else f j,fun j hj=>by simp;omega,Z.setS S' (fun _=>TB.emp),S',fr',rfl,ec,⟨rfl,rfl,hn.F⟩,?_,?_,?_⟩
  ·intro h;rw[Rl];exact m1 h
  ·intro h;have e7:lB (fun j=>if j=k then(a,x) else f j) 7=(lB f k).set (k+1) ⟨Q0z k,a,0,1,0,x⟩:=by rw[<- h];exact Rl
   rw[e7];exact m2 h
  ·have stS:Step Z.S.hl S'.hl wr w':=by rw[hn.S];exact st'
   have s2:=SP.stepS sZ S' (fun _=>TB.emp) (by rw[hn.S];exact ec) stS;have:=Step.frame R [] (by simpa using st.sep) s2;exact st.trans (by simpa using this)
 refine(Q9c hs m.ok (by omega) (x:=0) (by omega) ((Q0z k:Nat):Int) 0).mono ?_;intro r w' hm;by_cases VF:k=6
 ·subst VF;obtain⟨a,x,S',fr',rfl,ec,m',st'⟩:=Z9s m (by rw[hv.2.2.2.2.2.2.1];omega) (by omega) hr hi (show MakeR S [] 0 ((8:Nat):Int) 0 wr r w' from hm);refine⟨rfl,fin S' a x fr' w' ec (fun h=>by omega) (fun _=>?_) st'⟩;have e:chB 6+1024=chB 7:=by rw[hv.2.2.2.2.2.2.1,hv.2.2.2.2.2.2.2];rfl
  rw[e] at m';exact m'
 ·have Ej:2<=Q0z k/\Q0z k<=5/\((costK (Q0z k):Nat):Int)<=256/\chB k<=1088:=by
   have:k=0∨k=1∨k=2∨k=3∨k=4∨k=5:=by omega
   rcases this with rfl|rfl|rfl|rfl|rfl|rfl <;> decide
  obtain⟨a,x,S',rfl,ec,m',st'⟩:=J1z m ⟨Ej.1,Ej.2.1⟩ (by omega) (by omega) hr hi hm;refine⟨rfl,fin S' a x [] w' ec (fun _=>⟨rfl,?_⟩) (fun h=>by omega) st'⟩;have e:1+(k+1)=1+k+1:=by omega
  rw[e];exact m'
theorem J3b(h:BgS s c L (k+1) f R w0 wr)(hk:k<7)(h3:Q0z k=3) :
  Calls prog 49 #[.pointer (some ⟨c,0,none⟩),.int .u32 ((k+1:Nat):Int),.int .i64 3] wr (Told wr (.tuple #[.agg #[.int .i64 3,.int .i64 ((f k).1:Int),.int .i64 0],.int .i64 0])):=by
 obtain⟨Z,S,fr,rfl,rfl,hn,h6,h7,st⟩:=h;have sZ:=st.sep.right;have hs:Sep wr S.hl:=by have:=SP.sS sZ;rwa [hn.S] at this
 have PN:k+1<=6:=by
  refine Classical.byContradiction fun hc=>?_
  obtain rfl:k=6:=by omega
  cases h3
 obtain⟨rfl,m⟩:=h6 PN;have hp:=Q6r f (k:=k+1) (i:=k) (by omega) (by omega);rw[<- m.l] at hp;have:=Q3m hs m.ok.inv.lok (x:=k+1) (by omega) 3 hp (.inr (by dsimp only;omega));unfold Pl.obj at this;dsimp only at this;rw[h3] at this;exact this
end
def endC(l:List (Nat×Nat)):List Value:=l.flatMap fun e=>[.int .u32 (e.1:Int),.int .i64 (e.2:Int)]
theorem Q8m:∀L:List (Nat×Nat),(endC L).length=L.length*2
 | []=>rfl
 | p::r=>by
  have:=Q8m r;unfold endC at this ⊢;rw[J3E,J3N,this];simp;omega
theorem Z9z(l m:List (Nat×Nat)):endC (l++m)=endC l++endC m:=by unfold endC;rw[J3M]
theorem J1J:(prog.info? 116).map (fun i=>(i.zero,i.size,i.bytes))=some (some (.agg #[.int .u32 0,.int .i64 0]),2,16):=by kernel_rfl
theorem J1K{w:World}{H:HL}{rv:RV}{l:List (Nat×Nat)}(h:Sep w (rowH rv 116 2 (endC l)++H))(B9:rvOk rv l.length)(hl:l.length<=1000)(m:List (Nat×Nat))(hm:m.length<=2)(h0:0<m.length)(ty:TypeId) :
  ∃rv' w',(Builtin.append_ #[85,85] ty #[lvOf rv l.length,.slice (some ⟨w.heap.size,0,none⟩) m.length m.length]).run prog (w.alloc (.cells (endC m).toArray 116))=.ok (lvOf rv' (l.length+m.length)) w'/\rvOk rv' (l.length+m.length)/\Step (rowH rv 116 2 (endC l)++H) (rowH rv' 116 2 (endC (l++m))++H) w w':=by
 obtain⟨i0,hi,Bu,AT,Bk⟩:=info_parts J1J;have ha:=h.alloc (.cells (endC m).toArray 116);have An:=Q3X ha.left B9 (Q8m l);obtain⟨v',w',hr,q1,q2,_,q4⟩:=run_append_own_at (P:=prog) (w.alloc (.cells (endC m).toArray 116)) 0 85 ty 116 i0 (.agg #[.int .u32 0,.int .i64 0]) 2 16 underlying85 hi Bu AT Bk rfl (by decide) (lvOf rv l.length) l.length (endC l) An ⟨w.heap.size,0,none⟩ m.length m.length (endC m) (Q8m m) (by
  intro j u hj;have:=(Cells.new w 116 (endC m)).cell j u hj;have e:(⟨w.heap.size,0,none⟩:Addr).add j=⟨w.heap.size,j,none⟩:=by unfold Addr.add;split <;> simp_all
  rw[e];exact this) (fun u hu=>by
   unfold endC at hu;obtain⟨e,_,hu⟩:=J3G.1 hu;simp only[J3m,List.mem_nil_iff,or_false] at hu;rcases hu with rfl|rfl <;> rfl) (by unfold maxLen;omega) (by omega) (J5d _)
 obtain⟨rv',rfl,e2,e3⟩:=Q1h (A:=[]) (B:=H) (by simpa using ha) q1 q2 q4;refine⟨rv',w',hr,e2,?_⟩;rw[Z9z];have e4:Step (rowH rv 116 2 (endC l)++H) (rowH rv' 116 2 (endC l++endC m)++H) (w.alloc (.cells (endC m).toArray 116)) w':=by simpa using e3
 exact e4.from_alloc
def endB(f:Nat->Nat×Nat):Nat->List (Nat×Nat)
 | 0=>[]
 | k+1=>if Q0z k=3 then endB f k++[(1+k%2,(f k).1)] else endB f k
theorem Q4O{f f':Nat->Nat×Nat}:∀k,(∀j,j<k->f' j=f j)->endB f' k=endB f k
 | 0,_=>rfl
 | k+1,h=>by
  rw[endB,endB,Q4O k fun j hj=>h j (by omega),h k (by omega)]
theorem Z2h(f:Nat->Nat×Nat):∀k,(endB f k).length<=k
 | 0=>by simp[endB]
 | k+1=>by
  have:=Z2h f k;rw[endB];split
  ·rw[J3N];simp;omega
  ·omega
theorem J2F(f:Nat->Nat×Nat):endB f 7=[(1,(f 2).1),(2,(f 3).1),(1,(f 4).1)]:=rfl
def endL(f:Nat->Nat×Nat):List (Nat×Nat):=[(1,(f 2).1),(2,(f 3).1),(1,(f 4).1),(0,(f 2).1),(1,(f 2).1+8)]
def enR(j:Nat)(h t:Nat):Option (Nat×Nat):=if 1<=j/\h=1/\t=0 then some (6,15) else if 2<=j/\h=1/\t=128 then some (7,15) else none
def RtS(s:Nat)(L:Int)(j:Nat)(f:Nat->Nat×Nat)(R:HL)(w0 wr:World):Prop:=∃(Z:SP) (fr:List Nat),Z.s=s/\MkY Z 2 L 8 (j:Int) (lB f 7) fr/\(∀h t,Z.av.en h t=enR j h t)/\(Z.F.next=j/\Z.S.P.d.top=6)/\Step [] (R++Z.hl) w0 wr
theorem Z6W(f:Nat->Nat×Nat):Q0Q (lB f 7) 0=2144:=by kernel_rfl
theorem J2G(f:Nat->Nat×Nat):((lB f 7).filter Pl.is).length=8:=by kernel_rfl
section
variable {s c:Nat} {L:Int} {f:Nat->Nat×Nat} {R:HL} {w0 wr:World}
theorem Z9A(h:BgS s c L 7 f R w0 wr):RtS s L 0 f R w0 wr:=by
 obtain⟨Z,S,fr,rfl,rfl,hn,h6,h7,st⟩:=h;obtain⟨m,Dd,Bs⟩:=J1A (h7 rfl) hn;exact⟨Z,fr,rfl,m,fun h t=>by rw[Dd];unfold enR;rw[if_neg (by omega),if_neg (by omega)],⟨Bs,by rw[hn.S];exact(h7 rfl).top⟩,st⟩
theorem Z6X(j:Nat)(z hh:Nat)(hj:(j=0/\z=0/\hh=6)∨(j=1/\z=128/\hh=7))(hL:4500<=L)(h:RtS s L j f R w0 wr) :
  Calls prog 41 #[.pointer (some ⟨s,0,none⟩),.int .u32 1,.int .i64 z,.agg #[.int .u32 hh,.int .i64 15]] wr fun r w'=>r=.returned (.int .i64 0)/\RtS s L (j+1) f R w0 w':=by
 obtain⟨Z,fr,rfl,m,hE,Bs,st⟩:=h;have sZ:=st.sep.right;refine(Q9A sZ m.ok (by omega) (x:=1) (h:=hh) (by omega) (by omega) (z:Int) 15).mono ?_;rintro r w'⟨er,rfl,Rr⟩;have g1:=Q6r f (k:=7) (i:=0) (by omega) (by omega);have g2:=Q6r f (k:=7) (i:=hh-1) (by omega) (by omega);rw[show hh-1+1=hh by omega] at g2;rw[<- m.l] at g1 g2;have room:∀er,¬WhyL Z fr 0 (1%256) (z:Int).toNat er:=fun er=>by
  refine m.room (if j=0 then [] else [(1,0)]) (if j=0 then [] else [(1,0)]) (fun x s c hc=>?_) (fun x s hx=>?_) (o:=8) (by rw[J2G];omega) ?_ (Z6W f) ?_
  ·rw[hE] at hc;unfold enR at hc;rcases hj with ⟨rfl,_⟩|⟨rfl,_⟩
   ·rw[if_neg (by omega),if_neg (by omega)] at hc;cases hc
   ·by_cases h1:x=1/\s=0
    ·obtain⟨rfl,rfl⟩:=h1;simp
    ·rw[if_neg (by omega),if_neg (by omega)] at hc;cases hc
  ·rcases hj with ⟨rfl,_⟩|⟨rfl,_⟩
   ·simp at hx
   ·simp at hx ⊢;omega
  ·split <;> simp
  ·split <;> simp <;> omega
 have Ax:Q0z 0=2:=rfl;have Ej:Q0z (hh-1)=8↔128<=(z:Int):=by
  rcases hj with ⟨_,rfl,rfl⟩|⟨_,rfl,rfl⟩ <;> decide
 have h0:Z.av.en 1 (z:Int).toNat=none:=by
  rw[hE,J4g];unfold enR;rcases hj with ⟨rfl,rfl,_⟩|⟨rfl,rfl,_⟩ <;> rfl
 obtain⟨rfl,Z',k1,k2,k3,⟨b1,k4⟩,k5,k6⟩:=Rr.fine g1 Ax (by omega) g2 (by omega) Ej h0 room;have e1:((j:Nat):Int)+1=((j+1:Nat):Int):=by omega
 refine⟨rfl,Z',fr,k2.s,by rw[<- e1];exact m.same k1 k2,fun h t=>?_,⟨by rw[k5,Bs.1];exact e1,k2.alt.same.top.trans Bs.2⟩,?_⟩
 ·have QU:Z'.av.en=setA Z.av.en 1 (z:Int).toNat (some (hh,(15:Int).toNat)):=k3;rw[QU];unfold setA;rw[hE];unfold enR;rw[J4g,show(15:Int).toNat=15 from rfl];rcases hj with ⟨rfl,rfl,rfl⟩|⟨rfl,rfl,rfl⟩
  ·by_cases h1:h=1/\t=0
   ·rw[if_pos h1,if_pos ⟨by omega,h1.1,h1.2⟩]
   ·rw[if_neg h1,if_neg (by omega),if_neg (by omega),if_neg (by omega),if_neg (by omega)]
  ·by_cases h1:h=1/\t=128
   ·obtain⟨rfl,rfl⟩:=h1;rfl
   ·rw[if_neg h1];by_cases h2:h=1/\t=0
    ·obtain⟨rfl,rfl⟩:=h2;rfl
    ·rw[if_neg (by omega),if_neg (by omega),if_neg (by omega),if_neg (by omega)]
 ·have:=Step.frame R [] (by simpa using st.sep) k6;exact st.trans (by simpa using this)
end
def SP.poke(Z:SP)(m:List Nat):SP:={Z with S:=Z.S.setP (Z.S.P.setA m)}
theorem SP.Ok.poke{Z:SP}{fr:List Nat}{N K:Nat}{M:Int}(ok:Z.Ok fr N K M){m:List Nat}(hl:m.length=Z.S.P.a.mem.length)(hb:∀b∈m,b<256)(hk:∀j a,j=1∨j=2∨j=7->a∈Z.S.P.usedOf j->Kept Z.S.P.a.mem m a (Q0e j)):(Z.poke m).Ok fr N K M:=by
 refine⟨ok.core.stored hl hb fun b hu=>((hk 1 b (.inl rfl) hu).sub (b:=b) (k:=8) (J3h _) (by show b+8<=b+64;omega)).word,⟨fun i p hi h1 h2=>?_,ok.tpi.full,ok.tpi.nil,ok.tpi.lvs,ok.tpi.nds,ok.tpi.xc⟩,ok.fpi,ok.fo,ok.next⟩;have t:=ok.tpi.x 0;exact t.tin_kept ok.core.inv.len (fun j q hj q1 q2=>hk 2 _ (.inr (.inl rfl)) (Q1m ok.core hj q1 q2)) (fun a ha=>hk 7 a (.inr (.inr rfl)) ha) hi h1 h2
theorem Z6Y{S:CO}{fr:List Nat}{N K:Nat}(ok:S.Ok fr N K){p:Pl}(hp:p∈S.l)(hi:p.is=true)(Bd:p.kind=3∨p.kind=8){m:List Nat}{b n:Nat}(h1:p.at_<=b)(h2:b+n<=p.at_+costK p.kind)(hk:Q2Z S.P.a.mem m b n):∀j a,j=1∨j=2∨j=7->a∈S.P.usedOf j->Kept S.P.a.mem m a (Q0e j):=by
 intro j a hj ha;obtain⟨i,BH⟩:=List.getElem?_of_mem hp;rcases Bd with e|e
 ·have hu:=ok.inv.mem.used hp hi (by omega);rw[Q1d (by omega)] at h2;exact Q3a ok hu h1 h2 hk ha (fun e'=>by omega)
 ·obtain⟨g,hg,e'⟩:=ok.inv.mem.frame hp hi e;have:=Q1L ok.inv.mem.pool hg ha;rw[e,costK_8] at h2;exact hk _ _ (by omega)
theorem Q0Z{S:CO}{fr:List Nat}{N K:Nat}(ok:S.Ok fr N K){p:Pl}(hp:p∈S.l)(hi:p.is=true)(Bd:p.kind=3∨p.kind=8):p.at_+costK p.kind<=S.P.a.mem.length/\p.at_%8=0:=by
 rcases Bd with e|e
 ·have hu:=ok.inv.mem.used hp hi (by omega);have h1:=(Q0k ok.inv.mem.pool hu).1;have h2:=Q2e ok.inv.mem.pool hu;rw[Q1d (by omega)];exact⟨h1,h2⟩
 ·obtain⟨g,hg,e'⟩:=ok.inv.mem.frame hp hi e;have h1:=(Q2V ok.inv.mem.pool).2.2 g hg;have h2:=ok.inv.mem.pool.mem;rw[J4C] at h2;rw[e,costK_8];omega
theorem SP.sA{w:World}{Z:SP}(h:Sep w Z.hl):Sep w Z.S.P.a.hl:=PL.sA (CO.sP (SP.sS h))
theorem Z2i{w:World}{Z:SP}{fr:List Nat}{N K:Nat}{M:Int}(ok:Z.Ok fr N K M)(h:Sep w Z.hl){p:Pl}(hp:p∈Z.S.l)(hi:p.is=true)(Bd:p.kind=3∨p.kind=8){o:Nat}(h8:o%8=0)(ho:o+8<=costK p.kind) :
  Calls prog 58 #[.pointer (some ⟨Z.S.P.a.a,0,none⟩),.int .i64 ((p.at_+o:Nat):Int)] w fun r w'=>r=.returned (.tuple #[.int .u64 (Q0m Z.S.P.a.mem (p.at_+o):Nat),.int .i64 0])/\w=w':=by
 obtain⟨h1,h2⟩:=Q0Z ok.core hp hi Bd;exact Z0j (SP.sA h) ok.core.inv.mem.pool.bytes (p.at_+o) (by omega) (by omega) (Q0g ok.core.inv.mem.pool)
def SP.stored(Z:SP)(p:Pl)(o:Nat)(ws:List Nat):SP:=Z.poke (put_ Z.S.P.a.mem (p.at_+o) (ws.flatMap Q0c))
theorem Q4t{w:World}{Z:SP}{fr:List Nat}{N K:Nat}{M:Int}(ok:Z.Ok fr N K M)(h:Sep w Z.hl){p:Pl}(hp:p∈Z.S.l)(hi:p.is=true)(Bd:p.kind=3∨p.kind=8){o:Nat}(h8:o%8=0){ws:List Nat}(ho:o+8*ws.length<=costK p.kind)(hx:∀x∈ws,x<18446744073709551616)(so:Option Addr)(cap:Nat)(hs:∀wr,Chg (fun b=>b∈keys Z.S.P.a.hl) w wr->∀(j x:Nat),ws[j]?=some x->∃ad,so=some ad/\wr.cell? (ad.add j)=some (.int .u64 x)) :
  Calls prog 57 #[.pointer (some ⟨Z.S.P.a.a,0,none⟩),.int .i64 ((p.at_+o:Nat):Int),.slice so ws.length cap] w fun r w'=>r=.returned (.int .i64 0)/\(Z.stored p o ws).Ok fr N K M/\Step Z.hl (Z.stored p o ws).hl w w':=by
 obtain⟨h1,h2⟩:=Q0Z ok.core hp hi Bd;have hc:costK p.kind<=1024:=by
  rcases Bd with e|e <;> rw[e] <;> decide
 have hE:Q1p Z.S.P.a.mem.length ((p.at_+o:Nat):Int) ws.length=0:=by
  unfold Q1p;rw[if_neg (by omega),if_pos (by omega)]
 have k:=Z6Q (SP.sA h) ((p.at_+o:Nat):Int) ws (by omega) (Q0g ok.core.inv.mem.pool) hx so cap hs;rw[hE] at k;simp only[if_true,J4g] at k;refine k.mono ?_;rintro r w'⟨rfl,st⟩;have Ab:=Q3e ws;refine⟨rfl,ok.poke (Q1t _ _ _ (by omega)) (Z9t _ _ _ ok.core.inv.mem.pool.bytes (Z9u ws)) (Z6Y ok.core hp hi Bd (b:=p.at_+o) (n:=8*ws.length) (by omega) (by omega) ?_),SP.stepS h _ Z.tb rfl (CO.stepMem (SP.sS h) _ st)⟩;have:=Q2E (m:=Z.S.P.a.mem) (bs:=ws.flatMap Q0c) (a:=p.at_+o) (by omega)
 rwa [Ab] at this
theorem Q7z{m m':List Nat}{p:Nat}(h:Kept m m' p 256)(i:Nat)(hi:i<32):Q0o m' p i=Q0o m p i:=
 (h.sub (b:=p+8*i) (k:=8) (by omega) (by omega)).word
theorem Q7A{m m':List Nat}{p:Nat}(h:Kept m m' p 256):msgV m' p=msgV m p/\winV m' p=winV m p:=
 ⟨Q8k fun i hi _=>Q7z h i hi,Q8l (Q7z h 2 (by omega))⟩
theorem Z0S{Z:SP}{fr:List Nat}{N K:Nat}{M:Int}(ok:Z.Ok fr N K M){i j:Nat}{p r:Pl}(hi:Z.S.l[i]?=some p)(hj:Z.S.l[j]?=some r)(D2:i≠j)(hp:p.st=1)(hr:r.st=1)(Bd:p.kind=3∨p.kind=8){o:Nat}{ws:List Nat}(ho:o+8*ws.length<=costK p.kind):Kept Z.S.P.a.mem (Z.stored p o ws).S.P.a.mem r.at_ (costK r.kind):=by
 have h2:=Q2D ok.core hi hj D2 hp hr;obtain⟨h1,_⟩:=Q0Z ok.core (J5p hi) (by simp[Pl.is,hp]) Bd;have Ab:=Q3e ws;exact Q2E (m:=Z.S.P.a.mem) (bs:=ws.flatMap Q0c) (a:=p.at_+o) (by omega) _ _ (by omega)
def BlkC(Z:SP)(p:Pl)(g:Nat)(w:World):Prop:=AsideV Z.hl [ptr Z.S.P.a.a,.int .i64 (p.at_:Int)] (some ⟨g,0,none⟩) w
theorem BlkC.c0{Z:SP}{p:Pl}{g:Nat}{w:World}(h:BlkC Z p g w):w.cell? ⟨g,0,none⟩=some (ptr Z.S.P.a.a):=by
 obtain⟨g',e,_,_,c⟩:=h 0 _ rfl;cases e;exact c
theorem BlkC.c1{Z:SP}{p:Pl}{g:Nat}{w:World}(h:BlkC Z p g w):w.cell? ⟨g,1,none⟩=some (.int .i64 (p.at_:Int)):=by
 obtain⟨g',e,_,_,c⟩:=h 1 _ rfl;cases e;exact c
theorem Q3w{w:World}{g a:Nat}(c1:w.cell? ⟨g,1,none⟩=some (.int .i64 a))(ha:a<=1073741824)(i:Nat)(hi:i<=31):Calls prog 217 #[.pointer (some ⟨g,0,none⟩),.int .i64 i] w fun r w'=>r=.returned (.int .i64 ((a+8*i:Nat):Int))/\w=w':=by
 have e:((a+8*i:Nat):Int)=(a:Int)+(i:Int)*8:=by omega
 rw[e];have h1:(a:Int)<=1073741824:=by omega
 have h2:(i:Int)<=31:=by omega
 clear e ha hi;go_enter func217,ntmps217
 go_wp2
 go_ret;exact⟨rfl,rfl⟩
theorem Q7B{w:World}{Z:SP}{fr:List Nat}{N K:Nat}{M:Int}(ok:Z.Ok fr N K M)(h:Sep w Z.hl){p:Pl}(hp:p∈Z.S.l)(hi:p.is=true)(Bd:p.kind=3){g:Nat}(hb:BlkC Z p g w)(i:Nat)(h31:i<=31) :
  Calls prog 184 #[.pointer (some ⟨g,0,none⟩),.int .i64 i] w fun r w'=>r=.returned (.int .u64 (Q0o Z.S.P.a.mem p.at_ i:Nat))/\w.drew=w':=by
 have hr:=Q0Z ok.core hp hi (.inl Bd);rw[Bd,show costK 3=256 from rfl] at hr;have hm:=Q0g ok.core.inv.mem.pool;have kw:=Q3w (w:=w.drew) (show w.drew.cell? ⟨g,1,none⟩=_ from hb.c1) (by omega) i h31;have kl:=Z2i ok h.drew hp hi (.inl Bd) (o:=8*i) (by omega) (by rw[Bd];show 8*i+8<=256;omega);have c0:=hb.c0;have d0:w.drew.cell? ⟨g,0,none⟩=some (ptr Z.S.P.a.a):=c0;have HB:Hid (w.drew=w.drew):=rfl;unfold Q0o;clear hr hm hb ok h;unfold ptr at *
 generalize Q0m Z.S.P.a.mem (p.at_+8*i)=x at *
 generalize (p.at_+8*i:Nat)=y at *
 go_enter func184,ntmps184;go_wp2_with fail
 go_region_held3 (fun V=>V.cell? ⟨g,0,none⟩=some (.pointer (some ⟨Z.S.P.a.a,0,none⟩))) (first|exact c0|exact d0) (first|(go_at_call 217;refine kw.mono ?_;rintro e w'⟨rfl,rfl⟩)|(go_at_call 58;refine kl.mono ?_;rintro e w'⟨rfl,rfl⟩))
 all_goals
  go_wp2_with fail
  (try go_ret);exact⟨rfl,by trivial⟩
theorem Z9B{w:World}{Z:SP}{fr:List Nat}{N K:Nat}{M:Int}(ok:Z.Ok fr N K M)(h:Sep w Z.hl){p:Pl}(hp:p∈Z.S.l)(hi:p.is=true)(Bd:p.kind=3) :
  Calls prog 183 #[.pointer (some ⟨Z.S.P.a.a,0,none⟩),.int .i64 (p.at_:Int)] w fun r w'=>∃g:Nat,r=.returned (.pointer (some ⟨g,0,none⟩))/\Below w.heap.size w w'/\BlkC Z p g w'/\w.heap.size<=g:=by
 have hr:=Q0Z ok.core hp hi (.inl Bd);rw[Bd,show costK 3=256 from rfl] at hr;have k:=Z4W (SP.sA h) p.at_ 256 (by omega) (by omega) (Q0g ok.core.inv.mem.pool);have h8:(p.at_:Int)%8=0:=by omega
 have h9:((p.at_:Int)%8 != 0)=false:=by simp;omega
 have HB:Hid (∀r w1,J0Z w ((Z.S.P.a.mem.drop p.at_).take 256) r w1->∃v,r=.returned (.tuple #[v,.int .i64 0])/\Below w.heap.size w w1):=by
  rintro r w1⟨v,rfl,_,hg⟩;exact⟨v,rfl,Below.grown (Below.refl w.heap.size w) hg (J3h _) (fun k e=>by cases e)⟩
 have HF:Hid (∀w1,Below w.heap.size w w1->(∃g:Nat,(Ending.returned (.pointer (some ⟨w1.heap.size,0,none⟩)):Ending)=.returned (.pointer (some ⟨g,0,none⟩))/\Below w.heap.size w (w1.alloc (.cells #[ptr Z.S.P.a.a,.int .i64 (p.at_:Int)] 316))/\BlkC Z p g (w1.alloc (.cells #[ptr Z.S.P.a.a,.int .i64 (p.at_:Int)] 316))/\w.heap.size<=g)):=fun w1 hb=>by
  refine⟨w1.heap.size,rfl,hb.alloc hb.size _,fun j v hj=>⟨w1.heap.size,rfl,fun hk=>?_,by simp,?_⟩,hb.size⟩
  ·have:=h.lt hk;have:=hb.size;omega
  ·exact(Cells.new w1 316 [ptr Z.S.P.a.a,.int .i64 (p.at_:Int)]).cell j v hj
 unfold ptr at HF;clear h ok hr;go_enter func183,ntmps183;go_wp2_with fail;refine k.mono ?_;intro r w1 JU;obtain⟨v,rfl,hb⟩:=HB.out r w1 JU;have HX:=Q0a (HF.out w1 hb);clear hb k JU;go_wp2_with fail
 (try go_ret);exact HX.out
def CarC(Z:SP)(c k:Nat)(w:World):Prop:=AsideV Z.hl [ptr k] (some ⟨c,0,none⟩) w/\AsideV Z.hl [ptr Z.s] (some ⟨k,0,none⟩) w
theorem CarC.cells{Z:SP}{c k:Nat}{w:World}(h:CarC Z c k w):w.cell? ⟨c,0,none⟩=some (.pointer (some ⟨k,0,none⟩))/\w.cell? ⟨k,0,none⟩=some (.pointer (some ⟨Z.s,0,none⟩)):=by
 obtain⟨g0,e0,_,_,z0⟩:=h.1 0 _ rfl;obtain⟨g1,e1,_,_,z1⟩:=h.2 0 _ rfl;cases e0;cases e1;exact⟨z0,z1⟩
theorem CarC.step{Z Z':SP}{c k:Nat}{w w':World}(h:CarC Z c k w)(hs:Z'.s=Z.s)(st:Step Z.hl Z'.hl w w'):CarC Z' c k w':=by
 refine⟨AsideV.step h.1 st,?_⟩;rw[hs];exact AsideV.step h.2 st
theorem Z6Z{w:World}{Z:SP}(h:Sep w Z.hl):Calls prog 110 #[.pointer (some ⟨Z.s,0,none⟩)] w fun r w'=>∃c k,r=.returned (.pointer (some ⟨c,0,none⟩))/\Below w.heap.size w w'/\CarC Z c k w':=by
 have HX:Hid (Below w.heap.size w ((w.alloc (.cells #[.pointer (some ⟨Z.s,0,none⟩)] 212)).alloc (.cells #[.pointer (some ⟨w.heap.size,0,none⟩)] 215))/\CarC Z (w.heap.size+1) w.heap.size ((w.alloc (.cells #[.pointer (some ⟨Z.s,0,none⟩)] 212)).alloc (.cells #[.pointer (some ⟨w.heap.size,0,none⟩)] 215))):=by
  have c1:=(Cells.new w 212 [.pointer (some ⟨Z.s,0,none⟩)]).alloc (.cells #[.pointer (some ⟨w.heap.size,0,none⟩)] 215);have c2:=Cells.new (w.alloc (.cells #[.pointer (some ⟨Z.s,0,none⟩)] 212)) 215 [.pointer (some ⟨w.heap.size,0,none⟩)];have hz:(w.alloc (.cells #[.pointer (some ⟨Z.s,0,none⟩)] 212)).heap.size=w.heap.size+1:=by simp
  rw[hz] at c2;refine⟨((Below.refl _ _).alloc (J3h _) _).alloc (by simp) _,fun j v hj=>⟨_,rfl,fun hk=>?_,c2.lt,c2.cell j v hj⟩,fun j v hj=>⟨_,rfl,fun hk=>?_,c1.lt,c1.cell j v hj⟩⟩
  ·have:=h.lt hk;omega
  ·have:=h.lt hk;omega
 clear h;go_enter func110,ntmps110;go_wp2_with fail
 (try go_ret);exact⟨_,_,rfl,HX.out⟩
theorem Q2f{w:World}{Z:SP}{c k:Nat}(h:CarC Z c k w):Calls prog 44 #[.pointer (some ⟨c,0,none⟩)] w fun r w'=>r=.returned (.pointer (some ⟨Z.s,0,none⟩))/\w=w':=by
 obtain⟨c0,k0⟩:=h.cells;clear h;go_enter func44,ntmps44
 go_wp2
 go_ret;exact⟨rfl,rfl⟩
def blkE(Z:SP)(t:Nat)(a:Int):Int:=match pget Z.S.l 1 t with
 | none=>8
 | some q=>if q.kind=2 then(if Z.S.P.has 3 a=true then 0 else 1) else 10
theorem Q7C{Z:SP}{fr:List Nat}{N K:Nat}{M:Int}(ok:Z.Ok fr N K M){a:Int}(h:Z.S.P.has 3 a=true):∃p∈Z.S.l,p.is=true/\p.kind=3/\a=(p.at_:Int):=by
 unfold PL.has PL.usedI at h;rw[decide_eq_true_eq,if_pos (by decide)] at h;have hm:=(ok.core.inv.mem.ats 3 (by omega) (by omega)).mem_iff.2 h.2;obtain⟨p,hp,e⟩:=J3w.1 hm;unfold atsF at e;by_cases hc:(p.is&&p.kind==3)=true
 ·rw[if_pos hc] at e;have e2:=J3Y e;rw[J3C,beq_iff_eq] at hc;exact⟨p,hp,hc.1,hc.2,by have:=h.1;omega⟩
 ·rw[if_neg hc] at e;cases e
def BlkR(Z:SP)(t:Nat)(a:Int)(w:World)(r:Ending)(w':World):Prop:=Below w.heap.size w w' /\
 ((blkE Z t a≠0/\r=.returned (.tuple #[.pointer none,.int .i64 (blkE Z t a)])) ∨
  (blkE Z t a=0/\∃(p:Pl) (g:Nat),p∈Z.S.l/\p.is=true/\p.kind=3/\a=(p.at_:Int)/\r=.returned (.tuple #[.pointer (some ⟨g,0,none⟩),.int .i64 0])/\BlkC Z p g w'))
theorem Q2w{w:World}{Z:SP}{fr:List Nat}{N K:Nat}{M:Int}(ok:Z.Ok fr N K M)(h:Sep w Z.hl){c k:Nat}(hc:CarC Z c k w){t:Nat}(ht:t<4294967296)(a:Int)(ha:a<9223372036854775808) :
  Calls prog 115 #[.pointer (some ⟨c,0,none⟩),.agg #[.int .u32 t,.int .i64 a]] w (BlkR Z t a w):=by
 have b0:Below w.heap.size w (w.alloc (.cells #[.int .u32 t,.int .i64 a] 116)):=(Below.refl _ _).alloc (J3h _) _;have h0:=h.grown b0;have ce:=Cells.new w 116 [.int .u32 t,.int .i64 a];obtain⟨c0,k0⟩:=(hc.step rfl h0).cells;have ko:=Q1E h0.sep;have HV:Hid (∀V,Below (w.alloc (.cells #[.int .u32 t,.int .i64 a] 116)).heap.size (w.alloc (.cells #[.int .u32 t,.int .i64 a] 116)) V->Below w.heap.size w V/\V.cell? ⟨w.heap.size,1,none⟩=some (.int .i64 a) /\
   (Calls prog 27 #[.pointer (some ⟨Z.S.c,0,none⟩)] V fun r w'=>r=.returned (.pointer (some ⟨Z.S.P.p,0,none⟩))/\V=w') /\
   (Calls prog 50 #[.pointer (some ⟨Z.S.P.p,0,none⟩)] V fun r w'=>r=.returned (.pointer (some ⟨Z.S.P.a.a,0,none⟩))/\V=w') /\
   (Calls prog 59 #[.pointer (some ⟨Z.S.P.p,0,none⟩),.int .i64 3,.int .i64 a] V (Told V (.bool (Z.S.P.has 3 a)))) /\
   (∀p∈Z.S.l,p.is=true->p.kind=3->Calls prog 183 #[.pointer (some ⟨Z.S.P.a.a,0,none⟩),.int .i64 (p.at_:Int)] V fun r w'=>∃g:Nat,r=.returned (.pointer (some ⟨g,0,none⟩))/\Below V.heap.size V w'/\BlkC Z p g w')):=fun V hV=>by
  have hb:=Q0b hV;have hs:=(h.grown hb).sep;exact⟨hb,(ce.same (hV.block _ ce.lt)).cell 1 _ rfl,Q0S (SP.sS hs),Q0s (CO.sP (SP.sS hs)),Q7S (CO.sP (SP.sS hs)) ok.core.inv.mem.pool 3 a ha,fun p hp hi hk=>(Z9B ok hs hp hi hk).mono fun r w' ⟨g,e,Ae,FF,_⟩=>⟨g,e,Ae,FF⟩⟩
 have e0:=ce.cell 0 _ rfl;cases hq:pget Z.S.l 1 t with
 | none =>
  have kf:=Q4h (SP.sS h0.sep) ok.core.inv.lok ht 2 hq;have HE:Hid (∀V,Below w.heap.size w V->BlkR Z t a w (.returned (.tuple #[.pointer none,.int .i64 8])) V):=fun V hV=>by
   have e:blkE Z t a=8:=by unfold blkE;rw[hq]
   exact⟨hV,.inl ⟨by rw[e];decide,by rw[e]⟩⟩
  have Li:Hid (∀V,Below (w.alloc (.cells #[.int .u32 t,.int .i64 a] 116)).heap.size (w.alloc (.cells #[.int .u32 t,.int .i64 a] 116)) V->Below w.heap.size w V):=fun V hV=>(HV.out V hV).1
  unfold zobj at kf;clear h0 hc h ok ce hq HV b0;go_enter func115,ntmps115;go_wp2_with fail;refine ko.mono ?_;rintro r w'⟨rfl,rfl⟩;go_wp2_with fail;refine kf.mono ?_;rintro r w2⟨rfl,Ae⟩;have HR:=Q0a (HE.out _ ((Li.out _ Ae).alloc (Li.out _ Ae).size (.cells #[.int .i64 0,.int .i64 0,.int .i64 0] 54)));clear Ae kf ko HE Li;go_wp2_with fail
  (try go_ret2);exact HR.out
 | some q =>
  by_cases Ax:q.kind=2
  case neg =>
   have kf:=Q4i (SP.sS h0.sep) ok.core.inv.lok ht 2 hq (by decide) (by omega);have HE:Hid (∀V,Below w.heap.size w V->BlkR Z t a w (.returned (.tuple #[.pointer none,.int .i64 10])) V):=fun V hV=>by
    have e:blkE Z t a=10:=by unfold blkE;rw[hq];simp only;rw[if_neg Ax]
    exact⟨hV,.inl ⟨by rw[e];decide,by rw[e]⟩⟩
   have Li:Hid (∀V,Below (w.alloc (.cells #[.int .u32 t,.int .i64 a] 116)).heap.size (w.alloc (.cells #[.int .u32 t,.int .i64 a] 116)) V->Below w.heap.size w V):=fun V hV=>(HV.out V hV).1
   unfold zobj at kf;clear h0 hc h ok ce hq HV b0 Ax;go_enter func115,ntmps115;go_wp2_with fail;refine ko.mono ?_;rintro r w'⟨rfl,rfl⟩;go_wp2_with fail;refine kf.mono ?_;rintro r w2⟨rfl,Ae⟩;have HR:=Q0a (HE.out _ ((Li.out _ Ae).alloc (Li.out _ Ae).size (.cells #[.int .i64 0,.int .i64 0,.int .i64 0] 54)));clear Ae kf ko HE Li;go_wp2_with fail
   (try go_ret2);exact HR.out
  case pos =>
   have kf:=Q3m (SP.sS h0.sep) ok.core.inv.lok ht 2 hq (.inr (by omega));unfold Pl.obj at kf;have BZ:Hid (∀w2 o,Below (w.alloc (.cells #[.int .u32 t,.int .i64 a] 116)).heap.size (w.alloc (.cells #[.int .u32 t,.int .i64 a] 116)) w2->Below (w.alloc (.cells #[.int .u32 t,.int .i64 a] 116)).heap.size (w.alloc (.cells #[.int .u32 t,.int .i64 a] 116)) (w2.alloc o)):=fun w2 o hb=>hb.alloc hb.size o
   have HT:Hid (Z.S.P.has 3 a=true->∃p∈Z.S.l,p.is=true/\p.kind=3/\a=(p.at_:Int)):=fun e=>Q7C ok e
   have HE:Hid (∀V,Z.S.P.has 3 a=false->Below w.heap.size w V->BlkR Z t a w (.returned (.tuple #[.pointer none,.int .i64 1])) V):=fun V hh hV=>by
    have e:blkE Z t a=1:=by unfold blkE;rw[hq];simp only;rw[if_pos Ax,hh,if_neg (by decide)]
    exact⟨hV,.inl ⟨by rw[e];decide,by rw[e]⟩⟩
   have F4:Hid (∀V p g,Z.S.P.has 3 a=true->p∈Z.S.l->p.is=true->p.kind=3->a=(p.at_:Int)->Below w.heap.size w V->BlkC Z p g V->BlkR Z t a w (.returned (.tuple #[.pointer (some ⟨g,0,none⟩),.int .i64 0])) V):=fun V p g hh h1 h2 h3 h4 hV hg=>by
    have e:blkE Z t a=0:=by unfold blkE;rw[hq];simp only;rw[if_pos Ax,hh,if_pos rfl]
    exact⟨hV,.inr ⟨e,p,g,h1,h2,h3,h4,rfl,hg⟩⟩
   clear h0 hc h ok ce hq b0 Ax;generalize hW0:(w.alloc (.cells #[.int .u32 t,.int .i64 a] 116))=W0 at *
   generalize (q.kind:Int)=qk at *
   generalize (q.at_:Int)=qa at *
   generalize (q.fac:Int)=qf at *
   go_enter func115,ntmps115;go_wp2_with fail;refine ko.mono ?_;rintro r w'⟨rfl,rfl⟩;go_wp2_with fail;refine kf.mono ?_;rintro r w2⟨rfl,Ae⟩;have DC:=Q0a (BZ.out w2 (.cells #[.int .i64 qk,.int .i64 qa,.int .i64 qf] 54) Ae);have x3:=(HV.out _ DC.out).2.1;have x4:=(HV.out _ DC.out.drew).2.1;clear Ae kf ko BZ hW0;go_upto_region 7 with fail;cases hh:Z.S.P.has 3 a with
   | false =>
    have Dr:=Q0a (fun V=>HE.out V hh);rw[hh] at HV;clear HE F4 HT hh
    go_region_held3 (fun V=>V.cell? ⟨w.heap.size,1,none⟩=some (.int .i64 a)) (first|exact x3|exact x4|exact x5) (first|(go_at_call 27;refine(HV.out _ DC.out.drew).2.2.1.mono ?_;rintro r w'⟨rfl,rfl⟩)|(go_at_call 59;refine(HV.out _ DC.out.drew).2.2.2.2.1.mono ?_;rintro r w4⟨rfl,Av⟩;have Ag:=Q0a (DC.out.drew.trans (Av.mono DC.out.size));have x5:=(HV.out _ Ag.out).2.1;clear Av))
    all_goals
     have HR:=Q0a (Dr.out _ (HV.out _ Ag.out).1);clear HV Dr;go_wp2_with fail
     (try go_ret2);exact HR.out
   | true =>
    have Eg:=Q0a (fun V p g=>F4.out V p g hh);obtain⟨p,hp,hi,G4,BG⟩:=HT.out hh;have HP:Hid (p∈Z.S.l/\p.is=true/\p.kind=3/\a=(p.at_:Int)):=⟨hp,hi,G4,BG⟩
    have DB:=Q0a (fun V hV=>(HV.out V hV).2.2.2.2.2 p hp hi G4);rw[<- BG] at DB;rw[hh] at HV;clear HE F4 HT hh hp hi G4 BG
    go_region_held3 (fun V=>V.cell? ⟨w.heap.size,1,none⟩=some (.int .i64 a)) (first|exact x3|exact x4|exact x5) (first|(go_at_call 27;refine(HV.out _ DC.out.drew).2.2.1.mono ?_;rintro r w'⟨rfl,rfl⟩)|(go_at_call 59;refine(HV.out _ DC.out.drew).2.2.2.2.1.mono ?_;rintro r w4⟨rfl,Av⟩;have Ag:=Q0a (DC.out.drew.trans (Av.mono DC.out.size));have x5:=(HV.out _ Ag.out).2.1;clear Av))
    all_goals
     have x6:=(HV.out _ Ag.out.drew).2.1;clear x3 x4;go_wp2_with fail
     go_region_held3 (fun V=>V.cell? ⟨w.heap.size,1,none⟩=some (.int .i64 a)) (first|exact x5|exact x6|exact x7) (first|(go_at_call 27;refine(HV.out _ Ag.out.drew).2.2.1.mono ?_;rintro r w'⟨rfl,rfl⟩)|(go_at_call 50;refine(HV.out _ Ag.out.drew).2.2.2.1.mono ?_;rintro r w'⟨rfl,rfl⟩)|(go_at_call 183;refine(DB.out _ Ag.out.drew).mono ?_;rintro r w7⟨g,rfl,Ge,Ul⟩;have Jd:=Q0a (Ag.out.drew.trans (Ge.mono Ag.out.size));have x7:=(HV.out _ Jd.out).2.1;have W6:=Q0a Ul;clear Ge Ul))
     all_goals
      have HR:=Q0a (Eg.out _ p g HP.out.1 HP.out.2.1 HP.out.2.2.1 HP.out.2.2.2 (HV.out _ Jd.out).1 W6.out);clear HV Eg DB;go_wp2_with fail
      (try go_ret2);exact HR.out
abbrev kindsC:List Value:=[.int .i64 2,.int .i64 2,.int .i64 3,.int .i64 3,.int .i64 3,.int .i64 4,.int .i64 8]
theorem Z7a(w:World):Calls prog 109 #[] w fun r w'=>r=.returned (.slice (some ⟨w.heap.size,0,none⟩) 7 7)/\w.alloc (.cells kindsC.toArray 3)=w':=by
 go_enter func109,ntmps109
 go_wp2
 go_ret;exact⟨rfl,rfl⟩
def CarB(L:Int)(c k ge:Nat)(f:Nat->Nat×Nat)(w0 wr:World):Prop:=∃(Z:SP) (fr:List Nat),MkY Z 2 L 8 2 (lB f 7) fr/\(∀h t,Z.av.en h t=enR 2 h t)/\(Z.F.next=2/\Z.S.P.d.top=6)/\CarC Z c k wr/\AsideV Z.hl (endC (endL f)) (some ⟨ge,0,none⟩) wr/\Step [] Z.hl w0 wr
section
variable {s c:Nat} {L:Int} {k:Nat} {f:Nat->Nat×Nat} {w0 wr:World}
theorem J0l{rv:RV}{l:List (Nat×Nat)}{R:HL}(h:BgS s c L k f (rowH rv 116 2 (endC l)++R) w0 wr)(B9:rvOk rv l.length)(hl:l.length<=1000)(m:List (Nat×Nat))(hm:m.length<=2)(h0:0<m.length)(ty:TypeId) :
  ∃rv' w',(Builtin.append_ #[85,85] ty #[lvOf rv l.length,.slice (some ⟨wr.heap.size,0,none⟩) m.length m.length]).run prog (wr.alloc (.cells (endC m).toArray 116))=.ok (lvOf rv' (l.length+m.length)) w'/\rvOk rv' (l.length+m.length)/\BgS s c L k f (rowH rv' 116 2 (endC (l++m))++R) w0 w':=by
 obtain⟨Z,S,fr,e1,e2,e3,e4,e5,st⟩:=h;obtain⟨rv',w',hr,ho,st2⟩:=J1K (H:=R++Z.hl) (by rw[<- J4b];exact st.sep) B9 hl m hm h0 ty;refine⟨rv',w',hr,ho,Z,S,fr,e1,e2,e3,e4,e5,?_⟩;rw[J4b];have st':=st;rw[J4b] at st';exact st'.trans st2
theorem Z7b{R:HL}{kr:Nat}(h:BgS s c L k f (R++[(kr,isC 3 kindsC)]) w0 wr){j:Nat}(hj:j<7):wr.cell? ⟨kr,j,none⟩=some (.int .i64 ((Q0z j:Nat):Int)):=by
 obtain⟨Z,S,fr,e1,e2,e3,e4,e5,st⟩:=h;have hc:=st.sep.left.cells (b:=kr) (T:=3) (cs:=kindsC) (by simp);refine hc.cell j _ ?_;have:j=0∨j=1∨j=2∨j=3∨j=4∨j=5∨j=6:=by omega
 rcases this with rfl|rfl|rfl|rfl|rfl|rfl|rfl <;> rfl
theorem J1L{R:HL}(h:BgS s c L 7 f R w0 wr):(f 2).1<=1073741824:=by
 obtain⟨Z,S,fr,e1,e2,e3,e4,e5,st⟩:=h;have m:=e5 rfl;have hp:=Q6r f (k:=7) (i:=2) (by omega) (by omega);rw[<- m.l] at hp;have h1:=Q0Z m.ok (Q1l hp) (Pl.is_iff.2 (.inl rfl)) (.inl rfl);have h2:=Q0g m.ok.inv.mem.pool;have h3:(f 2).1+costK (Q0z 2)<=S.P.a.mem.length:=h1.1;omega
theorem Z3N{Z:SP}{g cap:Nat}{T:TypeId}{size:Nat}{cs:List Value}{R:HL}(st:Step [] ((rowH (some (g,cap)) T size cs++R)++Z.hl) w0 wr):AsideV Z.hl cs (some ⟨g,0,none⟩) wr:=fun j v hj=>by
 refine⟨g,rfl,fun hk=>?_,st.sep.lt (by simp[rowH]),Q0w st.sep.left.left j v hj⟩;have AP:=st.sep.nd;rw[keys_append] at AP;exact(J3U.1 AP).2.2 g (by simp[rowH]) g hk rfl
end
theorem Q3S{w:World}(AM:Env w)(L:Int)(hL:4500<=L/\L<=65536):Calls prog 43 #[.int .i64 L] w fun r w'=>∃c k ge cap f,r=.returned (.tuple #[.pointer (some ⟨c,0,none⟩),.slice (some ⟨ge,0,none⟩) 5 cap,.bool true])/\CarB L c k ge f w w':=by
 have RB:((2 ^ (6+10):Nat):Int)=65536:=by decide
 have kn:=Z8O (Sep.nil AM) 6 (by omega) (by omega) L (by omega) (by rw[RB];exact hL.2) 2 (by omega) (by omega);rw[RB] at kn;have HL:Hid (4500<=L/\L<=65536):=hL;clear AM RB hL;go_enter func43,ntmps43;go_wp2_with fail;refine kn.mono ?_;rintro r w1⟨S,rfl,hf,st⟩;have ks:=J2E hf st (fun _=>(0,0));generalize S.c=c at *
 clear kn hf st;go_wp2_with fail;refine ks.mono ?_;rintro r w2⟨s,rfl,Fg⟩;have Ns:Hid (BgS s c L 0 (fun _=>(0,0)) [(w2.heap.size,isC 3 kindsC)] w (w2.alloc (.cells kindsC.toArray 3))):=Fg.beside fun B hB=>hB.new 3 kindsC
 clear Fg ks;go_wp2_with fail;refine(Z7a _).mono ?_;rintro r w3⟨rfl,rfl⟩;generalize (w2.alloc (.cells kindsC.toArray 3))=w3 at *
 generalize w2.heap.size=kr at *
 go_wp2_with fail
 go_loopg [8,9] 7 (fun gk ev iv wr=>∃(j:Nat) (f:Nat->Nat×Nat) (rv:RV),iv=.int .i64 j/\j+gk=7/\ev=lvOf rv (endB f j).length/\rvOk rv (endB f j).length/\BgS s c L j f (rowH rv 116 2 (endC (endB f j))++[(kr,isC 3 kindsC)]) w wr)
 case atStart=>exact⟨0,fun _=>(0,0),none,rfl,rfl,rfl,rfl,Ns.out⟩
 case round =>
  clear Ns;obtain⟨j,f,rv,rfl,EN,rfl,AA,Fg⟩:=hrel;have Gh:=Q0a EN;have Kh:=Q0a AA;have Ns:=Q0a Fg;by_cases Aa:j<7
  ·have k0:=Z7b Fg Aa;have kM:=J1I Fg Aa HL.out.1;rw[show((j+1:Nat):Int)=(j:Int)+1 by omega] at kM;have TH:=Q0a kM;have Du:=Q0a Aa;have NM:(j:Int)<7:=by omega
   have Gz:(0:Int)<=(j:Int):=by omega
   have CU:wrap64 ((j:Int)+1)=(j:Int)+1:=Go.IntWalk.wrap64_in _ (by omega);have E3:IntKind.i64.wrap ((j:Int)+1)=(j:Int)+1:=Go.IntWalk.i64_in _ (by omega);clear EN AA Fg kM;go_wp2_with fail;refine TH.out.mono ?_;rintro r w4⟨rfl,f',MB,Av⟩;have Ag:=Q0a Av;have Pf:=Q0a MB;have k4:=Z7b Av Aa;have kO:=fun h3=>J3b Av Aa h3
   rw[show((j+1:Nat):Int)=(j:Int)+1 by omega] at kO;have Qg:=Q0a kO;clear Av MB TH k0 Aa kO;by_cases h3:Q0z j=3
   ·have G4:(((Q0z j:Nat):Int)==3)=true:=by rw[h3];rfl
    have PT:=Qg.out h3;have Jv:=Q4O j Pf.out;obtain⟨at_,Bb⟩:∃n,n=(f' j).1:=⟨_,rfl⟩
    have NA:Hid (∀w5,Below w4.heap.size w4 w5->∃rv2 va vn vc w9,(Builtin.append_ #[85,85] 85 #[lvOf rv (endB f j).length,.slice (some ⟨w5.heap.size,0,none⟩) 1 1]).run prog (w5.alloc (.cells #[.int .u32 ((1+j%2:Nat):Int),.int .i64 at_] 116))=.ok (.slice va vn vc) w9/\lvOf rv2 (endB f' (j+1)).length=.slice va vn vc/\rvOk rv2 (endB f' (j+1)).length/\BgS s c L (j+1) f' (rowH rv2 116 2 (endC (endB f' (j+1)))++[(kr,isC 3 kindsC)]) w w9):=fun w5 h5=>by
     obtain⟨rv2,w9,AK,ho,Hd⟩:=J0l (Ag.out.grown h5) Kh.out (by have:=Z2h f j;have:=Du.out;omega) [(1+j%2,at_)] (by simp) (by simp) 85;obtain⟨va,vn,vc,hV⟩:∃a n c,lvOf rv2 ((endB f j).length+1)=.slice a n c:=by
      cases rv2 with
      | none=>exact⟨_,_,_,rfl⟩
      | some q=>exact⟨_,_,_,rfl⟩
     have e:endB f' (j+1)=endB f j++[(1+j%2,at_)]:=by rw[endB,if_pos h3,Jv,Bb]
     have el:(endB f' (j+1)).length=(endB f j).length+1:=by rw[e,J3N];rfl
     refine⟨rv2,va,vn,vc,w9,?_,by rw[el];exact hV,by rw[el];exact ho,by rw[e];exact Hd⟩;rw[<- hV];exact AK
    rw[<- Bb] at PT;clear Jv Bb Ag Kh Qg Pf;generalize lvOf rv (endB f j).length=u at *
    go_wp2_with fail;refine PT.mono ?_;rintro r w5⟨rfl,As⟩;have BW:=As.alloc As.size (.cells #[.int .i64 3,.int .i64 at_,.int .i64 0] 54);obtain⟨rv2,va,vn,vc,w9,AK,hV,ho,Hd⟩:=NA.out _ BW;have J1:(w5.alloc (.cells #[.int .i64 3,.int .i64 at_,.int .i64 0] 54)).heap.size=w5.heap.size+1:=by simp
    rw[J1] at AK;have HV:=Q0a hV;have HO:=Q0a ho;have JH:=Q0a Hd;clear As BW PT hV ho Hd NA J1;have M1:j=2∨j=3∨j=4:=by
     have:j=0∨j=1∨j=2∨j=3∨j=4∨j=5∨j=6:=by have:=Du.out;omega
     rcases this with rfl|rfl|rfl|rfl|rfl|rfl|rfl
     ·cases h3
     ·cases h3
     ·exact .inl rfl
     ·exact .inr (.inl rfl)
     ·exact .inr (.inr rfl)
     ·cases h3
     ·cases h3
    clear G4 h3;rcases M1 with rfl|rfl|rfl
    all_goals
     go_wp2_with (at_builtin;refine Lib.wpList_append_run _ rfl _ _ _ _ rfl _ _ rfl rfl _ _ AK ?_)
    ·go_roundg 4
     case measure=>have:=Gh.out;omega
     case rel=>exact⟨3,f',rv2,by go_num,rfl,HV.out.symm,HO.out,JH.out⟩
    ·go_roundg 3
     case measure=>have:=Gh.out;omega
     case rel=>exact⟨4,f',rv2,by go_num,rfl,HV.out.symm,HO.out,JH.out⟩
    ·go_roundg 2
     case measure=>have:=Gh.out;omega
     case rel=>exact⟨5,f',rv2,by go_num,rfl,HV.out.symm,HO.out,JH.out⟩
   ·have G4:(((Q0z j:Nat):Int)==3)=false:=by simp;omega
    have e:endB f' (j+1)=endB f j:=by rw[endB,if_neg h3,Q4O j Pf.out]
    have HR:Hid (lvOf rv (endB f j).length=lvOf rv (endB f' (j+1)).length/\rvOk rv (endB f' (j+1)).length/\BgS s c L (j+1) f' (rowH rv 116 2 (endC (endB f' (j+1)))++[(kr,isC 3 kindsC)]) w w4):=by
     rw[e];exact⟨rfl,Kh.out,Ag.out⟩
    clear Ag Kh Qg Pf e Ns;go_wp2_with fail;go_roundg (7-(j+1))
    case measure=>have:=Gh.out;have:=Du.out;omega
    case rel=>exact⟨j+1,f',rv,by go_num,by have:=Du.out;omega,HR.out.1,HR.out.2.1,HR.out.2.2⟩
  ·obtain rfl:j=7:=by omega
   have P0:=J1L Fg;rw[J2F] at Fg AA;obtain⟨ge0,DL,rfl⟩:∃a b,rv=some (a,b):=by
    cases rv with
    | none=>cases AA
    | some q=>exact⟨q.1,q.2,rfl⟩
   have Aq:wr.cell? ⟨ge0,1,none⟩=some (.int .i64 ((f 2).1:Int)):=by
    obtain⟨Z,S,fr,_,_,_,_,_,st⟩:=Fg;exact Q0w st.sep.left.left 1 _ rfl
   obtain⟨rv2,w9,AK,ho,Hd⟩:=J0l (Fg.grown (Below.refl _ _).drew) AA (by simp) [(0,(f 2).1),(1,(f 2).1+8)] (by simp) (by simp) 85;obtain⟨ge,cap,rfl⟩:∃a b,rv2=some (a,b):=by
    cases rv2 with
    | none=>cases ho
    | some q=>exact⟨q.1,q.2,rfl⟩
   have e8:(((f 2).1+8:Nat):Int)=IntKind.i64.wrap (((f 2).1:Int)+8):=by rw[Go.IntWalk.i64_in _ (by omega)];omega
   have HA:Hid ((Builtin.append_ #[85,85] 85 #[.slice (some ⟨ge0,0,none⟩) 3 DL,.slice (some ⟨wr.heap.size,0,none⟩) 2 2]).run prog ((wr.alloc (.cells #[.int .u32 0,.int .i64 ((f 2).1:Int),.int .u32 1,.int .i64 (IntKind.i64.wrap (((f 2).1:Int)+8))] 116)).drew)=.ok (.slice (some ⟨ge,0,none⟩) 5 cap) w9):=by
    rw[<- e8];exact AK
   have Jk:Hid (RtS s L 0 f (rowH (some (ge,cap)) 116 2 (endC (endL f))++[(kr,isC 3 kindsC)]) w w9):=Z9A Hd;have e3:lvOf (some (ge0,DL)) (endB f 7).length=.slice (some ⟨ge0,0,none⟩) 3 DL:=rfl;have Us:(3:Int)<=(DL:Int):=by have:3<=DL:=AA.1;omega
   rw[e3] at *
   generalize ((f 2).1:Int)=a0 at *
   clear Fg AA AK ho Hd e8 e3 P0 Ns Kh EN Aa;go_wp2_with fail
   go_region_law (refine Q0B rfl (.tmp 65) (.tmp 77) 85 85 rfl _ _ (by simp[Act.eval]) (by simp[Act.eval]) HA.out ?_)
   all_goals
    have k1:=Z6X 0 0 6 (.inl ⟨rfl,rfl,rfl⟩) HL.out.1 Jk.out;clear HA Jk Aq;go_wp2_with fail;refine k1.mono ?_;rintro r w10⟨rfl,G6⟩;have k2:=Z6X 1 128 7 (.inr ⟨rfl,rfl,rfl⟩) HL.out.1 G6;clear k1 G6;go_wp2_with fail;refine k2.mono ?_;rintro r w11⟨rfl,Ei⟩;clear k2;obtain⟨Z,fr,rfl,m,hE,Bs,st⟩:=Ei;have kC:=Z6Z st.sep.right;have Gb:Hid (∀c k w12,Below w11.heap.size w11 w12->CarC Z c k w12->CarB L c k ge f w w12):=fun c k w12 hb hc=>by
     have s12:=st.trans (st.sep.grown hb);refine⟨Z,fr,m,hE,Bs,hc,Z3N s12,s12.drop ?_⟩;exact J3S _ _
    clear st m hE Bs;go_wp2_with fail;refine kC.mono ?_;rintro r w12⟨cc,kk,rfl,hb,hc⟩;have HR:=Q0a (Gb.out cc kk w12 hb hc);clear hb hc Gb kC;go_wp2_with fail;refine bodyPost_ret (v:=.tuple #[.pointer (some ⟨cc,0,none⟩),.slice (some ⟨ge,0,none⟩) 5 cap,.bool true]) (by simp[results,results43,go_sem]) rfl ⟨_,_,_,_,_,rfl,HR.out⟩
def Z9C(x:Nat)(r:Ending):Prop:=match Q4N x with
 | some i=>r=.returned (.tuple #[.agg #[.int .i64 i.base,.int .i64 i.order,.int .i64 i.r,.int .i64 i.off,.bool i.g],.bool true])
 | .none=>r=.returned (.tuple #[.agg #[.int .i64 0,.int .i64 0,.int .i64 0,.int .i64 0,.bool false],.bool false])
theorem Q3f(x n k:Nat)(hx:x<18446744073709551616)(hn:n=2 ^ k-1)(hk:k<=8):bits BinOp.and IntKind.u64 (x:Int) (n:Int)=((x%2 ^ k:Nat):Int):=by
 have h2:2 ^ k<=2 ^ 8:=J4p (by omega) hk;rw[Q2c x n (by omega) (by omega),hn,J4G]
theorem Z3O(w:World)(x:Nat)(hx:x<18446744073709551616):Calls prog 185 #[.int .u64 x] w fun r w'=>Z9C x r/\Below w.heap.size w w':=by
 have hd:∀d:Nat,x/d<18446744073709551616:=fun d=>J4n (J4H _ _) hx
 have e1:=Q3f x 255 8 hx rfl (by omega);have e2:=Q3f (x/256) 15 4 (hd _) rfl (by omega);have e3:=Q3f (x/4096) 15 4 (hd _) rfl (by omega);have e4:=Q3f (x/65536) 1 1 (hd _) rfl (by omega);have e5:=Q3f (x/16777216) 255 8 (hd _) rfl (by omega);obtain⟨b,hb⟩:∃b:Nat,b=x%256:=⟨_,rfl⟩
 obtain⟨o,ho⟩:∃b:Nat,b=x/256%16:=⟨_,rfl⟩
 obtain⟨q,hq⟩:∃b:Nat,b=x/4096%16:=⟨_,rfl⟩
 obtain⟨t,ht⟩:∃b:Nat,b=x/65536%2:=⟨_,rfl⟩
 obtain⟨f,hf⟩:∃b:Nat,b=x/16777216%256:=⟨_,rfl⟩
 rw[show(2:Nat) ^ 8=256 from rfl] at e1 e5;rw[show(2:Nat) ^ 4=16 from rfl] at e2 e3;rw[show(2:Nat) ^ 1=2 from rfl] at e4;rw[<- hb] at e1;rw[<- ho] at e2;rw[<- hq] at e3;rw[<- ht] at e4;rw[<- hf] at e5;rw[J4V] at e2 e3 e4 e5;have d1:bits BinOp.and IntKind.u64 (x:Int) 255=(b:Int):=e1;have d2:bits BinOp.and IntKind.u64 ((x:Int)/256) 15=(o:Int):=e2;have d3:bits BinOp.and IntKind.u64 ((x:Int)/4096) 15=(q:Int):=e3;have d4:bits BinOp.and IntKind.u64 ((x:Int)/65536) 1=(t:Int):=e4;have d5:bits BinOp.and IntKind.u64 ((x:Int)/16777216) 255=(f:Int):=e5;have w1:wrap64 (b:Int)=(b:Int):=Go.IntWalk.wrap64_in _ (by omega)
 have w2:wrap64 (o:Int)=(o:Int):=Go.IntWalk.wrap64_in _ (by omega);have w3:wrap64 (q:Int)=(q:Int):=Go.IntWalk.wrap64_in _ (by omega);have w5:wrap64 (f:Int)=(f:Int):=Go.IntWalk.wrap64_in _ (by omega);have KK:decV x=⟨(b:Int),(o:Int),(q:Int),(f:Int),t==1⟩:=by unfold decV;rw[hb,ho,hq,ht,hf]
 obtain⟨g,hg⟩:∃g:Bool,g=(t==1):=⟨_,rfl⟩
 have BB:((t:Int)==1)=g:=by
  rw[hg];by_cases h:t=1
  ·subst h;rfl
  ·have h2:¬((t:Int)=1):=by omega
   rw[beq_eq_false_iff_ne.2 h,beq_eq_false_iff_ne.2 h2]
 rw[<- hg] at KK;obtain⟨cv,Bx⟩:∃c:Bool,c=Q0W ⟨(b:Int),(o:Int),(q:Int),(f:Int),g⟩:=⟨_,rfl⟩
 obtain⟨cn,Ml⟩:∃c:Nat,c=Q1F ⟨(b:Int),(o:Int),(q:Int),(f:Int),g⟩:=⟨_,rfl⟩
 have HI:Hid (∀r,(cv=true/\cn=x->r=.returned (.tuple #[.agg #[.int .i64 b,.int .i64 o,.int .i64 q,.int .i64 f,.bool g],.bool true]))->(¬(cv=true/\cn=x)->r=.returned (.tuple #[.agg #[.int .i64 0,.int .i64 0,.int .i64 0,.int .i64 0,.bool false],.bool false]))->Z9C x r):=fun r h1 h2=>by
  unfold Z9C Q4N;rw[KK,<- Bx,<- Ml];by_cases h:cv=true/\cn=x
  ·rw[if_pos h];exact h1 h
  ·rw[if_neg h];exact h2 h
 have HC:Hid (∀W,Calls prog 94 #[.agg #[.int .i64 b,.int .i64 o,.int .i64 q,.int .i64 f,.bool g]] W fun r w'=>∃y:Int,r=.returned (.tuple #[.int .u64 y,.bool cv])/\Below W.heap.size W w'/\(cv=true->y=(cn:Int))):=fun W=>by
  rw[Bx,Ml];exact Q9J W ⟨(b:Int),(o:Int),(q:Int),(f:Int),g⟩
 have HZ:Hid (∀w3,Below ((w.alloc (.cells #[.int .i64 0,.int .i64 0,.int .i64 0,.int .i64 0,.bool false] 63)).alloc (.cells #[.int .i64 b,.int .i64 o,.int .i64 q,.int .i64 f,.bool g] 63)).heap.size ((w.alloc (.cells #[.int .i64 0,.int .i64 0,.int .i64 0,.int .i64 0,.bool false] 63)).alloc (.cells #[.int .i64 b,.int .i64 o,.int .i64 q,.int .i64 f,.bool g] 63)) w3 ->
   Cells w3 w.heap.size 63 [.int .i64 0,.int .i64 0,.int .i64 0,.int .i64 0,.bool false]/\Cells w3 (w.heap.size+1) 63 [.int .i64 b,.int .i64 o,.int .i64 q,.int .i64 f,.bool g] /\
   ∀v0 v1 v2 v3 v4,Below w.heap.size w (((((w3.setCell ⟨w.heap.size,0,none⟩ v0).setCell ⟨w.heap.size,1,none⟩ v1).setCell ⟨w.heap.size,2,none⟩ v2).setCell ⟨w.heap.size,3,none⟩ v3).setCell ⟨w.heap.size,4,none⟩ v4)):=fun w3 Am=>by
  have c1:=(Cells.new w 63 [.int .i64 0,.int .i64 0,.int .i64 0,.int .i64 0,.bool false]).alloc (.cells #[.int .i64 b,.int .i64 o,.int .i64 q,.int .i64 f,.bool g] 63);have c2:=Cells.new (w.alloc (.cells #[.int .i64 0,.int .i64 0,.int .i64 0,.int .i64 0,.bool false] 63)) 63 [.int .i64 b,.int .i64 o,.int .i64 q,.int .i64 f,.bool g];have hz:(w.alloc (.cells #[.int .i64 0,.int .i64 0,.int .i64 0,.int .i64 0,.bool false] 63)).heap.size=w.heap.size+1:=by simp
  rw[hz] at c2;refine⟨c1.same (Am.block _ c1.lt),c2.same (Am.block _ c2.lt),fun v0 v1 v2 v3 v4=>?_⟩;have hb:=Q0b (Q0b Am);exact((((hb.setCell (J3h _) _).setCell (J3h _) _).setCell (J3h _) _).setCell (J3h _) _).setCell (J3h _) _
 clear e1 e2 e3 e4 e5 hb ho hq ht hf KK Bx Ml hg hd hx;go_enter func185,ntmps185;go_wp2_with fail;refine(HC.out _).mono ?_;rintro r w3'⟨y,rfl,Am,hy⟩;obtain⟨c1,c2,GF⟩:=HZ.out w3' Am;have HB:=Q0a GF;have HY:=Q0a hy;have f0:=c1.free 0;have f1:=c1.free 1;have f2:=c1.free 2;have f3:=c1.free 3;have f4:=c1.free 4;have g0:=c2.cell 0 _ rfl;have g1:=c2.cell 1 _ rfl;have g2:=c2.cell 2 _ rfl;have g3:=c2.cell 3 _ rfl;have g4:=c2.cell 4 _ rfl;have h0:=c1.cell 0 _ rfl;have h1:=c1.cell 1 _ rfl;have h2:=c1.cell 2 _ rfl;have h3:=c1.cell 3 _ rfl;have h4:=c1.cell 4 _ rfl;have Aa:=c1.lt;clear Am GF hy c1 c2 HZ HC d1 d2 d3 d4 d5 w1 w2 w3 w5
 cases cv with
 | false =>
  have HR:=Q0a (HI.out _ (fun h=>by cases h.1) (fun _=>rfl));clear HI HY;go_wp2_with fail;refine bodyPost_ret (v:=.tuple #[.agg #[.int .i64 0,.int .i64 0,.int .i64 0,.int .i64 0,.bool false],.bool false]) (by simp[results,results185,go_sem,h0,h1,h2,h3,h4]) rfl ⟨HR.out,HB.out _ _ _ _ _⟩
 | true =>
  obtain rfl:=HY.out rfl;by_cases hn:cn=x
  ·subst hn;have Ac:(((cn:Nat):Int) != (cn:Int))=false:=by simp
   have HR:=Q0a (HI.out _ (fun _=>rfl) (fun h=>(h ⟨rfl,rfl⟩).elim));clear HI HY;go_wp2_with fail;refine bodyPost_ret (v:=.tuple #[.agg #[.int .i64 b,.int .i64 o,.int .i64 q,.int .i64 f,.bool g],.bool true]) (by simp[results,results185,go_sem,h0,h1,h2,h3,h4]) rfl ⟨HR.out,HB.out _ _ _ _ _⟩
  ·have Ac:(((cn:Nat):Int) != (x:Int))=true:=by simp;omega
   have HR:=Q0a (HI.out _ (fun h=>(hn h.2).elim) (fun _=>rfl));clear HI HY;go_wp2_with fail;refine bodyPost_ret (v:=.tuple #[.agg #[.int .i64 0,.int .i64 0,.int .i64 0,.int .i64 0,.bool false],.bool false]) (by simp[results,results185,go_sem,h0,h1,h2,h3,h4]) rfl ⟨HR.out,HB.out _ _ _ _ _⟩
end Go.Proofs.YtfidemmgofcnmaaGreatDoor
