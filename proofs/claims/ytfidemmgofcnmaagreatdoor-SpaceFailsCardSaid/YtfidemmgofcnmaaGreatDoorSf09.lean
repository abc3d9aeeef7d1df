/- SpaceFails returns true at every input. No condition. Part of its proof. -/
import Derived.Deep.AppendSrc
import Derived.Test.YtfidemmgofcnmaaGreatDoorSf08
set_option maxHeartbeats 4000000
set_option maxRecDepth 100000
set_option linter.unusedVariables false
namespace Go.Proofs.YtfidemmgofcnmaaGreatDoor
open Go.RowKit Go.Proofs.Tryz
abbrev OV:=Option (Nat×Nat×Nat)
def ovOf(rv:OV)(n:Nat):Value:=match rv with
 | none=>.slice none 0 0
 | some (g,off,cap)=>.slice (some ⟨g,off,none⟩) n cap
def isS(T:TypeId)(m off:Nat)(cs:List Value):Obj->Prop:=fun o=>∃Ag:Array Value,o=.cells Ag T (0,0)/\off+m<=Ag.size/\(Ag.toList.drop off).take cs.length=cs
def ovH(rv:OV)(T:TypeId)(size:Nat)(xs:List Value):HL:=match rv with
 | none=>[]
 | some (g,off,cap)=>[(g,isS T (cap*size) off xs)]
def ovOk(rv:OV)(n:Nat):Prop:=match rv with
 | none=>n=0
 | some (_,_,cap)=>n<=cap/\cap<=maxLen
theorem Z0C{w:World}{g off cap:Nat}{T:TypeId}{size:Nat}{xs:List Value}(h:Sep w (ovH (some (g,off,cap)) T size xs))(j:Nat)(v:Value)(hv:xs[j]?=some v):w.cell? ⟨g,off+j,none⟩=some v:=by
 obtain⟨o,ho,Ag,rfl,hn,hr⟩:=h.get (b:=g) (q:=isS T (cap*size) off xs) (by simp[ovH]);rw[<- hr,J5f] at hv;split at hv
 ·rw[J5E] at hv;simp only[World.cell?,ho,J6f,J6V,if_false];rw[<- J5C];exact hv
 ·cases hv
theorem Sep.weak{w:World}{A B:HL}{b:Nat}{q q':Obj->Prop}(h:Sep w (A++(b,q)::B))(hq:∀o,q o->q' o):Step (A++(b,q)::B) (A++(b,q')::B) w w:=by
 obtain⟨o,ho,II⟩:=h.get (b:=b) (q:=q) (by simp);exact Sep.turn h ⟨rfl,rfl,rfl,J3b _,fun _ _ _=>rfl⟩ ⟨o,ho,hq _ II⟩
theorem Step.more{w w':World}{A B H':HL}(s:Step B H' w w'):Step (A++B) H' w w':=
 ⟨s.sep,s.chg.mono fun b hb=>.inl (by simp[hb]),fun b hb=>by rcases s.new b hb with h'|h';exact .inl (by simp[h']);exact .inr h'⟩
theorem J0V{w:World}{B:HL}{g off cap:Nat}{T:TypeId}{size:Nat}{x xs:List Value}(h:Sep w (ovH (some (g,off,cap)) T size (x++xs)++B))(hx:x.length=size)(hc:1<cap) :
  Step (ovH (some (g,off,cap)) T size (x++xs)++B) (ovH (some (g,off+size,cap-1)) T size xs++B) w w:=by
 refine Sep.weak (A:=[]) (B:=B) h ?_;rintro o⟨Ag,rfl,hn,hr⟩;obtain⟨c,rfl⟩:∃c,cap=c+1:=⟨cap-1,by omega⟩
 refine⟨Ag,rfl,?_,?_⟩
 ·rw[Nat.add_sub_cancel];rw[J5Z] at hn;omega
 ·have e:Ag.toList.drop (off+size)=(Ag.toList.drop off).drop size:=by rw[List.drop_drop]
  have h2:((Ag.toList.drop off).take (x++xs).length).drop size=(x++xs).drop size:=by rw[hr]
  rw[List.drop_take,J3M,hx,J6a] at h2;rw[e,h2,<- hx];simp
theorem Z8D{w:World}{B:HL}{g off:Nat}{T:TypeId}{size:Nat}{x:List Value}(h:Sep w (ovH (some (g,off,1)) T size x++B)) :
  Step (ovH (some (g,off,1)) T size x++B) (ovH (some (g,off,0)) T size []++B) w w:=by
 refine Sep.weak (A:=[]) (B:=B) h ?_;rintro o⟨Ag,rfl,hn,hr⟩;exact⟨Ag,rfl,by omega,by simp⟩
theorem Z5F{P:Program}{w:World}{B:HL}{rv:OV}{T t ty:TypeId}{size n m:Nat}{xs news:List Value}(h:Sep w (ovH rv T size xs++B))(Bg:ovOk rv n)(hl:xs.length=n*size)
  (i:TypeInfo) (z:Value) (bytes:Nat) (ht:P.underlying t=some (.slice T)) (hi:P.info? T=some i) (hz:i.zero=some z) (hsize:i.size=size) (hby:i.bytes=bytes) (Fc:z.cells.size=size)
  (x:Value) (hs:Src P size t x m news w) (hm:0<m) (Ac:n+m<=1048576) (hb:bytes<=64) :
  ∃rv' w',(Builtin.append_ #[t,t] ty #[ovOf rv n,x]).run P w=.ok (ovOf rv' (n+m)) w'/\ovOk rv' (n+m)/\Step (ovH rv T size xs++B) (ovH rv' T size (xs++news)++B) w w':=by
 subst hsize;subst hby;have RX:=hs.newsLen;have F8:(xs++news).length=(n+m)*i.size:=by rw[J3M,hl,RX,J5Z]
 have G2:(n+m)*i.bytes<=140737488355328:=J3c (J4f Ac hb) (by decide)
 -- a new row
 have grown:∀(bs:Option Addr) (sc:Nat),ovOf rv n=.slice bs n sc->sc<n+m->(Builtin.firstCells i.size n (.slice bs n sc)).run P w.drew=.ok xs.toArray w.drew ->
   ∃rv' w',(Builtin.append_ #[t,t] ty #[ovOf rv n,x]).run P w=.ok (ovOf rv' (n+m)) w'/\ovOk rv' (n+m)/\Step (ovH rv T i.size xs++B) (ovH rv' T i.size (xs++news)++B) w w':=by
  intro bs sc he Nx Cc;have Ei:=run_append_grow_src (P:=P) w t t ty T i z ht hi hz bs n sc xs Cc x m news hs Nx (by omega) (growslice_fits (by omega) G2);have Jh:=grownCap_ge w (n+m) sc T;have CR:grownCap w (n+m) sc T<=maxLen:=grownCap_le_maxLen w (n+m) sc T (by unfold maxLen;omega);obtain⟨cap,A4⟩:∃cap,cap=grownCap w (n+m) sc T:=⟨_,rfl⟩
  rw[<- A4] at Ei Jh CR;refine⟨some (w.heap.size,0,cap),_,by rw[he];exact Ei,⟨Jh,CR⟩,?_⟩;refine Step.more ?_;have s1:=(h.right.drew.new T ((xs++news).toArray++Builtin.zeroCells z.cells (cap-(n+m))).toList).from_drew;rw[Array.toArray_toList] at s1;refine s1.trans (Sep.weak (A:=[]) s1.sep ?_);rintro o rfl;refine⟨_,rfl,?_,?_⟩
  ·simp only[Array.toArray_toList,Array.size_append,J5H,size_zeroCells,Fc,F8,<- J5Z];rw[J5G];exact J5Y _ (by omega)
  ·simp only[Array.toList_append,J6W];exact J5A
 cases rv with
 | none =>
  have h0:n=0:=Bg;subst h0;have hx:xs=[]:=J5s (by simpa using hl);subst hx;exact grown none 0 rfl (by omega) (run_firstCells_none w.drew i.size 0 0 0)
 | some p =>
  obtain⟨g,off,cap⟩:=p;obtain⟨CM,BF⟩:=Bg;by_cases C0:n+m<=cap
  ·obtain⟨o,ho,Ag,rfl,hn,hr⟩:=h.left.get (b:=g) (q:=isS T (cap*i.size) off xs) (by simp[ovH]);have D1:(n+m)*i.size<=cap*i.size:=J5Y _ C0;have An:off+n*i.size+news.length<=Ag.size:=by rw[RX];rw[J5Z] at D1;omega
   have Ap:=run_storeCells_at P g (off+n*i.size) T news 0 Ag w ho (by simpa using An) hs.one;simp only[J3k] at Ap;refine⟨some (g,off,cap),w.setRow g (Ag.toList.take (off+n*i.size)++news++Ag.toList.drop (off+n*i.size+news.length)).toArray,?_,⟨C0,BF⟩,?_⟩
   ·unfold ovOf;rcases hs.kind with ⟨e',hk⟩|hk <;> simp[Builtin.append_,run_underlying ht,sizeOf,typeInfo,hi,hs.len,C0,hs.cells,Addr.add_lit,Ap]
   ·refine Sep.turn (A:=[]) h ⟨rfl,rfl,rfl,by simp,fun k _ hk=>setRow_other w g k _ (fun e=>hk (by simp[e]))⟩ ⟨_,setRow_heap w g Ag _ T _ ho,_,rfl,?_,?_⟩
    ·simp only[J5H,J3M,J5v,J5u,Array.length_toList];omega
    ·have e1:(Ag.toList.take (off+n*i.size)).drop off=xs:=by
      rw[List.drop_take,J6a,<- hl];exact hr
     have e2:off<=(Ag.toList.take (off+n*i.size)).length:=by
      simp only[J5v,Array.length_toList];omega
     show(List.drop off (_++news++_)).take _=_;rw[J4c,J5y e2,e1,<- J4c];exact J5A
  ·refine grown (some ⟨g,off,none⟩) cap rfl (by omega) ?_;refine run_firstCells_some w.drew i.size n ⟨g,off,none⟩ n cap xs hl (fun j u hu=>?_);rw[Addr.add_lit];exact Z0C h.left j u hu
structure CO where
 c:Nat
 P:PL
 t:Nat
 l:List Pl
 g:Nat
 period:Nat
 now:Nat
 rv:OV
 ts:List (Nat×Nat)
 xc:Int->Int
def Q1l(ts:List (Nat×Nat)):List Value:=ts.flatMap fun x=>[.int .i64 (x.1:Int),.int .i64 (x.2:Int)]
def qhl(g period now:Nat)(rv:OV)(ts:List (Nat×Nat)):HL:=(g,isC 305 [.int .i64 period,.int .i64 now,ovOf rv ts.length])::ovH rv 331 2 (Q1l ts)
def CO.qh(S:CO):HL:=qhl S.g S.period S.now S.rv S.ts
def CO.ht(S:CO):HT:=⟨S.t,S.l⟩
def CO.head(S:CO):Nat×(Obj->Prop):=(S.c,isC 187 [ptr S.P.p,ptr S.t,ptr S.g])
def CO.hl(S:CO):HL:=S.head::(S.P.hl++(S.ht.hl++S.qh))
structure CO.Ok(S:CO)(fr:List Nat)(N K:Nat):Prop where
 inv:Inv S.P S.l fr S.xc (S.ts.map Prod.fst)
 per:1<=S.period/\S.period<=16
 due:∀x∈S.ts,S.now<x.2/\x.2<=S.now+S.period
 ord:S.ts.Pairwise (fun a b=>a.2<=b.2)
 ov:ovOk S.rv S.ts.length
 next:S.P.q.next<=N
 now:S.now<=K
 age:∀p∈S.l,p.age<=S.now
structure Went(S S':CO):Prop where
 c:S'.c=S.c
 t:S'.t=S.t
 g:S'.g=S.g
 per:S'.period=S.period
 same:SameP S.P S'.P
 now:S.now<=S'.now
 age:∀(i:Nat) (p:Pl),S.l[i]?=some p->∃p':Pl,S'.l[i]?=some p'/\p.age<=p'.age
 queue:S'.now=S.now->∃T,S'.ts=S.ts++T/\∀x∈T,x.2=S.now+S.period
 root:S'.l[0]?=S.l[0]?
 high:∀j,6<=j->(S'.P.usedOf j).Perm (S.P.usedOf j)
 memH:Z5D S.P S'.P
 xc:S'.xc=S.xc
 zombie:S'.now=S.now->∀(x:Nat) (p:Pl),pget S.l 2 x=some p->pget S'.l 2 x=some p/\Kept S.P.a.mem S'.P.a.mem p.at_ (costK p.kind)
theorem CO.permP(S:CO):S.hl.Perm (S.P.hl++(S.head::(S.ht.hl++S.qh))):=by
 unfold CO.hl;exact J6H.symm
theorem CO.permT(S:CO):S.hl.Perm (S.ht.hl++(S.head::(S.P.hl++S.qh))):=by
 unfold CO.hl;refine(List.Perm.cons _ ?_).trans J6H.symm;rw[<- J4c,<- J4c];exact J5P.append_right _
theorem CO.permG(S:CO):S.hl.Perm (S.qh++(S.head::(S.P.hl++S.ht.hl))):=by
 unfold CO.hl;refine(List.Perm.cons _ ?_).trans J6H.symm;rw[<- J4c];exact J5P
section
variable {w:World} {S:CO}
theorem CO.sP(h:Sep w S.hl):Sep w S.P.hl:=h.part S.permP
theorem CO.sT(h:Sep w S.hl):Sep w S.ht.hl:=h.part S.permT
theorem CO.sG(h:Sep w S.hl):Sep w S.qh:=h.part S.permG
theorem CO.cells(h:Sep w S.hl):Cells w S.c 187 [ptr S.P.p,ptr S.t,ptr S.g]:=h.cells (by simp[CO.hl,CO.head])
theorem CO.c0(h:Sep w S.hl):w.cell? ⟨S.c,0,none⟩=some (.pointer (some ⟨S.P.p,0,none⟩)):=(CO.cells h).cell 0 _ rfl
theorem CO.c1(h:Sep w S.hl):w.cell? ⟨S.c,1,none⟩=some (.pointer (some ⟨S.t,0,none⟩)):=(CO.cells h).cell 1 _ rfl
theorem CO.c2(h:Sep w S.hl):w.cell? ⟨S.c,2,none⟩=some (.pointer (some ⟨S.g,0,none⟩)):=(CO.cells h).cell 2 _ rfl
end
def CO.setP(S:CO)(P:PL):CO:={S with P:=P}
def CO.setL(S:CO)(l:List Pl):CO:={S with l:=l}
def CO.setG(S:CO)(now:Nat)(rv:OV)(ts:List (Nat×Nat)):CO:={S with now:=now,rv:=rv,ts:=ts}
theorem CO.stepP{w w':World}{S:CO}(h:Sep w S.hl)(P:PL)(e:P.p=S.P.p)(s:Step S.P.hl P.hl w w'):Step S.hl (S.setP P).hl w w':=by
 have hp:=(S.setP P).permP;have e1:(S.setP P).head=S.head:=by unfold CO.head CO.setP;rw[e]
 rw[e1] at hp;exact Step.lift S.permP hp h s
theorem CO.stepL{w w':World}{S:CO}(h:Sep w S.hl)(l:List Pl)(s:Step S.ht.hl (⟨S.t,l⟩:HT).hl w w'):Step S.hl (S.setL l).hl w w':=
 Step.lift S.permT (S.setL l).permT h s
theorem CO.stepG{w w':World}{S:CO}(h:Sep w S.hl)(now:Nat)(rv:OV)(ts:List (Nat×Nat))(s:Step S.qh (qhl S.g S.period now rv ts) w w'):Step S.hl (S.setG now rv ts).hl w w':=
 Step.lift S.permG (S.setG now rv ts).permG h s
def PL.setD(P:PL)(d:BD):PL:={P with d:=d}
theorem PL.stepD{w w':World}{P:PL}(h:Sep w P.hl)(d:BD)(e:d.b=P.d.b)(s:Step P.d.hl d.hl w w'):Step P.hl (P.setD d).hl w w':=by
 have BH:=PL.permD (P.setD d);have e1:(P.setD d).cells=P.cells:=by unfold PL.cells PL.setD;simp only[e]
 rw[e1] at BH;exact Step.lift (PL.permD P) BH h s
theorem PL.ok_setD{P:PL}{fr fr':List Nat}(ok:P.Ok fr){d:BD}(h1:d.b=P.d.b)(h2:d.top=P.d.top)(h3:d.At)(h4:(fr'++P.pages).Perm d.ps):(P.setD d).Ok fr':=by
 refine⟨ok.q,h3,?_,?_,ok.bytes,ok.len,fun k c hc=>?_,h4,ok.busy⟩
 ·show P.a.mem.length=2 ^ (d.top+10);rw[h2];exact ok.mem
 ·show 6<=d.top;rw[h2];exact ok.top
 ·obtain⟨a1,a2,a3⟩:=ok.c k c hc;exact⟨a1,a2,by show c.bb=d.b;rw[h1];exact a3⟩
theorem Z5G{P:PL}{fr:List Nat}(ok:P.Ok fr){own:Int}{e:En Fa}(hf:find P.q.E own=some e)(hq:(1024:Int)<=e.q.limit-(e.q.charged+e.q.given)){g:Nat}{d:BD}(h1:d.b=P.d.b)(h2:d.top=P.d.top)(h3:d.ps=P.d.ps++[g])(h4:d.At) :
  GotM P fr own 8 (1024*g) (((P.setQ {P.q with E:=upd P.q.E own {e.q with charged:=e.q.charged+1024}}).setD d).setA (put_ P.a.mem (1024*g) (List.replicate 1024 0))) (g::fr):=by
 obtain⟨f1,f2,f3,f4,f5,f6,f7,f8⟩:=ok.q.fa own e hf;have ok1:=PL.ok_setQ ok (Q3m ok.q hf {e.q with charged:=e.q.charged+1024} ⟨by show 0<=e.q.charged+_;omega,f2,by show e.q.charged+_+e.q.given<=e.q.limit;omega,rfl,rfl⟩);have DT:((g::fr)++P.pages).Perm d.ps:=by
  rw[h3];refine(ok.pages.cons g).trans ?_;exact(J6J _ _).symm
 have ok2:=PL.ok_setD (fr':=g::fr) ok1 (d:=d) h1 h2 h4 DT;have hg:g<2 ^ P.d.top:=by rw[<- h2];exact h4.lt g (by rw[h3];simp)
 have hl:1024*g+(List.replicate 1024 0).length<=P.a.mem.length:=by
  rw[J3l,ok.mem,J4D,show(2:Nat) ^ 10=1024 from rfl];omega
 have Ac:=Q2v P.a.mem (1024*g) (List.replicate 1024 0) hl;have ok3:=PL.ok_setA ok2 (m:=put_ P.a.mem (1024*g) (List.replicate 1024 0)) Ac (Q8V ok.bytes 0 (by omega));refine⟨ok3,⟨rfl,rfl,h1,rfl,rfl,h2,Ac⟩,⟨e,hf,hq,rfl⟩,rfl,fun h=>absurd rfl h,fun j _=>rfl,?_,?_⟩
 ·rw[if_pos rfl];exact⟨g,rfl,rfl⟩
 ·show d.ps.length<=_;rw[h3];simp
theorem Z2X{P:PL}{fr:List Nat}(ok:P.Ok fr){own:Int}{e:En Fa}(hf:find P.q.E own=some e)(hq:(1024:Int)<=e.q.charged){g:Nat}(hg:g∈fr){d:BD}(h1:d.b=P.d.b)(h2:d.top=P.d.top)(h3:d.ps=P.d.ps.erase g)(h4:d.At) :
  BackM P fr own 8 (1024*g) ((P.setQ {P.q with E:=upd P.q.E own {e.q with charged:=e.q.charged-1024}}).setD d) (fr.erase g):=by
 obtain⟨f1,f2,f3,f4,f5,f6,f7,f8⟩:=ok.q.fa own e hf;have ok1:=PL.ok_setQ ok (Q3m ok.q hf {e.q with charged:=e.q.charged-1024} ⟨by show 0<=e.q.charged-_;omega,f2,by show e.q.charged-_+e.q.given<=e.q.limit;omega,rfl,rfl⟩);have DT:(fr.erase g++P.pages).Perm d.ps:=by
  rw[h3];have:=ok.pages.erase g;rw[List.erase_append_left _ hg] at this;exact this
 have ok2:=PL.ok_setD (fr':=fr.erase g) ok1 (d:=d) h1 h2 h4 DT;refine⟨ok2,⟨rfl,rfl,h1,rfl,rfl,h2,rfl⟩,⟨e,hf,hq,rfl⟩,rfl,fun h=>absurd rfl h,fun j _=>rfl,?_,?_⟩
 ·rw[if_pos rfl];exact⟨g,rfl,rfl⟩
 ·show d.ps.length<=_;rw[h3];exact List.length_erase_le
def NoPage(P:PL):Prop:=∀p,p<2 ^ P.d.top->p∈P.d.ps
theorem NoPage.len{P:PL}(h:NoPage P):2 ^ P.d.top<=P.d.ps.length:=by
 have h1:(List.range (2 ^ P.d.top)).Nodup:=J6X;have h2:=h1.length_le_of_subset (l₂:=P.d.ps) (fun x hx=>h x (J3s.1 hx))
 simpa using h2
theorem NoRoom.page{P:PL}{n:Nat}(h:NoRoom P n):NoPage P:=by
 obtain⟨c,_,_,hn⟩:=h;exact fun p hp=>Q8Z hn hp
theorem Z5H(d:BD):(∀k,k<=d.top->fstG (fre (uOf d.ps) d.top) d.top k 0=none)∨∃k0 i0,k0<=d.top/\fstG (fre (uOf d.ps) d.top) d.top k0 0=some i0/\∀k,k<k0->fstG (fre (uOf d.ps) d.top) d.top k 0=none:=by
 have key:∀n,(∀k,k<n->fstG (fre (uOf d.ps) d.top) d.top k 0=none)∨∃k0 i0,k0<n/\fstG (fre (uOf d.ps) d.top) d.top k0 0=some i0/\∀k,k<k0->fstG (fre (uOf d.ps) d.top) d.top k 0=none:=by
  intro n
  induction n with
  | zero=>left;intro k hk;omega
  | succ n ih =>
   rcases ih with h|⟨k0,i0,h1,h2,h3⟩
   ·cases hc:fstG (fre (uOf d.ps) d.top) d.top n 0 with
    | none =>
     left;intro k hk;by_cases e:k=n
     ·rw[e];exact hc
     ·exact h k (by omega)
    | some i=>right;exact⟨n,i,by omega,hc,h⟩
   ·right;exact⟨k0,i0,by omega,h2,h3⟩
 rcases key (d.top+1) with h|⟨k0,i0,h1,h2,h3⟩
 ·left;exact fun k hk=>h k (by omega)
 ·right;exact⟨k0,i0,by omega,h2,h3⟩
theorem Z5I{l:List Pl}{xc:Int->Int}{zs:List Nat}(u:QueI l xc zs){i:Nat}{p:Pl}(hi:l[i]?=some p)(hp:p.st≠1):i≠0:=by
 obtain⟨r,r1,_,_,r4,_,_⟩:=u.root;rintro rfl;rw[r1] at hi;cases hi;exact hp r4
theorem CO.Ok.made{S:CO}{fr fr':List Nat}{N N' K:Nat}(ok:S.Ok fr N K){P':PL}{l':List Pl}(hi:Inv P' l' fr' S.xc (S.ts.map Prod.fst))(hn:P'.q.next<=N')(ha:∀p∈l',p.age<=S.now):((S.setP P').setL l').Ok fr' N' K:=
 ⟨hi,ok.per,ok.due,ok.ord,ok.ov,hn,ok.now,ha⟩
theorem Z5J{l:List Pl}{i n:Nat}{q:Pl}(h:∀p∈l,p.age<=n)(hq:q.age<=n):∀p∈l.set i q,p.age<=n:=fun p hp=>by
 rcases Q0n hp with rfl|hp
 ·exact hq
 ·exact h p hp
theorem Z1Z{l:List Pl}{i:Nat}{p q:Pl}(hi:l[i]?=some p)(h:p.age<=q.age):∀(j:Nat) (r:Pl),l[j]?=some r->∃r':Pl,(l.set i q)[j]?=some r'/\r.age<=r'.age:=fun j r hr=>by
 by_cases e:i=j
 ·subst e;rw[hi] at hr;cases hr;exact⟨q,J6S (J3t.1 hi).1,h⟩
 ·exact⟨r,by rw[J6K e];exact hr,J3b _⟩
theorem Went.made{S:CO}{fr:List Nat}{N K:Nat}(ok:S.Ok fr N K){P':PL}(hs:SameP S.P P'){i:Nat}{p q:Pl}(hi:S.l[i]?=some p)(hp:p.st=0)(hq:q.age=p.age)(hk:KeptL S.P.a.mem P'.a.mem S.l)(hh:∀j,6<=j->(P'.usedOf j).Perm (S.P.usedOf j))(hm:Z5D S.P P'):Went S ((S.setP P').setL (S.l.set i q)):=by
 have BJ:=Z5I ok.inv.que hi (by omega);refine⟨rfl,rfl,rfl,rfl,hs,J3b _,Z1Z hi (by omega),fun _=>⟨[],by simp[CO.setL,CO.setP],by simp⟩,J6K BJ,hh,hm,rfl,fun _ x r hr=>?_⟩;obtain⟨a,b,c⟩:=pget_some.1 hr;refine⟨?_,hk r (Q0z hr) (Pl.is_iff.2 (.inr c))⟩;show pget (S.l.set i q) 2 x=some r;rw[Q0A q hi,if_neg]
 ·exact hr
 ·intro e;rw[e,hi] at a;cases a;omega
theorem CO.Ok.tried{S:CO}{fr:List Nat}{N K:Nat}(ok:S.Ok fr N K){P':PL}(t:Tried S.P fr S.l P'):(S.setP P').Ok fr N K:=
 ⟨ok.inv.tried t,ok.per,ok.due,ok.ord,ok.ov,by show P'.q.next<=N;rw[t.q];exact ok.next,ok.now,ok.age⟩
def CO.doomed(S:CO)(h:Nat)(p:Pl)(rv:OV):CO:=(S.setL (S.l.set (h%256) {p with st:=2})).setG S.now rv (S.ts++[(h,S.now+S.period)])
def CO.Spare(S:CO)(h:Nat)(p:Pl):Prop:=∀id,S.xc id≠0->∃r∈S.l.set (h%256) {p with st:=2},r.st=1/\(r.fac:Int)=id
theorem CO.Ok.doomed{S:CO}{fr:List Nat}{N K:Nat}(ok:S.Ok fr N K){h:Nat}{p:Pl}(hp:pget S.l 1 h=some p)(h0:h≠0)(hk:kids S.l h=[])(JO:S.Spare h p){rv:OV}(BR:ovOk rv (S.ts.length+1)):(S.doomed h p rv).Ok fr N K:=by
 have Pj:=ok.per;refine⟨?_,ok.per,fun x hx=>?_,?_,?_,ok.next,ok.now,Z5J ok.age (ok.age p (Q0z hp))⟩
 ·have:=ok.inv.doom hp h0 hk JO;show Inv S.P _ fr S.xc ((S.ts++[_]).map Prod.fst);rw[J6G];exact this
 ·have Cb:x∈S.ts++[(h,S.now+S.period)]:=hx;show S.now<x.2/\x.2<=S.now+S.period;rcases J3Q.1 Cb with Cb|Cb
  ·exact ok.due x Cb
  ·rw[J5j] at Cb;subst Cb;show S.now<S.now+S.period/\S.now+S.period<=S.now+S.period;omega
 ·show(S.ts++[_]).Pairwise _;rw[J3P];refine⟨ok.ord,by simp,fun x hx y hy=>?_⟩;rw[J5j] at hy;subst hy;exact(ok.due x hx).2
 ·show ovOk rv (S.ts++[_]).length;rw[J3M];exact BR
structure Mid(S:CO)(fr:List Nat)(N K:Nat)(zs:List Nat):Prop where
 inv:Inv S.P S.l fr S.xc (zs++S.ts.map Prod.fst)
 per:1<=S.period/\S.period<=16
 due:∀x∈S.ts,S.now<x.2/\x.2<=S.now+S.period
 ord:S.ts.Pairwise (fun a b=>a.2<=b.2)
 ov:ovOk S.rv S.ts.length
 next:S.P.q.next<=N
 now:S.now<=K
 age:∀p∈S.l,p.age<=S.now/\(p.st=2->p.age+1<=S.now)
theorem Mid.ok{S:CO}{fr:List Nat}{N K:Nat}(m:Mid S fr N K []):S.Ok fr N K:=⟨m.inv,m.per,m.due,m.ord,m.ov,m.next,m.now,fun p hp=>(m.age p hp).1⟩
def dueN(S:CO):List Nat:=(S.ts.takeWhile fun x=>decide (x.2<=S.now+1)).map Prod.fst
def dueT(S:CO):List (Nat×Nat):=S.ts.dropWhile fun x=>decide (x.2<=S.now+1)
theorem Q9c{l:List (Nat×Nat)}(h:l.Pairwise (fun a b=>a.2<=b.2))(n:Nat):∀x∈l.dropWhile (fun x=>decide (x.2<=n)),n<x.2:=by
 induction l with
 | nil=>simp
 | cons y r ih =>
  obtain⟨h1,h2⟩:=J3D.1 h;rw[List.dropWhile_cons];split
  ·exact ih h2
  ·rename_i hc;simp only[decide_eq_true_eq] at hc;intro x hx;rcases J3g.1 hx with rfl|hx
   ·omega
   ·have:=h1 x hx;omega
theorem Z5K(S:CO):S.ts.map Prod.fst=dueN S++(dueT S).map Prod.fst:=by
 unfold dueN dueT;rw[<- J6G,J6Y]
theorem CO.Ok.mid{S:CO}{fr:List Nat}{N K:Nat}(ok:S.Ok fr N K){rv:OV}(BR:ovOk rv (dueT S).length):Mid (S.setG (S.now+1) rv (dueT S)) fr N (K+1) (dueN S):=by
 refine⟨?_,ok.per,fun x hx=>?_,ok.ord.sublist (J6Z _),BR,ok.next,by have:=ok.now;show S.now+1<=K+1;omega,fun p hp=>?_⟩
 ·have:=ok.inv;rw[Z5K S] at this;exact this
 ·have h1:=Q9c ok.ord (S.now+1) x hx;have h2:=ok.due x ((J6Z _).subset hx);show S.now+1<x.2/\x.2<=S.now+1+S.period;omega
 ·have:=ok.age p hp;show p.age<=S.now+1/\(_->p.age+1<=S.now+1);omega
structure Ticked(S S':CO)(D:List Nat):Prop where
 c:S'.c=S.c
 t:S'.t=S.t
 g:S'.g=S.g
 per:S'.period=S.period
 same:SameP S.P S'.P
 now:S'.now=S.now
 ts:S'.ts=S.ts
 rv:S'.rv=S.rv
 next:S'.P.q.next=S.P.q.next
 mem:S'.P.a.mem=S.P.a.mem
 xc:S'.xc=S.xc
 high:∀j,6<=j->(S'.P.usedOf j).Perm (S.P.usedOf j)
 few:S'.P.d.ps.length<=S.P.d.ps.length
 age:∀(i:Nat) (p:Pl),S.l[i]?=some p->∃p':Pl,S'.l[i]?=some p'/\p.age<=p'.age
 root:S'.l[0]?=S.l[0]?
 keep:∀x p,x∉D->pget S.l 2 x=some p->pget S'.l 2 x=some p
 gone:∀x∈D,∃p':Pl,S'.l[x%256]?=some p'/\x/256<p'.age
 live:∀x,pget S'.l 1 x=pget S.l 1 x
theorem Ticked.refl(S:CO):Ticked S S []:=⟨rfl,rfl,rfl,rfl,SameP.refl _,rfl,rfl,rfl,rfl,rfl,rfl,fun _ _=>J6w _,J3b _,fun _ p h=>⟨p,h,J3b _⟩,rfl,fun _ _ _ h=>h,by simp,fun _=>rfl⟩
theorem Ticked.trans{S S1 S2:CO}{D E:List Nat}(h:Ticked S S1 D)(k:Ticked S1 S2 E):Ticked S S2 (D++E):=by
 refine⟨k.c.trans h.c,k.t.trans h.t,k.g.trans h.g,k.per.trans h.per,h.same.trans k.same,k.now.trans h.now,k.ts.trans h.ts,k.rv.trans h.rv,k.next.trans h.next,k.mem.trans h.mem,k.xc.trans h.xc,fun j hj=>(k.high j hj).trans (h.high j hj),J3c k.few h.few,fun i p hp=>?_,k.root.trans h.root,fun x p hx hp=>?_,fun x hx=>?_,fun x=>(k.live x).trans (h.live x)⟩
 ·obtain⟨p1,a1,a2⟩:=h.age i p hp;obtain⟨p2,b1,b2⟩:=k.age i p1 a1;exact⟨p2,b1,J3c a2 b2⟩
 ·rw[J3Q,not_or] at hx;exact k.keep x p hx.2 (h.keep x p hx.1 hp)
 ·rcases J3Q.1 hx with hx|hx
  ·obtain⟨p1,a1,a2⟩:=h.gone x hx;obtain⟨p2,b1,b2⟩:=k.age _ p1 a1;exact⟨p2,b1,by omega⟩
  ·exact k.gone x hx
theorem Mid.freed{S:CO}{fr fr':List Nat}{N K h:Nat}{zs:List Nat}(m:Mid S fr N K (h::zs)){p:Pl}(hp:pget S.l 2 h=some p){P':PL}(hs:SameP S.P P')(Az:P'.a.mem=S.P.a.mem)(hn:P'.q.next=S.P.q.next)(hh:∀j,6<=j->(P'.usedOf j).Perm (S.P.usedOf j))(hw:P'.d.ps.length<=S.P.d.ps.length)
  (EY:Inv P' (S.l.set (h%256) (noPl (p.age+1))) fr' S.xc (zs++S.ts.map Prod.fst)) :
  Mid ((S.setP P').setL (S.l.set (h%256) (noPl (p.age+1)))) fr' N K zs/\Ticked S ((S.setP P').setL (S.l.set (h%256) (noPl (p.age+1)))) [h]:=by
 obtain⟨hi,KE,Ap⟩:=pget_some.1 hp;have ha:=(m.age p (Q0z hp)).2 Ap;refine⟨⟨EY,m.per,m.due,m.ord,m.ov,by show P'.q.next<=N;rw[hn];exact m.next,m.now,fun q hq=>?_⟩,⟨rfl,rfl,rfl,rfl,hs,rfl,rfl,rfl,hn,Az,rfl,hh,hw,Z1Z hi (by show p.age<=p.age+1;omega),J6K (Z5I m.inv.que hi (by omega)),fun x q hx hq=>?_,fun x hx=>?_,fun x=>?_⟩⟩
 ·rcases Q0n hq with rfl|hq
  ·exact⟨ha,fun h=>by cases h⟩
  ·exact m.age q hq
 ·show pget (S.l.set (h%256) _) 2 x=some q;rw[Q0A _ hi,if_neg]
  ·exact hq
  ·intro e;exact hx (by rw[(Q0S hq hp e).1];simp)
 ·rw[J5j] at hx;subst hx;refine⟨noPl (p.age+1),J6S (J3t.1 hi).1,?_⟩;show x/256<p.age+1;unfold nm at KE;omega
 ·show pget (S.l.set (h%256) _) 1 x=_;rw[Q0A _ hi];split
  ·rename_i e;rw[if_neg (by rintro⟨_,h⟩;cases h)];cases hx:pget S.l 1 x with
   | none=>rfl
   | some q =>
    obtain⟨a,b,c⟩:=pget_some.1 hx;rw[e,hi] at a;cases a;omega
  ·rfl
theorem Ticked.went{S S':CO}{rv:OV}{D:List Nat}(t:Ticked (S.setG (S.now+1) rv (dueT S)) S' D):Went S S':=by
 have h0:=t.now;have h1:(S.setG (S.now+1) rv (dueT S)).now=S.now+1:=rfl;exact⟨t.c,t.t,t.g,t.per,t.same,by omega,t.age,fun e=>by omega,t.root,t.high,fun j a _ _=>by rw[t.mem];exact Kept.refl _ _ _,t.xc,fun e=>by omega⟩
structure Ent where
 h:Nat
 r:Nat
 nd:Nat
def Ent.a(e:Ent):Nat:=e.h+1+4294967296*e.r
def Q0s:Option Ent->Nat
 | none=>0
 | some e=>e.a
def Q0W:Option Ent->Nat
 | none=>0
 | some e=>e.nd
theorem codeA_zero{o:Option Ent}:Q0s o=0↔o=none:=by
 cases o with
 | none=>simp[Q0s]
 | some e=>simp[Q0s,Ent.a]
structure TB where
 lf:Nat->Nat
 en:Nat->Option Ent
def TB.emp:TB:=⟨fun _=>0,fun _=>none⟩
structure TB.In(t:TB)(m:List Nat)(a:Nat):Prop where
 root:∀k,k<16->Q0u m (a+8*k)=t.lf k
 ent:∀s,s<256->t.lf (s/16)≠0->Q0u m (t.lf (s/16)+16*(s%16))=Q0s (t.en s)/\Q0u m (t.lf (s/16)+16*(s%16)+8)=Q0W (t.en s)
 hole:∀s,s<256->t.lf (s/16)=0->t.en s=Option.none
def TB.Full(t:TB):Prop:=∀k,k<16->t.lf k≠0->∃s,s<256/\s/16=k/\t.en s≠none
def TB.Nil(t:TB):Prop:=(∀k,k<16->t.lf k=0)/\∀s,s<256->t.en s=none
theorem TB.emp_nil:TB.emp.Nil:=⟨fun _ _=>rfl,fun _ _=>rfl⟩
theorem TB.In.kept{t:TB}{m m':List Nat}{a:Nat}(h:t.In m a)(k1:Kept m m' a 128)(k2:∀k,k<16->t.lf k≠0->Kept m m' (t.lf k) 256):t.In m' a:=by
 refine⟨fun k hk=>?_,fun s hs hl=>?_,h.hole⟩
 ·rw[(k1.sub (b:=a+8*k) (k:=8) (by omega) (by omega)).word];exact h.root k hk
 ·have:=k2 (s/16) (by omega) hl;rw[(this.sub (b:=t.lf (s/16)+16*(s%16)) (k:=8) (by omega) (by omega)).word,(this.sub (b:=t.lf (s/16)+16*(s%16)+8) (k:=8) (by omega) (by omega)).word];exact h.ent s hs hl
theorem TB.Nil.new{t:TB}(hn:t.Nil){m:List Nat}{a:Nat}(h:∀j,a<=j->j<a+128->m[j]?=some 0):t.In m a:=by
 refine⟨fun k hk=>?_,fun s hs hl=>absurd (hn.1 (s/16) (by omega)) hl,fun s hs _=>hn.2 s hs⟩;have:(m.drop (a+8*k)).take 8=List.replicate 8 0:=by
  apply J4K
  intro j;rw[J5f,J5d];split
  ·rw[J5E];exact h _ (by omega) (by omega)
  ·rfl
 unfold Q0u;rw[this,hn.1 k hk];rfl
theorem TB.Nil.full{t:TB}(hn:t.Nil):t.Full:=fun k hk h=>absurd (hn.1 k hk) h
def TB.setE(t:TB)(s:Nat)(o:Option Ent):TB:={t with en:=fun x=>if x=s then o else t.en x}
def TB.setL(t:TB)(k a:Nat):TB:={t with lf:=fun x=>if x=k then a else t.lf x}
theorem TB.In.set{t:TB}{m m':List Nat}{a s:Nat}{o:Option Ent}(h:t.In m a)(hs:s<256)(hl:t.lf (s/16)≠0)(hk:∀b n,b+n<=t.lf (s/16)+16*(s%16)∨t.lf (s/16)+16*(s%16)+16<=b->Kept m m' b n)
  (ha:Q0u m' (t.lf (s/16)+16*(s%16))=Q0s o) (hb:Q0u m' (t.lf (s/16)+16*(s%16)+8)=Q0W o) (AA:a+128<=t.lf (s/16)∨t.lf (s/16)+256<=a)
  (Fu:∀k,k<16->k≠s/16->t.lf k≠0->t.lf k+256<=t.lf (s/16)∨t.lf (s/16)+256<=t.lf k):(t.setE s o).In m' a:=by
 refine⟨fun k Bt=>?_,fun x hx D2=>?_,fun x hx D2=>?_⟩
 ·show Q0u m' _=t.lf k;rw[(hk (a+8*k) 8 (by omega)).word];exact h.root k Bt
 ·have EQ:t.lf (x/16)≠0:=D2;show Q0u m' (t.lf (x/16)+_)=Q0s (if x=s then o else t.en x)/\Q0u m' (t.lf (x/16)+_+8)=Q0W (if x=s then o else t.en x);by_cases e:x=s
  ·subst e;rw[if_pos rfl];exact⟨ha,hb⟩
  ·rw[if_neg e];by_cases e2:x/16=s/16
   ·rw[e2] at EQ ⊢;have Aa:x%16≠s%16:=by omega
    have h0:=h.ent x hx (by rw[e2];exact EQ);rw[e2] at h0;rw[(hk (t.lf (s/16)+16*(x%16)) 8 (by omega)).word,(hk (t.lf (s/16)+16*(x%16)+8) 8 (by omega)).word];exact h0
   ·have:=Fu (x/16) (by omega) e2 EQ;rw[(hk (t.lf (x/16)+16*(x%16)) 8 (by omega)).word,(hk (t.lf (x/16)+16*(x%16)+8) 8 (by omega)).word];exact h.ent x hx EQ
 ·have EQ:t.lf (x/16)=0:=D2;show(if x=s then o else t.en x)=none;by_cases e:x=s
  ·subst e;exact absurd EQ hl
  ·rw[if_neg e];exact h.hole x hx EQ
theorem TB.In.grow{t:TB}{m m':List Nat}{a k L:Nat}(h:t.In m a)(hk:k<16)(hl:t.lf k=0)(hL:L≠0)(B6:Q0u m' (a+8*k)=L)(hz:∀j,L<=j->j<L+256->m'[j]?=some 0)
  (hr:∀x,x<16->x≠k->Kept m m' (a+8*x) 8) (Fu:∀x,x<16->t.lf x≠0->Kept m m' (t.lf x) 256):(t.setL k L).In m' a:=by
 refine⟨fun x hx=>?_,fun s hs E7=>?_,fun s hs E7=>?_⟩
 ·show Q0u m' _=if x=k then L else t.lf x
  by_cases e:x=k
  ·subst e;rw[if_pos rfl];exact B6
  ·rw[if_neg e,(hr x hx e).word];exact h.root x hx
 ·show Q0u m' ((if s/16=k then L else t.lf (s/16))+_)=Q0s (t.en s)/\Q0u m' ((if s/16=k then L else t.lf (s/16))+_+8)=Q0W (t.en s);by_cases e:s/16=k
  ·rw[if_pos e];have hn:=h.hole s hs (by rw[e];exact hl);rw[hn];have zw:∀b,L<=b->b+8<=L+256->Q0u m' b=0:=fun b h1 h2=>by
    have:(m'.drop b).take 8=List.replicate 8 0:=by
     apply J4K
     intro j;rw[J5f,J5d];split
     ·rw[J5E];exact hz _ (by omega) (by omega)
     ·rfl
    unfold Q0u;rw[this];rfl
   exact⟨zw _ (by omega) (by omega),zw _ (by omega) (by omega)⟩
  ·rw[if_neg e];have EU:t.lf (s/16)≠0:=by
    have:(if s/16=k then L else t.lf (s/16))≠0:=E7
    rwa [if_neg e] at this
   have:=Fu (s/16) (by omega) EU;rw[(this.sub (b:=t.lf (s/16)+16*(s%16)) (k:=8) (by omega) (by omega)).word,(this.sub (b:=t.lf (s/16)+16*(s%16)+8) (k:=8) (by omega) (by omega)).word];exact h.ent s hs EU
 ·have EU:(if s/16=k then L else t.lf (s/16))=0:=E7;show t.en s=none;by_cases e:s/16=k
  ·rw[if_pos e] at EU;exact absurd EU hL
  ·rw[if_neg e] at EU;exact h.hole s hs EU
theorem TB.In.drop{t:TB}{m m':List Nat}{a k:Nat}(h:t.In m a)(hk:k<16)(he:∀s,s<256->s/16=k->t.en s=none)(B6:Q0u m' (a+8*k)=0)
  (hr:∀x,x<16->x≠k->Kept m m' (a+8*x) 8) (Fu:∀x,x<16->x≠k->t.lf x≠0->Kept m m' (t.lf x) 256):(t.setL k 0).In m' a:=by
 refine⟨fun x hx=>?_,fun s hs E7=>?_,fun s hs E7=>?_⟩
 ·show Q0u m' _=if x=k then 0 else t.lf x
  by_cases e:x=k
  ·subst e;rw[if_pos rfl];exact B6
  ·rw[if_neg e,(hr x hx e).word];exact h.root x hx
 ·have EZ:(if s/16=k then 0 else t.lf (s/16))≠0:=E7;have e:s/16≠k:=fun e=>EZ (by rw[if_pos e])
  rw[if_neg e] at EZ;show Q0u m' ((if s/16=k then 0 else t.lf (s/16))+_)=Q0s (t.en s)/\Q0u m' ((if s/16=k then 0 else t.lf (s/16))+_+8)=Q0W (t.en s);rw[if_neg e];have:=Fu (s/16) (by omega) e EZ;rw[(this.sub (b:=t.lf (s/16)+16*(s%16)) (k:=8) (by omega) (by omega)).word,(this.sub (b:=t.lf (s/16)+16*(s%16)+8) (k:=8) (by omega) (by omega)).word];exact h.ent s hs EZ
 ·have EZ:(if s/16=k then 0 else t.lf (s/16))=0:=E7;show t.en s=none;by_cases e:s/16=k
  ·exact he s hs e
  ·rw[if_neg e] at EZ;exact h.hole s hs EZ
def TB.lvs(t:TB):List Nat:=(List.range 16).filterMap fun k=>if t.lf k=0 then none else some (t.lf k)
def TB.nds(t:TB):List Nat:=(List.range 256).filterMap fun s=>(t.en s).map Ent.nd
def TB.cost(t:TB):Int:=256*(t.lvs.length:Int)+48*(t.nds.length:Int)
theorem mem_lvs{t:TB}{a:Nat}:a∈t.lvs↔∃k,k<16/\t.lf k=a/\a≠0:=by
 unfold TB.lvs;simp only[J3r,J3s]
 constructor
 ·rintro⟨k,hk,h⟩;split at h
  ·cases h
  ·rename_i h0;cases h;exact⟨k,hk,rfl,h0⟩
 ·rintro⟨k,hk,rfl,h0⟩;exact⟨k,hk,by rw[if_neg h0]⟩
theorem mem_nds{t:TB}{a:Nat}:a∈t.nds↔∃s e,s<256/\t.en s=some e/\e.nd=a:=by
 unfold TB.nds;simp only[J3r,J3s]
 constructor
 ·rintro⟨s,hs,h⟩;obtain⟨e,h1,h2⟩:=J7a.1 h;exact⟨s,e,hs,h1,h2⟩
 ·rintro⟨s,e,hs,h1,h2⟩;exact⟨s,hs,by rw[h1,<- h2];rfl⟩
theorem Q2G{α β:Type}{f g:α->Option β}:∀{l:List α},(∀x∈l,f x=g x)->l.filterMap f=l.filterMap g
 | [],_=>rfl
 | x::r,h=>by rw[J3o,J3o,h x (by simp),Q2G (l:=r) fun y hy=>h y (by simp[hy])]
theorem Q8l{α β:Type}(f g:Nat->Option β)(n i:Nat)(hi:i<n)(h:∀j,j<n->j≠i->g j=f j):∃A B,(List.range n).filterMap f=A++(f i).toList++B/\(List.range n).filterMap g=A++(g i).toList++B:=by
 have e:List.range n=List.range i++i::(List.range' (i+1) (n-(i+1))):=by
  rw[List.range_eq_range',List.range_eq_range'];have h1:List.range' 0 n=List.range' 0 i++List.range' i (n-i):=by
   have:=List.range'_append (s:=0) (m:=i) (n:=n-i) (step:=1);simp only[Nat.one_mul,J5G] at this;rw[this];congr 1;omega
  rw[h1];congr 1;have:n-i=(n-(i+1))+1:=by omega
  rw[this,List.range'_succ]
 have s1:∀(f:Nat->Option β),(List.range n).filterMap f=(List.range i).filterMap f++(f i).toList++(List.range' (i+1) (n-(i+1))).filterMap f:=fun f=>by
  rw[e,J3n,J3o];cases f i <;> simp
 refine⟨(List.range i).filterMap f,(List.range' (i+1) (n-(i+1))).filterMap f,s1 f,?_⟩;rw[s1 g];have c1:(List.range i).filterMap g=(List.range i).filterMap f:=Q2G fun j hj=>h j (by have:=J3s.1 hj;omega) (by have:=J3s.1 hj;omega)
 have c2:(List.range' (i+1) (n-(i+1))).filterMap g=(List.range' (i+1) (n-(i+1))).filterMap f:=Q2G fun j hj=>by
  have:=List.mem_range'_1.1 hj;exact h j (by omega) (by omega)
 rw[c1,c2]
theorem TB.nds_set{t:TB}{s:Nat}(hs:s<256){e:Ent}(h0:t.en s=none):(t.setE s (some e)).nds.Perm (e.nd::t.nds):=by
 obtain⟨A,B,e1,e2⟩:=Q8l (α:=Nat) (fun s=>(t.en s).map Ent.nd) (fun x=>((t.setE s (some e)).en x).map Ent.nd) 256 s hs (fun j _ hj=>by simp[TB.setE,hj]);unfold TB.nds;rw[e1,e2];simp only[TB.setE,if_true,h0,J4Q,Option.map_none,J7b,J7c,J5i];rw[J4c];exact J6H
theorem TB.nds_clr{t:TB}{s:Nat}(hs:s<256){e:Ent}(h0:t.en s=some e):t.nds.Perm (e.nd::(t.setE s none).nds):=by
 obtain⟨A,B,e1,e2⟩:=Q8l (α:=Nat) (fun s=>(t.en s).map Ent.nd) (fun x=>((t.setE s none).en x).map Ent.nd) 256 s hs (fun j _ hj=>by simp[TB.setE,hj]);unfold TB.nds;rw[e1,e2];simp only[TB.setE,if_true,h0,J4Q,Option.map_none,J7b,J7c,J5i];rw[J4c];exact J6H
theorem TB.nds_same{t:TB}{s:Nat}(hs:s<256){e e':Ent}(h0:t.en s=some e)(hn:e'.nd=e.nd):(t.setE s (some e')).nds=t.nds:=by
 unfold TB.nds;refine Q2G fun x _=>?_
 by_cases h:x=s
 ·subst h;simp[TB.setE,h0,hn]
 ·simp[TB.setE,h]
theorem TB.lvs_new{t:TB}{k a:Nat}(hk:k<16)(h0:t.lf k=0)(ha:a≠0):(t.setL k a).lvs.Perm (a::t.lvs):=by
 obtain⟨A,B,e1,e2⟩:=Q8l (α:=Nat) (fun k=>if t.lf k=0 then none else some (t.lf k)) (fun x=>if (t.setL k a).lf x=0 then none else some ((t.setL k a).lf x)) 16 k hk (fun j _ hj=>by simp[TB.setL,hj]);unfold TB.lvs;rw[e1,e2];simp only[TB.setL,if_true,h0,if_neg ha,J7b,J7c,J5i];rw[J4c];exact J6H
theorem TB.lvs_drop{t:TB}{k:Nat}(hk:k<16)(h0:t.lf k≠0):t.lvs.Perm (t.lf k::(t.setL k 0).lvs):=by
 obtain⟨A,B,e1,e2⟩:=Q8l (α:=Nat) (fun k=>if t.lf k=0 then none else some (t.lf k)) (fun x=>if (t.setL k 0).lf x=0 then none else some ((t.setL k 0).lf x)) 16 k hk (fun j _ hj=>by simp[TB.setL,hj]);unfold TB.lvs;rw[e1,e2];simp only[TB.setL,if_true,if_neg h0,J7b,J7c,J5i];rw[J4c];exact J6H
theorem TB.Nil.lists{t:TB}(hn:t.Nil):t.lvs=[]/\t.nds=[]/\t.cost=0:=by
 have h1:t.lvs=[]:=by
  apply J7d.2
  intro a ha;obtain⟨k,hk,e,h0⟩:=mem_lvs.1 ha;rw[hn.1 k hk] at e;exact h0 e.symm
 have h2:t.nds=[]:=by
  apply J7d.2
  intro a ha;obtain⟨s,e,hs,h,_⟩:=mem_nds.1 ha;rw[hn.2 s hs] at h;cases h
 refine⟨h1,h2,?_⟩;unfold TB.cost;rw[h1,h2];rfl
theorem TB.nil_of{t:TB}(hf:t.Full)(h:∀s,s<256->t.en s=none):t.Nil:=by
 refine⟨fun k hk=>?_,h⟩
 apply Classical.byContradiction
 intro h0;obtain⟨s,hs,_,Aa⟩:=hf k hk h0;exact Aa (h s hs)
theorem TB.cost_nn(t:TB):0<=t.cost:=by unfold TB.cost;omega
theorem Q5f{P:Program}(w:World){ops:Array Oper}{rest:List Oper}{o:Oper}{a:Act}{Q:Exit->Act->World->Prop}
  (hg:o.guard=none) (m k x:Operand) (t K V:TypeId) (hop:o.op=.insert t m k x) (hT:P.underlying t=some (.map K V)) (hK:P.underlying K=some (.int .i64))
  (b:Nat) (kv:List (Int×Value)) (h:Q0x w b kv) (id:Int) (u:Value) (hm:a.eval m=.map (some b)) (hk:a.eval k=.int .i64 id) (hx:a.eval x=u)
  (hK':∀w',Q0x w' b (put kv id u)->w.grownBy w' (some b)->wpList P ops Q rest (a.put o.dst undef) w'):wpList P ops Q (o::rest) a w:=by
 refine wpList_plain hg fun K' hK''=>?_
 obtain⟨w',Ei,r1,r2⟩:=Q1D (P:=P) h id u hT hK;unfold Oper.wp;simp[execOp,hop,hm,hk,hx,Ei,Result.andThen];exact hK'' _ _ (hK' w' r1 r2)
def Q2w(t m b:Nat)(limit:Int):QT:=⟨t,m,[⟨0,b,⟨limit,0,0,-1,0⟩⟩],1⟩
theorem Z8E(t m b:Nat)(limit:Int)(h0:0<=limit)(h1:limit<=1073741824):(Q2w t m b limit).Ok:=by
 refine⟨by simp[Q2w],by simp[Q2w],by simp[Q2w],fun id e he=>?_⟩;simp only[Q2w,find] at he;by_cases h:id=0
 ·simp[h] at he;subst he;subst h;simp[Q2w];omega
 ·simp[h] at he
def NewQ(limit:Int)(H:HL)(w:World)(r:Ending)(w':World):Prop:=∃t m b,r=.returned (.pointer (some ⟨t,0,none⟩))/\Step H ((Q2w t m b limit).hl++H) w w'
theorem Z8F{w:World}{H:HL}(h:Sep w H)(limit:Int)(h0:0<=limit)(h1:limit<=1073741824):Calls prog 62 #[.int .i64 limit] w (NewQ limit H w):=by
 have HR:Hid (∀w1,Q0x w1 w.heap.size [(0,.pointer (some ⟨w.heap.size+1,0,none⟩))]->((w.alloc (.map #[] 0)).alloc (.cells #[.int .i64 limit,.int .i64 0,.int .i64 0,.int .i64 (-1),.int .i64 0] 147)).grownBy w1 (some w.heap.size) ->
   NewQ limit H w (.returned (.pointer (some ⟨w1.heap.size,0,none⟩))) (w1.alloc (.cells #[.map (some w.heap.size),.int .i64 1] 150))):=fun w1 hm hg=>by
  have s1:=h.newMap;have s2:=s1.sep.new 147 [.int .i64 limit,.int .i64 0,.int .i64 0,.int .i64 (-1),.int .i64 0];have e1:(w.alloc (.map #[] 0)).heap.size=w.heap.size+1:=by simp
  rw[e1] at s2;obtain⟨es,Ah,ho,hr⟩:=hm;have s3:=Sep.turn (A:=[(w.heap.size+1,isC 147 [.int .i64 limit,.int .i64 0,.int .i64 0,.int .i64 (-1),.int .i64 0])]) (q':=isMI [(0,.pointer (some ⟨w.heap.size+1,0,none⟩))]) s2.sep hg ⟨_,ho,es,Ah,rfl,hr⟩;have s4:=s3.sep.new 150 [.map (some w.heap.size),.int .i64 1];refine⟨w1.heap.size,w.heap.size,w.heap.size+1,rfl,?_⟩;have:=((s1.trans s2).trans s3).trans s4;refine this.perm (J6w _) ?_;simp only[Q2w,QT.hl,facH,kvs,J3e,J5I,J5n,J5m,Fa.cells,ptr];refine List.Perm.cons _ ?_;exact List.Perm.swap _ _ _
 have hM:Q0x ((w.alloc (.map #[] 0)).alloc (.cells #[.int .i64 limit,.int .i64 0,.int .i64 0,.int .i64 (-1),.int .i64 0] 147)) w.heap.size []:=(MapIs.new w).alloc _;have J8:=@run_makeMap prog;clear h;go_enter func62,ntmps62;go_wp2_with (refine Q5f _ rfl _ _ _ 148 3 140 rfl underlying148 underlying3 w.heap.size [] hM 0 (.pointer (some ⟨w.heap.size+1,0,none⟩)) rfl rfl rfl ?_;intro w1 DH Ch;have Hk:=Q0a (HR.out w1 DH Ch);clear DH Ch);go_ret;exact Hk.out
theorem J2d{w:World}(hT:TabB w)(k:Nat)(hk:k<64) :
  Calls prog 125 #[.int .u64 ((2 ^ k:Nat):Int)] w fun r w'=>r=.returned (.int .i64 k)/\w=w':=by
 have k1:=Z1D hT (fun j=>j==k) k hk (by simp) (fun j hj=>by simp;omega);rw[Z1T k hk] at k1;clear hT;have b2:2 ^ k<18446744073709551616:=by
  have:=J4u (a:=2) (by omega) hk;exact J3d this (by decide)
 generalize 2 ^ k=n at *
 go_enter func125,ntmps125;go_wp2_with (go_at_call 135;refine k1.mono ?_;rintro e w'⟨rfl,rfl⟩);go_ret;exact⟨rfl,rfl⟩
def J0W(top:Nat)(H:HL)(w:World)(r:Ending)(w':World):Prop:=∃d:BD,r=.returned (.pointer (some ⟨d.b,0,none⟩))/\d.top=top/\d.ps=[]/\d.At/\Step H (d.hl++H) w w'
theorem BD.snoc{w w1:World}{H:HL}{d:BD}(h:Sep w (d.hl++H))(hl:d.bms.length<21)(m:BM)(hs:Step (d.hl++H) (m.hl++(d.hl++H)) w w1) :
  Step (d.hl++H) (({d with bms:=d.bms++[m]}:BD).hl++H) w (w1.setCell ⟨d.b,1+d.bms.length,none⟩ (ptr m.b)):=by
 have ec:d.cells.set (1+d.bms.length) (ptr m.b)=({d with bms:=d.bms++[m]}:BD).cells:=by
  unfold BD.cells;rw[J4l,J5M];congr 1;simp only[J3M,J7e,J6G,J3e,J5I];rw[show 21-d.bms.length=(21-(d.bms.length+1))+1 from by omega,List.replicate_succ,J4c,J6U _ _ (by simp),J4L,J6u];simp
 have hp:(m.hl++(d.hl++H)).Perm (d.hl++(m.hl++H)):=by
  rw[<- J4c,<- J4c];exact J5O H J5P
 have h1:=hs.sep.perm hp;have h2:Sep w1 ([]++(d.b,isC 158 d.cells)::((d.mb,isMI (upk d.ps))::d.bms.flatMap BM.hl++(m.hl++H))):=h1;have h3:=h2.set (1+d.bms.length) (ptr m.b);rw[ec] at h3;have h4:Step (d.hl++H) (d.hl++(m.hl++H)) w w1:=hs.perm (J6w _) hp;refine(h4.trans h3).perm (J6w _) ?_;unfold BD.hl;simp only[J5m,J5n,J3K,J3z,J7f,J5i,J4c];exact J6w _
theorem Z5L{w:World}{H:HL}(h:Sep w H)(top:Nat)(h1:6<=top)(h2:top<=20):Calls prog 63 #[.int .i64 ((2 ^ (top+10):Nat):Int)] w (J0W top H w):=by
 have k1:=Z1U (w:=w) (top+10) (by omega);have k2:=J2d h.env.tabB top (by omega);have b1:65536<=2 ^ (top+10):=J3c (by decide:65536<=2 ^ 16) (J4q (by omega) (by omega));have b2:2 ^ (top+10)<=1073741824:=J3c (J4q (by omega) (by omega)) (by decide:2 ^ 30<=1073741824);have Kk:((2 ^ (top+10):Nat):Int)/1024=((2 ^ top:Nat):Int):=by
  rw[J4D,show(2:Nat) ^ 10=1024 from rfl];omega
 have bt:2 ^ top<=1048576:=by have:=Q1H (k:=0) h2;simpa using this
 generalize 2 ^ (top+10)=n at *
 generalize 2 ^ top=t at *
 have h0:Hid (Step H ((⟨w.heap.size+1,w.heap.size,top,[],[]⟩:BD).hl++H) w ((w.alloc (.map #[] 0)).alloc (.cells (BD.cells ⟨w.heap.size+1,w.heap.size,top,[],[]⟩).toArray 158))):=by
  have s1:=h.newMap;have s2:=s1.sep.new 158 (BD.cells ⟨w.heap.size+1,w.heap.size,top,[],[]⟩);have:=s1.trans s2;show Step _ _ _ _
  simpa[BD.hl,upk,isMI] using this
 have HR:=Q0a (show ∀(k:Nat) (bms:List BM) (wr:World),k<=top->bms.length=k->(∀j m,bms[j]?=some m->m.bits=List.replicate (2 ^ (top-j)) false)->Step H ((⟨w.heap.size+1,w.heap.size,top,bms,[]⟩:BD).hl++H) w wr ->
   wr.cell? ⟨w.heap.size+1,0,none⟩=some (.int .i64 top)/\wr.cell? ⟨w.heap.size+1,1+k,none⟩=some (.pointer none)/\wr.frozen? ⟨w.heap.size+1,1+k,none⟩=false /\
   Calls prog 126 #[.int .i64 ((2 ^ (top-k):Nat):Int)] wr.drew fun r w1=>∃mb:Nat,r=.returned (.pointer (some ⟨mb,0,none⟩))/\(w1.cell? ⟨w.heap.size+1,0,none⟩=some (.int .i64 top)/\w1.cell? ⟨w.heap.size+1,1+k,none⟩=some (.pointer none)/\w1.frozen? ⟨w.heap.size+1,1+k,none⟩=false)/\(∀v,(w1.setCell ⟨w.heap.size+1,1+k,none⟩ v).cell? ⟨w.heap.size+1,0,none⟩=some (.int .i64 top)) /\
    ∃bms',bms'.length=k+1/\(∀j m,bms'[j]?=some m->m.bits=List.replicate (2 ^ (top-j)) false)/\Step H ((⟨w.heap.size+1,w.heap.size,top,bms',[]⟩:BD).hl++H) w (w1.setCell ⟨w.heap.size+1,1+k,none⟩ (.pointer (some ⟨mb,0,none⟩))) from fun k bms wr hk Ac hb Ap=>by
  have hs:=Ap.sep.left;have cells:∀{w1:World},Sep w1 (⟨w.heap.size+1,w.heap.size,top,bms,[]⟩:BD).hl->w1.cell? ⟨w.heap.size+1,0,none⟩=some (.int .i64 top)/\w1.cell? ⟨w.heap.size+1,1+k,none⟩=some (.pointer none)/\w1.frozen? ⟨w.heap.size+1,1+k,none⟩=false:=by
   intro w1 C5;have hc:=BD.sepC C5;refine⟨hc.cell 0 _ rfl,hc.cell (1+k) _ ?_,hc.free _⟩;unfold BD.cells;rw[show 1+k=k+1 from J4l 1 k,J6p,J4c,J6r (by simp[Ac]),J4L,Ac,J6u,J6q (by simp;omega),J5d,if_pos (by omega)]
  refine⟨(cells hs).1,(cells hs).2.1,(cells hs).2.2,(Q8K Ap.sep.drew (2 ^ (top-k)) (Q1H h2)).mono ?_⟩;rintro r w1⟨m,rfl,Gv,C5⟩;have AB:=C5.from_drew;refine⟨m.b,rfl,cells (C5.sep.right.left),fun v=>((BD.sepC C5.sep.right.left).set (1+k) v).cell 0 _ (by unfold BD.cells;rw[show 1+k=k+1 from J4l 1 k,J5M];rfl),bms++[m],by simp[Ac],?_,?_⟩
  ·intro j x hx;by_cases hj:j<bms.length
   ·rw[J6q hj] at hx;exact hb j x hx
   ·rw[J6r (by omega)] at hx;have KW:j=k:=by
     have:=(J3t.1 hx).1;simp at this;omega
    subst KW;rw[Ac,J6u] at hx;cases hx;exact Gv
  ·have:=Ap.trans (BD.snoc Ap.sep (by show bms.length<21;omega) m AB);rw[Ac] at this;exact this)
 have Ff:=Q0a (show ∀(bms:List BM) (wr:World),bms.length=top+1->(∀j m,bms[j]?=some m->m.bits=List.replicate (2 ^ (top-j)) false)->Step H ((⟨w.heap.size+1,w.heap.size,top,bms,[]⟩:BD).hl++H) w wr ->
   wr.cell? ⟨w.heap.size+1,0,none⟩=some (.int .i64 top)/\∃b,wr.cell? ⟨w.heap.size+1,1+top,none⟩=some (.pointer (some ⟨b,0,none⟩)) /\
   Calls prog 127 #[.pointer (some ⟨b,0,none⟩),.bool true,.slice (some ⟨wr.heap.size,0,none⟩) 1 1] (wr.alloc (.cells #[.int .i64 0] 3)).drew fun r w1=>r=.returned (.int .i64 1)/\(w1.cell? ⟨w.heap.size+1,0,none⟩=some (.int .i64 top)/\w1.cell? ⟨w.heap.size+1,1+top,none⟩=some (.pointer (some ⟨b,0,none⟩)))/\J0W top H w (.returned (.pointer (some ⟨w.heap.size+1,0,none⟩))) w1 from fun bms wr Ac hb Ap=>by
  have hs:=Ap.sep.left;have As:(⟨w.heap.size+1,w.heap.size,top,bms,[]⟩:BD).Is fun _ _=>false:=by
   refine⟨Ac,h2,fun k m hm=>?_⟩;rw[hb k m hm]
   apply J4K
   intro j;rw[J5d,J4N];by_cases hj:j<2 ^ (top-k)
   ·rw[if_pos hj,J4P hj];rfl
   ·rw[if_neg hj,J4R (by simp;omega)];rfl
  obtain⟨b,h3,h4⟩:=Q8R (w:=wr.drew) hs.drew As top 0 true (J3b _) (J4r _) (by decide);refine⟨BD.c0 hs,b,h3,h4.mono ?_⟩;rintro r w1⟨rfl,d',AI,If⟩;have etop:d'.top=top:=AI.top;have eps:d'.ps=[]:=AI.ps;have eb:d'.b=w.heap.size+1:=AI.b;have G5:(bms.map BM.b)[top]?=some b:=by
   have Ab:top<bms.length:=by omega
   have hg:=J5t Ab;have hc:=BD.cf hs.drew top _ hg;rw[h3] at hc;rw[J4N,hg];cases hc;rfl
  refine⟨rfl,⟨by have:=BD.c0 AI.step.sep;rw[eb,etop] at this;exact this,AI.ptr G5⟩,d',by rw[eb],etop,eps,⟨⟨If.len,If.top,?_⟩,by rw[eps];exact J7g,by rw[eps];simp⟩,?_⟩
  ·intro k m hm;rw[If.bits k m hm];have Ew:k<=d'.top:=by
    have q1:k<d'.bms.length:=(J3t.1 hm).1;have q2:d'.bms.length=d'.top+1:=If.len;omega
   rw[etop] at Ew ⊢
   apply J5l
   intro x hx;rw[eps,Z8m (uOf []) top (by simp[uOf]) k x Ew (J3s.1 hx)];unfold upG;by_cases hk:k=top
   ·subst hk;have:x=0:=by have:=J3s.1 hx;simp at this;exact this
    simp[this]
   ·simp[hk]
  ·have:=Step.frame [] H (by simpa using Ap.sep) AI.step.from_drew;exact Ap.trans (by simpa using this))
 have Ln:Hid (∃bms:List BM,bms.length=0/\(∀j m,bms[j]?=some m->m.bits=List.replicate (2 ^ (top-j)) false)/\Step H ((⟨w.heap.size+1,w.heap.size,top,bms,[]⟩:BD).hl++H) w ((w.alloc (.map #[] 0)).alloc (.cells (Array.mk (.int .i64 top::(List.replicate 21 (.pointer none)++[.map (some w.heap.size)]))) 158))):=
  ⟨[],rfl,by simp,h0.out⟩
 clear h0;have Bw:((w.alloc (.map #[] 0)).alloc (.cells (Array.mk (.int .i64 top::(List.replicate 21 (.pointer none)++[.map (some w.heap.size)]))) 158)).cell? ⟨w.heap.size+1,0,none⟩=some (.int .i64 top):=by
  simp
 have J8:=@run_makeMap prog;clear h;go_enter func63,ntmps63;go_wp2_with (first|(go_at_call 124;refine k1.mono ?_;rintro e w'⟨rfl,rfl⟩)|(go_at_call 125;refine k2.mono ?_;rintro e w'⟨rfl,rfl⟩))
 go_loopw [29] (fun kv wr=>∃(k:Nat) (bms:List BM),kv=.int .i64 k/\k<=top+1/\bms.length=k/\(∀j m,bms[j]?=some m->m.bits=List.replicate (2 ^ (top-j)) false)/\Step H ((⟨w.heap.size+1,w.heap.size,top,bms,[]⟩:BD).hl++H) w wr) (fun kv _=>top+1-(intOf kv).toNat)
 case atStart =>
  obtain⟨bms,q1,q2,q3⟩:=Ln.out;exact⟨0,bms,rfl,by omega,q1,q2,q3⟩
 case round =>
  clear Bw Ln k1 k2;obtain⟨k,bms,rfl,hk,q1,q2,q3⟩:=hrel;by_cases Ab:k<=top
  ·obtain⟨c0,c1,cf,AR⟩:=HR.out k bms wr Ab q1 q2 q3;have d0:wr.drew.cell? ⟨w.heap.size+1,0,none⟩=some (.int .i64 top):=c0;have d1:wr.drew.cell? ⟨w.heap.size+1,1+k,none⟩=some (.pointer none):=c1;have df:wr.drew.frozen? ⟨w.heap.size+1,1+k,none⟩=false:=cf;have Cz:=Q0a AR;clear AR q1 q2 q3;have C5:IntKind.i64.wrap ((top:Int)-k)=((top-k:Nat):Int):=by rw[Go.IntWalk.i64_in _ (by omega)];omega
   have AB:IntKind.i64.wrap (2 ^ (top-k))=((2 ^ (top-k):Nat):Int):=by
    have hp:=Q1H (k:=k) h2;have e:(2:Int) ^ (top-k)=((2 ^ (top-k):Nat):Int):=by push_cast;rfl
    rw[e];generalize 2 ^ (top-k)=y at hp ⊢;exact Go.IntWalk.i64_in _ (by omega)
   have PK:(0:Int)<=k:=by omega
   have L4:(k:Int)<21:=by omega
   go_wp2_with fail
   go_region_held3 (fun w'=>w'.cell? ⟨w.heap.size+1,0,none⟩=some (.int .i64 top))
    (first|exact c0|exact d0|exact e0|exact ek _)
    (first|(go_at_call 126;refine Cz.out.mono ?_;rintro r w1⟨mb,rfl,⟨e0,e1,ef⟩,ek,B3⟩;have Ht:=Q0a B3;clear B3))
   go_wp2_with fail;obtain⟨bms',r1,r2,r3⟩:=Ht.out;go_roundw
   case rel=>exact⟨k+1,bms',by go_num,by omega,r1,r2,r3⟩
   case measure=>simp[intOf];omega
  ·obtain rfl:k=top+1:=by omega
   obtain⟨c0,b,c1,Ba⟩:=Ff.out bms wr q1 q2 q3;clear q1 q2 q3;have d0:wr.drew.cell? ⟨w.heap.size+1,0,none⟩=some (.int .i64 top):=c0;have d1:wr.drew.cell? ⟨w.heap.size+1,1+top,none⟩=some (.pointer (some ⟨b,0,none⟩)):=c1;have PK:(0:Int)<=top:=by omega
   have L4:(top:Int)<21:=by omega
   have CI:=Q0a Ba;clear Ba;go_wp2_with fail
   go_region_held3 (fun w'=>w'.cell? ⟨w.heap.size+1,0,none⟩=some (.int .i64 top)/\w'.cell? ⟨w.heap.size+1,1+top,none⟩=some (.pointer (some ⟨b,0,none⟩)))
    (first|exact⟨c0,c1⟩|exact⟨d0,d1⟩|exact⟨e0,e1⟩|go_keep)
    (first|(go_at_call 127;refine CI.out.mono ?_;rintro r w1⟨rfl,⟨e0,e1⟩,B3⟩;have Ht:=Q0a B3;clear B3))
   go_wp2_with fail;go_ret;exact Ht.out
def J2e(bb s:Nat)(H:HL)(w:World)(r:Ending)(w':World):Prop:=
 ∃c,r=.returned (ptr c)/\Step H ((⟨c,bb,s,none,[]⟩:CA).hl++H) w w'
theorem CA.ok_new(c bb s:Nat)(s0:16<=s)(s1:s<=512):(⟨c,bb,s,none,[]⟩:CA).Ok:=⟨rfl,s0,s1,.nil,by simp,by simp,by simp⟩
theorem Z0D{w:World}{H:HL}(h:Sep w H)(bb s:Nat)(s0:16<=s)(s1:s<=512)(sm:s%16=0):Calls prog 65 #[ptr bb,.int .i64 s] w (J2e bb s H w):=by
 have HR:Hid (J2e bb s H w (.returned (ptr w.heap.size)) (w.alloc (.cells #[ptr bb,.int .i64 s,.slice none 0 0] 233))):=
  ⟨w.heap.size,rfl,h.new 233 [ptr bb,.int .i64 s,.slice none 0 0]⟩
 have hr:IntKind.i64.wrap ((s:Int).tmod 16)=0:=by rw[J4T (by omega)];rw[show(s:Int)%16=0 by omega];rfl
 have GY:(s:Int).tmod 16=0:=by rw[J4T (by omega)];omega
 have h1:decide ((s:Int)<16)=false:=by simp;omega
 have h2:decide ((512:Int)<s)=false:=by simp;omega
 clear sm h;unfold ptr at *
 go_enter func65,ntmps65;go_wp2_with fail;go_ret;exact HR.out
end Go.Proofs.YtfidemmgofcnmaaGreatDoor
