/- SpaceFails returns true at every input. No condition. Part of its proof. -/
import Derived.Test.YtfidemmgofcnmaaGreatDoorSf26
import Derived.Great.Ranges
set_option maxHeartbeats 4000000
set_option maxRecDepth 100000
set_option linter.unusedVariables false
namespace Go.Proofs.YtfidemmgofcnmaaGreatDoor
open Go.RowKit Go.Proofs.Tryz
theorem Q8A{P:Program}{ops:Array Oper}{rest:List Oper}{o:Oper}{a:Act}{w:World}{Q:Exit->Act->World->Prop}(hg:o.guard=none)(t:TypeId)(ho:o.op=.build t #[])(dst:Option Tmp)(hdst:o.dst=dst)(cells:Array Value)
  (hb:P.built t []=some cells)
  (h:wpList P ops Q rest (a.put dst (.agg cells)) w):wpList P ops Q (o::rest) a w:=by
 subst hdst;have e:(Array.map (fun(x:Nat×Operand)=>match x with|(i,x)=>(i,a.eval x)) #[]).toList=[]:=by simp
 refine wpList_build hg t #[] ho (by rw[e,hb];rfl) ?_;rw[e,hb];exact h
def tabZ:List Value:=(List.replicate 256 (noPl 0)).flatMap Pl.cells
theorem Z4i:prog.built 302 (([]:List (Nat×Value)))=some tabZ.toArray:=by kernel_rfl
theorem Z4j:(Value.agg tabZ.toArray).cells=tabZ.toArray:=by kernel_rfl
def J2v(H:HL)(w:World)(r:Ending)(w':World):Prop:=∃t,r=.returned (.pointer (some ⟨t,0,none⟩))/\Step H ((⟨t,List.replicate 256 (noPl 0)⟩:HT).hl++H) w w'
theorem Z9C{w:World}{H:HL}(h:Sep w H):Calls prog 147 #[] w (J2v H w):=by
 have HR:Hid (J2v H w (.returned (.pointer (some ⟨w.heap.size,0,none⟩))) (w.alloc (.cells tabZ.toArray 302))):=⟨_,rfl,h.new 302 tabZ⟩
 clear h;have hz:=Z4i;have hc:=Z4j;generalize tabZ.toArray=Z at *
 go_enter func147,ntmps147
 repeat (first|refine Q8A rfl 302 rfl _ rfl Z hz ?_|refine Go.Great.wpList_boxTo rfl 302 _ rfl _ rfl _ rfl Z hc ?_|go_step)
 (try go_ret);exact HR.out
theorem Z7n(top k i:Nat):fre (uOf []) top k i=(k==top):=by
 have hc:∀k i,clr (uOf []) k i=true:=fun k i=>(clr_iff _ _ _).2 fun p _=>by simp[uOf]
 unfold fre;rw[hc,hc];simp
theorem Z2z(top:Nat):(∀k,k<top->fstG (fre (uOf []) top) top k 0=none)/\fstG (fre (uOf []) top) top top 0=some 0:=by
 refine⟨fun k hk=>Q5T fun i _ hi=>?_,Q5S ?_ (J3b _) ?_ fun i h0 h1=>by omega⟩
 ·rw[J4N];have:i<2 ^ (top-k):=by simpa using hi
  rw[J4P this];show(fre (uOf []) top k i)≠true;rw[Z7n];simp;omega
 ·simp
 ·rw[J6u];show((List.map _ [0])[0]?).getD false=true;show fre (uOf []) top top 0=true;rw[Z7n];simp
theorem Z7o{c:CA}{d:BD}{a:Nat}{ps':List Nat}(DT:c.pg=[])(Fk:d.ps=[])(h:J2c c d a ps'):a=64/\ps'=[0]:=by
 rcases h with ⟨k,x,i,hx,_⟩|⟨_,k0,i0,hk,hf,hp,ha,hq⟩
 ·rw[DT] at hx;simp at hx
 ·rw[Fk] at hf hp;obtain⟨f1,f2⟩:=Z2z d.top;have UM:k0=d.top:=by
   rcases J5K k0 d.top with e|e
   ·rw[f1 k0 e] at hf;cases hf
   ·omega
  subst UM;rw[f2] at hf;cases hf;rw[Fk] at hq;exact⟨by rw[ha];unfold addr;omega,by rw[hq];simp⟩
theorem Z1l{P:PL}{n:Nat}(Fk:P.d.ps=[]):¬NoRoom P n:=by
 rintro⟨c,hc,_,hn⟩;rw[Fk] at hn;have:=hn P.d.top (J3b _);rw[(Z2z P.d.top).2] at this;cases this
theorem Z9D{w:World}{P:PL}(h:Sep w P.hl){top:Nat}{limit:Int}(hf:FreshP P top limit)(hl:P.cs.length=7)(h1:6<=top)(h0:64<=limit)(hm:limit<=1073741824) :
  Calls prog 15 #[.pointer (some ⟨P.p,0,none⟩),.int .i64 0,.int .i64 1] w fun r w'=>r=.returned (.tuple #[.int .i64 64,.int .i64 0])/\∃P',GotM P [] 0 1 64 P' []/\P'.d.ps=[0]/\(∃b,P'.q.E=[⟨0,b,⟨limit,64,0,-1,0⟩⟩])/\P'.q.next=1/\Step P.hl P'.hl w w':=by
 have ok:=hf.ok hl h1 (by omega) hm;have DT:=Z8J ok fun j=>Q7z hf j
 obtain⟨t,m,b,hq⟩:=hf.q;have Hc:find P.q.E 0=some ⟨0,b,⟨limit,0,0,-1,0⟩⟩:=by rw[hq];rfl
 refine(Q5G h ok 0 1).mono ?_;rintro r w' (⟨h0,_⟩|⟨_,h0,_⟩|⟨_,⟨e',h2,h3⟩,_⟩|⟨n,e',hn,_,_,h2,_,hr⟩)
 ·exact absurd h0 (by decide)
 ·rw[Hc] at h0;cases h0
 ·rw[Hc] at h2;cases h2;have:((Q1j 1:Nat):Int)=64:=rfl;rw[this] at h3;simp at h3;omega
 ·have Ds:n=1:=by omega
  subst Ds;rcases hr with ⟨a,P',rfl,g,Ap⟩|⟨Aq,_⟩
  ·obtain⟨c,_,hc,_,ht⟩:=g.which;obtain⟨rfl,PG⟩:=Z7o (DT _ c hc.2) hf.ps ht.which;have gm:=g.gotM ok;obtain⟨ML,hE,B3,_⟩:=gm.acc (own:=0) Hc;refine⟨rfl,P',gm,PG,⟨b,?_⟩,?_,Ap⟩
   ·rw[hE,hq];simp[Q2w,upd,costK,Q0c]
   ·rw[B3,hq];rfl
  ·exact absurd Aq (Z1l hf.ps)
structure Z0d(S:CO)(top:Nat)(limit:Int)(period:Nat):Prop where
 ok:S.Ok [] 1 0
 l:S.l=newL 64
 ts:S.ts=[]
 now:S.now=0
 period:S.period=period
 top:S.P.d.top=top
 next:S.P.q.next=1
 ps:S.P.d.ps=[0]
 q:∃b,S.P.q.E=[⟨0,b,⟨limit,64,0,-1,0⟩⟩]
 xc:S.xc=x0
 high:∀j,2<=j->S.P.usedOf j=[]
def Z7p(top:Nat)(limit:Int)(period:Nat)(H:HL)(w:World)(r:Ending)(w':World):Prop:=∃S:CO,r=.returned (.pointer (some ⟨S.c,0,none⟩))/\Z0d S top limit period/\Step H (S.hl++H) w w'
theorem J1w:LOk (List.replicate 256 (noPl 0)):=⟨J3l,fun p hp=>by rw[J3j hp];exact⟨J5e _,J5e _⟩⟩
theorem Z9E:Fst (List.replicate 256 (noPl 0)) 0 (noPl 0):=⟨rfl,rfl,fun j q h _=>by omega⟩
theorem Z7q{w w1 w2 w3:World}{H:HL}{P:PL}{top period:Nat}{limit:Int}{t g:Nat}(hf:FreshP P top limit)(hl:P.cs.length=7)(h1:6<=top)(h0:64<=limit)(hm:limit<=1073741824)(Bh:1<=period)(A5:period<=16)
  (s1:Step H (P.hl++H) w w1) (s2:Step (P.hl++H) ((⟨t,List.replicate 256 (noPl 0)⟩:HT).hl++(P.hl++H)) w1 w2) (s3:Step ((⟨t,List.replicate 256 (noPl 0)⟩:HT).hl++(P.hl++H)) (qhl g period 0 none []++((⟨t,List.replicate 256 (noPl 0)⟩:HT).hl++(P.hl++H))) w2 w3) :
  (w3.alloc (.cells #[.pointer (some ⟨P.p,0,none⟩),.pointer (some ⟨t,0,none⟩),.pointer (some ⟨g,0,none⟩)] 187)).cell? ⟨w3.heap.size,0,none⟩=some (.pointer (some ⟨P.p,0,none⟩)) /\
  (w3.alloc (.cells #[.pointer (some ⟨P.p,0,none⟩),.pointer (some ⟨t,0,none⟩),.pointer (some ⟨g,0,none⟩)] 187)).cell? ⟨w3.heap.size,2,none⟩=some (.pointer (some ⟨g,0,none⟩)) /\
  Calls prog 15 #[.pointer (some ⟨P.p,0,none⟩),.int .i64 0,.int .i64 1] (w3.alloc (.cells #[.pointer (some ⟨P.p,0,none⟩),.pointer (some ⟨t,0,none⟩),.pointer (some ⟨g,0,none⟩)] 187)) fun r w4=>r=.returned (.tuple #[.int .i64 64,.int .i64 0])/\w4.cell? ⟨w3.heap.size,1,none⟩=some (.pointer (some ⟨t,0,none⟩)) /\
   Calls prog 149 #[.pointer (some ⟨t,0,none⟩),.agg #[.int .i64 1,.int .i64 64,.int .i64 0]] w4 fun r w5=>(∃x y:Value,r=.returned (.tuple #[x,y]))/\Z7p top limit period H w (.returned (.pointer (some ⟨w3.heap.size,0,none⟩))) w5:=by
 have s123:=(s1.trans s2).trans s3;have s4:=s123.trans (s123.sep.new 187 [.pointer (some ⟨P.p,0,none⟩),.pointer (some ⟨t,0,none⟩),.pointer (some ⟨g,0,none⟩)]);have hc:=Cells.new w3 187 [.pointer (some ⟨P.p,0,none⟩),.pointer (some ⟨t,0,none⟩),.pointer (some ⟨g,0,none⟩)];obtain⟨S,hS⟩:∃S:CO,S=⟨w3.heap.size,P,t,List.replicate 256 (noPl 0),g,period,0,none,[],x0⟩:=⟨_,rfl⟩
 have BB:((w3.heap.size,isC 187 [.pointer (some ⟨P.p,0,none⟩),.pointer (some ⟨t,0,none⟩),.pointer (some ⟨g,0,none⟩)])::(qhl g period 0 none []++((⟨t,List.replicate 256 (noPl 0)⟩:HT).hl++(P.hl++H)))).Perm (S.hl++H):=by
  refine Q1g fun a=>?_
  rw[hS];simp only[CO.hl,CO.head,CO.ht,CO.qh,hc_append,hc_cons,ptr];omega
 have s5:=s4.perm (J6w _) BB;have sS:Sep (w3.alloc (.cells #[.pointer (some ⟨P.p,0,none⟩),.pointer (some ⟨t,0,none⟩),.pointer (some ⟨g,0,none⟩)] 187)) S.hl:=s5.sep.left;refine⟨hc.cell 0 _ rfl,hc.cell 2 _ rfl,?_⟩;have sP:=CO.sP sS;have eP:S.P=P:=by rw[hS]
 rw[eP] at sP;refine(Z9D sP hf hl h1 h0 hm).mono ?_;rintro r w4⟨rfl,P',gm,Fk,hq,B3,st⟩;have st':Step S.hl (S.setP P').hl _ w4:=CO.stepP sS P' (by rw[gm.same.p,hS]) (by rw[hS];exact st);have c1:=CO.c1 st'.sep;have BC:=Z6t (h:=(S.setP P').ht) (CO.sT st'.sep) (by rw[hS];exact J1w) (i:=0) (p:=noPl 0) (by rw[hS];exact Z9E) 1 64 0 0;have ect:S.t=t:=by rw[hS]
 have ecc:S.c=w3.heap.size:=by rw[hS]
 have Sy:w4.cell? ⟨w3.heap.size,1,none⟩=some (.pointer (some ⟨t,0,none⟩)):=by
  rw[<- ect,<- ecc];exact c1
 refine⟨rfl,Sy,?_⟩;have Mo:Calls prog 149 #[.pointer (some ⟨t,0,none⟩),.agg #[.int .i64 1,.int .i64 64,.int .i64 0]] w4 (PutT (S.setP P').ht ⟨1,64,0,1,(noPl 0).age,0⟩ 0 w4):=by
  rw[<- ect];exact BC
 refine Mo.mono ?_;rintro r w5⟨rfl,st5⟩;refine⟨⟨_,_,rfl⟩,(S.setP P').setL (newL 64),by show _=Ending.returned (.pointer (some ⟨S.c,0,none⟩));rw[ecc],?_,?_⟩
 ·have EY:=J0Y hf hl h1 (by omega) hm gm;refine⟨⟨?_,?_,?_,?_,?_,?_,?_,?_⟩,rfl,?_,?_,?_,?_,B3,Fk,hq,by show S.xc=x0;rw[hS],fun j hj=>?_⟩
  ·show Inv P' (newL 64) [] S.xc (S.ts.map Prod.fst);rw[hS];exact EY
  ·show 1<=S.period/\_;rw[hS];exact⟨Bh,A5⟩
  ·show ∀x∈S.ts,_;rw[hS];exact fun x hx=>by cases hx
  ·show S.ts.Pairwise _;rw[hS];exact .nil
  ·show ovOk S.rv S.ts.length;rw[hS];exact rfl
  ·show P'.q.next<=_;rw[B3];decide
  ·show S.now<=0;rw[hS];exact J3b _
  ·intro p hp;rcases Q2H hp with rfl|rfl <;> exact J5e _
  ·show S.ts=[];rw[hS]
  ·show S.now=0;rw[hS]
  ·show S.period=period;rw[hS]
  ·show P'.d.top=top;rw[gm.same.top,hf.etop]
  ·show P'.usedOf j=[];rw[gm.other j (by omega)];unfold PL.usedOf;split
   ·split
    ·rename_i c hc;unfold CA.used;rw[(hf.cs _ c hc).2.2.2];rfl
    ·rfl
   ·rfl
 ·have e1:(S.setP P').ht.l.set 0 ⟨1,64,0,1,(noPl 0).age,0⟩=newL 64:=by rw[hS];rfl
  have st6:Step (S.setP P').hl ((S.setP P').setL (newL 64)).hl w4 w5:=by
   have:=CO.stepL (S:=S.setP P') st'.sep _ st5;rw[e1] at this;exact this
  have f1:=Step.frame [] H (by simpa using s5.sep) (st'.trans st6);simp only[J5m] at f1;exact s5.trans f1
theorem Z2A{w:World}{H:HL}(h:Sep w H)(top:Nat)(h1:6<=top)(h2:top<=20)(limit:Int)(h0:64<=limit)(hl:limit<=((2 ^ (top+10):Nat):Int))(period:Nat)(Bh:1<=period)(A5:period<=16) :
  Calls prog 78 #[.int .i64 ((2 ^ (top+10):Nat):Int),.int .i64 limit,.int .i64 period] w (Z7p top limit period H w):=by
 have b2:2 ^ (top+10)<=1073741824:=J3c (J4q (by omega) (by omega)) (by decide:2 ^ 30<=1073741824);have k1:=Z8H h top h1 h2 limit (by omega) hl;have HQ:Hid (∀r w1,J0X top limit H w r w1->∃pp,r=.returned (.pointer (some ⟨pp,0,none⟩))/\Calls prog 147 #[] w1 fun r w2=>∃t,r=.returned (.pointer (some ⟨t,0,none⟩)) /\
   Calls prog 148 #[.int .i64 period] w2 fun r w3=>∃g,r=.returned (.pointer (some ⟨g,0,none⟩)) /\
    (w3.alloc (.cells #[.pointer (some ⟨pp,0,none⟩),.pointer (some ⟨t,0,none⟩),.pointer (some ⟨g,0,none⟩)] 187)).cell? ⟨w3.heap.size,0,none⟩=some (.pointer (some ⟨pp,0,none⟩)) /\
    (w3.alloc (.cells #[.pointer (some ⟨pp,0,none⟩),.pointer (some ⟨t,0,none⟩),.pointer (some ⟨g,0,none⟩)] 187)).cell? ⟨w3.heap.size,2,none⟩=some (.pointer (some ⟨g,0,none⟩)) /\
    Calls prog 15 #[.pointer (some ⟨pp,0,none⟩),.int .i64 0,.int .i64 1] (w3.alloc (.cells #[.pointer (some ⟨pp,0,none⟩),.pointer (some ⟨t,0,none⟩),.pointer (some ⟨g,0,none⟩)] 187)) fun r w4=>r=.returned (.tuple #[.int .i64 64,.int .i64 0])/\w4.cell? ⟨w3.heap.size,1,none⟩=some (.pointer (some ⟨t,0,none⟩)) /\
     Calls prog 149 #[.pointer (some ⟨t,0,none⟩),.agg #[.int .i64 1,.int .i64 64,.int .i64 0]] w4 fun r w5=>(∃x y:Value,r=.returned (.tuple #[x,y]))/\Z7p top limit period H w (.returned (.pointer (some ⟨w3.heap.size,0,none⟩))) w5):=by
  rintro r w1⟨P,rfl,Ac,hf,s1⟩;refine⟨P.p,rfl,(Z9C s1.sep).mono ?_⟩;rintro r w2⟨t,rfl,s2⟩;refine⟨t,rfl,(Z8W s2.sep period Bh A5).mono ?_⟩;rintro r w3⟨g,rfl,s3⟩;exact⟨g,rfl,Z7q hf Ac h1 h0 (by omega) Bh A5 s1 s2 s3⟩
 generalize Z7p top limit period H w=Q at *
 clear h;go_enter func78,ntmps78;go_wp2_with fail;refine k1.mono ?_;intro r w1 hx;obtain⟨pp,rfl,ht⟩:=HQ.out _ _ hx;have HT:=Q0a ht;clear hx ht HQ k1;go_wp2_with fail;refine HT.out.mono ?_;rintro r w2⟨t,rfl,hg⟩;have HG:=Q0a hg;clear hg HT;go_wp2_with fail;refine HG.out.mono ?_;rintro r w3⟨g,rfl,c0,c2,Bv⟩;have Dr:=Q0a Bv;clear Bv HG;go_wp2_with fail;refine Dr.out.mono ?_;rintro r w4⟨rfl,c1,BC⟩;have LU:=Q0a BC;clear BC Dr c0 c2;go_wp2_with fail;refine LU.out.mono ?_;rintro r w5⟨⟨x,y,rfl⟩,hq⟩;have HX:=Q0a hq;clear hq LU c1;go_wp2_with fail
 (try go_ret);exact HX.out
def Aside(H:HL)(L:List Nat)(a:Option Addr)(w:World):Prop:=∀(j x:Nat),L[j]?=some x->∃g,a=some ⟨g,0,none⟩/\g∉keys H/\g<w.heap.size/\w.cell? ⟨g,j,none⟩=some (.int .u32 x)
theorem Aside.step{H H':HL}{L:List Nat}{a:Option Addr}{w w':World}(h:Aside H L a w)(st:Step H H' w w'):Aside H' L a w':=fun j x hj=>by
 obtain⟨g,h1,h2,h3,h4⟩:=h j x hj;refine⟨g,h1,fun hk=>?_,J3d h3 st.chg.size,(World.cell?_of_block (w:=w) (st.chg.block g h3 h2)).trans h4⟩;rcases st.new g hk with h'|h'
 ·exact h2 h'
 ·omega
theorem NewHs.aside{w w':World}{H:HL}{L:List Nat}{r:Ending}(h:NewHs w L r w')(hs:Sep w H):∃(a:Option Addr) (cap:Nat),r=.returned (.slice a L.length cap)/\Below w.heap.size w w'/\Aside H L a w':=by
 obtain⟨a,cap,e,hb,hi⟩:=h.shape;refine⟨a,cap,e,hb,fun j x hj=>?_⟩;obtain⟨g,h1,h2,h3,h4⟩:=hi.at' j x hj;exact⟨g,h1,fun hk=>by have:=hs.lt hk;omega,h3,h4⟩
theorem OutH.app{w wr:World}{v:Value}{L:List Nat}(h:OutH w wr v L)(hl:L.length<=16777216)(x:Nat)(ty:TypeId):∃v' w',(Builtin.append_ #[51,51] ty #[v,.slice (some ⟨wr.heap.size,0,none⟩) 1 1]).run prog (wr.alloc (.cells #[.int .u32 x] 58))=.ok v' w'/\OutH w w' v' (L++[x]):=by
 obtain⟨i0,hi,Bx,AX,AU⟩:=info_parts Q3K;have h2:=h.below ((Below.refl _ _).alloc (J3b _) (.cells #[.int .u32 x] 58));obtain⟨v',w',hr,q1,q2,_,q4⟩:=run_append_own_at (P:=prog) (wr.alloc (.cells #[.int .u32 x] 58)) w.heap.size 51 ty 58 i0 (.int .u32 0) 1 4 underlying51 hi Bx AX AU rfl (by decide) v L.length (Q1i L) h2.1 ⟨wr.heap.size,0,none⟩ 1 1 [.int .u32 x] rfl (by
  intro j u hj;have:=(Cells.new wr 58 [.int .u32 x]).cell j u hj;have e:(⟨wr.heap.size,0,none⟩:Addr).add j=⟨wr.heap.size,j,none⟩:=by unfold Addr.add;split <;> simp_all
  rw[e];exact this) (fun u hu=>by rw[J5j.1 hu];rfl) (by unfold maxLen;omega) (by omega) h2.2.size
 refine⟨v',w',hr,?_,?_⟩
 ·rw[J3M,hands_app];exact q1
 ·exact h2.2.trans ((Below.refl _ _).mono h2.2.size |>.grown q2 h2.2.size (fun b hb=>(h2.1.lt b hb).1))
def Z4k(S:CO)(h:Nat):List Nat:=Q0M S.l S.P.q.next.toNat h++[h]
def KillR(Z:SP)(fr:List Nat)(N K:Nat)(M:Int)(h:Nat)(w:World)(r:Ending)(w':World):Prop:=
 (pget Z.S.l 1 h=none/\r=.returned (.tuple #[.slice none 0 0,.int .i64 8])/\Below w.heap.size w w') ∨
 (h=0/\r=.returned (.tuple #[.slice none 0 0,.int .i64 1])/\Below w.heap.size w w') ∨
 (h≠0/\(∃p,pget Z.S.l 1 h=some p)/\∃(a:Option Addr) (cap:Nat),r=.returned (.tuple #[.slice a (Z4k Z.S h).length cap,.int .i64 0])/\∃Z',KillI Z fr N K M (Z4k Z.S h) Z'/\Step Z.hl Z'.hl w w'/\Aside Z'.hl (Z4k Z.S h) a w')
theorem Z4l{wr w:World}{Z Z1:SP}{fr:List Nat}{N K:Nat}{M:Int}{A:List Nat}(hK:K<=1048576)(hlz:Z.S.l.length<=256)(I:KillI Z fr N K M A Z1)(st:Step Z.hl Z1.hl w wr){x:Nat}(hx:x<4294967296){q:Pl}(hq:pget Z.S.l 1 x=some q)(h0:x≠0)(hA:x∉A)(hk:∀y∈kids Z.S.l x,y∈A) :
  Calls prog 163 #[.pointer (some ⟨Z.s,0,none⟩),.int .u32 x] wr fun r w2=>∃v:Value,r=.returned v /\
   Calls prog 164 #[.pointer (some ⟨Z.s,0,none⟩),.int .u32 x] w2 fun r w3=>∃v:Value,r=.returned v/\w3.cell? ⟨Z.s,0,none⟩=some (.pointer (some ⟨Z.S.c,0,none⟩)) /\
    Calls prog 165 #[.pointer (some ⟨Z.S.c,0,none⟩),.int .u32 x] w3 fun r w4=>∃v:Value,r=.returned v/\∃Z4,KillI Z fr N K M (A++[x]) Z4/\Step Z1.hl Z4.hl wr w4:=by
 have kw:=Q9Y st.sep I.ok hx;rw[I.s] at kw;refine kw.mono ?_;rintro r w2⟨rfl,Z2,ok2,a2,s2,st2⟩;refine⟨_,rfl,?_⟩;have kp:=Q7S st2.sep ok2 x;rw[s2.s,I.s] at kp;refine kp.mono ?_;rintro r w3⟨rfl,Z3,ok3,a3,s3,st3⟩;obtain⟨⟨IZ,FY⟩,BI⟩:=I.next (p:=q) hlz hq h0 hA hk ok2 a2 s2 ok3 a3 s3;have hc:=SP.c0 st3.sep;rw[s3.s,s2.s,I.s,s3.alt.c,s2.alt.c,I.c] at hc;refine⟨_,rfl,hc,?_⟩;have kd:=Z9v (SP.sS st3.sep) ok3.core hK hx IZ h0 FY;rw[s3.alt.c,s2.alt.c,I.c] at kd;refine kd.mono ?_;rintro r w4 (⟨h1,_⟩|⟨_,h1,_⟩|⟨_,_,h1,_⟩|⟨p,rv,hp,_,_,BR,rfl,st4⟩)
 ·rw[IZ] at h1;cases h1
 ·exact absurd h1 h0
 ·exact absurd FY h1
 ·rw[IZ] at hp;cases hp;have I4:=BI IZ BR;refine⟨_,rfl,_,I4,?_⟩;exact(st2.trans st3).trans (SP.stepS st3.sep (Z3.S.doomed x q rv) Z3.tb rfl st4)
theorem Z0e{w:World}{Z:SP}{fr:List Nat}{N K:Nat}{M:Int}(hs:Sep w Z.hl)(ok:Z.Ok fr N K M)(hK:K<=1048576){h:Nat}(hh:h<4294967296) :
  Calls prog 84 #[.pointer (some ⟨Z.s,0,none⟩),.int .u32 h] w (KillR Z fr N K M h w):=by
 have c0:=SP.c0 hs;cases hp:pget Z.S.l 1 h with
 | none =>
  have ko:=Q4M (SP.sS hs) ok.core.inv.lok hh 0 hp;unfold zobj at ko;have HR:Hid (∀W,Below w.heap.size w W->KillR Z fr N K M h w (.returned (.tuple #[.slice none 0 0,.int .i64 8])) W):=fun W hb=>.inl ⟨hp,rfl,hb⟩
  clear hs ok hp;go_enter func84,ntmps84;go_wp2_with fail;refine ko.mono ?_;rintro r w2⟨rfl,Ai⟩;have HQ:=Q0a (HR.out _ (Ai.alloc Ai.size (.cells #[.int .i64 0,.int .i64 0,.int .i64 0] 54)));clear Ai HR ko;go_wp2_with fail
  (try go_ret2);exact HQ.out
 | some p =>
  have ko:=Q2X (SP.sS hs) ok.core.inv.lok hh 0 hp (.inl rfl);unfold Pl.obj at ko;by_cases h0:h=0
  ·subst h0;have HR:Hid (∀W,Below w.heap.size w W->KillR Z fr N K M 0 w (.returned (.tuple #[.slice none 0 0,.int .i64 1])) W):=fun W hb=>.inr (.inl ⟨rfl,rfl,hb⟩)
   clear hs ok hp;go_enter func84,ntmps84;go_wp2_with fail;refine ko.mono ?_;rintro r w2⟨rfl,Ai⟩;have HQ:=Q0a (HR.out _ (Ai.alloc Ai.size (.cells #[.int .i64 (p.kind:Int),.int .i64 (p.at_:Int),.int .i64 (p.fac:Int)] 54)));clear Ai HR ko;go_wp2_with fail
   (try go_ret2);exact HQ.out
  ·have HS:=Q0a hs;have Ci:=Q0a ok;have HK:=Q0a hK;have HP:=Q0a hp;have TS:=Q0a h0;have Bw:(((h:Nat):Int)==0)=false:=by simp;omega
   have HU:Hid (∀W,Below w.heap.size w W->W.cell? ⟨Z.s,0,none⟩=some (.pointer (some ⟨Z.S.c,0,none⟩))/\Calls prog 162 #[.pointer (some ⟨Z.S.c,0,none⟩),.int .u32 h] W (NewHs W (Q0M Z.S.l Z.S.P.q.next.toNat h))):=fun W hb=>by
    have s1:=(hs.grown hb).sep;exact⟨SP.c0 s1,Z4e (SP.sS s1) ok.core hh⟩
   have JT:=Q0a (Z7h ok.core.inv.tree hp h0);have QM:(Q0M Z.S.l Z.S.P.q.next.toNat h++[h]).length<=256:=by
    have h1:=Z4C ok.core.inv.tree h;rw[Q4C ok.core.inv.tree,J3N,J7A] at h1
    simpa using h1
   have RS:=Q0a QM;have TY:Hid (Z.S.l.length<=256):=by show Z.S.l.length<=256;rw[ok.core.inv.len];omega
   clear hs ok hp h0 hK;go_enter func84,ntmps84;go_wp2_with fail;refine ko.mono ?_;rintro r w2⟨rfl,Ai⟩;have Ar:=Ai.alloc Ai.size (.cells #[.int .i64 (p.kind:Int),.int .i64 (p.at_:Int),.int .i64 (p.fac:Int)] 54);obtain⟨d0,ku⟩:=HU.out _ Ar;have FB:=Q0a Ar;clear Ai Ar ko HU;go_wp2_with fail;refine ku.mono ?_;rintro r w4⟨v4,rfl,Ib,Iz⟩;have hO:OutH (w2.alloc (.cells #[.int .i64 (p.kind:Int),.int .i64 (p.at_:Int),.int .i64 (p.fac:Int)] 54)) w4 v4 (Q0M Z.S.l Z.S.P.q.next.toNat h):=⟨Ib,Iz⟩
   obtain⟨v5,w5,AK,O7⟩:=hO.app (by have:=RS.out;rw[J3M] at this;omega) h 51;have Ct:NewHs (w2.alloc (.cells #[.int .i64 (p.kind:Int),.int .i64 (p.at_:Int),.int .i64 (p.fac:Int)] 54)) (Q0M Z.S.l Z.S.P.q.next.toNat h++[h]) (.returned v5) w5:=⟨v5,rfl,O7.1,O7.2⟩
   obtain⟨a,cap,e,AD,has⟩:=Ct.aside (HS.out.grown FB.out).sep;obtain rfl:v5=.slice a (Q0M Z.S.l Z.S.P.q.next.toNat h++[h]).length cap:=by cases e;rfl
   have JJ:Hid (Step Z.hl Z.hl w w5/\Aside Z.hl (Q0M Z.S.l Z.S.P.q.next.toNat h++[h]) a w5):=⟨HS.out.grown (FB.out.trans (AD.mono FB.out.size)),has⟩
   have Ql:Hid (Z4k Z.S h=Q0M Z.S.l Z.S.P.q.next.toNat h++[h]):=rfl;generalize hL:Q0M Z.S.l Z.S.P.q.next.toNat h++[h]=L at *
   generalize hn:L.length=n at *
   have HN:=Q0a hn;clear Ib Iz hO O7 Ct AD has e QM ku d0;go_wp2_with (at_builtin;refine Lib.wpList_append_run _ rfl _ _ _ _ rfl _ _ rfl rfl _ _ AK ?_);clear AK;go_wp2_with fail
   go_loopg [40] n (fun gk iv wr=>∃(k:Nat) (Z1:SP),iv=.int .i64 k/\k+gk=n/\KillI Z fr N K M (L.take k) Z1/\Step Z.hl Z1.hl w wr/\Aside Z1.hl L a wr)
   case atStart=>exact⟨0,Z,rfl,by omega,KillI.start Ci.out,JJ.out.1,JJ.out.2⟩
   case round =>
    obtain⟨k,Z1,rfl,AC,hI,Ap,has⟩:=hrel;have Cg:=Q0a AC;have HI:=Q0a hI;have Br:=Q0a Ap;have Vj:=Q0a has;by_cases Ab:k<n
    ·obtain⟨x,hx⟩:∃x,L[k]?=some x:=⟨_,J5t (by rw[HN.out];exact Ab)⟩
     obtain⟨g,rfl,_,_,EA⟩:=has k x hx;have GD:L=L.take k++x::L.drop (k+1):=by
      obtain⟨IB,hg⟩:=J3t.1 hx;rw[<- hg,J4a,J4b]
     obtain⟨q,hq,Cw,NX,IM⟩:=JT.out _ _ _ GD;have Mp:x<4294967296:=by
      obtain⟨a1,a2,_⟩:=pget_some.1 hq;have:=(Ci.out.core.inv.lok.2 q (J5q a1)).2;unfold nm at a2;omega
     have kr:=Z4l HK.out TY.out HI.out Br.out Mp hq Cw NX IM;have AW:L.take (k+1)=L.take k++[x]:=by rw[J4Y,hx];rfl
     rw[<- AW] at kr;have C3:(k:Int)<(n:Int):=by omega
     have Bz:(0:Int)<=(k:Int):=by omega
     have Fy:(k:Int)<=256:=by have:=RS.out;omega
     clear hI Ap has AC hx GD hq Cw NX IM Mp AW JJ;go_wp2_with fail;refine kr.mono ?_;rintro r w6⟨v6,rfl,k6⟩;have LK:=Q0a k6;clear k6 kr EA;go_wp2_with fail;refine LK.out.mono ?_;rintro r w7⟨v7,rfl,d7,k7⟩;have R3:=Q0a k7;clear k7 LK;go_wp2_with fail;refine R3.out.mono ?_;rintro r w8⟨v8,rfl,Z4,SE,Ka⟩;have HX:Hid (KillI Z fr N K M (L.take (k+1)) Z4/\Step Z.hl Z4.hl w w8/\Aside Z4.hl L (some ⟨g,0,none⟩) w8):=⟨SE,Br.out.trans Ka,Vj.out.step Ka⟩
     clear SE Ka R3 d7;go_wp2_with fail;go_roundg (n-(k+1))
     case measure=>have:=Cg.out;omega
     case rel=>exact⟨k+1,Z4,by go_num,by have:=Cg.out;omega,HX.out⟩
    ·obtain rfl:k=n:=by have:=Cg.out;omega
     have HR:Hid (KillR Z fr N K M h w (.returned (.tuple #[.slice a k cap,.int .i64 0])) wr):=by
      refine .inr (.inr ⟨TS.out,⟨p,HP.out⟩,a,cap,?_,Z1,?_,Ap,?_⟩)
      ·rw[Ql.out,HN.out]
      ·rw[Ql.out,<- J7m (l:=L),HN.out];exact hI
      ·rw[Ql.out];exact has
     clear hI Ap has AC;go_wp2_with fail
     (try go_ret2);exact HR.out
def GoesZ(Z:SP)(N K:Nat)(M:Int)(w w':World):Prop:=∃(Z':SP) (fr':List Nat),Z'.Ok fr' N K M/\GoneZ Z Z'/\Step Z.hl Z'.hl w w'
theorem GoesZ.mono{Z:SP}{N N' K K':Nat}{M M':Int}{w w':World}(h:GoesZ Z N K M w w')(h1:N<=N')(h2:K<=K')(h3:M<=M'):GoesZ Z N' K' M' w w':=by
 obtain⟨Z',fr',a,b,c⟩:=h;exact⟨Z',fr',a.mono h1 h2 h3,b,c⟩
section
variable {Z:SP} {fr:List Nat} {N K:Nat} {M:Int} {w w':World}
theorem GoesZ.of(hs:Sep w Z.hl)(ok:Z.Ok fr N K M)(hb:Below w.heap.size w w'):GoesZ Z N K M w w':=⟨Z,fr,ok,GoneZ.refl Z,hs.grown hb⟩
theorem GoesZ.same{Z':SP}(ok:Z'.Ok fr N K M)(s:SameZ Z Z')(st:Step Z.hl Z'.hl w w'):GoesZ Z N K M w w':=⟨Z',fr,ok,s.toSameN.gone,st⟩
theorem GoesZ.at{w1 w2:World}(hs:Sep w Z.hl)(hb:Below w.heap.size w w1)(h:GoesZ Z N K M w1 w2):GoesZ Z N K M w w2:=by
 obtain⟨Z',fr',a,b,c⟩:=h;exact⟨Z',fr',a,b,(hs.grown hb).trans c⟩
theorem BackZ.goes(ok:Z.Ok fr N K M){y:Nat}{own:Int}(h:BackZ Z fr N K y own w w'):GoesZ Z N K M w w':=by
 obtain⟨Z',a,_,b,c⟩:=h.ok ok;exact .same a b c
theorem RootR.goes(hs:Sep w Z.hl)(ok:Z.Ok fr N K M){x h:Nat}{z r er:Int}(R:RootR Z fr N K M x z h r w er w'):GoesZ Z N K (M+1) w w':=by
 rcases R with ⟨_,_,hb⟩|⟨s,rn,p,q,_,_,_,_,_,hp,hk,_,_,_,⟨_,Z',a,b,_,_,_,c⟩|⟨_,_,P',tr,st⟩⟩
 ·exact(GoesZ.of hs ok hb).mono (J3b _) (J3b _) (by omega)
 ·exact⟨Z',fr,a,b.gone,c⟩
 ·refine GoesZ.mono ?_ (J3b _) (J3b _) (show M<=M+1 by omega);refine BackZ.goes (y:=x) (own:=p.fac) ok (LaidP.back (x:=x) (A:=fun _=>⟨0,0,0,false⟩) ok hp hk ((LaidP.start (x:=x) (A:=fun _=>⟨0,0,0,false⟩) ok (p.fac:Int)).tried tr) ?_);rw[Q1d];exact st
theorem MoveR.goes(ok:Z.Ok fr N K M){x y n:Nat}{A:Nat->Mv}{er:Int}(R:MoveR Z fr N K M x y n A w er w'):GoesZ Z N K (M+n) w w':=by
 rcases R with ⟨_,_,own,h⟩|⟨p1,p2,_,_,_,_,_,⟨_,a,Z',_,_,h1,h2,_,h3⟩|⟨_,_,h⟩⟩
 ·exact(h.goes ok).mono (J3b _) (J3b _) (by omega)
 ·exact⟨Z',fr,h1,h2.gone,h3⟩
 ·exact(h.goes ok).mono (J3b _) (J3b _) (by omega)
theorem RevR.goes(hs:Sep w Z.hl)(ok:Z.Ok fr N K M){x:Nat}{z mask:Int}{self:Bool}{r:Ending}(R:RevR Z fr N K M x z mask self w r w'):(∃a b:Value,r=.returned (.tuple #[a,b]))/\GoesZ Z N K M w w':=by
 rcases R with ⟨e,rfl,hb,_⟩|⟨s,m,n,en,_,_,_,_,_,_,_,_,_,rfl,Z',a,_,b,c⟩
 ·exact⟨⟨_,_,rfl⟩,.of hs ok hb⟩
 ·exact⟨⟨_,_,rfl⟩,.same a b c⟩
theorem KillI.gone{A:List Nat}{Z1:SP}(I:KillI Z fr N K M A Z1)(h0:0∉A):GoneZ Z Z1:=⟨I.s,I.f,I.c,I.per,I.same,by rw[I.live 0,if_neg h0]⟩
theorem KillR.goes(hs:Sep w Z.hl)(ok:Z.Ok fr N K M){h:Nat}{r:Ending}(R:KillR Z fr N K M h w r w'):(∃a b:Value,r=.returned (.tuple #[a,b]))/\GoesZ Z N K M w w':=by
 rcases R with ⟨_,rfl,hb⟩|⟨_,rfl,hb⟩|⟨h0,⟨p,hp⟩,a,cap,rfl,Z',I,st,_⟩
 ·exact⟨⟨_,_,rfl⟩,.of hs ok hb⟩
 ·exact⟨⟨_,_,rfl⟩,.of hs ok hb⟩
 ·refine⟨⟨_,_,rfl⟩,Z',fr,I.ok,I.gone fun hm=>?_,st⟩;obtain⟨A,B,e⟩:=J7i hm;obtain⟨_,_,h2,_⟩:=Z7h ok.core.inv.tree hp h0 A 0 B e;exact h2 rfl
theorem MkR.goes(ok:Z.Ok fr N K M){x hh:Nat}{z k er:Int}(R:MkR Z fr N K M x z k w hh er w'):GoesZ Z (N+1) K (M+1) w w':=by
 rcases R with ⟨_,_,own,h⟩|⟨_,Z',fr',s,i,q,q',_,_,_,_,_,_,_,_,a,b,_,_,c⟩
 ·exact(h.goes ok).mono (J7v _) (J3b _) (by omega)
 ·exact⟨Z',fr',a,b,c⟩
theorem MakeR.goesZ(hs:Sep w Z.hl)(ok:Z.Ok fr N K M){y:Nat}{k lim:Int}{r:Ending}(m:MakeR Z.S fr y k lim w r w'):(∃(x:Nat) (er:Int),r=two x er)/\GoesZ Z (N+1) K M w w':=by
 rcases m.cases ok.core with ⟨er,P',_,rfl,tr,st⟩|⟨f,n,e,i,q,a,v,P',fr',hf,Dx,_,hn,he,hi,hq,rfl,mk,st⟩
 ·refine⟨⟨0,er,rfl⟩,Z.setS (Z.S.setP P') Z.tb,fr,?_,(tr.alt (S:=Z.S) 0).gone _,SP.stepS hs _ _ rfl st⟩;exact SP.Ok.mono ⟨ok.core.tried tr,ok.tpi.tried ok.core tr,ok.fpi,ok.fo,ok.next⟩ (J7v _) (J3b _) (J7h _)
 ·exact⟨⟨nm i q,0,rfl⟩,Z.setS (Z.S.made f n a v i q P') Z.tb,fr',⟨mk.ok ok.core hi,ok.tpi.made ok.core mk hi hq,ok.fpi.made hi hq (ok.tpi.nil i q hi (by omega)),ok.fo,ok.next⟩,(mk.went ok.core hi hq).gone _,SP.stepS hs _ _ rfl st⟩
theorem TickR.goesZ(hs:Sep w Z.hl)(ok:Z.Ok fr N K M){r:Ending}(m:TickR Z.S fr N K w r w'):(∃v:Value,r=.returned v)/\GoesZ Z N (K+1) M w w':=by
 obtain⟨rv,S',fr',v,rfl,_,_,t,ok',st,_⟩:=m;have wn:Went Z.S S':=t.went;have tz:TPI (Z.S.setG (Z.S.now+1) rv (dueT Z.S)) Z.tb:=⟨ok.tpi.tin,ok.tpi.full,ok.tpi.nil,ok.tpi.lvs,ok.tpi.nds,ok.tpi.xc⟩
 exact⟨⟨v,rfl⟩,Z.setS S' Z.tb,fr',⟨ok',TPI.ticked (D:=[]) (S:=Z.S.setG (Z.S.now+1) rv (dueT Z.S)) ok.core.inv.len ok'.inv.len tz t.live t.mem t.high t.xc,ok.fpi.live t.live,ok.fo,ok.next⟩,wn.gone _,SP.stepS hs _ _ wn.c st⟩
end
def isK(l:List Pl)(k:Int)(h:Nat):Bool:=match pget l 1 h with
 | some p=>decide (k=0∨(p.kind:Int)=k)
 | none=>false
def Q1f(l:List Pl)(k:Int)(T:List Nat):List Nat:=T.filter (isK l k)
def nthV(l:List Pl)(k n:Int):Nat:=if (Q1f l k (allL l 1)).length=0∨n<0 then 0 else(Q1f l k (allL l 1)).getD (n%((Q1f l k (allL l 1)).length:Int)).toNat 0
theorem Q7U(l:List Pl)(k:Int)(T:List Nat)(y:Nat):Q1f l k (T++[y])=Q1f l k T++if isK l k y=true then [y] else []:=by
 unfold Q1f;rw[J4Z];cases h:isK l k y <;> simp[h]
theorem Q4V(l:List Pl)(k:Int)(T:List Nat):(Q1f l k T).length<=T.length:=J5r _ _
theorem isK_iff{l:List Pl}{k:Int}{h:Nat}:isK l k h=true↔∃p,pget l 1 h=some p/\(k=0∨(p.kind:Int)=k):=by
 unfold isK;cases pget l 1 h with
 | none=>simp
 | some p=>simp
theorem Q8B{l:List Pl}(h:l.length=256):(allL l 1).length<=256:=by
 have:=Q2A l 1 l.length;unfold allL;rw[h] at this ⊢;exact this
theorem Z4m{l:List Pl}{k n:Int}:nthV l k n=0∨(∃p,pget l 1 (nthV l k n)=some p/\(k=0∨(p.kind:Int)=k)):=by
 unfold nthV;split
 ·exact .inl rfl
 ·rename_i h;have h1:=Int.emod_nonneg n (b:=((Q1f l k (allL l 1)).length:Int)) (by omega);have h2:=Int.emod_lt_of_pos n (b:=((Q1f l k (allL l 1)).length:Int)) (by omega);have Ab:(n%((Q1f l k (allL l 1)).length:Int)).toNat<(Q1f l k (allL l 1)).length:=by omega
  refine .inr ?_;rw[J7H,J5t Ab,J5U];have hm:=J6z Ab;unfold Q1f at hm;exact isK_iff.1 (J3w.1 hm).2
theorem Q8C{l:List Pl}(lok:LOk l){s h:Nat}{q:Pl}(hq:pget l s h=some q):h<4294967296:=by
 have h1:=pget_some.1 hq;have h2:=lok.2 q (Q0z hq);have:nm (h%256) q=h:=h1.2.1;unfold nm at this;omega
theorem Z7r{l:List Pl}(lok:LOk l)(k n:Int):nthV l k n<4294967296:=by
 rcases Z4m (l:=l) (k:=k) (n:=n) with h|⟨p,hp,_⟩
 ·rw[h];omega
 ·exact Q8C lok hp
theorem Z7s{w:World}{Z:SP}{fr:List Nat}{N K:Nat}{M:Int}(hs:Sep w Z.hl)(ok:Z.Ok fr N K M)(k n:Int)(hn:I64 n) :
  Calls prog 35 #[.pointer (some ⟨Z.s,0,none⟩),.int .i64 k,.int .i64 n] w (Told w (.int .u32 ((nthV Z.S.l k n:Nat):Int))):=by
 have AG:=ok.core.inv.lok;have Bq:Hid (∀W,Below w.heap.size w W->Calls prog 26 #[.pointer (some ⟨Z.s,0,none⟩)] W fun r w'=>r=.returned (.pointer (some ⟨Z.S.c,0,none⟩))/\W=w'):=fun W hb=>Q1T (hs.grown hb).sep
 have Eb:Hid (∀W,Below w.heap.size w W->Calls prog 28 #[.pointer (some ⟨Z.S.c,0,none⟩)] W (NewHs W (allL Z.S.l 1))):=fun W hb=>Q6x (SP.sS (hs.grown hb).sep) AG
 have Gz:Hid (∀y,y∈allL Z.S.l 1->∃a b c er:Int,((er==0)=isK Z.S.l k y)/\∀W,Below w.heap.size w W->Calls prog 49 #[.pointer (some ⟨Z.S.c,0,none⟩),.int .u32 y,.int .i64 k] W (Told W (.tuple #[.agg #[.int .i64 a,.int .i64 b,.int .i64 c],.int .i64 er]))):=fun y hy=>by
  obtain⟨p,hp⟩:=(Q3g (by rw[AG.1];omega)).1 hy;have Ab:=Q8C AG hp;by_cases hk:k=0∨(p.kind:Int)=k
  ·refine⟨_,_,_,0,?_,fun W hb=>Q2X (SP.sS (hs.grown hb).sep) AG Ab k hp hk⟩;rw[isK_iff.2 ⟨p,hp,hk⟩];rfl
  ·refine⟨_,_,_,10,?_,fun W hb=>Q3t (SP.sS (hs.grown hb).sep) AG Ab k hp (by omega) (by omega)⟩;unfold isK;rw[hp];show((10:Int)==0)=decide (_∨_);rw[decide_eq_false hk];rfl
 have IC:=Q0a (Q8B AG.1);obtain⟨Ds,Hn⟩:=hn;have HV:Hid (nthV Z.S.l k n=if (Q1f Z.S.l k (allL Z.S.l 1)).length=0∨n<0 then 0 else(Q1f Z.S.l k (allL Z.S.l 1)).getD (n%((Q1f Z.S.l k (allL Z.S.l 1)).length:Int)).toNat 0):=rfl;clear hs ok AG;generalize nthV Z.S.l k n=nv at *
 generalize hT:allL Z.S.l 1=T at *
 go_enter func35,ntmps35;go_wp2_with fail;refine(Bq.out _ (Below.refl _ _)).mono ?_;rintro rv w0⟨rfl,rfl⟩;go_wp2_with fail;refine(Eb.out _ (Below.refl _ _)).mono ?_;intro rv w1 Dl;obtain⟨a0,KA,rfl,Aw,GA⟩:=Dl.shape;have Bp:=Q0a Aw;have G6:=Q0a GA;clear Dl Aw GA Eb;go_wp2_with fail
 go_loopg [7,9] T.length (fun gk ov iv wr=>∃j:Nat,iv=.int .i64 j/\j+gk=T.length/\OutH w1 wr ov (Q1f Z.S.l k (T.take j)))
 case atStart=>exact⟨0,rfl,J5G _,OutH.nil w1⟩
 case round =>
  obtain⟨j,rfl,AC,Am⟩:=hrel;have HO:=Q0a Am;have BE:=Q0a AC;clear Am;by_cases Ab:j<T.length
  ·obtain⟨y,hy⟩:∃y,T[j]?=some y:=⟨_,J5t Ab⟩
   obtain⟨g0,rfl,KL,DE,Ak⟩:=(G6.out.below HO.out.2).at' j y hy;obtain⟨a,b,c,er,Co,L8⟩:=Gz.out y (J5q hy);have CP:Below w.heap.size w wr:=Bp.out.trans (HO.out.2.mono Bp.out.size);have AL:Hid (Q1f Z.S.l k (T.take (j+1))=Q1f Z.S.l k (T.take j)++if isK Z.S.l k y=true then [y] else []):=by
    rw[J4Y,hy];exact Q7U _ _ _ _
   have HY:=Q0a hy;have EN:Hid (∀W,Below wr.heap.size wr W->Calls prog 49 #[.pointer (some ⟨Z.S.c,0,none⟩),.int .u32 y,.int .i64 k] W (Told W (.tuple #[.agg #[.int .i64 a,.int .i64 b,.int .i64 c],.int .i64 er]))):=fun W hb=>L8 W (CP.trans (hb.mono CP.size))
   have Gy:Hid (∀W,Below wr.heap.size wr W->Calls prog 26 #[.pointer (some ⟨Z.s,0,none⟩)] W fun r w'=>r=.returned (.pointer (some ⟨Z.S.c,0,none⟩))/\W=w'):=fun W hb=>Bq.out W (CP.trans (hb.mono CP.size))
   have D5:Hid (∀W,Below wr.heap.size wr W->W.cell? ⟨g0,j,none⟩=some (.int .u32 y)):=fun W hb=>(World.cell?_of_block (w:=wr) (hb.block g0 DE)).trans Ak
   have JX:Hid (∀W,Below wr.heap.size wr W->OutH w1 W u7 (Q1f Z.S.l k (T.take j))):=fun W hb=>HO.out.below hb
   have JA:(Q1f Z.S.l k (T.take j)).length<=16777216:=by
    have h1:=Q4V Z.S.l k (T.take j);rw[J5v] at h1;have:=IC.out;omega
   have DS:=Q0a JA;have I0:=Q0a Co;have Cy:Hid (∀W,Below wr.heap.size wr W->∀o,Below wr.heap.size wr (W.alloc o)):=fun W hb o=>hb.alloc hb.size o
   have HD:Hid (Below wr.heap.size wr wr.drew):=(Below.refl _ _).drew;have Fy:(j:Int)<256:=by have:=IC.out;omega
   have Bz:(0:Int)<=(j:Int):=by omega
   clear hy AC Co L8 CP HO Bq Gz KL DE JA;go_upto_region 6 with fail
   go_cut [11] from 22 to 31 (fun nn wc=>nn=.int .i64 er/\Below wr.heap.size wr wc)
   case first =>
    clear AL JX DS I0 HV G6;have cD:wr.drew.cell? ⟨g0,j,none⟩=some (.int .u32 y):=Ak;have LE:Hid (Calls prog 49 #[.pointer (some ⟨Z.S.c,0,none⟩),.int .u32 y,.int .i64 k] (wr.alloc (.cells #[.int .i64 0,.int .i64 0,.int .i64 0] 54)).drew fun r w4=>r=.returned (.tuple #[.agg #[.int .i64 a,.int .i64 b,.int .i64 c],.int .i64 er])/\Below wr.heap.size wr w4/\Cells w4 wr.heap.size 54 [.int .i64 0,.int .i64 0,.int .i64 0]):=
     (EN.out _ (Cy.out _ (Below.refl _ _).drew _)).mono fun r w4 h=>⟨h.1,((Cy.out _ (Below.refl _ _).drew _)).trans (h.2.mono (by simp)),(Cells.new wr 54 [.int .i64 0,.int .i64 0,.int .i64 0]).same (h.2.block _ (by simp))⟩
    go_region_held3 (fun w'=>w'.cell? ⟨g0,j,none⟩=some (.int .u32 y))
     (first|exact Ak|exact cD|exact D5.out _ (Cy.out _ HD.out _)|exact D5.out _ Av.out|exact D5.out _ (Cy.out _ Av.out _)|exact D5.out _ (Av.out.setCell (by simp) _)|exact D5.out _ ((Av.out.setCell (by simp) _).setCell (by simp) _)|exact D5.out _ (((Av.out.setCell (by simp) _).setCell (by simp) _).setCell (by simp) _))
     (first|(go_at_call 26;refine(Gy.out _ (by first|exact HD.out|exact Cy.out _ HD.out _)).mono ?_;rintro rv w'⟨rfl,rfl⟩)|(go_at_call 49;refine LE.out.mono ?_;rintro rv w4⟨rfl,A9,BS⟩;have Av:=Q0a A9;have z0:=BS.cell 0 _ rfl;have z1:=BS.cell 1 _ rfl;have z2:=BS.cell 2 _ rfl;have y0:=BS.free 0;have y1:=BS.free 1;have y2:=BS.free 2;have N8:=Q0a BS;clear A9 BS)|(go_at_call 49;refine(EN.out _ (by first|exact HD.out|exact Cy.out _ HD.out _)).mono ?_;rintro rv w4⟨rfl,A9⟩;have Av:=Q0a (HD.out.trans (A9.mono HD.out.size));clear A9))
    all_goals (go_wp2_with fail;go_meet;first|exact⟨rfl,Cy.out _ Av.out _⟩|exact⟨rfl,((Av.out.setCell (by simp) _).setCell (by simp) _).setCell (by simp) _⟩|exact⟨rfl,Av.out⟩)
   obtain⟨rfl,Ic⟩:=hcut;have UO:=Q0a Ic;have KC:=Q0a (JX.out wc Ic);have De:=D5.out wc Ic;clear Ic Ak D5 JX EN Gy Cy HD;have Mg:=I0.out;cases Dy:isK Z.S.l k y with
   | true =>
    rw[Dy] at Mg;have Br:=AL.out;rw[Dy,if_pos rfl] at Br;obtain⟨v',w',AK,Js⟩:=KC.out.app DS.out y 51;have OY:=Q0a Js;have EJ:=Q0a Br;clear Js Br AL I0 KC;go_wp2_with (at_builtin;refine Lib.wpList_append_run _ rfl _ _ _ _ rfl _ _ rfl rfl _ _ AK ?_);go_roundg (T.length-(j+1))
    case measure=>have:=BE.out;omega
    case rel=>exact⟨j+1,by go_num,by omega,by rw[EJ.out];exact OY.out⟩
   | false =>
    rw[Dy] at Mg;have Br:=AL.out;rw[Dy,if_neg (by decide),J5i] at Br;have EJ:=Q0a Br;clear Br AL I0;go_wp2_with fail;go_roundg (T.length-(j+1))
    case measure=>have:=BE.out;omega
    case rel=>exact⟨j+1,by go_num,by omega,by rw[EJ.out];exact KC.out⟩
  ·have DX:j=T.length:=by have:=BE.out;omega
   have Am:=HO.out;rw[DX,J7m] at Am;have Ce:Hid (Below w.heap.size w wr):=Bp.out.trans (Am.2.mono Bp.out.size);have Jm:Hid ((Q1f Z.S.l k T).length<=256):=J3c (Q4V _ _ _) IC.out;clear HO Bq Gz G6 Bp AC;generalize Q1f Z.S.l k T=L at *
   obtain⟨aL,cL,rfl⟩:=Am.shape;have HO:=Q0a Am;clear Am;by_cases h0:L.length=0
   ·have hv:nv=0:=by rw[HV.out,if_pos (.inl h0)]
    subst hv;have hz:((L.length:Nat):Int)=0:=by omega
    have AU:(((L.length:Nat):Int)==0)=true:=by rw[hz];rfl
    clear HV;go_wp2_with fail
    (try go_ret);exact⟨rfl,Ce.out⟩
   ·have AU:(((L.length:Nat):Int)==0)=false:=by rw[beq_eq_false_iff_ne];omega
    have VW:((L.length:Nat):Int)≠0:=by omega
    have Wr:(0:Int)<((L.length:Nat):Int):=by omega
    by_cases Dk:n<0
    ·have hv:nv=0:=by rw[HV.out,if_pos (.inr Dk)]
     subst hv;have hd:decide (n<0)=true:=decide_eq_true Dk;clear HV;go_wp2_with fail
     (try go_ret);exact⟨rfl,Ce.out⟩
    ·have hd:decide (n<0)=false:=decide_eq_false Dk;have h1:=Int.emod_nonneg n (b:=(L.length:Int)) (by omega);have h2:=Int.emod_lt_of_pos n (b:=(L.length:Int)) (by omega);have Vu:n.tmod (L.length:Int)=(((n%(L.length:Int)).toNat:Nat):Int):=by
      rw[J4T (by omega),Int.toNat_of_nonneg h1]
     have hv:nv=L.getD (n%(L.length:Int)).toNat 0:=by rw[HV.out,if_neg (by omega)]
     have hi:(n%(L.length:Int)).toNat<L.length:=by omega
     generalize (n%(L.length:Int)).toNat=i at *
     rw[J7H,J5t hi,J5U] at hv;have SS:L[i]?=some nv:=by rw[hv];exact J5t hi
     clear hv HV h1 h2;have Aa:L≠[]:=fun e=>h0 (by rw[e];rfl)
     obtain⟨gL,Wl,eL⟩:=HO.out.shape1 Aa;cases eL;obtain⟨AM,-,-⟩:=HO.out.cellAt SS;have Du:IntKind.i64.wrap ((i:Nat):Int)=(i:Int):=Go.IntWalk.i64_in _ (by have:=Jm.out;omega);have OR:(i:Int)<(L.length:Int):=by omega
     have Fw:(0:Int)<=(i:Int):=by omega
     clear SS Aa HO;go_wp2_with fail
     (try go_ret);exact⟨rfl,Ce.out⟩
theorem Z7t{w:World}{Z:SP}{fr:List Nat}{N K:Nat}{M:Int}(hs:Sep w Z.hl)(ok:Z.Ok fr N K M) :
  Calls prog 36 #[.pointer (some ⟨Z.s,0,none⟩)] w (NewHs w (Q1f Z.S.l 2 (allL Z.S.l 1))):=by
 have AG:=ok.core.inv.lok;have Bq:Hid (∀W,Below w.heap.size w W->Calls prog 26 #[.pointer (some ⟨Z.s,0,none⟩)] W fun r w'=>r=.returned (.pointer (some ⟨Z.S.c,0,none⟩))/\W=w'):=fun W hb=>Q1T (hs.grown hb).sep
 have Eb:Hid (∀W,Below w.heap.size w W->Calls prog 28 #[.pointer (some ⟨Z.S.c,0,none⟩)] W (NewHs W (allL Z.S.l 1))):=fun W hb=>Q6x (SP.sS (hs.grown hb).sep) AG
 have Gz:Hid (∀y,y∈allL Z.S.l 1->∃a b c er:Int,((er==0)=isK Z.S.l 2 y)/\∀W,Below w.heap.size w W->Calls prog 49 #[.pointer (some ⟨Z.S.c,0,none⟩),.int .u32 y,.int .i64 2] W (Told W (.tuple #[.agg #[.int .i64 a,.int .i64 b,.int .i64 c],.int .i64 er]))):=fun y hy=>by
  obtain⟨p,hp⟩:=(Q3g (by rw[AG.1];omega)).1 hy;have Ab:=Q8C AG hp;by_cases hk:(2:Int)=0∨(p.kind:Int)=2
  ·refine⟨_,_,_,0,?_,fun W hb=>Q2X (SP.sS (hs.grown hb).sep) AG Ab 2 hp hk⟩;rw[isK_iff.2 ⟨p,hp,hk⟩];rfl
  ·refine⟨_,_,_,10,?_,fun W hb=>Q3t (SP.sS (hs.grown hb).sep) AG Ab 2 hp (by omega) (by omega)⟩;unfold isK;rw[hp];show((10:Int)==0)=decide (_∨_);rw[decide_eq_false hk];rfl
 have IC:=Q0a (Q8B AG.1);clear hs ok AG;generalize hT:allL Z.S.l 1=T at *
 go_enter func36,ntmps36;go_wp2_with fail;refine(Bq.out _ (Below.refl _ _)).mono ?_;rintro rv w0⟨rfl,rfl⟩;go_wp2_with fail;refine(Eb.out _ (Below.refl _ _)).mono ?_;intro rv w1 Dl;obtain⟨a0,KA,rfl,Aw,GA⟩:=Dl.shape;have Bp:=Q0a Aw;have G6:=Q0a GA;clear Dl Aw GA Eb;go_wp2_with fail
 go_loopg [3,5] T.length (fun gk ov iv wr=>∃j:Nat,iv=.int .i64 j/\j+gk=T.length/\OutH w1 wr ov (Q1f Z.S.l 2 (T.take j)))
 case atStart=>exact⟨0,rfl,J5G _,OutH.nil w1⟩
 case round =>
  obtain⟨j,rfl,AC,Am⟩:=hrel;have HO:=Q0a Am;have BE:=Q0a AC;clear Am;by_cases Ab:j<T.length
  ·obtain⟨y,hy⟩:∃y,T[j]?=some y:=⟨_,J5t Ab⟩
   obtain⟨g0,rfl,KL,DE,Ak⟩:=(G6.out.below HO.out.2).at' j y hy;obtain⟨a,b,c,er,Co,L8⟩:=Gz.out y (J5q hy);have CP:Below w.heap.size w wr:=Bp.out.trans (HO.out.2.mono Bp.out.size);have AL:Hid (Q1f Z.S.l 2 (T.take (j+1))=Q1f Z.S.l 2 (T.take j)++if isK Z.S.l 2 y=true then [y] else []):=by
    rw[J4Y,hy];exact Q7U _ _ _ _
   have HY:=Q0a hy;have EN:Hid (∀W,Below wr.heap.size wr W->Calls prog 49 #[.pointer (some ⟨Z.S.c,0,none⟩),.int .u32 y,.int .i64 2] W (Told W (.tuple #[.agg #[.int .i64 a,.int .i64 b,.int .i64 c],.int .i64 er]))):=fun W hb=>L8 W (CP.trans (hb.mono CP.size))
   have Gy:Hid (∀W,Below wr.heap.size wr W->Calls prog 26 #[.pointer (some ⟨Z.s,0,none⟩)] W fun r w'=>r=.returned (.pointer (some ⟨Z.S.c,0,none⟩))/\W=w'):=fun W hb=>Bq.out W (CP.trans (hb.mono CP.size))
   have D5:Hid (∀W,Below wr.heap.size wr W->W.cell? ⟨g0,j,none⟩=some (.int .u32 y)):=fun W hb=>(World.cell?_of_block (w:=wr) (hb.block g0 DE)).trans Ak
   have JX:Hid (∀W,Below wr.heap.size wr W->OutH w1 W u3 (Q1f Z.S.l 2 (T.take j))):=fun W hb=>HO.out.below hb
   have JA:(Q1f Z.S.l 2 (T.take j)).length<=16777216:=by
    have h1:=Q4V Z.S.l 2 (T.take j);rw[J5v] at h1;have:=IC.out;omega
   have DS:=Q0a JA;have I0:=Q0a Co;have Cy:Hid (∀W,Below wr.heap.size wr W->∀o,Below wr.heap.size wr (W.alloc o)):=fun W hb o=>hb.alloc hb.size o
   have HD:Hid (Below wr.heap.size wr wr.drew):=(Below.refl _ _).drew;have Fy:(j:Int)<256:=by have:=IC.out;omega
   have Bz:(0:Int)<=(j:Int):=by omega
   clear hy AC Co L8 CP HO Bq Gz KL DE JA;go_upto_region 6 with fail
   go_cut [7] from 18 to 26 (fun nn wc=>nn=.int .i64 er/\Below wr.heap.size wr wc)
   case first =>
    clear AL JX DS I0 G6;have cD:wr.drew.cell? ⟨g0,j,none⟩=some (.int .u32 y):=Ak;have LE:Hid (Calls prog 49 #[.pointer (some ⟨Z.S.c,0,none⟩),.int .u32 y,.int .i64 2] (wr.alloc (.cells #[.int .i64 0,.int .i64 0,.int .i64 0] 54)).drew fun r w4=>r=.returned (.tuple #[.agg #[.int .i64 a,.int .i64 b,.int .i64 c],.int .i64 er])/\Below wr.heap.size wr w4/\Cells w4 wr.heap.size 54 [.int .i64 0,.int .i64 0,.int .i64 0]):=
     (EN.out _ (Cy.out _ (Below.refl _ _).drew _)).mono fun r w4 h=>⟨h.1,((Cy.out _ (Below.refl _ _).drew _)).trans (h.2.mono (by simp)),(Cells.new wr 54 [.int .i64 0,.int .i64 0,.int .i64 0]).same (h.2.block _ (by simp))⟩
    go_region_held3 (fun w'=>w'.cell? ⟨g0,j,none⟩=some (.int .u32 y))
     (first|exact Ak|exact cD|exact D5.out _ (Cy.out _ HD.out _)|exact D5.out _ Av.out|exact D5.out _ (Cy.out _ Av.out _)|exact D5.out _ (Av.out.setCell (by simp) _)|exact D5.out _ ((Av.out.setCell (by simp) _).setCell (by simp) _)|exact D5.out _ (((Av.out.setCell (by simp) _).setCell (by simp) _).setCell (by simp) _))
     (first|(go_at_call 26;refine(Gy.out _ (by first|exact HD.out|exact Cy.out _ HD.out _)).mono ?_;rintro rv w'⟨rfl,rfl⟩)|(go_at_call 49;refine LE.out.mono ?_;rintro rv w4⟨rfl,A9,BS⟩;have Av:=Q0a A9;have z0:=BS.cell 0 _ rfl;have z1:=BS.cell 1 _ rfl;have z2:=BS.cell 2 _ rfl;have y0:=BS.free 0;have y1:=BS.free 1;have y2:=BS.free 2;have N8:=Q0a BS;clear A9 BS)|(go_at_call 49;refine(EN.out _ (by first|exact HD.out|exact Cy.out _ HD.out _)).mono ?_;rintro rv w4⟨rfl,A9⟩;have Av:=Q0a (HD.out.trans (A9.mono HD.out.size));clear A9))
    all_goals (go_wp2_with fail;go_meet;first|exact⟨rfl,Cy.out _ Av.out _⟩|exact⟨rfl,((Av.out.setCell (by simp) _).setCell (by simp) _).setCell (by simp) _⟩|exact⟨rfl,Av.out⟩)
   obtain⟨rfl,Ic⟩:=hcut;have UO:=Q0a Ic;have KC:=Q0a (JX.out wc Ic);have De:=D5.out wc Ic;clear Ic Ak D5 JX EN Gy Cy HD;have Mg:=I0.out;cases Dy:isK Z.S.l 2 y with
   | true =>
    rw[Dy] at Mg;have Br:=AL.out;rw[Dy,if_pos rfl] at Br;obtain⟨v',w',AK,Js⟩:=KC.out.app DS.out y 51;have OY:=Q0a Js;have EJ:=Q0a Br;clear Js Br AL I0 KC;go_wp2_with (at_builtin;refine Lib.wpList_append_run _ rfl _ _ _ _ rfl _ _ rfl rfl _ _ AK ?_);go_roundg (T.length-(j+1))
    case measure=>have:=BE.out;omega
    case rel=>exact⟨j+1,by go_num,by omega,by rw[EJ.out];exact OY.out⟩
   | false =>
    rw[Dy] at Mg;have Br:=AL.out;rw[Dy,if_neg (by decide),J5i] at Br;have EJ:=Q0a Br;clear Br AL I0;go_wp2_with fail;go_roundg (T.length-(j+1))
    case measure=>have:=BE.out;omega
    case rel=>exact⟨j+1,by go_num,by omega,by rw[EJ.out];exact KC.out⟩
  ·have DX:j=T.length:=by have:=BE.out;omega
   have Am:=HO.out;rw[DX,J7m] at Am;have HR:Hid (NewHs w (Q1f Z.S.l 2 T) (.returned u3) wr):=⟨u3,rfl,Q1S Am.1 Bp.out.size,Bp.out.trans (Am.2.mono Bp.out.size)⟩
   clear Am HO Bq Gz G6 Bp AC;go_wp2_with fail
   (try go_ret);exact HR.out
structure Able(S:CO)(f:Pl)(e:En Fa)(n:Nat)(lim:Int)(i:Nat)(p:Pl):Prop where
 kind:f.kind=1
 may:n=8∨1<=n/\n<=5
 acc:find S.P.q.E f.own=some e
 cost:((costK n:Nat):Int)<=Q0v e
 page:S.P.d.ps.length<2 ^ S.P.d.top
 place:Fst S.l i p
 lim:n=1->0<=lim/\lim<=Q0v e-64/\S.P.q.E.length<32
theorem MakeR.able{S:CO}{fr:List Nat}{h:Nat}{n:Nat}{lim:Int}{w w':World}{r:Ending}(m:MakeR S fr h (n:Int) lim w r w'){f:Pl}(hf:pget S.l 1 h=some f){e:En Fa}{i:Nat}{p:Pl}(a:Able S f e n lim i p) :
  ∃b x P' fr',r=two (nm i p) 0/\MadeOk S fr f e n b lim x i p P' fr'/\Step S.hl (S.made f n b x i p P').hl w w':=by
 rcases m with ⟨h0,_⟩|⟨f',MX,hm⟩
 ·rw[hf] at h0;cases h0
 ·rw[hf] at MX;cases MX;rcases hm with ⟨h0,_⟩|⟨_,hc,_⟩|⟨n',e',hn,_,_,_,he,hk⟩
  ·exact absurd a.kind h0
  ·exfalso;have:=a.may;rcases hc with h1|⟨h1,h2⟩
   ·apply h1;omega
   ·have:=a.lim (by omega);omega
  ·have:n'=n:=by omega
   subst this;rw[a.acc] at he;cases he;rcases hk with ⟨h0,_⟩|⟨_,h0,_⟩|⟨_,er,P',hc,_⟩|⟨i',p',b,x,P',fr',h1,h2,h3,_,rfl,hm,st⟩
   ·have:=a.cost;omega
   ·have:=h0.len;have:=a.page;omega
   ·exfalso;obtain⟨p1,p2,p3⟩:=a.place;rcases hc with ⟨_,h1|⟨h1,h2⟩⟩|⟨_,h1,h2⟩
    ·exact h1 p (J5q p1) p2
    ·have:=a.lim h1;omega
    ·have:=a.lim h1;omega
   ·obtain⟨p1,p2,p3⟩:=a.place;have hi:i'=i:=by
     rcases J6d i' i with h|h|h
     ·exact absurd h2 (p3 i' p' h h1)
     ·exact h
     ·exact absurd p2 (h3 i p h p1)
    subst hi;rw[p1] at h1;cases h1;exact⟨b,x,P',fr',rfl,hm,st⟩
structure FO.New(q:FO):Prop where
 N:q.N=[]
 next:q.next=0
 ok:q.Ok
theorem Z9F{w:World}{H:HL}(h:Sep w H):Calls prog 155 #[] w fun r w'=>∃q:FO,r=.returned (.pointer (some ⟨q.f,0,none⟩))/\q.New/\Step H (q.hl++H) w w':=by
 have s1:=h.newMap;have s2:=s1.sep.newMap;have s3:=s2.sep.new 283 [.map (some w.heap.size),.map (some (w.alloc (.map #[] 0)).heap.size),.int .i64 0];have HQ:Hid (∃q:FO,q.f=((w.alloc (.map #[] 0)).alloc (.map #[] 0)).heap.size/\q.New/\Step H (q.hl++H) w (((w.alloc (.map #[] 0)).alloc (.map #[] 0)).alloc (.cells #[.map (some w.heap.size),.map (some (w.alloc (.map #[] 0)).heap.size),.int .i64 0] 283))):=by
  refine⟨⟨((w.alloc (.map #[] 0)).alloc (.map #[] 0)).heap.size,w.heap.size,(w.alloc (.map #[] 0)).heap.size,[],0,fun _=>none⟩,rfl,⟨rfl,rfl,⟨⟨List.Pairwise.nil,List.Pairwise.nil,J7h _,fun e h=>(by cases h),fun e h=>(by cases h),fun e h=>(by cases h),fun e h=>(by cases h),fun e h=>(by cases h),fun e h=>(by cases h)⟩,(by show(0:Int)<1099511627776;decide),fun e h=>(by cases h),J5e _⟩⟩,?_⟩;refine((s1.trans s2).trans s3).perm (J6w _) ?_;refine Q1g fun a=>?_
  simp only[FO.hl,FO.head,hc_append,hc_cons,kvs,okv,isMI,isMS,J5I,J7f];simp only[J2b];omega
 clear h s1 s2 s3;have AX:(w.alloc (.map #[] 0)).heap.size=w.heap.size+1:=by simp
 have AU:((w.alloc (.map #[] 0)).alloc (.map #[] 0)).heap.size=w.heap.size+1+1:=by simp
 rw[AX,AU] at HQ;have J8:=@run_makeMap prog;go_enter func155,ntmps155;go_wp2_with fail;obtain⟨q,e,h1,h2⟩:=HQ.out;have e2:Ending.returned (.pointer (some ⟨w.heap.size+1+1,0,none⟩))=Ending.returned (.pointer (some ⟨q.f,0,none⟩)):=by rw[e]
 (try go_ret);exact⟨q,e2,h1,h2⟩
structure SP.New(Z:SP)(S:CO)(tb:Nat->TB):Prop where
 S:Z.S=S
 tb:Z.tb=tb
 F:Z.F.New
theorem Z2B{w:World}{S:CO}(h:Sep w S.hl)(tb:Nat->TB):Calls prog 80 #[.pointer (some ⟨S.c,0,none⟩)] w fun r w'=>∃Z:SP,r=.returned (.pointer (some ⟨Z.s,0,none⟩))/\Z.New S tb/\Step S.hl Z.hl w w':=by
 have kf:=Z9F h;have HQ:Hid (∀(q:FO) (w1:World),q.New->Step S.hl (q.hl++S.hl) w w1->∃Z:SP,Z.s=w1.heap.size/\Z.New S tb/\Step S.hl Z.hl w (w1.alloc (.cells #[.pointer (some ⟨S.c,0,none⟩),.pointer (some ⟨q.f,0,none⟩)] 183))):=fun q w1 hq st=>by
  refine⟨⟨w1.heap.size,S,tb,q⟩,rfl,⟨rfl,rfl,hq⟩,?_⟩;refine(st.trans (st.sep.new 183 [ptr S.c,ptr q.f])).perm (J6w _) ?_;refine Q1g fun a=>?_
  simp only[SP.hl,SP.head,hc_append,hc_cons];omega
 clear h;go_enter func80,ntmps80;go_wp2_with fail;refine kf.mono ?_;rintro r w1⟨q,rfl,hq,st⟩;obtain⟨Z,e,h1,h2⟩:=HQ.out q w1 hq st;have HZ:Hid (Z.New S tb/\Step S.hl Z.hl w (w1.alloc (.cells #[.pointer (some ⟨S.c,0,none⟩),.pointer (some ⟨q.f,0,none⟩)] 183))):=⟨h1,h2⟩
 clear hq st h1 h2 HQ kf;go_wp2_with fail;have e2:Ending.returned (.pointer (some ⟨w1.heap.size,0,none⟩))=Ending.returned (.pointer (some ⟨Z.s,0,none⟩)):=by rw[e]
 (try go_ret);exact⟨Z,e2,HZ.out.1,HZ.out.2⟩
theorem SP.New.ok{Z:SP}{S:CO}{tb:Nat->TB}(h:Z.New S tb){fr:List Nat}{N K:Nat}(ok:S.Ok fr N K)(t:TPI S tb)(hn:∀i,i<256->(tb i).Nil):Z.Ok fr N K 0:=by
 have Bb:∀x s,Q0f S.l tb x s=none:=fun x s=>by
  unfold Q0f;split
  ·split
   ·rename_i hc;exact(hn _ (J6i _ (by omega))).2 s hc.2
   ·rfl
  ·rfl
 refine⟨by rw[h.S];exact ok,by rw[h.S,h.tb];exact t,?_,h.F.ok,by rw[h.F.next];exact J7h _⟩;rw[h.S,h.tb,h.F.N];exact⟨fun x s e he=>(by rw[Bb] at he;cases he),fun x s e he=>(by rw[Bb] at he;cases he),fun n hn=>(by cases hn),fun n hn=>by cases hn⟩
theorem TPI.emp{S:CO}{fr:List Nat}{N K:Nat}(ok:S.Ok fr N K)(h2:∀(i:Nat) (p:Pl),S.l[i]?=some p->¬(p.st=1/\p.kind=2))(h7:S.P.usedOf 7=[])(h6:S.P.usedOf 6=[])(hx:∀id,S.xc id=0):TPI S fun _=>TB.emp:=by
 have l0:Q2o (fun _=>TB.emp)=[]:=by
  unfold Q2o;simp only[TB.emp_nil.lists.1];generalize List.range 256=L
  induction L with
  | nil=>rfl
  | cons a r ih=>rw[J3z,ih];rfl
 have n0:Q2J (fun _=>TB.emp)=[]:=by
  unfold Q2J;simp only[TB.emp_nil.lists.2.1];generalize List.range 256=L
  induction L with
  | nil=>rfl
  | cons a r ih=>rw[J3z,ih];rfl
 refine⟨fun i p hi h1 hk=>absurd ⟨h1,hk⟩ (h2 i p hi),fun i _=>TB.emp_nil.full,fun i p _ _=>TB.emp_nil,by rw[l0,h7],by rw[n0,h6],fun id=>?_⟩;rw[hx];unfold xcOf;have:∀i,xcP (fun _=>TB.emp) id i S.l[i]?=0:=fun i=>by
  unfold xcP;split
  ·split
   ·exact TB.emp_nil.lists.2.2
   ·rfl
  ·rfl
 simp only[this];generalize List.range 256=L
 induction L with
 | nil=>rfl
 | cons a r ih=>rw[J3e,J6P];omega
end Go.Proofs.YtfidemmgofcnmaaGreatDoor
